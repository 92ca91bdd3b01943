/- The types that the program uses; plain types for its data. -/
import Derived.Test.YtjjkmepjaemceaaGreatDoorBsAb2
import Derived.Test.YtjjkmepjaemceaaGreatDoorProg
import Derived.KernelRfl
namespace Go.Ab
open Go Go.Proofs
def Abs:Tr:=(.node (.node (.node (.node (.node (.node (.node .leaf 1 ⟨.other,1,8,[.nilFunc]⟩ .leaf) 2 ⟨.int .i64,1,8,[.int .i64 0]⟩ (.node .leaf 3 ⟨.int .i64,1,8,[.int .i64 0]⟩ .leaf)) 4 ⟨.bool,1,1,[.bool false]⟩ (.node (.node .leaf 5 ⟨.int .u8,1,1,[.int .u8 0]⟩ .leaf) 9 ⟨.string,1,16,[.string ⟨#[]⟩]⟩ .leaf)) 20 ⟨.other,1,16,[.nilIface]⟩ (.node (.node (.node .leaf 22 ⟨.slice 78,1,24,[.slice none 0 0]⟩ .leaf) 23 ⟨.slice 25,1,24,[.slice none 0 0]⟩ (.node .leaf 25 ⟨.struct [(0,1),(1,1),(2,1)],3,40,[.int .i64 0,.int .i64 0,.slice none 0 0]⟩ .leaf)) 27 ⟨.struct [(0,1),(1,1),(2,3)],5,88,[.slice none 0 0,.slice none 0 0,.int .i64 0,.int .i64 0,.slice none 0 0]⟩ (.node (.node .leaf 28 ⟨.slice 65,1,24,[.slice none 0 0]⟩ .leaf) 29 ⟨.slice 31,1,24,[.slice none 0 0]⟩ .leaf))) 31 ⟨.struct [(0,1),(1,1),(2,1)],3,40,[.int .i64 0,.int .i64 0,.slice none 0 0]⟩ (.node (.node (.node (.node .leaf 32 ⟨.slice 46,1,24,[.slice none 0 0]⟩ .leaf) 36 ⟨.int .i64,1,8,[.int .i64 0]⟩ (.node .leaf 39 ⟨.slice 129,1,24,[.slice none 0 0]⟩ .leaf)) 41 ⟨.struct [(0,1),(1,1),(2,1)],3,56,[.bool false,.slice none 0 0,.slice none 0 0]⟩ (.node (.node .leaf 46 ⟨.struct [(0,1),(1,1),(2,1)],3,24,[.int .i64 0,.int .i64 0,.int .i64 0]⟩ .leaf) 55 ⟨.slice 3,1,24,[.slice none 0 0]⟩ .leaf)) 60 ⟨.slice 88,1,24,[.slice none 0 0]⟩ (.node (.node (.node .leaf 61 ⟨.slice 118,1,24,[.slice none 0 0]⟩ .leaf) 63 ⟨.struct [(0,1),(1,1)],2,48,[.slice none 0 0,.slice none 0 0]⟩ .leaf) 65 ⟨.struct [(0,3),(3,2)],5,104,[.bool false,.slice none 0 0,.slice none 0 0,.slice none 0 0,.slice none 0 0]⟩ (.node (.node .leaf 67 ⟨.slice 41,1,24,[.slice none 0 0]⟩ .leaf) 76 ⟨.slice 125,1,24,[.slice none 0 0]⟩ .leaf)))) 78 ⟨.struct [(0,1),(1,1),(2,1)],3,48,[.string ⟨#[]⟩,.int .i64 0,.slice none 0 0]⟩ (.node (.node (.node (.node (.node .leaf 80 ⟨.map 83 2,1,8,[.map none]⟩ .leaf) 83 ⟨.struct [(0,1),(1,1)],2,16,[.int .i64 0,.int .i64 0]⟩ (.node .leaf 84 ⟨.slice 86,1,24,[.slice none 0 0]⟩ .leaf)) 86 ⟨.struct [(0,1),(1,1)],2,32,[.int .i64 0,.slice none 0 0]⟩ (.node (.node .leaf 88 ⟨.struct [(0,1),(1,2)],3,40,[.int .i64 0,.int .i64 0,.slice none 0 0]⟩ .leaf) 93 ⟨.other,1,8,[.nilFunc]⟩ .leaf)) 97 ⟨.other,1,8,[.pointer none]⟩ (.node (.node (.node .leaf 100 ⟨.other,1,8,[.pointer none]⟩ .leaf) 106 ⟨.map 9 3,1,8,[.map none]⟩ .leaf) 108 ⟨.struct [(0,1),(1,1)],2,32,[.map none,.slice none 0 0]⟩ (.node (.node .leaf 111 ⟨.other,1,8,[.nilFunc]⟩ .leaf) 114 ⟨.slice 120,1,24,[.slice none 0 0]⟩ .leaf))) 116 ⟨.struct [(0,1),(1,1)],2,32,[.int .i64 0,.slice none 0 0]⟩ (.node (.node (.node (.node .leaf 118 ⟨.struct [(0,2),(2,1)],3,40,[.int .i64 0,.slice none 0 0,.int .i64 0]⟩ .leaf) 120 ⟨.struct [(0,1),(1,1)],2,16,[.int .i64 0,.int .i64 0]⟩ (.node .leaf 125 ⟨.struct [(0,1),(1,1)],2,40,[.string ⟨#[]⟩,.slice none 0 0]⟩ .leaf)) 128 ⟨.int .u64,1,8,[.int .u64 0]⟩ (.node (.node .leaf 129 ⟨.int .u32,1,4,[.int .u32 0]⟩ .leaf) 136 ⟨.other,1,8,[.pointer none]⟩ .leaf)) 143 ⟨.slice 129,1,24,[.slice none 0 0]⟩ (.node (.node (.node .leaf 146 ⟨.struct [(0,1),(1,1),(2,1)],3,56,[.bool false,.slice none 0 0,.slice none 0 0]⟩ .leaf) 160 ⟨.slice 28,1,24,[.slice none 0 0]⟩ .leaf) 162 ⟨.slice 288,1,24,[.slice none 0 0]⟩ (.node (.node .leaf 163 ⟨.slice 292,1,24,[.slice none 0 0]⟩ .leaf) 165 ⟨.struct [(0,1),(1,1),(2,1),(3,1)],4,96,[.slice none 0 0,.slice none 0 0,.slice none 0 0,.slice none 0 0]⟩ .leaf))))) 166 ⟨.map 9 310,1,8,[.map none]⟩ (.node (.node (.node (.node (.node (.node .leaf 168 ⟨.struct [(0,5),(5,1),(6,1)],7,104,[.slice none 0 0,.slice none 0 0,.int .i64 0,.int .i64 0,.slice none 0 0,.map none,.map none]⟩ .leaf) 172 ⟨.other,1,8,[.nilFunc]⟩ (.node .leaf 175 ⟨.other,1,8,[.nilFunc]⟩ .leaf)) 177 ⟨.other,1,8,[.nilFunc]⟩ (.node (.node .leaf 188 ⟨.int .u64,1,8,[.int .u64 0]⟩ .leaf) 194 ⟨.other,1,8,[.nilFunc]⟩ .leaf)) 199 ⟨.slice 200,1,24,[.slice none 0 0]⟩ (.node (.node (.node .leaf 200 ⟨.slice 4,1,24,[.slice none 0 0]⟩ .leaf) 202 ⟨.other,1,8,[.nilFunc]⟩ .leaf) 203 ⟨.slice 9,1,24,[.slice none 0 0]⟩ (.node (.node .leaf 219 ⟨.other,1,8,[.nilFunc]⟩ .leaf) 221 ⟨.other,1,8,[.nilFunc]⟩ .leaf))) 224 ⟨.other,1,8,[.pointer none]⟩ (.node (.node (.node (.node .leaf 226 ⟨.struct [(0,1),(1,1),(2,1)],3,40,[.slice none 0 0,.int .i64 0,.int .i64 0]⟩ .leaf) 227 ⟨.other,1,8,[.nilFunc]⟩ (.node .leaf 229 ⟨.other,1,8,[.pointer none]⟩ .leaf)) 230 ⟨.slice 5,1,24,[.slice none 0 0]⟩ (.node (.node .leaf 232 ⟨.struct [(0,1),(1,1)],2,32,[.pointer none,.slice none 0 0]⟩ .leaf) 234 ⟨.other,1,16,[.nilIface]⟩ .leaf)) 252 ⟨.int .i64,1,8,[.int .i64 0]⟩ (.node (.node (.node .leaf 266 ⟨.other,1,8,[.nilFunc]⟩ .leaf) 269 ⟨.slice 273,1,24,[.slice none 0 0]⟩ .leaf) 273 ⟨.struct [(0,1),(1,1),(2,1)],3,32,[.int .i64 0,.string ⟨#[]⟩,.int .i64 0]⟩ (.node (.node .leaf 279 ⟨.other,1,8,[.nilFunc]⟩ .leaf) 283 ⟨.other,1,8,[.nilFunc]⟩ .leaf)))) 284 ⟨.map 9 4,1,8,[.map none]⟩ (.node (.node (.node (.node (.node .leaf 288 ⟨.struct [(0,1),(1,1),(2,1),(3,3),(6,1)],7,112,[.string ⟨#[]⟩,.slice none 0 0,.slice none 0 0,.int .i64 0,.int .i64 0,.slice none 0 0,.int .i64 0]⟩ .leaf) 289 ⟨.other,1,8,[.nilFunc]⟩ (.node .leaf 290 ⟨.slice 55,1,24,[.slice none 0 0]⟩ .leaf)) 292 ⟨.struct [(0,1),(1,1),(2,1),(3,1),(4,1),(5,3)],8,128,[.int .i64 0,.int .i64 0,.slice none 0 0,.slice none 0 0,.slice none 0 0,.int .i64 0,.int .i64 0,.slice none 0 0]⟩ (.node (.node .leaf 293 ⟨.other,1,8,[.nilFunc]⟩ .leaf) 294 ⟨.other,1,8,[.nilFunc]⟩ .leaf)) 295 ⟨.other,1,8,[.pointer none]⟩ (.node (.node (.node .leaf 297 ⟨.struct [(0,4),(4,1)],5,120,[.slice none 0 0,.slice none 0 0,.slice none 0 0,.slice none 0 0,.slice none 0 0]⟩ .leaf) 304 ⟨.other,1,8,[.pointer none]⟩ .leaf) 310 ⟨.slice 313,1,24,[.slice none 0 0]⟩ (.node (.node .leaf 313 ⟨.struct [(0,2),(2,3)],5,88,[.int .i64 0,.slice none 0 0,.bool false,.slice none 0 0,.slice none 0 0]⟩ .leaf) 316 ⟨.slice 318,1,24,[.slice none 0 0]⟩ .leaf))) 318 ⟨.struct [(0,1),(1,1),(2,1),(3,1)],4,80,[.int .i64 0,.slice none 0 0,.slice none 0 0,.slice none 0 0]⟩ (.node (.node (.node (.node .leaf 319 ⟨.int .u64,1,8,[.int .u64 0]⟩ .leaf) 324 ⟨.float .f64,1,8,[.float .f64 0]⟩ (.node .leaf 325 ⟨.other,1,8,[.nilFunc]⟩ .leaf)) 338 ⟨.slice 341,1,24,[.slice none 0 0]⟩ (.node (.node .leaf 341 ⟨.struct [(0,1),(1,1),(2,1)],3,32,[.int .i64 0,.string ⟨#[]⟩,.int .i64 0]⟩ .leaf) 351 ⟨.other,1,8,[.pointer none]⟩ .leaf)) 357 ⟨.slice 313,1,24,[.slice none 0 0]⟩ (.node (.node (.node .leaf 360 ⟨.other,1,8,[.pointer none]⟩ .leaf) 369 ⟨.other,1,8,[.nilFunc]⟩ .leaf) 376 ⟨.slice 379,1,24,[.slice none 0 0]⟩ (.node (.node .leaf 379 ⟨.struct [(0,1),(1,3)],4,80,[.slice none 0 0,.bool false,.slice none 0 0,.slice none 0 0]⟩ .leaf) 385 ⟨.other,1,8,[.nilFunc]⟩ .leaf))))))
def Cf:B7:=Abs.find
theorem Aqh:Abs.toList.map (fun p=>F6 Go.Proofs.Tryz.prog p.1)=Abs.toList.map (fun p=>some p.2):=by kernel_rfl
theorem Ag9:B8 Go.Proofs.Tryz.prog Cf:=Tr.ok Aqh
theorem S4:Go.Proofs.Tryz.prog.follows .mixedOrders=true:=by kernel_rfl
end Go.Ab
namespace Go.Ab.Fn
abbrev Xb:FuncId:=6
abbrev Xc:FuncId:=7
abbrev Tc:FuncId:=8
abbrev Ql:FuncId:=9
abbrev Td:FuncId:=10
abbrev Qm:FuncId:=12
abbrev Oj:FuncId:=14
abbrev Lm:FuncId:=15
abbrev Abt:FuncId:=16
abbrev Xd:FuncId:=17
abbrev Abu:FuncId:=18
abbrev Abv:FuncId:=19
abbrev Te:FuncId:=27
abbrev Mp:FuncId:=28
abbrev Abw:FuncId:=29
abbrev Mq:FuncId:=30
abbrev Xe:FuncId:=31
abbrev Abx:FuncId:=32
abbrev Tf:FuncId:=33
abbrev Qo:FuncId:=34
abbrev Ok:FuncId:=35
abbrev Kw:FuncId:=36
abbrev Qp:FuncId:=37
abbrev Ka:FuncId:=38
abbrev Tg:FuncId:=39
abbrev Th:FuncId:=40
abbrev Aby:FuncId:=41
abbrev Ef:FuncId:=42
abbrev Gv:FuncId:=43
abbrev Ti:FuncId:=44
abbrev Fu:FuncId:=45
abbrev Gm:FuncId:=46
abbrev Ol:FuncId:=47
abbrev Xf:FuncId:=49
abbrev Qq:FuncId:=50
abbrev Qs:FuncId:=51
abbrev Xg:FuncId:=52
abbrev Xh:FuncId:=53
abbrev Xi:FuncId:=54
abbrev Abz:FuncId:=55
abbrev Ab0:FuncId:=56
abbrev Xj:FuncId:=57
abbrev Ab1:FuncId:=58
abbrev Mr:FuncId:=59
abbrev Tj:FuncId:=65
abbrev Jg:FuncId:=67
abbrev Kb:FuncId:=70
abbrev Kc:FuncId:=71
abbrev Ms:FuncId:=72
abbrev Xk:FuncId:=73
abbrev Tk:FuncId:=74
abbrev Qt:FuncId:=75
abbrev I0:FuncId:=76
abbrev Ln:FuncId:=77
abbrev Ab2:FuncId:=78
abbrev Lo:FuncId:=79
abbrev Tl:FuncId:=80
abbrev Tm:FuncId:=81
abbrev Xl:FuncId:=82
abbrev Kx:FuncId:=83
abbrev Mt:FuncId:=84
abbrev Xm:FuncId:=85
abbrev Qu:FuncId:=86
abbrev Qv:FuncId:=87
abbrev Ky:FuncId:=88
abbrev Mu:FuncId:=89
abbrev Mv:FuncId:=90
abbrev Tn:FuncId:=91
abbrev Ab3:FuncId:=92
abbrev Om:FuncId:=93
abbrev Kz:FuncId:=94
abbrev Qw:FuncId:=95
abbrev Qx:FuncId:=96
abbrev Ia:FuncId:=97
abbrev Kd:FuncId:=98
abbrev To:FuncId:=99
abbrev Xn:FuncId:=100
abbrev K0:FuncId:=102
abbrev Jh:FuncId:=103
abbrev Tp:FuncId:=104
abbrev Mw:FuncId:=105
abbrev Mx:FuncId:=106
abbrev Tq:FuncId:=107
abbrev Xo:FuncId:=108
abbrev Xp:FuncId:=109
abbrev Lp:FuncId:=110
abbrev Xq:FuncId:=111
abbrev On:FuncId:=112
abbrev My:FuncId:=113
abbrev Oo:FuncId:=114
abbrev K1:FuncId:=115
abbrev Ts:FuncId:=116
abbrev Qy:FuncId:=123
abbrev Qz:FuncId:=124
abbrev Mz:FuncId:=125
abbrev Xr:FuncId:=130
abbrev Ib:FuncId:=131
abbrev Ab4:FuncId:=132
abbrev Oq:FuncId:=133
abbrev Ab5:FuncId:=134
abbrev Ab6:FuncId:=135
abbrev Q2:FuncId:=136
abbrev Tt:FuncId:=137
abbrev Ot:FuncId:=138
abbrev Ou:FuncId:=139
abbrev Tu:FuncId:=140
abbrev Tv:FuncId:=141
abbrev M0:FuncId:=142
abbrev Xs:FuncId:=143
abbrev Q3:FuncId:=144
abbrev Q4:FuncId:=145
abbrev Ov:FuncId:=146
abbrev Lq:FuncId:=147
abbrev Ow:FuncId:=148
abbrev Q5:FuncId:=149
abbrev M1:FuncId:=150
abbrev Tw:FuncId:=151
abbrev M2:FuncId:=152
abbrev Q6:FuncId:=153
abbrev Tx:FuncId:=154
abbrev Ab7:FuncId:=155
abbrev Xt:FuncId:=156
abbrev Lr:FuncId:=157
abbrev Xu:FuncId:=158
abbrev M3:FuncId:=159
abbrev Q7:FuncId:=160
abbrev Ic:FuncId:=161
abbrev Ty:FuncId:=162
abbrev Q8:FuncId:=163
abbrev Ox:FuncId:=164
abbrev Ie:FuncId:=166
abbrev Q9:FuncId:=167
abbrev Tz:FuncId:=168
abbrev Ra:FuncId:=169
abbrev Rb:FuncId:=170
abbrev Ji:FuncId:=171
abbrev Xv:FuncId:=172
abbrev T0:FuncId:=173
abbrev K2:FuncId:=174
abbrev M4:FuncId:=175
abbrev Xw:FuncId:=176
abbrev T1:FuncId:=177
abbrev M5:FuncId:=178
abbrev T2:FuncId:=179
abbrev Ab8:FuncId:=180
abbrev T3:FuncId:=181
abbrev Ab9:FuncId:=182
abbrev Aca:FuncId:=183
abbrev Acb:FuncId:=184
abbrev Acd:FuncId:=185
abbrev Ace:FuncId:=186
abbrev Acf:FuncId:=187
abbrev Ke:FuncId:=188
abbrev K4:FuncId:=189
abbrev Rc:FuncId:=190
abbrev Xx:FuncId:=191
abbrev T5:FuncId:=192
abbrev Re:FuncId:=193
abbrev Xy:FuncId:=195
abbrev T6:FuncId:=199
abbrev Acg:FuncId:=200
abbrev Rf:FuncId:=201
abbrev Rg:FuncId:=207
abbrev Ach:FuncId:=208
abbrev Aci:FuncId:=214
abbrev Acj:FuncId:=218
abbrev T7:FuncId:=219
abbrev T8:FuncId:=220
abbrev Rh:FuncId:=221
abbrev T9:FuncId:=222
abbrev Ri:FuncId:=223
abbrev M6:FuncId:=224
abbrev M7:FuncId:=225
abbrev Ls:FuncId:=226
abbrev Ack:FuncId:=227
abbrev Oy:FuncId:=228
abbrev Ua:FuncId:=229
abbrev Oz:FuncId:=230
abbrev Ub:FuncId:=231
abbrev O0:FuncId:=232
abbrev M8:FuncId:=233
abbrev Rj:FuncId:=234
abbrev Rk:FuncId:=235
abbrev Uc:FuncId:=236
abbrev O1:FuncId:=238
abbrev Ud:FuncId:=239
abbrev Xz:FuncId:=240
abbrev Ue:FuncId:=241
abbrev Uf:FuncId:=242
abbrev O2:FuncId:=243
abbrev M9:FuncId:=244
abbrev Acl:FuncId:=245
abbrev Acm:FuncId:=246
abbrev Ug:FuncId:=253
abbrev Uh:FuncId:=254
abbrev Ui:FuncId:=255
abbrev K5:FuncId:=256
abbrev Rl:FuncId:=257
abbrev X0:FuncId:=258
abbrev O3:FuncId:=259
abbrev X1:FuncId:=282
abbrev Uj:FuncId:=283
abbrev Uk:FuncId:=284
abbrev Acn:FuncId:=285
abbrev X2:FuncId:=286
abbrev X3:FuncId:=287
abbrev Ul:FuncId:=288
abbrev Rm:FuncId:=289
abbrev O4:FuncId:=290
abbrev Rn:FuncId:=291
abbrev Um:FuncId:=292
abbrev X4:FuncId:=293
abbrev X5:FuncId:=294
abbrev X6:FuncId:=295
abbrev O5:FuncId:=296
abbrev Aco:FuncId:=297
abbrev O6:FuncId:=308
abbrev Ro:FuncId:=309
abbrev Na:FuncId:=310
abbrev Rp:FuncId:=311
abbrev Un:FuncId:=312
abbrev Rq:FuncId:=314
abbrev Uo:FuncId:=324
abbrev Up:FuncId:=325
abbrev Uq:FuncId:=326
abbrev X7:FuncId:=330
abbrev Rr:FuncId:=331
abbrev O7:FuncId:=332
abbrev O8:FuncId:=333
abbrev Rs:FuncId:=342
abbrev O9:FuncId:=343
abbrev Ur:FuncId:=344
abbrev Rt:FuncId:=345
abbrev Us:FuncId:=346
abbrev Nb:FuncId:=347
abbrev Ut:FuncId:=348
abbrev Uu:FuncId:=349
abbrev X8:FuncId:=352
end Go.Ab.Fn
namespace Go.Ab
open Go
abbrev Aa (k:IntKind) (n:Int):O:=.val (.int k n)
abbrev Ao (b:Bool):O:=.val (.bool b)
abbrev Fk (s:ByteArray):O:=.val (.string s)
abbrev Ax {α:Type} (sz:Nat) (f:α->O) (l:List α):O:=.sl sz (l.map f)
abbrev Ev {α:Type} (sz:Nat) (g:List α->List O) (l:List α):O:=.sl sz (g l)
structure Ag where
 Kind:Int
 Num:Int
 Args:(List Ag)
mutual
def Acp:Ag->O
 | ⟨x0,x1,x2⟩=>.agg [Aa .i64 x0,Aa .i64 x1,.sl 3 (Bd x2)]
def Bd:List Ag->List O
 | []=>[]
 | x::xs=>Acp x::Bd xs
end
def Da (x:Ag):O:=.agg [Aa .i64 x.Kind,Aa .i64 x.Num,.sl 3 (Bd x.Args)]
theorem Aqi (x:Ag):Acp x=Da x:=by cases x; simp only [Acp,Da]
theorem Ig:∀l:List Ag,Bd l=l.map Da
 | []=>rfl
 | x::xs=>by simp only [Bd,List.map_cons,Aqi,Ig xs]
structure I1 where
 Name:ByteArray
 Args:(List Ag)
def X9 (x:I1):O:=.agg [Fk x.Name,.sl 3 (Bd x.Args)]
structure Al where
 Name:ByteArray
 Vars:Int
 Cons:(List I1)
def Bs (x:Al):O:=.agg [Fk x.Name,Aa .i64 x.Vars,.sl 2 (List.map X9 x.Cons)]
structure Br where
 Data:(List Al)
 Vars:(List Ag)
 Res:Ag
def Gf (x:Br):O:=.agg [.sl 3 (List.map Bs x.Data),.sl 3 (Bd x.Vars),Aa .i64 x.Res.Kind,Aa .i64 x.Res.Num,.sl 3 (Bd x.Res.Args)]
structure Av where
 Kind:Int
 Num:Int
 Kids:(List Av)
mutual
def Acq:Av->O
 | ⟨x0,x1,x2⟩=>.agg [Aa .i64 x0,Aa .i64 x1,.sl 3 (E5 x2)]
def E5:List Av->List O
 | []=>[]
 | x::xs=>Acq x::E5 xs
end
def E6 (x:Av):O:=.agg [Aa .i64 x.Kind,Aa .i64 x.Num,.sl 3 (E5 x.Kids)]
theorem Aqj (x:Av):Acq x=E6 x:=by cases x; simp only [Acq,E6]
theorem Hi:∀l:List Av,E5 l=l.map E6
 | []=>rfl
 | x::xs=>by simp only [E5,List.map_cons,Aqj,Hi xs]
structure An where
 Neg:Bool
 Num:(List Int)
 Den:(List Int)
def Cg (x:An):O:=.agg [Ao x.Neg,.sl 1 (List.map (Aa .u32) x.Num),.sl 1 (List.map (Aa .u32) x.Den)]
structure Ew where
 Var:Int
 Con:Int
 N:Int
def Uv (x:Ew):O:=.agg [Aa .i64 x.Var,Aa .i64 x.Con,Aa .i64 x.N]
structure A0 where
 Num:Int
 Kids:(List A0)
mutual
def Acr:A0->O
 | ⟨x0,x1⟩=>.agg [Aa .i64 x0,.sl 2 (Gw x1)]
def Gw:List A0->List O
 | []=>[]
 | x::xs=>Acr x::Gw xs
end
def E7 (x:A0):O:=.agg [Aa .i64 x.Num,.sl 2 (Gw x.Kids)]
theorem Aqk (x:A0):Acr x=E7 x:=by cases x; simp only [Acr,E7]
theorem Jj:∀l:List A0,Gw l=l.map E7
 | []=>rfl
 | x::xs=>by simp only [Gw,List.map_cons,Aqk,Jj xs]
structure Cr where
 Var:Int
 Index:A0
def Hy (x:Cr):O:=.agg [Aa .i64 x.Var,Aa .i64 x.Index.Num,.sl 2 (Gw x.Index.Kids)]
structure Es where
 Var:Int
 Coef:Int
def G8 (x:Es):O:=.agg [Aa .i64 x.Var,Aa .i64 x.Coef]
structure Ey where
 Const:Int
 Terms:(List Es)
def Pa (x:Ey):O:=.agg [Aa .i64 x.Const,.sl 2 (List.map G8 x.Terms)]
structure Eg where
 Lin:Ey
 Deg:Int
def Ih (x:Eg):O:=.agg [Aa .i64 x.Lin.Const,.sl 2 (List.map G8 x.Lin.Terms),Aa .i64 x.Deg]
structure Cb where
 Factors:(List Cr)
 Atoms:(List Eg)
def Jk (x:Cb):O:=.agg [.sl 3 (List.map Hy x.Factors),.sl 3 (List.map Ih x.Atoms)]
structure A4 where
 Coef:An
 Mono:Cb
def Dl (x:A4):O:=.agg [Ao x.Coef.Neg,.sl 1 (List.map (Aa .u32) x.Coef.Num),.sl 1 (List.map (Aa .u32) x.Coef.Den),.sl 3 (List.map Hy x.Mono.Factors),.sl 3 (List.map Ih x.Mono.Atoms)]
structure Gn where
 v:Int
 con:Int
structure Fv where
 neg:Bool
 n:(List Int)
 d:(List Int)
def Nc (x:Fv):O:=.agg [Ao x.neg,.sl 1 (List.map (Aa .u32) x.n),.sl 1 (List.map (Aa .u32) x.d)]
structure Aha where
 Name:ByteArray
 Params:(List Int)
 Captured:(List Int)
 Result:Ag
 Body:Int
def Pb (x:Aha):O:=.agg [Fk x.Name,.sl 1 (List.map (Aa .i64) x.Params),.sl 1 (List.map (Aa .i64) x.Captured),Aa .i64 x.Result.Kind,Aa .i64 x.Result.Num,.sl 3 (Bd x.Result.Args),Aa .i64 x.Body]
structure Ahb where
 Op:Int
 Num:Int
 Vars:(List Int)
 Binds:(List (List Int))
 Kids:(List Int)
 Type_:Ag
def Pc (x:Ahb):O:=.agg [Aa .i64 x.Op,Aa .i64 x.Num,.sl 1 (List.map (Aa .i64) x.Vars),.sl 1 (List.map (Ax 1 (Aa .i64)) x.Binds),.sl 1 (List.map (Aa .i64) x.Kids),Aa .i64 x.Type_.Kind,Aa .i64 x.Type_.Num,.sl 3 (Bd x.Type_.Args)]
structure Hz where
 Data:(List Al)
 Codes:(List Aha)
 Vars:(List Ag)
 Exprs:(List Ahb)
def Pd (x:Hz):O:=.agg [.sl 3 (List.map Bs x.Data),.sl 7 (List.map Pb x.Codes),.sl 3 (Bd x.Vars),.sl 8 (List.map Pc x.Exprs)]
structure Fd where
 data:(List Al)
 vars:Int
 left:Int
structure Ii where
 Kind:Int
 Text:ByteArray
 Pos:Int
structure Dy where
 Index:A0
 Coef:An
def Ez (x:Dy):O:=.agg [Aa .i64 x.Index.Num,.sl 2 (Gw x.Index.Kids),Ao x.Coef.Neg,.sl 1 (List.map (Aa .u32) x.Coef.Num),.sl 1 (List.map (Aa .u32) x.Coef.Den)]
structure Uw where
 con:Int
 kids:(List A0)
 places:(List Int)
 types:(List Ag)
def Aql (x:Uw):O:=.agg [Aa .i64 x.con,.sl 2 (Gw x.kids),.sl 1 (List.map (Aa .i64) x.places),.sl 3 (Bd x.types)]
structure G9 where
 Kind:Int
 Text:ByteArray
 Pos:Int
def Ya (x:G9):O:=.agg [Aa .i64 x.Kind,Fk x.Text,Aa .i64 x.Pos]
end Go.Ab
