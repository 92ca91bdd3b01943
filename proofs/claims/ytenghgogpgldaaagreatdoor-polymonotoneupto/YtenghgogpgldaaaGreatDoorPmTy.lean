/- The types that the program uses; plain types for its data. -/
import Derived.Test.YtenghgogpgldaaaGreatDoorPmAb2
import Derived.Test.YtenghgogpgldaaaGreatDoorProg
import Derived.KernelRfl
namespace Go.Ab
open Go Go.Proofs
def Abz:Tr:=(.node (.node (.node (.node (.node (.node (.node .leaf 1 ⟨.other,1,8,[.nilFunc]⟩ .leaf) 2 ⟨.int .i64,1,8,[.int .i64 0]⟩ (.node .leaf 3 ⟨.int .i64,1,8,[.int .i64 0]⟩ .leaf)) 4 ⟨.bool,1,1,[.bool false]⟩ (.node (.node .leaf 5 ⟨.int .u8,1,1,[.int .u8 0]⟩ .leaf) 9 ⟨.string,1,16,[.string ⟨#[]⟩]⟩ .leaf)) 20 ⟨.other,1,16,[.nilIface]⟩ (.node (.node (.node .leaf 22 ⟨.slice 177,1,24,[.slice none 0 0]⟩ .leaf) 23 ⟨.slice 25,1,24,[.slice none 0 0]⟩ (.node .leaf 25 ⟨.struct [(0,1),(1,1),(2,1)],3,40,[.int .i64 0,.int .i64 0,.slice none 0 0]⟩ .leaf)) 27 ⟨.struct [(0,1),(1,1),(2,3)],5,88,[.slice none 0 0,.slice none 0 0,.int .i64 0,.int .i64 0,.slice none 0 0]⟩ (.node (.node .leaf 28 ⟨.slice 84,1,24,[.slice none 0 0]⟩ .leaf) 32 ⟨.slice 133,1,24,[.slice none 0 0]⟩ .leaf))) 34 ⟨.struct [(0,1),(1,1),(2,1)],3,56,[.bool false,.slice none 0 0,.slice none 0 0]⟩ (.node (.node (.node (.node .leaf 36 ⟨.int .i64,1,8,[.int .i64 0]⟩ .leaf) 42 ⟨.slice 92,1,24,[.slice none 0 0]⟩ (.node .leaf 43 ⟨.slice 95,1,24,[.slice none 0 0]⟩ .leaf)) 45 ⟨.struct [(0,1),(1,1)],2,48,[.slice none 0 0,.slice none 0 0]⟩ (.node (.node .leaf 52 ⟨.slice 3,1,24,[.slice none 0 0]⟩ .leaf) 55 ⟨.slice 57,1,24,[.slice none 0 0]⟩ .leaf)) 57 ⟨.struct [(0,1),(1,1),(2,1)],3,40,[.int .i64 0,.int .i64 0,.slice none 0 0]⟩ (.node (.node (.node .leaf 64 ⟨.slice 28,1,24,[.slice none 0 0]⟩ .leaf) 66 ⟨.other,1,8,[.pointer none]⟩ (.node .leaf 69 ⟨.other,1,8,[.pointer none]⟩ .leaf)) 74 ⟨.map 9 3,1,8,[.map none]⟩ (.node (.node .leaf 76 ⟨.struct [(0,1),(1,1)],2,32,[.map none,.slice none 0 0]⟩ .leaf) 80 ⟨.slice 105,1,24,[.slice none 0 0]⟩ .leaf)))) 82 ⟨.struct [(0,1),(1,1)],2,32,[.int .i64 0,.slice none 0 0]⟩ (.node (.node (.node (.node (.node .leaf 84 ⟨.struct [(0,3),(3,2)],5,104,[.bool false,.slice none 0 0,.slice none 0 0,.slice none 0 0,.slice none 0 0]⟩ .leaf) 88 ⟨.slice 90,1,24,[.slice none 0 0]⟩ (.node .leaf 90 ⟨.struct [(0,1),(1,1)],2,32,[.int .i64 0,.slice none 0 0]⟩ .leaf)) 92 ⟨.struct [(0,1),(1,2)],3,40,[.int .i64 0,.int .i64 0,.slice none 0 0]⟩ (.node (.node .leaf 95 ⟨.struct [(0,2),(2,1)],3,40,[.int .i64 0,.slice none 0 0,.int .i64 0]⟩ .leaf) 99 ⟨.other,1,8,[.nilFunc]⟩ .leaf)) 101 ⟨.other,1,8,[.nilFunc]⟩ (.node (.node (.node .leaf 105 ⟨.struct [(0,1),(1,1)],2,16,[.int .i64 0,.int .i64 0]⟩ .leaf) 110 ⟨.other,1,8,[.nilFunc]⟩ (.node .leaf 112 ⟨.other,1,8,[.nilFunc]⟩ .leaf)) 120 ⟨.other,1,8,[.nilFunc]⟩ (.node (.node .leaf 122 ⟨.slice 239,1,24,[.slice none 0 0]⟩ .leaf) 123 ⟨.slice 243,1,24,[.slice none 0 0]⟩ .leaf))) 125 ⟨.struct [(0,1),(1,1),(2,1),(3,1)],4,96,[.slice none 0 0,.slice none 0 0,.slice none 0 0,.slice none 0 0]⟩ (.node (.node (.node (.node .leaf 127 ⟨.map 9 274,1,8,[.map none]⟩ .leaf) 129 ⟨.struct [(0,5),(5,1),(6,1)],7,104,[.slice none 0 0,.slice none 0 0,.int .i64 0,.int .i64 0,.slice none 0 0,.map none,.map none]⟩ (.node .leaf 131 ⟨.slice 133,1,24,[.slice none 0 0]⟩ .leaf)) 133 ⟨.int .u32,1,4,[.int .u32 0]⟩ (.node (.node .leaf 135 ⟨.struct [(0,1),(1,1),(2,1)],3,56,[.bool false,.slice none 0 0,.slice none 0 0]⟩ .leaf) 140 ⟨.int .u64,1,8,[.int .u64 0]⟩ .leaf)) 143 ⟨.other,1,8,[.nilFunc]⟩ (.node (.node (.node .leaf 148 ⟨.other,1,8,[.pointer none]⟩ .leaf) 152 ⟨.other,1,8,[.nilFunc]⟩ .leaf) 153 ⟨.other,1,8,[.nilFunc]⟩ (.node (.node .leaf 156 ⟨.other,1,8,[.nilFunc]⟩ .leaf) 164 ⟨.int .u64,1,8,[.int .u64 0]⟩ .leaf))))) 166 ⟨.other,1,8,[.nilFunc]⟩ (.node (.node (.node (.node (.node (.node .leaf 175 ⟨.slice 179,1,24,[.slice none 0 0]⟩ .leaf) 177 ⟨.struct [(0,1),(1,1),(2,1)],3,48,[.string ⟨#[]⟩,.int .i64 0,.slice none 0 0]⟩ (.node .leaf 179 ⟨.struct [(0,1),(1,1)],2,40,[.string ⟨#[]⟩,.slice none 0 0]⟩ .leaf)) 181 ⟨.other,1,8,[.pointer none]⟩ (.node (.node .leaf 183 ⟨.struct [(0,1),(1,1),(2,1)],3,40,[.slice none 0 0,.int .i64 0,.int .i64 0]⟩ .leaf) 184 ⟨.other,1,8,[.pointer none]⟩ .leaf)) 185 ⟨.slice 5,1,24,[.slice none 0 0]⟩ (.node (.node (.node .leaf 187 ⟨.struct [(0,1),(1,1)],2,32,[.pointer none,.slice none 0 0]⟩ .leaf) 189 ⟨.other,1,16,[.nilIface]⟩ (.node .leaf 205 ⟨.other,1,8,[.nilFunc]⟩ .leaf)) 212 ⟨.other,1,8,[.nilFunc]⟩ (.node (.node .leaf 217 ⟨.int .i64,1,8,[.int .i64 0]⟩ .leaf) 234 ⟨.map 9 4,1,8,[.map none]⟩ .leaf))) 239 ⟨.struct [(0,1),(1,1),(2,1),(3,3),(6,1)],7,112,[.string ⟨#[]⟩,.slice none 0 0,.slice none 0 0,.int .i64 0,.int .i64 0,.slice none 0 0,.int .i64 0]⟩ (.node (.node (.node (.node .leaf 240 ⟨.other,1,8,[.nilFunc]⟩ .leaf) 241 ⟨.slice 52,1,24,[.slice none 0 0]⟩ (.node .leaf 243 ⟨.struct [(0,1),(1,1),(2,1),(3,1),(4,1),(5,3)],8,128,[.int .i64 0,.int .i64 0,.slice none 0 0,.slice none 0 0,.slice none 0 0,.int .i64 0,.int .i64 0,.slice none 0 0]⟩ .leaf)) 244 ⟨.slice 4,1,24,[.slice none 0 0]⟩ (.node (.node .leaf 245 ⟨.other,1,8,[.nilFunc]⟩ .leaf) 246 ⟨.other,1,8,[.nilFunc]⟩ .leaf)) 247 ⟨.other,1,8,[.pointer none]⟩ (.node (.node (.node .leaf 249 ⟨.struct [(0,4),(4,1)],5,120,[.slice none 0 0,.slice none 0 0,.slice none 0 0,.slice none 0 0,.slice none 0 0]⟩ .leaf) 256 ⟨.other,1,8,[.pointer none]⟩ .leaf) 259 ⟨.slice 9,1,24,[.slice none 0 0]⟩ (.node (.node .leaf 274 ⟨.slice 278,1,24,[.slice none 0 0]⟩ .leaf) 278 ⟨.struct [(0,2),(2,3)],5,88,[.int .i64 0,.slice none 0 0,.bool false,.slice none 0 0,.slice none 0 0]⟩ .leaf)))) 283 ⟨.slice 34,1,24,[.slice none 0 0]⟩ (.node (.node (.node (.node (.node .leaf 292 ⟨.int .u64,1,8,[.int .u64 0]⟩ .leaf) 299 ⟨.other,1,8,[.nilFunc]⟩ (.node .leaf 304 ⟨.slice 306,1,24,[.slice none 0 0]⟩ .leaf)) 306 ⟨.struct [(0,1),(1,1),(2,1),(3,1)],4,80,[.int .i64 0,.slice none 0 0,.slice none 0 0,.slice none 0 0]⟩ (.node (.node .leaf 309 ⟨.slice 313,1,24,[.slice none 0 0]⟩ .leaf) 313 ⟨.struct [(0,1),(1,1),(2,1)],3,32,[.int .i64 0,.string ⟨#[]⟩,.int .i64 0]⟩ .leaf)) 323 ⟨.other,1,8,[.pointer none]⟩ (.node (.node (.node .leaf 332 ⟨.slice 335,1,24,[.slice none 0 0]⟩ .leaf) 335 ⟨.struct [(0,1),(1,1),(2,1)],3,32,[.int .i64 0,.string ⟨#[]⟩,.int .i64 0]⟩ (.node .leaf 336 ⟨.float .f64,1,8,[.float .f64 0]⟩ .leaf)) 346 ⟨.other,1,8,[.pointer none]⟩ (.node (.node .leaf 350 ⟨.slice 244,1,24,[.slice none 0 0]⟩ .leaf) 351 ⟨.other,1,8,[.nilFunc]⟩ .leaf))) 352 ⟨.other,1,8,[.nilFunc]⟩ (.node (.node (.node (.node .leaf 371 ⟨.other,1,8,[.pointer none]⟩ .leaf) 388 ⟨.other,1,8,[.nilFunc]⟩ (.node .leaf 397 ⟨.other,1,8,[.nilFunc]⟩ .leaf)) 399 ⟨.struct [(0,1),(1,3),(4,1),(5,1)],6,96,[.slice none 0 0,.int .i64 0,.int .i64 0,.slice none 0 0,.map none,.slice none 0 0]⟩ (.node (.node .leaf 400 ⟨.slice 403,1,24,[.slice none 0 0]⟩ .leaf) 403 ⟨.struct [(0,1),(1,3)],4,80,[.slice none 0 0,.bool false,.slice none 0 0,.slice none 0 0]⟩ .leaf)) 406 ⟨.slice 274,1,24,[.slice none 0 0]⟩ (.node (.node (.node .leaf 408 ⟨.other,1,8,[.nilFunc]⟩ .leaf) 410 ⟨.slice 42,1,24,[.slice none 0 0]⟩ .leaf) 412 ⟨.slice 43,1,24,[.slice none 0 0]⟩ (.node (.node .leaf 419 ⟨.other,1,8,[.nilFunc]⟩ .leaf) 426 ⟨.slice 88,1,24,[.slice none 0 0]⟩ .leaf))))))
def Cg:Cb:=Abz.find
theorem Arx:Abz.toList.map (fun p=>F7 Go.Proofs.Tryz.prog p.1)=Abz.toList.map (fun p=>some p.2):=by kernel_rfl
theorem Ahs:Cd Go.Proofs.Tryz.prog Cg:=Tr.ok Arx
theorem Sw:Go.Proofs.Tryz.prog.follows .mixedOrders=true:=by kernel_rfl
end Go.Ab
namespace Go.Ab.Fn
abbrev Xj:FuncId:=6
abbrev S7:FuncId:=7
abbrev S8:FuncId:=8
abbrev Oi:FuncId:=10
abbrev S9:FuncId:=11
abbrev Xk:FuncId:=16
abbrev Ta:FuncId:=19
abbrev Tb:FuncId:=20
abbrev Qq:FuncId:=21
abbrev Oj:FuncId:=24
abbrev Qs:FuncId:=29
abbrev Tc:FuncId:=31
abbrev Ok:FuncId:=32
abbrev Mv:FuncId:=33
abbrev Td:FuncId:=34
abbrev Te:FuncId:=35
abbrev Ju:FuncId:=36
abbrev Qt:FuncId:=37
abbrev Lr:FuncId:=38
abbrev Tf:FuncId:=39
abbrev De:FuncId:=40
abbrev Qu:FuncId:=43
abbrev Ab0:FuncId:=44
abbrev Ab1:FuncId:=45
abbrev Xl:FuncId:=46
abbrev Xm:FuncId:=48
abbrev Tg:FuncId:=49
abbrev Xn:FuncId:=50
abbrev Qv:FuncId:=51
abbrev Mw:FuncId:=52
abbrev Gr:FuncId:=53
abbrev Ol:FuncId:=55
abbrev Xo:FuncId:=56
abbrev Th:FuncId:=57
abbrev Hg:FuncId:=58
abbrev Ti:FuncId:=60
abbrev Qw:FuncId:=61
abbrev Tj:FuncId:=63
abbrev Tk:FuncId:=64
abbrev Om:FuncId:=65
abbrev Ja:FuncId:=66
abbrev Ls:FuncId:=67
abbrev Kj:FuncId:=68
abbrev On:FuncId:=69
abbrev Eh:FuncId:=70
abbrev Mx:FuncId:=71
abbrev Lt:FuncId:=72
abbrev Tl:FuncId:=73
abbrev Tm:FuncId:=74
abbrev Tn:FuncId:=75
abbrev Qx:FuncId:=76
abbrev Oo:FuncId:=77
abbrev K6:FuncId:=78
abbrev To:FuncId:=79
abbrev Tp:FuncId:=80
abbrev Oq:FuncId:=81
abbrev K7:FuncId:=82
abbrev Tq:FuncId:=86
abbrev Jb:FuncId:=87
abbrev Lu:FuncId:=88
abbrev Lv:FuncId:=89
abbrev Ot:FuncId:=90
abbrev Ab2:FuncId:=91
abbrev Xp:FuncId:=92
abbrev Ts:FuncId:=93
abbrev Ab3:FuncId:=94
abbrev Tt:FuncId:=95
abbrev Xq:FuncId:=96
abbrev Ou:FuncId:=97
abbrev Jv:FuncId:=98
abbrev Xr:FuncId:=99
abbrev Tu:FuncId:=100
abbrev K8:FuncId:=101
abbrev My:FuncId:=102
abbrev Xs:FuncId:=103
abbrev Tv:FuncId:=104
abbrev Kk:FuncId:=105
abbrev Jw:FuncId:=106
abbrev Qy:FuncId:=107
abbrev Jx:FuncId:=111
abbrev Tw:FuncId:=112
abbrev Mz:FuncId:=113
abbrev M0:FuncId:=114
abbrev Xt:FuncId:=115
abbrev Tx:FuncId:=116
abbrev Ab4:FuncId:=117
abbrev Ab5:FuncId:=119
abbrev Xu:FuncId:=120
abbrev M1:FuncId:=121
abbrev Xv:FuncId:=122
abbrev K9:FuncId:=123
abbrev M2:FuncId:=124
abbrev Xw:FuncId:=125
abbrev Kl:FuncId:=126
abbrev Lw:FuncId:=127
abbrev Ov:FuncId:=128
abbrev M3:FuncId:=129
abbrev Ty:FuncId:=130
abbrev M4:FuncId:=131
abbrev Tz:FuncId:=132
abbrev Ab6:FuncId:=133
abbrev Ab7:FuncId:=134
abbrev Ab8:FuncId:=135
abbrev Ab9:FuncId:=136
abbrev Aca:FuncId:=137
abbrev Acb:FuncId:=138
abbrev Km:FuncId:=139
abbrev Ow:FuncId:=140
abbrev La:FuncId:=141
abbrev Qz:FuncId:=142
abbrev H9:FuncId:=143
abbrev M5:FuncId:=144
abbrev Gs:FuncId:=145
abbrev Lx:FuncId:=146
abbrev Jy:FuncId:=147
abbrev Ly:FuncId:=148
abbrev Xx:FuncId:=149
abbrev Q2:FuncId:=155
abbrev T0:FuncId:=156
abbrev Ox:FuncId:=157
abbrev Q3:FuncId:=158
abbrev T1:FuncId:=159
abbrev Xy:FuncId:=160
abbrev Q4:FuncId:=161
abbrev Oy:FuncId:=162
abbrev Acd:FuncId:=163
abbrev Ace:FuncId:=164
abbrev Acf:FuncId:=165
abbrev Xz:FuncId:=166
abbrev Oz:FuncId:=167
abbrev T2:FuncId:=168
abbrev X0:FuncId:=169
abbrev T3:FuncId:=170
abbrev T5:FuncId:=171
abbrev Q5:FuncId:=172
abbrev T6:FuncId:=173
abbrev O0:FuncId:=174
abbrev Q6:FuncId:=175
abbrev Is:FuncId:=179
abbrev Acg:FuncId:=180
abbrev Ach:FuncId:=189
abbrev T7:FuncId:=190
abbrev T8:FuncId:=191
abbrev M6:FuncId:=192
abbrev X1:FuncId:=193
abbrev Q7:FuncId:=194
abbrev T9:FuncId:=195
abbrev Ua:FuncId:=196
abbrev Q8:FuncId:=197
abbrev It:FuncId:=198
abbrev O1:FuncId:=199
abbrev M7:FuncId:=200
abbrev Aci:FuncId:=201
abbrev Acj:FuncId:=202
abbrev Ub:FuncId:=209
abbrev Uc:FuncId:=210
abbrev Ud:FuncId:=211
abbrev Lb:FuncId:=212
abbrev Ue:FuncId:=213
abbrev O2:FuncId:=214
abbrev O3:FuncId:=216
abbrev Kn:FuncId:=217
abbrev O4:FuncId:=218
abbrev Uf:FuncId:=219
abbrev O5:FuncId:=220
abbrev Ug:FuncId:=232
abbrev Uh:FuncId:=233
abbrev X2:FuncId:=234
abbrev X3:FuncId:=235
abbrev X4:FuncId:=236
abbrev Q9:FuncId:=237
abbrev X5:FuncId:=239
abbrev X6:FuncId:=241
abbrev X7:FuncId:=242
abbrev Ra:FuncId:=243
abbrev X8:FuncId:=244
abbrev X9:FuncId:=245
abbrev Ack:FuncId:=246
abbrev Ui:FuncId:=254
abbrev Acl:FuncId:=255
abbrev Ya:FuncId:=256
abbrev Rb:FuncId:=262
abbrev Uj:FuncId:=263
abbrev Rc:FuncId:=264
abbrev M8:FuncId:=265
abbrev M9:FuncId:=266
abbrev Lz:FuncId:=267
abbrev Yb:FuncId:=268
abbrev Na:FuncId:=269
abbrev Re:FuncId:=270
abbrev L0:FuncId:=271
abbrev Uk:FuncId:=272
abbrev Yc:FuncId:=273
abbrev O6:FuncId:=274
abbrev Acm:FuncId:=275
abbrev Nb:FuncId:=286
abbrev Rf:FuncId:=288
abbrev Rg:FuncId:=290
abbrev O7:FuncId:=291
abbrev Rh:FuncId:=292
abbrev Ul:FuncId:=293
abbrev Acn:FuncId:=296
abbrev Aco:FuncId:=298
abbrev Acp:FuncId:=299
abbrev Nc:FuncId:=305
abbrev Ri:FuncId:=306
abbrev O8:FuncId:=307
abbrev Um:FuncId:=308
abbrev Un:FuncId:=309
abbrev Uo:FuncId:=310
abbrev O9:FuncId:=314
abbrev Pa:FuncId:=315
abbrev Yd:FuncId:=328
abbrev Pb:FuncId:=329
abbrev Acq:FuncId:=337
abbrev Acr:FuncId:=338
abbrev Ye:FuncId:=339
abbrev Pc:FuncId:=340
abbrev Rj:FuncId:=346
abbrev Pd:FuncId:=347
abbrev Up:FuncId:=348
abbrev Rk:FuncId:=349
abbrev Uq:FuncId:=350
abbrev Nd:FuncId:=351
abbrev Ur:FuncId:=352
abbrev Us:FuncId:=353
abbrev Acs:FuncId:=362
abbrev Acu:FuncId:=374
abbrev Acv:FuncId:=375
abbrev Acw:FuncId:=376
abbrev Ut:FuncId:=382
abbrev Uu:FuncId:=391
end Go.Ab.Fn
namespace Go.Ab
open Go
abbrev O (k:IntKind) (n:Int):AV:=.val (.int k n)
abbrev An (b:Bool):AV:=.val (.bool b)
abbrev Ei (s:ByteArray):AV:=.val (.string s)
abbrev Av {α:Type} (sz:Nat) (f:α->AV) (l:List α):AV:=.sl sz (l.map f)
abbrev Ej {α:Type} (sz:Nat) (g:List α->List AV) (l:List α):AV:=.sl sz (g l)
structure Ag where
 Kind:Int
 Num:Int
 Args:(List Ag)
mutual
def Acx:Ag->AV
 | ⟨x0,x1,x2⟩=>.agg [O .i64 x0,O .i64 x1,.sl 3 (Bd x2)]
def Bd:List Ag->List AV
 | []=>[]
 | x::xs=>Acx x::Bd xs
end
def C6 (x:Ag):AV:=.agg [O .i64 x.Kind,O .i64 x.Num,.sl 3 (Bd x.Args)]
theorem Ary (x:Ag):Acx x=C6 x:=by cases x; simp only [Acx,C6]
theorem Iu:∀l:List Ag,Bd l=l.map C6
 | []=>rfl
 | x::xs=>by simp only [Bd,List.map_cons,Ary,Iu xs]
structure L1 where
 Name:ByteArray
 Args:(List Ag)
def Yf (x:L1):AV:=.agg [Ei x.Name,.sl 3 (Bd x.Args)]
structure Al where
 Name:ByteArray
 Vars:Int
 Cons:(List L1)
def Bv (x:Al):AV:=.agg [Ei x.Name,O .i64 x.Vars,.sl 2 (List.map Yf x.Cons)]
structure Cf where
 Data:(List Al)
 Vars:(List Ag)
 Res:Ag
def Ko (x:Cf):AV:=.agg [.sl 3 (List.map Bv x.Data),.sl 3 (Bd x.Vars),O .i64 x.Res.Kind,O .i64 x.Res.Num,.sl 3 (Bd x.Res.Args)]
structure Ao where
 Neg:Bool
 Num:(List Int)
 Den:(List Int)
def Cq (x:Ao):AV:=.agg [An x.Neg,.sl 1 (List.map (O .u32) x.Num),.sl 1 (List.map (O .u32) x.Den)]
structure A5 where
 Num:Int
 Kids:(List A5)
mutual
def Acy:A5->AV
 | ⟨x0,x1⟩=>.agg [O .i64 x0,.sl 2 (Ht x1)]
def Ht:List A5->List AV
 | []=>[]
 | x::xs=>Acy x::Ht xs
end
def Fb (x:A5):AV:=.agg [O .i64 x.Num,.sl 2 (Ht x.Kids)]
theorem Arz (x:A5):Acy x=Fb x:=by cases x; simp only [Acy,Fb]
theorem Jz:∀l:List A5,Ht l=l.map Fb
 | []=>rfl
 | x::xs=>by simp only [Ht,List.map_cons,Arz,Jz xs]
structure Cj where
 Var:Int
 Index:A5
def Er (x:Cj):AV:=.agg [O .i64 x.Var,O .i64 x.Index.Num,.sl 2 (Ht x.Index.Kids)]
structure C1 where
 Var:Int
 Coef:Int
def Gj (x:C1):AV:=.agg [O .i64 x.Var,O .i64 x.Coef]
structure Da where
 Const:Int
 Terms:(List C1)
def J0 (x:Da):AV:=.agg [O .i64 x.Const,.sl 2 (List.map Gj x.Terms)]
structure B8 where
 Lin:Da
 Deg:Int
def Ee (x:B8):AV:=.agg [O .i64 x.Lin.Const,.sl 2 (List.map Gj x.Lin.Terms),O .i64 x.Deg]
structure Ba where
 Factors:(List Cj)
 Atoms:(List B8)
def Gk (x:Ba):AV:=.agg [.sl 3 (List.map Er x.Factors),.sl 3 (List.map Ee x.Atoms)]
structure Ay where
 Kind:Int
 Num:Int
 Kids:(List Ay)
mutual
def Acz:Ay->AV
 | ⟨x0,x1,x2⟩=>.agg [O .i64 x0,O .i64 x1,.sl 3 (Ez x2)]
def Ez:List Ay->List AV
 | []=>[]
 | x::xs=>Acz x::Ez xs
end
def Ev (x:Ay):AV:=.agg [O .i64 x.Kind,O .i64 x.Num,.sl 3 (Ez x.Kids)]
theorem Ar0 (x:Ay):Acz x=Ev x:=by cases x; simp only [Acz,Ev]
theorem Ia:∀l:List Ay,Ez l=l.map Ev
 | []=>rfl
 | x::xs=>by simp only [Ez,List.map_cons,Ar0,Ia xs]
structure Aq where
 Coef:Ao
 Mono:Ba
def B9 (x:Aq):AV:=.agg [An x.Coef.Neg,.sl 1 (List.map (O .u32) x.Coef.Num),.sl 1 (List.map (O .u32) x.Coef.Den),.sl 3 (List.map Er x.Mono.Factors),.sl 3 (List.map Ee x.Mono.Atoms)]
structure Aht where
 Name:ByteArray
 Params:(List Int)
 Captured:(List Int)
 Result:Ag
 Body:Int
def Pe (x:Aht):AV:=.agg [Ei x.Name,.sl 1 (List.map (O .i64) x.Params),.sl 1 (List.map (O .i64) x.Captured),O .i64 x.Result.Kind,O .i64 x.Result.Num,.sl 3 (Bd x.Result.Args),O .i64 x.Body]
structure Ahu where
 Op:Int
 Num:Int
 Vars:(List Int)
 Binds:(List (List Int))
 Kids:(List Int)
 Type_:Ag
def Pf (x:Ahu):AV:=.agg [O .i64 x.Op,O .i64 x.Num,.sl 1 (List.map (O .i64) x.Vars),.sl 1 (List.map (Av 1 (O .i64)) x.Binds),.sl 1 (List.map (O .i64) x.Kids),O .i64 x.Type_.Kind,O .i64 x.Type_.Num,.sl 3 (Bd x.Type_.Args)]
structure Ib where
 Data:(List Al)
 Codes:(List Aht)
 Vars:(List Ag)
 Exprs:(List Ahu)
def Pg (x:Ib):AV:=.agg [.sl 3 (List.map Bv x.Data),.sl 7 (List.map Pe x.Codes),.sl 3 (Bd x.Vars),.sl 8 (List.map Pf x.Exprs)]
structure Fr where
 neg:Bool
 n:(List Int)
 d:(List Int)
def Nf (x:Fr):AV:=.agg [An x.neg,.sl 1 (List.map (O .u32) x.n),.sl 1 (List.map (O .u32) x.d)]
structure E5 where
 data:(List Al)
 vars:Int
 left:Int
structure Df where
 Index:A5
 Coef:Ao
def Eb (x:Df):AV:=.agg [O .i64 x.Index.Num,.sl 2 (Ht x.Index.Kids),An x.Coef.Neg,.sl 1 (List.map (O .u32) x.Coef.Num),.sl 1 (List.map (O .u32) x.Coef.Den)]
structure Uv where
 con:Int
 kids:(List A5)
 places:(List Int)
 types:(List Ag)
def Ar1 (x:Uv):AV:=.agg [O .i64 x.con,.sl 2 (Ht x.kids),.sl 1 (List.map (O .i64) x.places),.sl 3 (Bd x.types)]
structure Hh where
 Kind:Int
 Text:ByteArray
 Pos:Int
def Yg (x:Hh):AV:=.agg [O .i64 x.Kind,Ei x.Text,O .i64 x.Pos]
end Go.Ab
