/- The types that the program uses; plain types for its data. -/
import Derived.Test.YtenghgogpgldaaaGreatDoorPsAb2
import Derived.Test.YtenghgogpgldaaaGreatDoorProg
import Derived.KernelRfl
namespace Go.Ab
open Go Go.Proofs
def Aa4:Tr:=(.node (.node (.node (.node (.node (.node (.node .leaf 1 ⟨.other,1,8,[.nilFunc]⟩ .leaf) 2 ⟨.int .i64,1,8,[.int .i64 0]⟩ (.node .leaf 3 ⟨.int .i64,1,8,[.int .i64 0]⟩ .leaf)) 4 ⟨.bool,1,1,[.bool false]⟩ (.node (.node .leaf 5 ⟨.int .u8,1,1,[.int .u8 0]⟩ .leaf) 9 ⟨.string,1,16,[.string ⟨#[]⟩]⟩ .leaf)) 20 ⟨.other,1,16,[.nilIface]⟩ (.node (.node (.node .leaf 22 ⟨.slice 177,1,24,[.slice none 0 0]⟩ .leaf) 23 ⟨.slice 25,1,24,[.slice none 0 0]⟩ (.node .leaf 25 ⟨.struct [(0,1),(1,1),(2,1)],3,40,[.int .i64 0,.int .i64 0,.slice none 0 0]⟩ .leaf)) 27 ⟨.struct [(0,1),(1,1),(2,3)],5,88,[.slice none 0 0,.slice none 0 0,.int .i64 0,.int .i64 0,.slice none 0 0]⟩ (.node (.node .leaf 28 ⟨.slice 84,1,24,[.slice none 0 0]⟩ .leaf) 32 ⟨.slice 133,1,24,[.slice none 0 0]⟩ .leaf))) 34 ⟨.struct [(0,1),(1,1),(2,1)],3,56,[.bool false,.slice none 0 0,.slice none 0 0]⟩ (.node (.node (.node (.node .leaf 36 ⟨.int .i64,1,8,[.int .i64 0]⟩ .leaf) 42 ⟨.slice 92,1,24,[.slice none 0 0]⟩ (.node .leaf 43 ⟨.slice 95,1,24,[.slice none 0 0]⟩ .leaf)) 45 ⟨.struct [(0,1),(1,1)],2,48,[.slice none 0 0,.slice none 0 0]⟩ (.node (.node .leaf 52 ⟨.slice 3,1,24,[.slice none 0 0]⟩ .leaf) 55 ⟨.slice 57,1,24,[.slice none 0 0]⟩ .leaf)) 57 ⟨.struct [(0,1),(1,1),(2,1)],3,40,[.int .i64 0,.int .i64 0,.slice none 0 0]⟩ (.node (.node (.node .leaf 64 ⟨.slice 28,1,24,[.slice none 0 0]⟩ .leaf) 66 ⟨.other,1,8,[.pointer none]⟩ (.node .leaf 69 ⟨.other,1,8,[.pointer none]⟩ .leaf)) 74 ⟨.map 9 3,1,8,[.map none]⟩ (.node (.node .leaf 76 ⟨.struct [(0,1),(1,1)],2,32,[.map none,.slice none 0 0]⟩ .leaf) 80 ⟨.slice 105,1,24,[.slice none 0 0]⟩ .leaf)))) 82 ⟨.struct [(0,1),(1,1)],2,32,[.int .i64 0,.slice none 0 0]⟩ (.node (.node (.node (.node (.node .leaf 84 ⟨.struct [(0,3),(3,2)],5,104,[.bool false,.slice none 0 0,.slice none 0 0,.slice none 0 0,.slice none 0 0]⟩ .leaf) 88 ⟨.slice 90,1,24,[.slice none 0 0]⟩ (.node .leaf 90 ⟨.struct [(0,1),(1,1)],2,32,[.int .i64 0,.slice none 0 0]⟩ .leaf)) 92 ⟨.struct [(0,1),(1,2)],3,40,[.int .i64 0,.int .i64 0,.slice none 0 0]⟩ (.node (.node .leaf 95 ⟨.struct [(0,2),(2,1)],3,40,[.int .i64 0,.slice none 0 0,.int .i64 0]⟩ .leaf) 99 ⟨.other,1,8,[.nilFunc]⟩ .leaf)) 101 ⟨.other,1,8,[.nilFunc]⟩ (.node (.node (.node .leaf 105 ⟨.struct [(0,1),(1,1)],2,16,[.int .i64 0,.int .i64 0]⟩ .leaf) 110 ⟨.other,1,8,[.nilFunc]⟩ (.node .leaf 112 ⟨.other,1,8,[.nilFunc]⟩ .leaf)) 120 ⟨.other,1,8,[.nilFunc]⟩ (.node (.node .leaf 122 ⟨.slice 239,1,24,[.slice none 0 0]⟩ .leaf) 123 ⟨.slice 243,1,24,[.slice none 0 0]⟩ .leaf))) 125 ⟨.struct [(0,1),(1,1),(2,1),(3,1)],4,96,[.slice none 0 0,.slice none 0 0,.slice none 0 0,.slice none 0 0]⟩ (.node (.node (.node (.node .leaf 127 ⟨.map 9 274,1,8,[.map none]⟩ .leaf) 129 ⟨.struct [(0,5),(5,1),(6,1)],7,104,[.slice none 0 0,.slice none 0 0,.int .i64 0,.int .i64 0,.slice none 0 0,.map none,.map none]⟩ (.node .leaf 131 ⟨.slice 133,1,24,[.slice none 0 0]⟩ .leaf)) 133 ⟨.int .u32,1,4,[.int .u32 0]⟩ (.node (.node .leaf 135 ⟨.struct [(0,1),(1,1),(2,1)],3,56,[.bool false,.slice none 0 0,.slice none 0 0]⟩ .leaf) 140 ⟨.int .u64,1,8,[.int .u64 0]⟩ .leaf)) 143 ⟨.other,1,8,[.nilFunc]⟩ (.node (.node (.node .leaf 148 ⟨.other,1,8,[.pointer none]⟩ .leaf) 152 ⟨.other,1,8,[.nilFunc]⟩ .leaf) 153 ⟨.other,1,8,[.nilFunc]⟩ (.node (.node .leaf 156 ⟨.other,1,8,[.nilFunc]⟩ .leaf) 164 ⟨.int .u64,1,8,[.int .u64 0]⟩ .leaf))))) 166 ⟨.other,1,8,[.nilFunc]⟩ (.node (.node (.node (.node (.node (.node .leaf 175 ⟨.slice 179,1,24,[.slice none 0 0]⟩ .leaf) 177 ⟨.struct [(0,1),(1,1),(2,1)],3,48,[.string ⟨#[]⟩,.int .i64 0,.slice none 0 0]⟩ (.node .leaf 179 ⟨.struct [(0,1),(1,1)],2,40,[.string ⟨#[]⟩,.slice none 0 0]⟩ .leaf)) 181 ⟨.other,1,8,[.pointer none]⟩ (.node (.node .leaf 183 ⟨.struct [(0,1),(1,1),(2,1)],3,40,[.slice none 0 0,.int .i64 0,.int .i64 0]⟩ .leaf) 184 ⟨.other,1,8,[.pointer none]⟩ .leaf)) 185 ⟨.slice 5,1,24,[.slice none 0 0]⟩ (.node (.node (.node .leaf 187 ⟨.struct [(0,1),(1,1)],2,32,[.pointer none,.slice none 0 0]⟩ .leaf) 189 ⟨.other,1,16,[.nilIface]⟩ (.node .leaf 205 ⟨.other,1,8,[.nilFunc]⟩ .leaf)) 212 ⟨.other,1,8,[.nilFunc]⟩ (.node (.node .leaf 217 ⟨.int .i64,1,8,[.int .i64 0]⟩ .leaf) 234 ⟨.map 9 4,1,8,[.map none]⟩ .leaf))) 239 ⟨.struct [(0,1),(1,1),(2,1),(3,3),(6,1)],7,112,[.string ⟨#[]⟩,.slice none 0 0,.slice none 0 0,.int .i64 0,.int .i64 0,.slice none 0 0,.int .i64 0]⟩ (.node (.node (.node (.node .leaf 240 ⟨.other,1,8,[.nilFunc]⟩ .leaf) 241 ⟨.slice 52,1,24,[.slice none 0 0]⟩ (.node .leaf 243 ⟨.struct [(0,1),(1,1),(2,1),(3,1),(4,1),(5,3)],8,128,[.int .i64 0,.int .i64 0,.slice none 0 0,.slice none 0 0,.slice none 0 0,.int .i64 0,.int .i64 0,.slice none 0 0]⟩ .leaf)) 244 ⟨.slice 4,1,24,[.slice none 0 0]⟩ (.node (.node .leaf 245 ⟨.other,1,8,[.nilFunc]⟩ .leaf) 246 ⟨.other,1,8,[.nilFunc]⟩ .leaf)) 247 ⟨.other,1,8,[.pointer none]⟩ (.node (.node (.node .leaf 249 ⟨.struct [(0,4),(4,1)],5,120,[.slice none 0 0,.slice none 0 0,.slice none 0 0,.slice none 0 0,.slice none 0 0]⟩ .leaf) 256 ⟨.other,1,8,[.pointer none]⟩ .leaf) 259 ⟨.slice 9,1,24,[.slice none 0 0]⟩ (.node (.node .leaf 274 ⟨.slice 278,1,24,[.slice none 0 0]⟩ .leaf) 278 ⟨.struct [(0,2),(2,3)],5,88,[.int .i64 0,.slice none 0 0,.bool false,.slice none 0 0,.slice none 0 0]⟩ .leaf)))) 283 ⟨.slice 34,1,24,[.slice none 0 0]⟩ (.node (.node (.node (.node (.node .leaf 292 ⟨.int .u64,1,8,[.int .u64 0]⟩ .leaf) 299 ⟨.other,1,8,[.nilFunc]⟩ (.node .leaf 304 ⟨.slice 306,1,24,[.slice none 0 0]⟩ .leaf)) 306 ⟨.struct [(0,1),(1,1),(2,1),(3,1)],4,80,[.int .i64 0,.slice none 0 0,.slice none 0 0,.slice none 0 0]⟩ (.node (.node .leaf 309 ⟨.slice 313,1,24,[.slice none 0 0]⟩ .leaf) 313 ⟨.struct [(0,1),(1,1),(2,1)],3,32,[.int .i64 0,.string ⟨#[]⟩,.int .i64 0]⟩ .leaf)) 323 ⟨.other,1,8,[.pointer none]⟩ (.node (.node (.node .leaf 332 ⟨.slice 335,1,24,[.slice none 0 0]⟩ .leaf) 335 ⟨.struct [(0,1),(1,1),(2,1)],3,32,[.int .i64 0,.string ⟨#[]⟩,.int .i64 0]⟩ (.node .leaf 336 ⟨.float .f64,1,8,[.float .f64 0]⟩ .leaf)) 346 ⟨.other,1,8,[.pointer none]⟩ (.node (.node .leaf 350 ⟨.slice 244,1,24,[.slice none 0 0]⟩ .leaf) 351 ⟨.other,1,8,[.nilFunc]⟩ .leaf))) 352 ⟨.other,1,8,[.nilFunc]⟩ (.node (.node (.node (.node .leaf 371 ⟨.other,1,8,[.pointer none]⟩ .leaf) 388 ⟨.other,1,8,[.nilFunc]⟩ (.node .leaf 397 ⟨.other,1,8,[.nilFunc]⟩ .leaf)) 399 ⟨.struct [(0,1),(1,3),(4,1),(5,1)],6,96,[.slice none 0 0,.int .i64 0,.int .i64 0,.slice none 0 0,.map none,.slice none 0 0]⟩ (.node (.node .leaf 400 ⟨.slice 403,1,24,[.slice none 0 0]⟩ .leaf) 403 ⟨.struct [(0,1),(1,3)],4,80,[.slice none 0 0,.bool false,.slice none 0 0,.slice none 0 0]⟩ .leaf)) 406 ⟨.slice 274,1,24,[.slice none 0 0]⟩ (.node (.node (.node .leaf 408 ⟨.other,1,8,[.nilFunc]⟩ .leaf) 410 ⟨.slice 42,1,24,[.slice none 0 0]⟩ .leaf) 412 ⟨.slice 43,1,24,[.slice none 0 0]⟩ (.node (.node .leaf 419 ⟨.other,1,8,[.nilFunc]⟩ .leaf) 426 ⟨.slice 88,1,24,[.slice none 0 0]⟩ .leaf))))))
def B7:Ch:=Aa4.find
theorem Apu:Aa4.toList.map (fun p=>F2 Go.Proofs.Tryz.prog p.1)=Aa4.toList.map (fun p=>some p.2):=by kernel_rfl
theorem Agf:Ci Go.Proofs.Tryz.prog B7:=Tr.ok Apu
theorem So:Go.Proofs.Tryz.prog.follows .mixedOrders=true:=by kernel_rfl
end Go.Ab
namespace Go.Ab.Fn
abbrev Wt:FuncId:=4
abbrev Sz:FuncId:=7
abbrev Wu:FuncId:=10
abbrev Mm:FuncId:=11
abbrev Oc:FuncId:=12
abbrev Qo:FuncId:=13
abbrev Od:FuncId:=14
abbrev Qp:FuncId:=15
abbrev I6:FuncId:=16
abbrev Oe:FuncId:=17
abbrev Qq:FuncId:=18
abbrev S0:FuncId:=19
abbrev S3:FuncId:=20
abbrev Qs:FuncId:=21
abbrev Mn:FuncId:=33
abbrev S4:FuncId:=35
abbrev It:FuncId:=36
abbrev Kt:FuncId:=37
abbrev H4:FuncId:=38
abbrev Qt:FuncId:=39
abbrev H5:FuncId:=40
abbrev Ll:FuncId:=41
abbrev Mo:FuncId:=42
abbrev Lm:FuncId:=43
abbrev Aa5:FuncId:=44
abbrev Aa6:FuncId:=45
abbrev Ku:FuncId:=46
abbrev Qu:FuncId:=47
abbrev S5:FuncId:=48
abbrev S6:FuncId:=49
abbrev Wv:FuncId:=50
abbrev Qv:FuncId:=51
abbrev Mp:FuncId:=52
abbrev Of:FuncId:=53
abbrev J6:FuncId:=54
abbrev Og:FuncId:=55
abbrev I7:FuncId:=58
abbrev Mq:FuncId:=68
abbrev Kv:FuncId:=70
abbrev I8:FuncId:=72
abbrev S7:FuncId:=74
abbrev S8:FuncId:=75
abbrev Qw:FuncId:=76
abbrev S9:FuncId:=77
abbrev Mr:FuncId:=78
abbrev Ta:FuncId:=79
abbrev Tb:FuncId:=80
abbrev Oh:FuncId:=81
abbrev Ln:FuncId:=82
abbrev Tc:FuncId:=83
abbrev Td:FuncId:=84
abbrev Qx:FuncId:=85
abbrev Oi:FuncId:=86
abbrev I9:FuncId:=87
abbrev Lo:FuncId:=88
abbrev Lp:FuncId:=89
abbrev Oj:FuncId:=90
abbrev Aa7:FuncId:=91
abbrev Lq:FuncId:=92
abbrev Lr:FuncId:=93
abbrev Te:FuncId:=94
abbrev Ok:FuncId:=95
abbrev Tf:FuncId:=96
abbrev Ol:FuncId:=97
abbrev Ja:FuncId:=98
abbrev Ww:FuncId:=99
abbrev Tg:FuncId:=100
abbrev Kw:FuncId:=101
abbrev Ms:FuncId:=102
abbrev Wx:FuncId:=103
abbrev Th:FuncId:=104
abbrev J7:FuncId:=105
abbrev Kx:FuncId:=106
abbrev Wy:FuncId:=107
abbrev Om:FuncId:=108
abbrev Mt:FuncId:=109
abbrev Ls:FuncId:=110
abbrev Jb:FuncId:=111
abbrev Ti:FuncId:=112
abbrev Mu:FuncId:=113
abbrev Mv:FuncId:=114
abbrev Tj:FuncId:=116
abbrev Tk:FuncId:=120
abbrev Lt:FuncId:=127
abbrev Aa8:FuncId:=129
abbrev Mw:FuncId:=131
abbrev Tl:FuncId:=132
abbrev Aa9:FuncId:=133
abbrev Aba:FuncId:=134
abbrev Abb:FuncId:=135
abbrev Abc:FuncId:=136
abbrev Abd:FuncId:=137
abbrev Abe:FuncId:=138
abbrev J8:FuncId:=139
abbrev Mx:FuncId:=140
abbrev Ky:FuncId:=141
abbrev Qy:FuncId:=142
abbrev Hs:FuncId:=143
abbrev My:FuncId:=144
abbrev Gk:FuncId:=145
abbrev Lu:FuncId:=146
abbrev Jc:FuncId:=147
abbrev Lv:FuncId:=148
abbrev Wz:FuncId:=149
abbrev Tm:FuncId:=150
abbrev Lw:FuncId:=151
abbrev Tn:FuncId:=152
abbrev To:FuncId:=153
abbrev Tp:FuncId:=154
abbrev Qz:FuncId:=155
abbrev Tq:FuncId:=156
abbrev On:FuncId:=157
abbrev Q2:FuncId:=158
abbrev Ts:FuncId:=159
abbrev W0:FuncId:=160
abbrev Q3:FuncId:=161
abbrev Oo:FuncId:=162
abbrev Abf:FuncId:=163
abbrev Tt:FuncId:=164
abbrev Tu:FuncId:=165
abbrev Q4:FuncId:=166
abbrev Tv:FuncId:=167
abbrev Tw:FuncId:=168
abbrev W1:FuncId:=169
abbrev Tx:FuncId:=170
abbrev Ty:FuncId:=171
abbrev Q5:FuncId:=172
abbrev Tz:FuncId:=173
abbrev Oq:FuncId:=174
abbrev Q6:FuncId:=175
abbrev Q7:FuncId:=176
abbrev T0:FuncId:=177
abbrev Ot:FuncId:=178
abbrev H6:FuncId:=179
abbrev W2:FuncId:=189
abbrev H7:FuncId:=198
abbrev Ou:FuncId:=199
abbrev Mz:FuncId:=200
abbrev Abg:FuncId:=201
abbrev Abh:FuncId:=202
abbrev T1:FuncId:=209
abbrev T2:FuncId:=210
abbrev T3:FuncId:=211
abbrev Kz:FuncId:=212
abbrev T5:FuncId:=213
abbrev Ov:FuncId:=214
abbrev Ow:FuncId:=216
abbrev J9:FuncId:=217
abbrev Ox:FuncId:=218
abbrev T6:FuncId:=219
abbrev Oy:FuncId:=220
abbrev Oz:FuncId:=221
abbrev M0:FuncId:=222
abbrev Q8:FuncId:=223
abbrev Lx:FuncId:=224
abbrev M1:FuncId:=225
abbrev O0:FuncId:=226
abbrev Q9:FuncId:=227
abbrev O1:FuncId:=228
abbrev O2:FuncId:=229
abbrev O3:FuncId:=230
abbrev W3:FuncId:=231
abbrev T7:FuncId:=232
abbrev T8:FuncId:=233
abbrev W4:FuncId:=234
abbrev W5:FuncId:=235
abbrev W6:FuncId:=236
abbrev Ra:FuncId:=237
abbrev W7:FuncId:=239
abbrev W8:FuncId:=241
abbrev W9:FuncId:=242
abbrev Rb:FuncId:=243
abbrev Xa:FuncId:=244
abbrev Xb:FuncId:=245
abbrev T9:FuncId:=246
abbrev O4:FuncId:=254
abbrev Xc:FuncId:=255
abbrev Xd:FuncId:=256
abbrev O5:FuncId:=265
abbrev O6:FuncId:=266
abbrev M2:FuncId:=267
abbrev Abi:FuncId:=270
abbrev Rc:FuncId:=271
abbrev Xe:FuncId:=273
abbrev O7:FuncId:=274
abbrev Abj:FuncId:=275
abbrev M3:FuncId:=286
abbrev Re:FuncId:=288
abbrev Rf:FuncId:=290
abbrev O8:FuncId:=291
abbrev Rg:FuncId:=292
abbrev Ua:FuncId:=293
abbrev Xf:FuncId:=294
abbrev M4:FuncId:=295
abbrev Abk:FuncId:=296
abbrev Abl:FuncId:=298
abbrev Abm:FuncId:=299
abbrev Ub:FuncId:=308
abbrev Uc:FuncId:=309
abbrev Ud:FuncId:=310
abbrev O9:FuncId:=314
abbrev Pa:FuncId:=315
abbrev Ue:FuncId:=320
abbrev Rh:FuncId:=321
abbrev Ri:FuncId:=322
abbrev Xg:FuncId:=323
abbrev Uf:FuncId:=324
abbrev Ug:FuncId:=325
abbrev M5:FuncId:=326
abbrev Rj:FuncId:=327
abbrev Xh:FuncId:=328
abbrev Pb:FuncId:=329
abbrev Abn:FuncId:=337
abbrev Abo:FuncId:=338
abbrev Xi:FuncId:=339
abbrev Pc:FuncId:=340
abbrev Rk:FuncId:=346
abbrev Pd:FuncId:=347
abbrev Uh:FuncId:=348
abbrev Rl:FuncId:=349
abbrev Ui:FuncId:=350
abbrev M6:FuncId:=351
abbrev Uj:FuncId:=352
abbrev Uk:FuncId:=353
abbrev Pe:FuncId:=360
abbrev Ul:FuncId:=361
abbrev Abp:FuncId:=362
abbrev Abq:FuncId:=374
abbrev Abr:FuncId:=375
abbrev Abs:FuncId:=376
abbrev M7:FuncId:=380
abbrev Rm:FuncId:=381
abbrev Um:FuncId:=382
abbrev Un:FuncId:=391
abbrev Pf:FuncId:=392
end Go.Ab.Fn
namespace Go.Ab
open Go
abbrev O (k:IntKind) (n:Int):AV:=.val (.int k n)
abbrev Al (b:Bool):AV:=.val (.bool b)
abbrev Db (s:ByteArray):AV:=.val (.string s)
abbrev Ar {α:Type} (sz:Nat) (f:α->AV) (l:List α):AV:=.sl sz (l.map f)
abbrev Fx {α:Type} (sz:Nat) (g:List α->List AV) (l:List α):AV:=.sl sz (g l)
structure Ah where
 Kind:Int
 Num:Int
 Args:(List Ah)
mutual
def Abt:Ah->AV
 | ⟨x0,x1,x2⟩=>.agg [O .i64 x0,O .i64 x1,.sl 3 (Bh x2)]
def Bh:List Ah->List AV
 | []=>[]
 | x::xs=>Abt x::Bh xs
end
def Dc (x:Ah):AV:=.agg [O .i64 x.Kind,O .i64 x.Num,.sl 3 (Bh x.Args)]
theorem Apv (x:Ah):Abt x=Dc x:=by cases x; simp only [Abt,Dc]
theorem H8:∀l:List Ah,Bh l=l.map Dc
 | []=>rfl
 | x::xs=>by simp only [Bh,List.map_cons,Apv,H8 xs]
structure Ka where
 Name:ByteArray
 Args:(List Ah)
def Xj (x:Ka):AV:=.agg [Db x.Name,.sl 3 (Bh x.Args)]
structure Ay where
 Name:ByteArray
 Vars:Int
 Cons:(List Ka)
def Cf (x:Ay):AV:=.agg [Db x.Name,O .i64 x.Vars,.sl 2 (List.map Xj x.Cons)]
structure B5 where
 Data:(List Ay)
 Vars:(List Ah)
 Res:Ah
def F6 (x:B5):AV:=.agg [.sl 3 (List.map Cf x.Data),.sl 3 (Bh x.Vars),O .i64 x.Res.Kind,O .i64 x.Res.Num,.sl 3 (Bh x.Res.Args)]
structure A5 where
 Neg:Bool
 Num:(List Int)
 Den:(List Int)
def C7 (x:A5):AV:=.agg [Al x.Neg,.sl 1 (List.map (O .u32) x.Num),.sl 1 (List.map (O .u32) x.Den)]
structure A8 where
 Num:Int
 Kids:(List A8)
mutual
def Abu:A8->AV
 | ⟨x0,x1⟩=>.agg [O .i64 x0,.sl 2 (Gv x1)]
def Gv:List A8->List AV
 | []=>[]
 | x::xs=>Abu x::Gv xs
end
def Et (x:A8):AV:=.agg [O .i64 x.Num,.sl 2 (Gv x.Kids)]
theorem Apw (x:A8):Abu x=Et x:=by cases x; simp only [Abu,Et]
theorem Jd:∀l:List A8,Gv l=l.map Et
 | []=>rfl
 | x::xs=>by simp only [Gv,List.map_cons,Apw,Jd xs]
structure Cm where
 Var:Int
 Index:A8
def El (x:Cm):AV:=.agg [O .i64 x.Var,O .i64 x.Index.Num,.sl 2 (Gv x.Index.Kids)]
structure Dd where
 Var:Int
 Coef:Int
def Gb (x:Dd):AV:=.agg [O .i64 x.Var,O .i64 x.Coef]
structure Cu where
 Const:Int
 Terms:(List Dd)
def Gc (x:Cu):AV:=.agg [O .i64 x.Const,.sl 2 (List.map Gb x.Terms)]
structure Ca where
 Lin:Cu
 Deg:Int
def Ef (x:Ca):AV:=.agg [O .i64 x.Lin.Const,.sl 2 (List.map Gb x.Lin.Terms),O .i64 x.Deg]
structure Bb where
 Factors:(List Cm)
 Atoms:(List Ca)
def Ez (x:Bb):AV:=.agg [.sl 3 (List.map El x.Factors),.sl 3 (List.map Ef x.Atoms)]
structure Rn where
 Kind:Int
 Num:Int
 Kids:(List Rn)
mutual
def Abv:Rn->AV
 | ⟨x0,x1,x2⟩=>.agg [O .i64 x0,O .i64 x1,.sl 3 (Ro x2)]
def Ro:List Rn->List AV
 | []=>[]
 | x::xs=>Abv x::Ro xs
end
def Xk (x:Rn):AV:=.agg [O .i64 x.Kind,O .i64 x.Num,.sl 3 (Ro x.Kids)]
theorem Apx (x:Rn):Abv x=Xk x:=by cases x; simp only [Abv,Xk]
theorem Kb:∀l:List Rn,Ro l=l.map Xk
 | []=>rfl
 | x::xs=>by simp only [Ro,List.map_cons,Apx,Kb xs]
structure Aj where
 Coef:A5
 Mono:Bb
def Bj (x:Aj):AV:=.agg [Al x.Coef.Neg,.sl 1 (List.map (O .u32) x.Coef.Num),.sl 1 (List.map (O .u32) x.Coef.Den),.sl 3 (List.map El x.Mono.Factors),.sl 3 (List.map Ef x.Mono.Atoms)]
structure Agg where
 Name:ByteArray
 Params:(List Int)
 Captured:(List Int)
 Result:Ah
 Body:Int
def Pg (x:Agg):AV:=.agg [Db x.Name,.sl 1 (List.map (O .i64) x.Params),.sl 1 (List.map (O .i64) x.Captured),O .i64 x.Result.Kind,O .i64 x.Result.Num,.sl 3 (Bh x.Result.Args),O .i64 x.Body]
structure Agh where
 Op:Int
 Num:Int
 Vars:(List Int)
 Binds:(List (List Int))
 Kids:(List Int)
 Type_:Ah
def Ph (x:Agh):AV:=.agg [O .i64 x.Op,O .i64 x.Num,.sl 1 (List.map (O .i64) x.Vars),.sl 1 (List.map (Ar 1 (O .i64)) x.Binds),.sl 1 (List.map (O .i64) x.Kids),O .i64 x.Type_.Kind,O .i64 x.Type_.Num,.sl 3 (Bh x.Type_.Args)]
structure Ht where
 Data:(List Ay)
 Codes:(List Agg)
 Vars:(List Ah)
 Exprs:(List Agh)
def Pi (x:Ht):AV:=.agg [.sl 3 (List.map Cf x.Data),.sl 7 (List.map Pg x.Codes),.sl 3 (Bh x.Vars),.sl 8 (List.map Ph x.Exprs)]
structure Fr where
 neg:Bool
 n:(List Int)
 d:(List Int)
def M8 (x:Fr):AV:=.agg [Al x.neg,.sl 1 (List.map (O .u32) x.n),.sl 1 (List.map (O .u32) x.d)]
structure E5 where
 data:(List Ay)
 vars:Int
 left:Int
structure Dq where
 Index:A8
 Coef:A5
def Eg (x:Dq):AV:=.agg [O .i64 x.Index.Num,.sl 2 (Gv x.Index.Kids),Al x.Coef.Neg,.sl 1 (List.map (O .u32) x.Coef.Num),.sl 1 (List.map (O .u32) x.Coef.Den)]
structure G5 where
 Kind:Int
 Text:ByteArray
 Pos:Int
def Xl (x:G5):AV:=.agg [O .i64 x.Kind,Db x.Text,O .i64 x.Pos]
structure Hu where
 Kind:Int
 Text:ByteArray
 Pos:Int
def Abw (x:Hu):AV:=.agg [O .i64 x.Kind,Db x.Text,O .i64 x.Pos]
end Go.Ab
