/- Types and steps. -/
import Derived.Test.YtdifpebphbblaaaGreatDoorMnAb2
import Derived.Test.YtdifpebphbblaaaGreatDoorProg
import Derived.KernelRfl
namespace Go.Ab
open Go Go.Proofs Go.Proofs.Tryz
theorem κ {p:Prop} (h:p:=by kernel_rfl):p:=h
def Acv:Tr:=(.node (.node (.node (.node (.node (.node (.node .leaf 1 ⟨.other,1,8,[.nilFunc]⟩ .leaf) 2 ⟨.int .i64,1,8,[.int .i64 0]⟩ (.node .leaf 3 ⟨.int .i64,1,8,[.int .i64 0]⟩ .leaf)) 4 ⟨.bool,1,1,[.bool false]⟩ (.node (.node .leaf 5 ⟨.int .u8,1,1,[.int .u8 0]⟩ .leaf) 9 ⟨.string,1,16,[.string ⟨#[]⟩]⟩ .leaf)) 20 ⟨.other,1,16,[.nilIface]⟩ (.node (.node (.node .leaf 22 ⟨.slice 148,1,24,[.slice none 0 0]⟩ .leaf) 23 ⟨.slice 25,1,24,[.slice none 0 0]⟩ (.node .leaf 25 ⟨.struct [(0,1),(1,1),(2,1)],3,40,[.int .i64 0,.int .i64 0,.slice none 0 0]⟩ .leaf)) 27 ⟨.struct [(0,1),(1,1),(2,3)],5,88,[.slice none 0 0,.slice none 0 0,.int .i64 0,.int .i64 0,.slice none 0 0]⟩ (.node (.node .leaf 28 ⟨.slice 3,1,24,[.slice none 0 0]⟩ .leaf) 29 ⟨.slice 33,1,24,[.slice none 0 0]⟩ .leaf))) 31 ⟨.slice 110,1,24,[.slice none 0 0]⟩ (.node (.node (.node (.node .leaf 33 ⟨.struct [(0,1),(1,1)],2,32,[.int .i64 0,.slice none 0 0]⟩ .leaf) 35 ⟨.slice 43,1,24,[.slice none 0 0]⟩ (.node .leaf 36 ⟨.int .i64,1,8,[.int .i64 0]⟩ .leaf)) 40 ⟨.slice 62,1,24,[.slice none 0 0]⟩ (.node (.node .leaf 41 ⟨.slice 65,1,24,[.slice none 0 0]⟩ .leaf) 43 ⟨.struct [(0,1),(1,1)],2,48,[.slice none 0 0,.slice none 0 0]⟩ .leaf)) 46 ⟨.slice 47,1,24,[.slice none 0 0]⟩ (.node (.node (.node .leaf 47 ⟨.slice 89,1,24,[.slice none 0 0]⟩ .leaf) 50 ⟨.other,1,8,[.pointer none]⟩ .leaf) 53 ⟨.other,1,8,[.nilFunc]⟩ (.node (.node .leaf 55 ⟨.slice 60,1,24,[.slice none 0 0]⟩ .leaf) 60 ⟨.struct [(0,1),(1,1)],2,32,[.int .i64 0,.slice none 0 0]⟩ .leaf)))) 62 ⟨.struct [(0,1),(1,2)],3,40,[.int .i64 0,.int .i64 0,.slice none 0 0]⟩ (.node (.node (.node (.node (.node .leaf 65 ⟨.struct [(0,2),(2,1)],3,40,[.int .i64 0,.slice none 0 0,.int .i64 0]⟩ .leaf) 70 ⟨.other,1,8,[.nilFunc]⟩ (.node .leaf 76 ⟨.struct [(0,2),(2,1)],3,56,[.slice none 0 0,.slice none 0 0,.int .i64 0]⟩ .leaf)) 77 ⟨.slice 76,1,24,[.slice none 0 0]⟩ (.node (.node .leaf 85 ⟨.slice 144,1,24,[.slice none 0 0]⟩ .leaf) 87 ⟨.struct [(0,1),(1,1),(2,1)],3,56,[.bool false,.slice none 0 0,.slice none 0 0]⟩ .leaf)) 89 ⟨.struct [(0,3),(3,2)],5,104,[.bool false,.slice none 0 0,.slice none 0 0,.slice none 0 0,.slice none 0 0]⟩ (.node (.node (.node .leaf 96 ⟨.other,1,8,[.nilFunc]⟩ .leaf) 98 ⟨.slice 202,1,24,[.slice none 0 0]⟩ .leaf) 99 ⟨.slice 206,1,24,[.slice none 0 0]⟩ (.node (.node .leaf 101 ⟨.struct [(0,1),(1,1),(2,1),(3,1)],4,96,[.slice none 0 0,.slice none 0 0,.slice none 0 0,.slice none 0 0]⟩ .leaf) 103 ⟨.map 9 3,1,8,[.map none]⟩ .leaf))) 104 ⟨.map 9 257,1,8,[.map none]⟩ (.node (.node (.node (.node .leaf 106 ⟨.struct [(0,5),(5,1),(6,1)],7,104,[.slice none 0 0,.slice none 0 0,.int .i64 0,.int .i64 0,.slice none 0 0,.map none,.map none]⟩ .leaf) 110 ⟨.struct [(0,1),(1,1)],2,16,[.int .i64 0,.int .i64 0]⟩ (.node .leaf 112 ⟨.other,1,8,[.nilFunc]⟩ .leaf)) 115 ⟨.other,1,8,[.nilFunc]⟩ (.node (.node .leaf 117 ⟨.slice 55,1,24,[.slice none 0 0]⟩ .leaf) 121 ⟨.other,1,8,[.nilFunc]⟩ .leaf)) 127 ⟨.int .u64,1,8,[.int .u64 0]⟩ (.node (.node (.node .leaf 130 ⟨.other,1,8,[.nilFunc]⟩ .leaf) 132 ⟨.other,1,8,[.nilFunc]⟩ .leaf) 143 ⟨.int .u64,1,8,[.int .u64 0]⟩ (.node (.node .leaf 144 ⟨.int .u32,1,4,[.int .u32 0]⟩ .leaf) 146 ⟨.slice 150,1,24,[.slice none 0 0]⟩ .leaf))))) 148 ⟨.struct [(0,1),(1,1),(2,1)],3,48,[.string ⟨#[]⟩,.int .i64 0,.slice none 0 0]⟩ (.node (.node (.node (.node (.node (.node .leaf 150 ⟨.struct [(0,1),(1,1)],2,40,[.string ⟨#[]⟩,.slice none 0 0]⟩ .leaf) 152 ⟨.other,1,8,[.pointer none]⟩ (.node .leaf 153 ⟨.other,1,8,[.pointer none]⟩ .leaf)) 155 ⟨.struct [(0,1),(1,1),(2,1)],3,40,[.slice none 0 0,.int .i64 0,.int .i64 0]⟩ (.node (.node .leaf 159 ⟨.slice 117,1,24,[.slice none 0 0]⟩ .leaf) 167 ⟨.int .i64,1,8,[.int .i64 0]⟩ .leaf)) 178 ⟨.slice 9,1,24,[.slice none 0 0]⟩ (.node (.node (.node .leaf 189 ⟨.other,1,8,[.pointer none]⟩ .leaf) 198 ⟨.map 9 4,1,8,[.map none]⟩ .leaf) 202 ⟨.struct [(0,1),(1,1),(2,1),(3,3),(6,1)],7,112,[.string ⟨#[]⟩,.slice none 0 0,.slice none 0 0,.int .i64 0,.int .i64 0,.slice none 0 0,.int .i64 0]⟩ (.node (.node .leaf 203 ⟨.other,1,8,[.nilFunc]⟩ .leaf) 204 ⟨.slice 28,1,24,[.slice none 0 0]⟩ .leaf))) 206 ⟨.struct [(0,1),(1,1),(2,1),(3,1),(4,1),(5,3)],8,128,[.int .i64 0,.int .i64 0,.slice none 0 0,.slice none 0 0,.slice none 0 0,.int .i64 0,.int .i64 0,.slice none 0 0]⟩ (.node (.node (.node (.node .leaf 207 ⟨.slice 4,1,24,[.slice none 0 0]⟩ .leaf) 208 ⟨.other,1,8,[.nilFunc]⟩ (.node .leaf 209 ⟨.other,1,8,[.nilFunc]⟩ .leaf)) 210 ⟨.other,1,8,[.pointer none]⟩ (.node (.node .leaf 212 ⟨.struct [(0,4),(4,1)],5,120,[.slice none 0 0,.slice none 0 0,.slice none 0 0,.slice none 0 0,.slice none 0 0]⟩ .leaf) 214 ⟨.slice 144,1,24,[.slice none 0 0]⟩ .leaf)) 216 ⟨.struct [(0,1),(1,1),(2,1)],3,56,[.bool false,.slice none 0 0,.slice none 0 0]⟩ (.node (.node (.node .leaf 227 ⟨.slice 40,1,24,[.slice none 0 0]⟩ .leaf) 229 ⟨.slice 41,1,24,[.slice none 0 0]⟩ .leaf) 231 ⟨.int .u64,1,8,[.int .u64 0]⟩ (.node (.node .leaf 236 ⟨.other,1,8,[.pointer none]⟩ .leaf) 237 ⟨.slice 5,1,24,[.slice none 0 0]⟩ .leaf)))) 239 ⟨.struct [(0,1),(1,1)],2,32,[.pointer none,.slice none 0 0]⟩ (.node (.node (.node (.node (.node .leaf 241 ⟨.other,1,16,[.nilIface]⟩ .leaf) 248 ⟨.slice 252,1,24,[.slice none 0 0]⟩ (.node .leaf 252 ⟨.struct [(0,1),(1,1),(2,1)],3,32,[.int .i64 0,.string ⟨#[]⟩,.int .i64 0]⟩ .leaf)) 257 ⟨.slice 261,1,24,[.slice none 0 0]⟩ (.node (.node .leaf 261 ⟨.struct [(0,2),(2,3)],5,88,[.int .i64 0,.slice none 0 0,.bool false,.slice none 0 0,.slice none 0 0]⟩ .leaf) 266 ⟨.slice 87,1,24,[.slice none 0 0]⟩ .leaf)) 271 ⟨.struct [(0,1),(1,1)],2,32,[.map none,.slice none 0 0]⟩ (.node (.node (.node .leaf 273 ⟨.other,1,8,[.nilFunc]⟩ .leaf) 275 ⟨.other,1,8,[.nilFunc]⟩ .leaf) 281 ⟨.slice 284,1,24,[.slice none 0 0]⟩ (.node (.node .leaf 284 ⟨.struct [(0,1),(1,1),(2,1)],3,32,[.int .i64 0,.string ⟨#[]⟩,.int .i64 0]⟩ .leaf) 299 ⟨.other,1,8,[.pointer none]⟩ .leaf))) 303 ⟨.other,1,8,[.pointer none]⟩ (.node (.node (.node (.node .leaf 304 ⟨.other,1,8,[.nilFunc]⟩ .leaf) 321 ⟨.float .f64,1,8,[.float .f64 0]⟩ (.node .leaf 333 ⟨.other,1,8,[.pointer none]⟩ .leaf)) 341 ⟨.other,1,8,[.pointer none]⟩ (.node (.node .leaf 363 ⟨.other,1,8,[.nilFunc]⟩ .leaf) 378 ⟨.other,1,8,[.nilFunc]⟩ .leaf)) 381 ⟨.struct [(0,1),(1,3),(4,1),(5,1)],6,96,[.slice none 0 0,.int .i64 0,.int .i64 0,.slice none 0 0,.map none,.slice none 0 0]⟩ (.node (.node (.node .leaf 382 ⟨.slice 385,1,24,[.slice none 0 0]⟩ .leaf) 385 ⟨.struct [(0,1),(1,3)],4,80,[.slice none 0 0,.bool false,.slice none 0 0,.slice none 0 0]⟩ .leaf) 388 ⟨.slice 257,1,24,[.slice none 0 0]⟩ (.node (.node .leaf 390 ⟨.other,1,8,[.nilFunc]⟩ .leaf) 402 ⟨.other,1,8,[.nilFunc]⟩ .leaf))))))
def Cb:Cw:=Acv.find
theorem Atq:Acv.toList.map (λp=>Hw prog p.1)=Acv.toList.map (λp=>some p.2):=by kernel_rfl
theorem Ajg:C3 prog Cb:=Tr.ok Atq
theorem T3:prog.follows .mixedOrders=true:=by kernel_rfl
end Go.Ab
namespace Go.Ab.Fn
abbrev Uj:FuncId:=3
abbrev Uk:FuncId:=4
abbrev Rx:FuncId:=5
abbrev M7:FuncId:=6
abbrev M8:FuncId:=7
abbrev Ul:FuncId:=8
abbrev Yf:FuncId:=9
abbrev Um:FuncId:=10
abbrev Un:FuncId:=11
abbrev Oc:FuncId:=12
abbrev M9:FuncId:=13
abbrev Mc:FuncId:=14
abbrev Na:FuncId:=15
abbrev Kv:FuncId:=16
abbrev J5:FuncId:=17
abbrev Md:FuncId:=18
abbrev Me:FuncId:=19
abbrev Yg:FuncId:=20
abbrev Ll:FuncId:=22
abbrev J6:FuncId:=23
abbrev Mf:FuncId:=24
abbrev Nb:FuncId:=25
abbrev Ry:FuncId:=26
abbrev Uo:FuncId:=27
abbrev Nc:FuncId:=28
abbrev Rz:FuncId:=29
abbrev R1:FuncId:=30
abbrev Pr:FuncId:=31
abbrev Kw:FuncId:=32
abbrev Od:FuncId:=33
abbrev R2:FuncId:=34
abbrev Nd:FuncId:=35
abbrev Nf:FuncId:=36
abbrev Ps:FuncId:=37
abbrev Up:FuncId:=38
abbrev Acw:FuncId:=39
abbrev Acx:FuncId:=40
abbrev Acy:FuncId:=41
abbrev Acz:FuncId:=42
abbrev Uq:FuncId:=43
abbrev Ur:FuncId:=44
abbrev Us:FuncId:=45
abbrev Ut:FuncId:=46
abbrev R3:FuncId:=47
abbrev R4:FuncId:=48
abbrev Ng:FuncId:=49
abbrev Uu:FuncId:=50
abbrev R5:FuncId:=51
abbrev Uv:FuncId:=52
abbrev Yh:FuncId:=53
abbrev R6:FuncId:=54
abbrev Yi:FuncId:=55
abbrev Uw:FuncId:=56
abbrev Ux:FuncId:=57
abbrev Pt:FuncId:=58
abbrev Jg:FuncId:=59
abbrev R7:FuncId:=60
abbrev I5:FuncId:=61
abbrev Mg:FuncId:=62
abbrev Uy:FuncId:=63
abbrev R8:FuncId:=64
abbrev R9:FuncId:=66
abbrev Uz:FuncId:=67
abbrev J7:FuncId:=68
abbrev Yj:FuncId:=69
abbrev U1:FuncId:=70
abbrev Yk:FuncId:=71
abbrev U2:FuncId:=72
abbrev Nh:FuncId:=73
abbrev Yl:FuncId:=74
abbrev Sa:FuncId:=75
abbrev Mh:FuncId:=76
abbrev Pu:FuncId:=77
abbrev Pv:FuncId:=78
abbrev Sb:FuncId:=79
abbrev Ym:FuncId:=80
abbrev Oe:FuncId:=81
abbrev Of:FuncId:=82
abbrev Pw:FuncId:=83
abbrev Kx:FuncId:=84
abbrev Sc:FuncId:=85
abbrev Ac0:FuncId:=86
abbrev Yn:FuncId:=87
abbrev Yo:FuncId:=88
abbrev Px:FuncId:=89
abbrev U3:FuncId:=90
abbrev Og:FuncId:=91
abbrev U4:FuncId:=92
abbrev Ac1:FuncId:=93
abbrev Ac2:FuncId:=94
abbrev Ac3:FuncId:=95
abbrev Ac4:FuncId:=96
abbrev Ac5:FuncId:=97
abbrev Ac6:FuncId:=98
abbrev Lm:FuncId:=99
abbrev Ni:FuncId:=100
abbrev Mi:FuncId:=101
abbrev Ln:FuncId:=102
abbrev Sd:FuncId:=103
abbrev Yp:FuncId:=104
abbrev Yq:FuncId:=105
abbrev Lo:FuncId:=106
abbrev Se:FuncId:=107
abbrev U5:FuncId:=108
abbrev U6:FuncId:=109
abbrev Yr:FuncId:=110
abbrev Ys:FuncId:=111
abbrev Yt:FuncId:=121
abbrev Oh:FuncId:=122
abbrev Oi:FuncId:=123
abbrev Py:FuncId:=124
abbrev Oj:FuncId:=125
abbrev Sf:FuncId:=126
abbrev Nj:FuncId:=127
abbrev Ok:FuncId:=128
abbrev Jh:FuncId:=129
abbrev Nk:FuncId:=130
abbrev Ol:FuncId:=131
abbrev Sg:FuncId:=132
abbrev U7:FuncId:=133
abbrev Ac7:FuncId:=134
abbrev Jr:FuncId:=135
abbrev Ac8:FuncId:=136
abbrev Ac9:FuncId:=137
abbrev Ada:FuncId:=138
abbrev Yu:FuncId:=139
abbrev Adb:FuncId:=140
abbrev U8:FuncId:=141
abbrev Pz:FuncId:=142
abbrev P1:FuncId:=143
abbrev Om:FuncId:=144
abbrev Adc:FuncId:=145
abbrev Add:FuncId:=146
abbrev U9:FuncId:=153
abbrev Mj:FuncId:=154
abbrev Nl:FuncId:=155
abbrev Va:FuncId:=156
abbrev Vb:FuncId:=157
abbrev Sh:FuncId:=158
abbrev P2:FuncId:=159
abbrev Si:FuncId:=160
abbrev Yv:FuncId:=161
abbrev Yw:FuncId:=169
abbrev Yx:FuncId:=170
abbrev J8:FuncId:=176
abbrev Js:FuncId:=177
abbrev P3:FuncId:=178
abbrev Lp:FuncId:=179
abbrev P4:FuncId:=180
abbrev P5:FuncId:=181
abbrev Yy:FuncId:=182
abbrev P6:FuncId:=183
abbrev Vc:FuncId:=184
abbrev Ade:FuncId:=185
abbrev Adf:FuncId:=186
abbrev Adg:FuncId:=187
abbrev Adh:FuncId:=189
abbrev Adi:FuncId:=191
abbrev Adj:FuncId:=192
abbrev Adk:FuncId:=193
abbrev Yz:FuncId:=194
abbrev Adl:FuncId:=195
abbrev Vd:FuncId:=196
abbrev Adm:FuncId:=197
abbrev P7:FuncId:=198
abbrev Y0:FuncId:=199
abbrev Ve:FuncId:=200
abbrev Adn:FuncId:=201
abbrev Mk:FuncId:=202
abbrev Vf:FuncId:=203
abbrev Ado:FuncId:=204
abbrev Adp:FuncId:=205
abbrev Y1:FuncId:=206
abbrev Y2:FuncId:=207
abbrev Y3:FuncId:=208
abbrev P8:FuncId:=209
abbrev P9:FuncId:=210
abbrev Adq:FuncId:=211
abbrev Sj:FuncId:=222
abbrev Y4:FuncId:=223
abbrev Sk:FuncId:=224
abbrev Y5:FuncId:=225
abbrev Y6:FuncId:=230
abbrev Sl:FuncId:=232
abbrev Vg:FuncId:=233
abbrev Sm:FuncId:=234
abbrev Sn:FuncId:=235
abbrev Y7:FuncId:=236
abbrev Vh:FuncId:=237
abbrev Vi:FuncId:=238
abbrev On:FuncId:=239
abbrev So:FuncId:=240
abbrev Adr:FuncId:=241
abbrev Ky:FuncId:=243
abbrev Ads:FuncId:=244
abbrev Adt:FuncId:=245
abbrev Adu:FuncId:=246
abbrev Oo:FuncId:=247
abbrev Sp:FuncId:=248
abbrev Y8:FuncId:=249
abbrev Adv:FuncId:=250
abbrev Vj:FuncId:=251
abbrev Vk:FuncId:=252
abbrev Vl:FuncId:=253
abbrev Lq:FuncId:=257
abbrev Sq:FuncId:=258
abbrev Vm:FuncId:=259
abbrev Qa:FuncId:=260
abbrev Qb:FuncId:=261
abbrev Qc:FuncId:=262
abbrev Oq:FuncId:=263
abbrev Qd:FuncId:=267
abbrev Y9:FuncId:=268
abbrev Nm:FuncId:=278
abbrev Za:FuncId:=279
abbrev Adw:FuncId:=281
abbrev Vn:FuncId:=282
abbrev Adx:FuncId:=283
abbrev Ady:FuncId:=284
abbrev Adz:FuncId:=285
abbrev Vo:FuncId:=286
abbrev Ot:FuncId:=287
abbrev Vp:FuncId:=288
abbrev Sr:FuncId:=289
abbrev Ss:FuncId:=290
abbrev Ad0:FuncId:=291
abbrev Su:FuncId:=299
abbrev Qf:FuncId:=300
abbrev Vq:FuncId:=301
abbrev Sv:FuncId:=302
abbrev Vr:FuncId:=303
abbrev Ou:FuncId:=304
abbrev Vs:FuncId:=305
abbrev Vt:FuncId:=306
abbrev Sw:FuncId:=309
abbrev Sx:FuncId:=310
abbrev Sy:FuncId:=311
abbrev Vu:FuncId:=312
abbrev Zb:FuncId:=332
abbrev Ad1:FuncId:=333
end Go.Ab.Fn
namespace Go.Ab
open Go
abbrev Aa (k:IntKind) (n:Int):AV:=.val (.int k n)
abbrev An (b:Bool):AV:=.val (.bool b)
abbrev Ej (s:ByteArray):AV:=.val (.string s)
abbrev A3 {α:Type} (sz:Nat) (f:α->AV) (l:List α):AV:=.sl sz (l.map f)
abbrev Cd {α:Type} (sz:Nat) (g:List α->List AV) (l:List α):AV:=.sl sz (g l)
structure Ai where
 G:Int
 U:Int
 R:List Ai
mutual
def Ad2:Ai->AV
 | ⟨x0,x1,x2⟩=>.agg [Aa .i64 x0,Aa .i64 x1,.sl 3 (Bn x2)]
def Bn:List Ai->List AV
 | []=>[]
 | x::xs=>Ad2 x::Bn xs
end
def Dl (x:Ai):AV:=.agg [Aa .i64 x.G,Aa .i64 x.U,.sl 3 (Bn x.R)]
theorem Atr (x:Ai):Ad2 x=Dl x:=by cases x;simp only[Ad2,Dl]
theorem Ji:∀l:List Ai,Bn l=l.map Dl
 | []=>rfl
 | x::xs=>by simp only[Bn,List.map_cons,Atr,Ji xs]
structure Lr where
 S:ByteArray
 R:List Ai
def Zc (x:Lr):AV:=.agg [Ej x.S,.sl 3 (Bn x.R)]
structure Ao where
 S:ByteArray
 V:Int
 O:List Lr
def B7 (x:Ao):AV:=.agg [Ej x.S,Aa .i64 x.V,.sl 2 (List.map Zc x.O)]
structure B0 where
 D:List Ao
 V:List Ai
 E:Ai
def Jt (x:B0):AV:=.agg [.sl 3 (List.map B7 x.D),.sl 3 (Bn x.V),Aa .i64 x.E.G,Aa .i64 x.E.U,.sl 3 (Bn x.E.R)]
structure Gd where
 v:Int
 C:Int
def Iw (x:Gd):AV:=.agg [Aa .i64 x.v,Aa .i64 x.C]
structure Cm where
 Q:Int
 T:List Gd
def Ha (x:Cm):AV:=.agg [Aa .i64 x.Q,.sl 2 (List.map Iw x.T)]
structure Ae where
 U:Int
 K:List Ae
mutual
def Ad3:Ae->AV
 | ⟨x0,x1⟩=>.agg [Aa .i64 x0,.sl 2 (Au x1)]
def Au:List Ae->List AV
 | []=>[]
 | x::xs=>Ad3 x::Au xs
end
def De (x:Ae):AV:=.agg [Aa .i64 x.U,.sl 2 (Au x.K)]
theorem Ats (x:Ae):Ad3 x=De x:=by cases x;simp only[Ad3,De]
theorem Bo:∀l:List Ae,Au l=l.map De
 | []=>rfl
 | x::xs=>by simp only[Au,List.map_cons,Ats,Bo xs]
structure Cn where
 v:Int
 I:Ae
def Fh (x:Cn):AV:=.agg [Aa .i64 x.v,Aa .i64 x.I.U,.sl 2 (Au x.I.K)]
structure B8 where
 L:Cm
 P:Int
def Eu (x:B8):AV:=.agg [Aa .i64 x.L.Q,.sl 2 (List.map Iw x.L.T),Aa .i64 x.P]
structure Aq where
 F:List Cn
 A:List B8
def Dc (x:Aq):AV:=.agg [.sl 3 (List.map Fh x.F),.sl 3 (List.map Eu x.A)]
structure E3 where
 m:Aq
 d:Int
def Sz (x:E3):AV:=.agg [.sl 3 (List.map Fh x.m.F),.sl 3 (List.map Eu x.m.A),Aa .i64 x.d]
structure Bj where
 N:Bool
 U:List Int
 B:List Int
def Dm (x:Bj):AV:=.agg [An x.N,.sl 1 (List.map (Aa .u32) x.U),.sl 1 (List.map (Aa .u32) x.B)]
structure Bu where
 C:Bj
 M:Aq
def Ef (x:Bu):AV:=.agg [An x.C.N,.sl 1 (List.map (Aa .u32) x.C.U),.sl 1 (List.map (Aa .u32) x.C.B),.sl 3 (List.map Fh x.M.F),.sl 3 (List.map Eu x.M.A)]
structure Ajh where
 S:ByteArray
 Params:List Int
 Captured:List Int
 Result:Ai
 Body:Int
def Qg (x:Ajh):AV:=.agg [Ej x.S,.sl 1 (List.map (Aa .i64) x.Params),.sl 1 (List.map (Aa .i64) x.Captured),Aa .i64 x.Result.G,Aa .i64 x.Result.U,.sl 3 (Bn x.Result.R),Aa .i64 x.Body]
structure Aji where
 Op:Int
 U:Int
 V:List Int
 Binds:List (List Int)
 K:List Int
 Type_:Ai
def Qh (x:Aji):AV:=.agg [Aa .i64 x.Op,Aa .i64 x.U,.sl 1 (List.map (Aa .i64) x.V),.sl 1 (List.map (A3 1 (Aa .i64)) x.Binds),.sl 1 (List.map (Aa .i64) x.K),Aa .i64 x.Type_.G,Aa .i64 x.Type_.U,.sl 3 (Bn x.Type_.R)]
structure Jj where
 D:List Ao
 Codes:List Ajh
 V:List Ai
 Exprs:List Aji
def Qi (x:Jj):AV:=.agg [.sl 3 (List.map B7 x.D),.sl 7 (List.map Qg x.Codes),.sl 3 (Bn x.V),.sl 8 (List.map Qh x.Exprs)]
structure Gv where
 data:List Ao
 vars:Int
 left:Int
structure Hi where
 neg:Bool
 n:List Int
 d:List Int
def Ov (x:Hi):AV:=.agg [An x.neg,.sl 1 (List.map (Aa .u32) x.n),.sl 1 (List.map (Aa .u32) x.d)]
structure Jk where
 G:Int
 Text:ByteArray
 Pos:Int
def Ad4 (x:Jk):AV:=.agg [Aa .i64 x.G,Ej x.Text,Aa .i64 x.Pos]
structure Dq where
 I:Ae
 C:Bj
def Ev (x:Dq):AV:=.agg [Aa .i64 x.I.U,.sl 2 (Au x.I.K),An x.C.N,.sl 1 (List.map (Aa .u32) x.C.U),.sl 1 (List.map (Aa .u32) x.C.B)]
structure Ix where
 G:Int
 Text:ByteArray
 Pos:Int
def Zd (x:Ix):AV:=.agg [Aa .i64 x.G,Ej x.Text,Aa .i64 x.Pos]
end Go.Ab
