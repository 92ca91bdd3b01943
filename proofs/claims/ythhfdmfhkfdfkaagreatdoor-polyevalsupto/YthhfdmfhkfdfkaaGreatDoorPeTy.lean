/- The types that the program uses; plain types for its data. -/
import Derived.Test.YthhfdmfhkfdfkaaGreatDoorPeAb2
import Derived.Test.YthhfdmfhkfdfkaaGreatDoorProg
import Derived.KernelRfl
namespace Go.Ab
open Go Go.Proofs Go.Proofs.Tryz
theorem κ {p:Prop} (h:p:=by kernel_rfl):p:=h
def Ad4:Tr:=(.node (.node (.node (.node (.node (.node (.node .leaf 1 ⟨.other,1,8,[.nilFunc]⟩ .leaf) 2 ⟨.int .i64,1,8,[.int .i64 0]⟩ (.node .leaf 3 ⟨.int .i64,1,8,[.int .i64 0]⟩ .leaf)) 4 ⟨.bool,1,1,[.bool false]⟩ (.node (.node .leaf 5 ⟨.int .u8,1,1,[.int .u8 0]⟩ .leaf) 9 ⟨.string,1,16,[.string ⟨#[]⟩]⟩ .leaf)) 20 ⟨.other,1,16,[.nilIface]⟩ (.node (.node (.node .leaf 22 ⟨.slice 135,1,24,[.slice none 0 0]⟩ .leaf) 23 ⟨.slice 25,1,24,[.slice none 0 0]⟩ (.node .leaf 25 ⟨.struct [(0,1),(1,1),(2,1)],3,40,[.int .i64 0,.int .i64 0,.slice none 0 0]⟩ .leaf)) 27 ⟨.struct [(0,1),(1,1),(2,3)],5,88,[.slice none 0 0,.slice none 0 0,.int .i64 0,.int .i64 0,.slice none 0 0]⟩ (.node (.node .leaf 28 ⟨.slice 63,1,24,[.slice none 0 0]⟩ .leaf) 29 ⟨.slice 31,1,24,[.slice none 0 0]⟩ .leaf))) 31 ⟨.struct [(0,1),(1,1),(2,1)],3,40,[.int .i64 0,.int .i64 0,.slice none 0 0]⟩ (.node (.node (.node (.node .leaf 34 ⟨.slice 110,1,24,[.slice none 0 0]⟩ .leaf) 36 ⟨.struct [(0,1),(1,1),(2,1)],3,56,[.bool false,.slice none 0 0,.slice none 0 0]⟩ (.node .leaf 37 ⟨.int .i64,1,8,[.int .i64 0]⟩ .leaf)) 43 ⟨.slice 28,1,24,[.slice none 0 0]⟩ (.node (.node .leaf 47 ⟨.other,1,8,[.nilFunc]⟩ .leaf) 49 ⟨.other,1,8,[.pointer none]⟩ .leaf)) 52 ⟨.other,1,8,[.nilFunc]⟩ (.node (.node (.node .leaf 53 ⟨.slice 3,1,24,[.slice none 0 0]⟩ .leaf) 58 ⟨.slice 68,1,24,[.slice none 0 0]⟩ (.node .leaf 59 ⟨.slice 75,1,24,[.slice none 0 0]⟩ .leaf)) 61 ⟨.struct [(0,1),(1,1)],2,48,[.slice none 0 0,.slice none 0 0]⟩ (.node (.node .leaf 63 ⟨.struct [(0,3),(3,2)],5,104,[.bool false,.slice none 0 0,.slice none 0 0,.slice none 0 0,.slice none 0 0]⟩ .leaf) 64 ⟨.slice 66,1,24,[.slice none 0 0]⟩ .leaf)))) 66 ⟨.struct [(0,1),(1,1)],2,32,[.int .i64 0,.slice none 0 0]⟩ (.node (.node (.node (.node (.node .leaf 68 ⟨.struct [(0,1),(1,2)],3,40,[.int .i64 0,.int .i64 0,.slice none 0 0]⟩ .leaf) 70 ⟨.other,1,8,[.nilFunc]⟩ (.node .leaf 71 ⟨.slice 77,1,24,[.slice none 0 0]⟩ .leaf)) 73 ⟨.struct [(0,1),(1,1)],2,32,[.int .i64 0,.slice none 0 0]⟩ (.node (.node .leaf 75 ⟨.struct [(0,2),(2,1)],3,40,[.int .i64 0,.slice none 0 0,.int .i64 0]⟩ .leaf) 77 ⟨.struct [(0,1),(1,1)],2,16,[.int .i64 0,.int .i64 0]⟩ .leaf)) 91 ⟨.other,1,8,[.nilFunc]⟩ (.node (.node (.node .leaf 93 ⟨.other,1,8,[.pointer none]⟩ .leaf) 95 ⟨.slice 183,1,24,[.slice none 0 0]⟩ (.node .leaf 96 ⟨.slice 187,1,24,[.slice none 0 0]⟩ .leaf)) 98 ⟨.struct [(0,1),(1,1),(2,1),(3,1)],4,96,[.slice none 0 0,.slice none 0 0,.slice none 0 0,.slice none 0 0]⟩ (.node (.node .leaf 100 ⟨.map 9 3,1,8,[.map none]⟩ .leaf) 101 ⟨.map 9 249,1,8,[.map none]⟩ .leaf))) 103 ⟨.struct [(0,5),(5,1),(6,1)],7,104,[.slice none 0 0,.slice none 0 0,.int .i64 0,.int .i64 0,.slice none 0 0,.map none,.map none]⟩ (.node (.node (.node (.node .leaf 108 ⟨.slice 110,1,24,[.slice none 0 0]⟩ .leaf) 110 ⟨.int .u32,1,4,[.int .u32 0]⟩ (.node .leaf 112 ⟨.struct [(0,1),(1,1),(2,1)],3,56,[.bool false,.slice none 0 0,.slice none 0 0]⟩ .leaf)) 124 ⟨.int .u64,1,8,[.int .u64 0]⟩ (.node (.node .leaf 128 ⟨.slice 2,1,24,[.slice none 0 0]⟩ .leaf) 133 ⟨.slice 137,1,24,[.slice none 0 0]⟩ .leaf)) 135 ⟨.struct [(0,1),(1,1),(2,1)],3,48,[.string ⟨#[]⟩,.int .i64 0,.slice none 0 0]⟩ (.node (.node (.node .leaf 137 ⟨.struct [(0,1),(1,1)],2,40,[.string ⟨#[]⟩,.slice none 0 0]⟩ .leaf) 139 ⟨.other,1,8,[.pointer none]⟩ .leaf) 141 ⟨.struct [(0,1),(1,1),(2,1)],3,40,[.slice none 0 0,.int .i64 0,.int .i64 0]⟩ (.node (.node .leaf 145 ⟨.int .u64,1,8,[.int .u64 0]⟩ .leaf) 161 ⟨.slice 9,1,24,[.slice none 0 0]⟩ .leaf))))) 170 ⟨.other,1,8,[.nilFunc]⟩ (.node (.node (.node (.node (.node (.node .leaf 172 ⟨.other,1,8,[.nilFunc]⟩ .leaf) 174 ⟨.other,1,8,[.pointer none]⟩ (.node .leaf 179 ⟨.map 9 4,1,8,[.map none]⟩ .leaf)) 183 ⟨.struct [(0,1),(1,1),(2,1),(3,3),(6,1)],7,112,[.string ⟨#[]⟩,.slice none 0 0,.slice none 0 0,.int .i64 0,.int .i64 0,.slice none 0 0,.int .i64 0]⟩ (.node (.node .leaf 184 ⟨.other,1,8,[.nilFunc]⟩ .leaf) 185 ⟨.slice 53,1,24,[.slice none 0 0]⟩ .leaf)) 187 ⟨.struct [(0,1),(1,1),(2,1),(3,1),(4,1),(5,3)],8,128,[.int .i64 0,.int .i64 0,.slice none 0 0,.slice none 0 0,.slice none 0 0,.int .i64 0,.int .i64 0,.slice none 0 0]⟩ (.node (.node (.node .leaf 188 ⟨.slice 4,1,24,[.slice none 0 0]⟩ .leaf) 189 ⟨.other,1,8,[.nilFunc]⟩ (.node .leaf 190 ⟨.other,1,8,[.nilFunc]⟩ .leaf)) 191 ⟨.other,1,8,[.pointer none]⟩ (.node (.node .leaf 193 ⟨.struct [(0,4),(4,1)],5,120,[.slice none 0 0,.slice none 0 0,.slice none 0 0,.slice none 0 0,.slice none 0 0]⟩ .leaf) 201 ⟨.other,1,8,[.nilFunc]⟩ .leaf))) 202 ⟨.other,1,8,[.nilFunc]⟩ (.node (.node (.node (.node .leaf 204 ⟨.other,1,8,[.nilFunc]⟩ .leaf) 206 ⟨.int .i64,1,8,[.int .i64 0]⟩ (.node .leaf 218 ⟨.other,1,8,[.nilFunc]⟩ .leaf)) 225 ⟨.slice 227,1,24,[.slice none 0 0]⟩ (.node (.node .leaf 227 ⟨.struct [(0,1),(1,1),(2,1),(3,1)],4,80,[.int .i64 0,.slice none 0 0,.slice none 0 0,.slice none 0 0]⟩ .leaf) 229 ⟨.slice 36,1,24,[.slice none 0 0]⟩ .leaf)) 233 ⟨.slice 237,1,24,[.slice none 0 0]⟩ (.node (.node (.node .leaf 237 ⟨.struct [(0,1),(1,1),(2,1)],3,32,[.int .i64 0,.string ⟨#[]⟩,.int .i64 0]⟩ .leaf) 249 ⟨.slice 253,1,24,[.slice none 0 0]⟩ .leaf) 253 ⟨.struct [(0,2),(2,3)],5,88,[.int .i64 0,.slice none 0 0,.bool false,.slice none 0 0,.slice none 0 0]⟩ (.node (.node .leaf 261 ⟨.struct [(0,1),(1,1)],2,32,[.map none,.slice none 0 0]⟩ .leaf) 264 ⟨.other,1,8,[.nilFunc]⟩ .leaf)))) 266 ⟨.slice 269,1,24,[.slice none 0 0]⟩ (.node (.node (.node (.node (.node .leaf 269 ⟨.struct [(0,1),(1,1),(2,1)],3,32,[.int .i64 0,.string ⟨#[]⟩,.int .i64 0]⟩ .leaf) 282 ⟨.other,1,8,[.nilFunc]⟩ (.node .leaf 284 ⟨.int .u64,1,8,[.int .u64 0]⟩ .leaf)) 296 ⟨.slice 188,1,24,[.slice none 0 0]⟩ (.node (.node .leaf 297 ⟨.other,1,8,[.nilFunc]⟩ .leaf) 299 ⟨.other,1,8,[.nilFunc]⟩ .leaf)) 304 ⟨.float .f64,1,8,[.float .f64 0]⟩ (.node (.node (.node .leaf 309 ⟨.other,1,8,[.pointer none]⟩ .leaf) 310 ⟨.slice 5,1,24,[.slice none 0 0]⟩ (.node .leaf 312 ⟨.struct [(0,1),(1,1)],2,32,[.pointer none,.slice none 0 0]⟩ .leaf)) 314 ⟨.other,1,16,[.nilIface]⟩ (.node (.node .leaf 335 ⟨.other,1,8,[.pointer none]⟩ .leaf) 341 ⟨.other,1,8,[.pointer none]⟩ .leaf))) 344 ⟨.other,1,8,[.pointer none]⟩ (.node (.node (.node (.node .leaf 369 ⟨.other,1,8,[.nilFunc]⟩ .leaf) 371 ⟨.other,1,8,[.pointer none]⟩ (.node .leaf 376 ⟨.other,1,8,[.nilFunc]⟩ .leaf)) 378 ⟨.struct [(0,1),(1,3),(4,1),(5,1)],6,96,[.slice none 0 0,.int .i64 0,.int .i64 0,.slice none 0 0,.map none,.slice none 0 0]⟩ (.node (.node .leaf 379 ⟨.slice 382,1,24,[.slice none 0 0]⟩ .leaf) 382 ⟨.struct [(0,1),(1,3)],4,80,[.slice none 0 0,.bool false,.slice none 0 0,.slice none 0 0]⟩ .leaf)) 385 ⟨.slice 249,1,24,[.slice none 0 0]⟩ (.node (.node (.node .leaf 387 ⟨.other,1,8,[.nilFunc]⟩ .leaf) 389 ⟨.slice 58,1,24,[.slice none 0 0]⟩ .leaf) 391 ⟨.slice 59,1,24,[.slice none 0 0]⟩ (.node (.node .leaf 400 ⟨.other,1,8,[.nilFunc]⟩ .leaf) 409 ⟨.slice 64,1,24,[.slice none 0 0]⟩ .leaf))))))
def B3:Cl:=Ad4.find
theorem At7:Ad4.toList.map (λp=>Gy prog p.1)=Ad4.toList.map (λp=>some p.2):=κ
theorem Ajy:Cm prog B3:=Tr.ok At7
theorem Uw:prog.follows .mixedOrders=true:=κ
end Go.Ab
namespace Go.Ab.Fn
abbrev Zl:FuncId:=3
abbrev U6:FuncId:=4
abbrev U7:FuncId:=5
abbrev Sk:FuncId:=6
abbrev U8:FuncId:=7
abbrev Nz:FuncId:=8
abbrev Zm:FuncId:=9
abbrev U9:FuncId:=10
abbrev Va:FuncId:=11
abbrev Vb:FuncId:=12
abbrev Vc:FuncId:=13
abbrev P8:FuncId:=14
abbrev Lw:FuncId:=15
abbrev Jq:FuncId:=16
abbrev Sl:FuncId:=17
abbrev Ms:FuncId:=18
abbrev K4:FuncId:=19
abbrev Dn:FuncId:=20
abbrev P9:FuncId:=21
abbrev Ey:FuncId:=22
abbrev G9:FuncId:=23
abbrev N0:FuncId:=24
abbrev Vd:FuncId:=25
abbrev Ve:FuncId:=26
abbrev Lx:FuncId:=27
abbrev Qa:FuncId:=28
abbrev N1:FuncId:=29
abbrev F5:FuncId:=30
abbrev I7:FuncId:=31
abbrev Hn:FuncId:=32
abbrev Vf:FuncId:=33
abbrev Sn:FuncId:=34
abbrev Ad5:FuncId:=35
abbrev Ad6:FuncId:=36
abbrev Vg:FuncId:=37
abbrev Vh:FuncId:=38
abbrev Vi:FuncId:=39
abbrev Vj:FuncId:=40
abbrev So:FuncId:=41
abbrev N2:FuncId:=42
abbrev Qb:FuncId:=43
abbrev Ly:FuncId:=44
abbrev Vk:FuncId:=45
abbrev Vl:FuncId:=46
abbrev Sp:FuncId:=47
abbrev Zn:FuncId:=48
abbrev Lz:FuncId:=49
abbrev N3:FuncId:=50
abbrev Qc:FuncId:=51
abbrev L0:FuncId:=52
abbrev Zo:FuncId:=53
abbrev K6:FuncId:=54
abbrev J7:FuncId:=55
abbrev Mt:FuncId:=56
abbrev Sq:FuncId:=57
abbrev Hv:FuncId:=58
abbrev Qd:FuncId:=59
abbrev Mu:FuncId:=60
abbrev Vm:FuncId:=61
abbrev Vn:FuncId:=62
abbrev Qf:FuncId:=63
abbrev Sr:FuncId:=64
abbrev L1:FuncId:=65
abbrev L2:FuncId:=66
abbrev L3:FuncId:=67
abbrev Ij:FuncId:=68
abbrev K7:FuncId:=69
abbrev J8:FuncId:=70
abbrev I8:FuncId:=71
abbrev Vo:FuncId:=72
abbrev N4:FuncId:=73
abbrev N5:FuncId:=74
abbrev Vp:FuncId:=75
abbrev Vq:FuncId:=76
abbrev Ss:FuncId:=77
abbrev Mv:FuncId:=78
abbrev Qg:FuncId:=79
abbrev Ad7:FuncId:=80
abbrev Vr:FuncId:=81
abbrev Zp:FuncId:=82
abbrev N6:FuncId:=83
abbrev Vs:FuncId:=84
abbrev Ad8:FuncId:=85
abbrev Ad9:FuncId:=86
abbrev Aea:FuncId:=87
abbrev Aeb:FuncId:=88
abbrev Aec:FuncId:=89
abbrev Aed:FuncId:=90
abbrev K8:FuncId:=91
abbrev N7:FuncId:=92
abbrev L5:FuncId:=93
abbrev Su:FuncId:=94
abbrev N8:FuncId:=95
abbrev Aee:FuncId:=96
abbrev Zq:FuncId:=97
abbrev Vt:FuncId:=98
abbrev Vu:FuncId:=99
abbrev N9:FuncId:=100
abbrev Zr:FuncId:=101
abbrev Sv:FuncId:=102
abbrev Mw:FuncId:=103
abbrev Zs:FuncId:=104
abbrev Vv:FuncId:=105
abbrev Vx:FuncId:=106
abbrev Sw:FuncId:=107
abbrev Sx:FuncId:=108
abbrev I9:FuncId:=109
abbrev Vy:FuncId:=110
abbrev Qh:FuncId:=111
abbrev Sy:FuncId:=112
abbrev Vz:FuncId:=113
abbrev V1:FuncId:=114
abbrev Qi:FuncId:=115
abbrev V2:FuncId:=116
abbrev Sz:FuncId:=117
abbrev Qj:FuncId:=118
abbrev Mx:FuncId:=119
abbrev S0:FuncId:=120
abbrev L6:FuncId:=121
abbrev Oa:FuncId:=122
abbrev Qk:FuncId:=123
abbrev Zt:FuncId:=124
abbrev S3:FuncId:=125
abbrev V3:FuncId:=126
abbrev Ql:FuncId:=127
abbrev Ja:FuncId:=128
abbrev My:FuncId:=129
abbrev Ob:FuncId:=130
abbrev S4:FuncId:=131
abbrev S5:FuncId:=132
abbrev V4:FuncId:=133
abbrev Zu:FuncId:=134
abbrev S6:FuncId:=135
abbrev Qm:FuncId:=136
abbrev Aef:FuncId:=137
abbrev Zv:FuncId:=138
abbrev Zw:FuncId:=139
abbrev Zx:FuncId:=140
abbrev Qo:FuncId:=141
abbrev Qp:FuncId:=142
abbrev Oc:FuncId:=143
abbrev Aeg:FuncId:=144
abbrev Aeh:FuncId:=145
abbrev V5:FuncId:=152
abbrev V6:FuncId:=153
abbrev V7:FuncId:=154
abbrev L7:FuncId:=155
abbrev K9:FuncId:=156
abbrev J9:FuncId:=157
abbrev Zy:FuncId:=158
abbrev V8:FuncId:=159
abbrev L8:FuncId:=160
abbrev Od:FuncId:=161
abbrev Zz:FuncId:=162
abbrev V9:FuncId:=163
abbrev Aei:FuncId:=164
abbrev Aej:FuncId:=170
abbrev Aek:FuncId:=174
abbrev S7:FuncId:=175
abbrev Wa:FuncId:=176
abbrev S8:FuncId:=177
abbrev Oe:FuncId:=178
abbrev Of:FuncId:=179
abbrev Mz:FuncId:=180
abbrev Qq:FuncId:=181
abbrev Wb:FuncId:=182
abbrev Qs:FuncId:=183
abbrev Z0:FuncId:=184
abbrev Og:FuncId:=185
abbrev S9:FuncId:=186
abbrev M0:FuncId:=187
abbrev Wc:FuncId:=188
abbrev Ta:FuncId:=189
abbrev Qt:FuncId:=190
abbrev M1:FuncId:=191
abbrev Qu:FuncId:=192
abbrev Oh:FuncId:=193
abbrev Z1:FuncId:=194
abbrev M2:FuncId:=195
abbrev Wd:FuncId:=196
abbrev We:FuncId:=197
abbrev M3:FuncId:=198
abbrev Wf:FuncId:=199
abbrev Oi:FuncId:=200
abbrev Tb:FuncId:=201
abbrev Wg:FuncId:=202
abbrev Tc:FuncId:=203
abbrev Z2:FuncId:=204
abbrev Z3:FuncId:=205
abbrev Z4:FuncId:=206
abbrev Ael:FuncId:=207
abbrev Z5:FuncId:=209
abbrev Z6:FuncId:=211
abbrev Z7:FuncId:=212
abbrev Aem:FuncId:=213
abbrev Wh:FuncId:=214
abbrev Z8:FuncId:=215
abbrev Aen:FuncId:=216
abbrev Z9:FuncId:=217
abbrev Wi:FuncId:=218
abbrev Aeo:FuncId:=219
abbrev Aaa:FuncId:=220
abbrev Qv:FuncId:=221
abbrev Aep:FuncId:=222
abbrev Qw:FuncId:=233
abbrev Oj:FuncId:=234
abbrev Aab:FuncId:=235
abbrev Wj:FuncId:=236
abbrev Wk:FuncId:=237
abbrev Qx:FuncId:=238
abbrev Wl:FuncId:=239
abbrev Td:FuncId:=245
abbrev Qy:FuncId:=246
abbrev Te:FuncId:=247
abbrev Wm:FuncId:=248
abbrev Ok:FuncId:=249
abbrev Tf:FuncId:=250
abbrev Qz:FuncId:=251
abbrev Ol:FuncId:=252
abbrev Q2:FuncId:=253
abbrev Tg:FuncId:=254
abbrev Wn:FuncId:=255
abbrev Wo:FuncId:=256
abbrev Th:FuncId:=257
abbrev Ti:FuncId:=258
abbrev Aac:FuncId:=259
abbrev Wp:FuncId:=260
abbrev Wq:FuncId:=261
abbrev Q3:FuncId:=262
abbrev Wr:FuncId:=263
abbrev Tj:FuncId:=264
abbrev Ws:FuncId:=265
abbrev Aeq:FuncId:=266
abbrev Jr:FuncId:=267
abbrev La:FuncId:=268
abbrev Aer:FuncId:=270
abbrev Aes:FuncId:=271
abbrev Aet:FuncId:=272
abbrev Jb:FuncId:=273
abbrev Tk:FuncId:=274
abbrev Aeu:FuncId:=275
abbrev Aev:FuncId:=276
abbrev Wt:FuncId:=277
abbrev Wu:FuncId:=278
abbrev Wv:FuncId:=279
abbrev Q4:FuncId:=283
abbrev Q5:FuncId:=284
abbrev Q6:FuncId:=285
abbrev Aad:FuncId:=286
abbrev Om:FuncId:=288
abbrev Tl:FuncId:=289
abbrev Aae:FuncId:=290
abbrev Aaf:FuncId:=292
abbrev Aew:FuncId:=300
abbrev Aex:FuncId:=301
abbrev Aag:FuncId:=302
abbrev Ww:FuncId:=304
abbrev Aey:FuncId:=305
abbrev Aez:FuncId:=306
abbrev Ae0:FuncId:=307
abbrev Wx:FuncId:=309
abbrev On:FuncId:=310
abbrev Ae1:FuncId:=311
abbrev Wy:FuncId:=319
abbrev Ae2:FuncId:=320
abbrev Tm:FuncId:=321
abbrev Q7:FuncId:=322
abbrev Wz:FuncId:=323
abbrev Tn:FuncId:=324
abbrev W0:FuncId:=325
abbrev Oo:FuncId:=326
abbrev W1:FuncId:=327
abbrev W2:FuncId:=328
abbrev To:FuncId:=331
abbrev Ae3:FuncId:=345
abbrev Ae4:FuncId:=346
abbrev Ae5:FuncId:=348
end Go.Ab.Fn
namespace Go.Ab
open Go
abbrev O (k:IntKind) (n:Int):AV:=.val (.int k n)
abbrev Ak (b:Bool):AV:=.val (.bool b)
abbrev Du (s:ByteArray):AV:=.val (.string s)
abbrev Au {α:Type} (sz:Nat) (f:α->AV) (l:List α):AV:=.sl sz (l.map f)
abbrev Dh {α:Type} (sz:Nat) (g:List α->List AV) (l:List α):AV:=.sl sz (g l)
structure Ag where
 Kind:Int
 Num:Int
 Args:(List Ag)
mutual
def Ae6:Ag->AV
 | ⟨x0,x1,x2⟩=>.agg [O .i64 x0,O .i64 x1,.sl 3 (Bd x2)]
def Bd:List Ag->List AV
 | []=>[]
 | x::xs=>Ae6 x::Bd xs
end
def Cw (x:Ag):AV:=.agg [O .i64 x.Kind,O .i64 x.Num,.sl 3 (Bd x.Args)]
theorem At8 (x:Ag):Ae6 x=Cw x:=by cases x; simp only [Ae6,Cw]
theorem Jc:∀l:List Ag,Bd l=l.map Cw
 | []=>rfl
 | x::xs=>by simp only [Bd,List.map_cons,At8,Jc xs]
structure Lb where
 Name:ByteArray
 Args:(List Ag)
def Aah (x:Lb):AV:=.agg [Du x.Name,.sl 3 (Bd x.Args)]
structure Ao where
 Name:ByteArray
 Vars:Int
 Cons:(List Lb)
def Bp (x:Ao):AV:=.agg [Du x.Name,O .i64 x.Vars,.sl 2 (List.map Aah x.Cons)]
structure B8 where
 Data:(List Ao)
 Vars:(List Ag)
 Res:Ag
def Hw (x:B8):AV:=.agg [.sl 3 (List.map Bp x.Data),.sl 3 (Bd x.Vars),O .i64 x.Res.Kind,O .i64 x.Res.Num,.sl 3 (Bd x.Res.Args)]
structure Ar where
 Kind:Int
 Num:Int
 Kids:(List Ar)
mutual
def Ae7:Ar->AV
 | ⟨x0,x1,x2⟩=>.agg [O .i64 x0,O .i64 x1,.sl 3 (D1 x2)]
def D1:List Ar->List AV
 | []=>[]
 | x::xs=>Ae7 x::D1 xs
end
def Dx (x:Ar):AV:=.agg [O .i64 x.Kind,O .i64 x.Num,.sl 3 (D1 x.Kids)]
theorem At9 (x:Ar):Ae7 x=Dx x:=by cases x; simp only [Ae7,Dx]
theorem Ik:∀l:List Ar,D1 l=l.map Dx
 | []=>rfl
 | x::xs=>by simp only [D1,List.map_cons,At9,Ik xs]
structure Ai where
 Neg:Bool
 Num:(List Int)
 Den:(List Int)
def Bm (x:Ai):AV:=.agg [Ak x.Neg,.sl 1 (List.map (O .u32) x.Num),.sl 1 (List.map (O .u32) x.Den)]
structure A3 where
 Num:Int
 Kids:(List A3)
mutual
def Ae8:A3->AV
 | ⟨x0,x1⟩=>.agg [O .i64 x0,.sl 2 (Ha x1)]
def Ha:List A3->List AV
 | []=>[]
 | x::xs=>Ae8 x::Ha xs
end
def Fc (x:A3):AV:=.agg [O .i64 x.Num,.sl 2 (Ha x.Kids)]
theorem Aua (x:A3):Ae8 x=Fc x:=by cases x; simp only [Ae8,Fc]
theorem Ka:∀l:List A3,Ha l=l.map Fc
 | []=>rfl
 | x::xs=>by simp only [Ha,List.map_cons,Aua,Ka xs]
structure Cn where
 Var:Int
 Index:A3
def Fd (x:Cn):AV:=.agg [O .i64 x.Var,O .i64 x.Index.Num,.sl 2 (Ha x.Index.Kids)]
structure Dv where
 Var:Int
 Coef:Int
def Hb (x:Dv):AV:=.agg [O .i64 x.Var,O .i64 x.Coef]
structure De where
 Const:Int
 Terms:(List Dv)
def H8 (x:De):AV:=.agg [O .i64 x.Const,.sl 2 (List.map Hb x.Terms)]
structure Cb where
 Lin:De
 Deg:Int
def Eh (x:Cb):AV:=.agg [O .i64 x.Lin.Const,.sl 2 (List.map Hb x.Lin.Terms),O .i64 x.Deg]
structure Bw where
 Factors:(List Cn)
 Atoms:(List Cb)
def Gm (x:Bw):AV:=.agg [.sl 3 (List.map Fd x.Factors),.sl 3 (List.map Eh x.Atoms)]
structure A5 where
 Coef:Ai
 Mono:Bw
def Cr (x:A5):AV:=.agg [Ak x.Coef.Neg,.sl 1 (List.map (O .u32) x.Coef.Num),.sl 1 (List.map (O .u32) x.Coef.Den),.sl 3 (List.map Fd x.Mono.Factors),.sl 3 (List.map Eh x.Mono.Atoms)]
structure Ajz where
 Name:ByteArray
 Params:(List Int)
 Captured:(List Int)
 Result:Ag
 Body:Int
def Q8 (x:Ajz):AV:=.agg [Du x.Name,.sl 1 (List.map (O .i64) x.Params),.sl 1 (List.map (O .i64) x.Captured),O .i64 x.Result.Kind,O .i64 x.Result.Num,.sl 3 (Bd x.Result.Args),O .i64 x.Body]
structure Aj0 where
 Op:Int
 Num:Int
 Vars:(List Int)
 Binds:(List (List Int))
 Kids:(List Int)
 Type_:Ag
def Q9 (x:Aj0):AV:=.agg [O .i64 x.Op,O .i64 x.Num,.sl 1 (List.map (O .i64) x.Vars),.sl 1 (List.map (Au 1 (O .i64)) x.Binds),.sl 1 (List.map (O .i64) x.Kids),O .i64 x.Type_.Kind,O .i64 x.Type_.Num,.sl 3 (Bd x.Type_.Args)]
structure Iw where
 Data:(List Ao)
 Codes:(List Ajz)
 Vars:(List Ag)
 Exprs:(List Aj0)
def Ra (x:Iw):AV:=.agg [.sl 3 (List.map Bp x.Data),.sl 7 (List.map Q8 x.Codes),.sl 3 (Bd x.Vars),.sl 8 (List.map Q9 x.Exprs)]
structure Gn where
 neg:Bool
 n:(List Int)
 d:(List Int)
def Oq (x:Gn):AV:=.agg [Ak x.neg,.sl 1 (List.map (O .u32) x.n),.sl 1 (List.map (O .u32) x.d)]
structure F6 where
 data:(List Ao)
 vars:Int
 left:Int
structure W3 where
 con:Int
 kids:(List A3)
 places:(List Int)
 types:(List Ag)
def Aub (x:W3):AV:=.agg [O .i64 x.con,.sl 2 (Ha x.kids),.sl 1 (List.map (O .i64) x.places),.sl 3 (Bd x.types)]
structure Ix where
 Kind:Int
 Text:ByteArray
 Pos:Int
def Ae9 (x:Ix):AV:=.agg [O .i64 x.Kind,Du x.Text,O .i64 x.Pos]
structure D2 where
 Index:A3
 Coef:Ai
def E9 (x:D2):AV:=.agg [O .i64 x.Index.Num,.sl 2 (Ha x.Index.Kids),Ak x.Coef.Neg,.sl 1 (List.map (O .u32) x.Coef.Num),.sl 1 (List.map (O .u32) x.Coef.Den)]
structure H9 where
 Kind:Int
 Text:ByteArray
 Pos:Int
def Aai (x:H9):AV:=.agg [O .i64 x.Kind,Du x.Text,O .i64 x.Pos]
end Go.Ab
