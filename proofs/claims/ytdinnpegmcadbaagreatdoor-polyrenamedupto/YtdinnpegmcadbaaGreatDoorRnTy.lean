/- Types and steps. -/
import Derived.Test.YtdinnpegmcadbaaGreatDoorRnAb2
import Derived.Test.YtdinnpegmcadbaaGreatDoorProg
import Derived.KernelRfl
namespace Go.Ab
open Go Go.Proofs Go.Proofs.Tryz
theorem κ {p:Prop} (h:p:=by kernel_rfl):p:=h
def Aj3:Tr:=(.node (.node (.node (.node (.node (.node (.node .leaf 1 ⟨.other,1,8,[.nilFunc]⟩ .leaf) 2 ⟨.int .i64,1,8,[.int .i64 0]⟩ (.node .leaf 3 ⟨.int .i64,1,8,[.int .i64 0]⟩ .leaf)) 4 ⟨.bool,1,1,[.bool false]⟩ (.node (.node .leaf 5 ⟨.int .u8,1,1,[.int .u8 0]⟩ .leaf) 9 ⟨.string,1,16,[.string ⟨#[]⟩]⟩ .leaf)) 20 ⟨.other,1,16,[.nilIface]⟩ (.node (.node (.node .leaf 22 ⟨.slice 158,1,24,[.slice none 0 0]⟩ .leaf) 23 ⟨.slice 25,1,24,[.slice none 0 0]⟩ (.node .leaf 25 ⟨.struct [(0,1),(1,1),(2,1)],3,40,[.int .i64 0,.int .i64 0,.slice none 0 0]⟩ .leaf)) 27 ⟨.struct [(0,1),(1,1),(2,3)],5,88,[.slice none 0 0,.slice none 0 0,.int .i64 0,.int .i64 0,.slice none 0 0]⟩ (.node (.node .leaf 28 ⟨.slice 88,1,24,[.slice none 0 0]⟩ .leaf) 29 ⟨.slice 3,1,24,[.slice none 0 0]⟩ .leaf))) 30 ⟨.slice 32,1,24,[.slice none 0 0]⟩ (.node (.node (.node (.node .leaf 32 ⟨.struct [(0,1),(1,1),(2,1)],3,40,[.int .i64 0,.int .i64 0,.slice none 0 0]⟩ .leaf) 35 ⟨.int .i64,1,8,[.int .i64 0]⟩ (.node .leaf 43 ⟨.slice 141,1,24,[.slice none 0 0]⟩ .leaf)) 45 ⟨.struct [(0,1),(1,1),(2,1)],3,56,[.bool false,.slice none 0 0,.slice none 0 0]⟩ (.node (.node .leaf 50 ⟨.slice 28,1,24,[.slice none 0 0]⟩ .leaf) 54 ⟨.other,1,8,[.nilFunc]⟩ .leaf)) 56 ⟨.other,1,8,[.pointer none]⟩ (.node (.node (.node .leaf 62 ⟨.other,1,8,[.nilFunc]⟩ .leaf) 63 ⟨.slice 68,1,24,[.slice none 0 0]⟩ (.node .leaf 64 ⟨.other,1,8,[.nilFunc]⟩ .leaf)) 66 ⟨.slice 99,1,24,[.slice none 0 0]⟩ (.node (.node .leaf 68 ⟨.struct [(0,1),(1,1)],2,32,[.int .i64 0,.slice none 0 0]⟩ .leaf) 70 ⟨.slice 72,1,24,[.slice none 0 0]⟩ .leaf)))) 72 ⟨.struct [(0,1),(1,1)],2,32,[.int .i64 0,.slice none 0 0]⟩ (.node (.node (.node (.node (.node .leaf 74 ⟨.struct [(0,1),(1,2)],3,40,[.int .i64 0,.int .i64 0,.slice none 0 0]⟩ .leaf) 75 ⟨.slice 86,1,24,[.slice none 0 0]⟩ (.node .leaf 77 ⟨.other,1,8,[.nilFunc]⟩ .leaf)) 79 ⟨.other,1,8,[.nilFunc]⟩ (.node (.node .leaf 80 ⟨.other,1,8,[.nilFunc]⟩ .leaf) 83 ⟨.slice 74,1,24,[.slice none 0 0]⟩ .leaf)) 84 ⟨.slice 97,1,24,[.slice none 0 0]⟩ (.node (.node (.node .leaf 86 ⟨.struct [(0,1),(1,1)],2,48,[.slice none 0 0,.slice none 0 0]⟩ .leaf) 88 ⟨.struct [(0,3),(3,2)],5,104,[.bool false,.slice none 0 0,.slice none 0 0,.slice none 0 0,.slice none 0 0]⟩ (.node .leaf 91 ⟨.other,1,8,[.nilFunc]⟩ .leaf)) 95 ⟨.other,1,8,[.nilFunc]⟩ (.node (.node .leaf 97 ⟨.struct [(0,2),(2,1)],3,40,[.int .i64 0,.slice none 0 0,.int .i64 0]⟩ .leaf) 99 ⟨.struct [(0,1),(1,1)],2,16,[.int .i64 0,.int .i64 0]⟩ .leaf))) 106 ⟨.other,1,8,[.nilFunc]⟩ (.node (.node (.node (.node .leaf 108 ⟨.other,1,8,[.pointer none]⟩ .leaf) 110 ⟨.slice 234,1,24,[.slice none 0 0]⟩ (.node .leaf 111 ⟨.slice 236,1,24,[.slice none 0 0]⟩ .leaf)) 113 ⟨.struct [(0,1),(1,1),(2,1),(3,1)],4,96,[.slice none 0 0,.slice none 0 0,.slice none 0 0,.slice none 0 0]⟩ (.node (.node .leaf 115 ⟨.map 9 3,1,8,[.map none]⟩ .leaf) 116 ⟨.map 9 185,1,8,[.map none]⟩ .leaf)) 118 ⟨.struct [(0,5),(5,1),(6,1)],7,104,[.slice none 0 0,.slice none 0 0,.int .i64 0,.int .i64 0,.slice none 0 0,.map none,.map none]⟩ (.node (.node (.node .leaf 122 ⟨.int .u64,1,8,[.int .u64 0]⟩ .leaf) 123 ⟨.slice 29,1,24,[.slice none 0 0]⟩ (.node .leaf 126 ⟨.other,1,8,[.nilFunc]⟩ .leaf)) 127 ⟨.other,1,8,[.pointer none]⟩ (.node (.node .leaf 136 ⟨.other,1,8,[.nilFunc]⟩ .leaf) 140 ⟨.int .u64,1,8,[.int .u64 0]⟩ .leaf))))) 141 ⟨.int .u32,1,4,[.int .u32 0]⟩ (.node (.node (.node (.node (.node (.node .leaf 143 ⟨.slice 141,1,24,[.slice none 0 0]⟩ .leaf) 146 ⟨.struct [(0,1),(1,1),(2,1)],3,56,[.bool false,.slice none 0 0,.slice none 0 0]⟩ (.node .leaf 156 ⟨.slice 160,1,24,[.slice none 0 0]⟩ .leaf)) 158 ⟨.struct [(0,1),(1,1),(2,1)],3,48,[.string ⟨#[]⟩,.int .i64 0,.slice none 0 0]⟩ (.node (.node .leaf 160 ⟨.struct [(0,1),(1,1)],2,40,[.string ⟨#[]⟩,.slice none 0 0]⟩ .leaf) 162 ⟨.other,1,8,[.pointer none]⟩ .leaf)) 164 ⟨.struct [(0,1),(1,1),(2,1)],3,40,[.slice none 0 0,.int .i64 0,.int .i64 0]⟩ (.node (.node (.node .leaf 168 ⟨.int .i64,1,8,[.int .i64 0]⟩ .leaf) 179 ⟨.struct [(0,1),(1,1)],2,32,[.map none,.slice none 0 0]⟩ (.node .leaf 184 ⟨.other,1,8,[.nilFunc]⟩ .leaf)) 185 ⟨.slice 189,1,24,[.slice none 0 0]⟩ (.node (.node .leaf 189 ⟨.struct [(0,2),(2,3)],5,88,[.int .i64 0,.slice none 0 0,.bool false,.slice none 0 0,.slice none 0 0]⟩ .leaf) 195 ⟨.other,1,8,[.nilFunc]⟩ .leaf))) 196 ⟨.slice 45,1,24,[.slice none 0 0]⟩ (.node (.node (.node (.node .leaf 201 ⟨.other,1,8,[.nilFunc]⟩ .leaf) 204 ⟨.other,1,8,[.nilFunc]⟩ (.node .leaf 209 ⟨.other,1,8,[.nilFunc]⟩ .leaf)) 229 ⟨.map 9 4,1,8,[.map none]⟩ (.node (.node .leaf 234 ⟨.struct [(0,1),(1,1),(2,1),(3,3),(6,1)],7,112,[.string ⟨#[]⟩,.slice none 0 0,.slice none 0 0,.int .i64 0,.int .i64 0,.slice none 0 0,.int .i64 0]⟩ .leaf) 236 ⟨.struct [(0,1),(1,1),(2,1),(3,1),(4,1),(5,3)],8,128,[.int .i64 0,.int .i64 0,.slice none 0 0,.slice none 0 0,.slice none 0 0,.int .i64 0,.int .i64 0,.slice none 0 0]⟩ .leaf)) 237 ⟨.slice 4,1,24,[.slice none 0 0]⟩ (.node (.node (.node .leaf 238 ⟨.other,1,8,[.nilFunc]⟩ .leaf) 239 ⟨.other,1,8,[.pointer none]⟩ (.node .leaf 241 ⟨.struct [(0,4),(4,1)],5,120,[.slice none 0 0,.slice none 0 0,.slice none 0 0,.slice none 0 0,.slice none 0 0]⟩ .leaf)) 248 ⟨.other,1,8,[.nilFunc]⟩ (.node (.node .leaf 250 ⟨.int .u64,1,8,[.int .u64 0]⟩ .leaf) 255 ⟨.slice 83,1,24,[.slice none 0 0]⟩ .leaf)))) 257 ⟨.slice 84,1,24,[.slice none 0 0]⟩ (.node (.node (.node (.node (.node .leaf 260 ⟨.other,1,8,[.pointer none]⟩ .leaf) 261 ⟨.slice 5,1,24,[.slice none 0 0]⟩ (.node .leaf 263 ⟨.struct [(0,1),(1,1)],2,32,[.pointer none,.slice none 0 0]⟩ .leaf)) 265 ⟨.other,1,16,[.nilIface]⟩ (.node (.node .leaf 275 ⟨.other,1,8,[.nilFunc]⟩ .leaf) 292 ⟨.other,1,8,[.nilFunc]⟩ .leaf)) 300 ⟨.slice 302,1,24,[.slice none 0 0]⟩ (.node (.node (.node .leaf 302 ⟨.struct [(0,1),(1,1),(2,1),(3,1)],4,80,[.int .i64 0,.slice none 0 0,.slice none 0 0,.slice none 0 0]⟩ .leaf) 305 ⟨.slice 309,1,24,[.slice none 0 0]⟩ (.node .leaf 309 ⟨.struct [(0,1),(1,1),(2,1)],3,32,[.int .i64 0,.string ⟨#[]⟩,.int .i64 0]⟩ .leaf)) 319 ⟨.other,1,8,[.pointer none]⟩ (.node (.node .leaf 325 ⟨.other,1,8,[.pointer none]⟩ .leaf) 328 ⟨.other,1,8,[.pointer none]⟩ .leaf))) 348 ⟨.float .f64,1,8,[.float .f64 0]⟩ (.node (.node (.node (.node .leaf 356 ⟨.slice 237,1,24,[.slice none 0 0]⟩ .leaf) 357 ⟨.other,1,8,[.nilFunc]⟩ (.node .leaf 358 ⟨.other,1,8,[.nilFunc]⟩ .leaf)) 365 ⟨.other,1,8,[.pointer none]⟩ (.node (.node .leaf 371 ⟨.other,1,8,[.nilFunc]⟩ .leaf) 373 ⟨.struct [(0,1),(1,3),(4,1),(5,1)],6,96,[.slice none 0 0,.int .i64 0,.int .i64 0,.slice none 0 0,.map none,.slice none 0 0]⟩ .leaf)) 374 ⟨.slice 377,1,24,[.slice none 0 0]⟩ (.node (.node (.node .leaf 377 ⟨.struct [(0,1),(1,3)],4,80,[.slice none 0 0,.bool false,.slice none 0 0,.slice none 0 0]⟩ .leaf) 380 ⟨.slice 185,1,24,[.slice none 0 0]⟩ (.node .leaf 382 ⟨.other,1,8,[.nilFunc]⟩ .leaf)) 395 ⟨.other,1,8,[.nilFunc]⟩ (.node (.node .leaf 400 ⟨.other,1,8,[.nilFunc]⟩ .leaf) 411 ⟨.slice 70,1,24,[.slice none 0 0]⟩ .leaf))))))
def Cl:Dq:=Aj3.find
theorem A2i:Aj3.toList.map (λp=>I5 prog p.1)=Aj3.toList.map (λp=>some p.2):=by kernel_rfl
theorem Ap8:Dt prog Cl:=Tr.ok A2i
theorem Yu:prog.follows .mixedOrders=true:=by kernel_rfl
end Go.Ab
namespace Go.Ab.Fn
abbrev Aea:FuncId:=3
abbrev Y5:FuncId:=4
abbrev Y6:FuncId:=5
abbrev Y7:FuncId:=6
abbrev Tl:FuncId:=7
abbrev Oq:FuncId:=8
abbrev Wb:FuncId:=9
abbrev Ri:FuncId:=10
abbrev Tn:FuncId:=11
abbrev Y8:FuncId:=12
abbrev Y9:FuncId:=13
abbrev Za:FuncId:=14
abbrev Zb:FuncId:=15
abbrev To:FuncId:=16
abbrev Nv:FuncId:=17
abbrev Rj:FuncId:=18
abbrev Tp:FuncId:=19
abbrev Rk:FuncId:=20
abbrev Aeb:FuncId:=21
abbrev Px:FuncId:=22
abbrev Rl:FuncId:=23
abbrev Ka:FuncId:=24
abbrev Wc:FuncId:=25
abbrev Tq:FuncId:=26
abbrev Wd:FuncId:=27
abbrev Zc:FuncId:=28
abbrev Aec:FuncId:=29
abbrev Aed:FuncId:=30
abbrev Aj4:FuncId:=31
abbrev Aj5:FuncId:=32
abbrev Aj6:FuncId:=33
abbrev Ot:FuncId:=34
abbrev Zd:FuncId:=35
abbrev Rm:FuncId:=36
abbrev Ej:FuncId:=37
abbrev We:FuncId:=38
abbrev Fa:FuncId:=39
abbrev Ja:FuncId:=40
abbrev Ts:FuncId:=41
abbrev Wf:FuncId:=42
abbrev Ze:FuncId:=43
abbrev Zf:FuncId:=44
abbrev Zg:FuncId:=45
abbrev Zh:FuncId:=46
abbrev Wg:FuncId:=47
abbrev Rn:FuncId:=48
abbrev Tt:FuncId:=49
abbrev Ou:FuncId:=50
abbrev Zi:FuncId:=51
abbrev Aj7:FuncId:=52
abbrev Ro:FuncId:=53
abbrev Aee:FuncId:=54
abbrev Zj:FuncId:=55
abbrev Wh:FuncId:=56
abbrev Wi:FuncId:=57
abbrev Nw:FuncId:=58
abbrev Rp:FuncId:=59
abbrev Tu:FuncId:=60
abbrev Rq:FuncId:=61
abbrev Tv:FuncId:=62
abbrev Tw:FuncId:=63
abbrev Nx:FuncId:=64
abbrev Tx:FuncId:=65
abbrev Aj8:FuncId:=66
abbrev Aef:FuncId:=67
abbrev Ty:FuncId:=68
abbrev Aeg:FuncId:=69
abbrev Ov:FuncId:=70
abbrev Rr:FuncId:=71
abbrev Tz:FuncId:=72
abbrev Ow:FuncId:=73
abbrev Wj:FuncId:=74
abbrev Ny:FuncId:=75
abbrev M3:FuncId:=76
abbrev Py:FuncId:=77
abbrev Wk:FuncId:=78
abbrev Is:FuncId:=79
abbrev T0:FuncId:=80
abbrev Pz:FuncId:=81
abbrev Zk:FuncId:=82
abbrev Aeh:FuncId:=83
abbrev Rs:FuncId:=84
abbrev Zl:FuncId:=85
abbrev Aj9:FuncId:=86
abbrev Aka:FuncId:=87
abbrev Akb:FuncId:=88
abbrev Akc:FuncId:=89
abbrev Akd:FuncId:=90
abbrev Ake:FuncId:=91
abbrev Nz:FuncId:=92
abbrev Ko:FuncId:=93
abbrev Ox:FuncId:=94
abbrev Wl:FuncId:=95
abbrev Rt:FuncId:=96
abbrev Akf:FuncId:=97
abbrev Akg:FuncId:=103
abbrev Aei:FuncId:=107
abbrev Aej:FuncId:=108
abbrev Aek:FuncId:=109
abbrev Zm:FuncId:=110
abbrev Zn:FuncId:=111
abbrev Wm:FuncId:=112
abbrev Ru:FuncId:=113
abbrev N0:FuncId:=114
abbrev T1:FuncId:=115
abbrev Zo:FuncId:=116
abbrev Zp:FuncId:=117
abbrev Wn:FuncId:=118
abbrev N1:FuncId:=119
abbrev Oy:FuncId:=120
abbrev Wo:FuncId:=121
abbrev Zq:FuncId:=122
abbrev P1:FuncId:=123
abbrev P3:FuncId:=124
abbrev Wp:FuncId:=125
abbrev Zr:FuncId:=126
abbrev Ael:FuncId:=127
abbrev Zs:FuncId:=128
abbrev Zt:FuncId:=129
abbrev Zu:FuncId:=130
abbrev Wq:FuncId:=131
abbrev Aem:FuncId:=132
abbrev Wr:FuncId:=133
abbrev Aen:FuncId:=134
abbrev Akh:FuncId:=135
abbrev Zv:FuncId:=136
abbrev Zw:FuncId:=137
abbrev Zx:FuncId:=138
abbrev Rv:FuncId:=139
abbrev Aeo:FuncId:=140
abbrev Ws:FuncId:=141
abbrev Rw:FuncId:=142
abbrev Aep:FuncId:=143
abbrev Mb:FuncId:=144
abbrev Zy:FuncId:=145
abbrev Wt:FuncId:=146
abbrev Wu:FuncId:=147
abbrev N2:FuncId:=148
abbrev Zz:FuncId:=149
abbrev Wv:FuncId:=150
abbrev Ww:FuncId:=151
abbrev Z0:FuncId:=152
abbrev T2:FuncId:=153
abbrev T3:FuncId:=154
abbrev Rx:FuncId:=155
abbrev Aki:FuncId:=156
abbrev Akj:FuncId:=157
abbrev Z1:FuncId:=163
abbrev Z2:FuncId:=164
abbrev Z3:FuncId:=165
abbrev M4:FuncId:=166
abbrev Mc:FuncId:=167
abbrev Aeq:FuncId:=168
abbrev Z4:FuncId:=169
abbrev Oz:FuncId:=170
abbrev P4:FuncId:=171
abbrev Aer:FuncId:=172
abbrev Z5:FuncId:=173
abbrev T5:FuncId:=179
abbrev Aes:FuncId:=180
abbrev Aet:FuncId:=181
abbrev Aeu:FuncId:=182
abbrev Kb:FuncId:=183
abbrev Md:FuncId:=184
abbrev Lw:FuncId:=185
abbrev Me:FuncId:=186
abbrev Aev:FuncId:=187
abbrev Aew:FuncId:=188
abbrev Z6:FuncId:=189
abbrev Z7:FuncId:=190
abbrev Z8:FuncId:=191
abbrev Jb:FuncId:=192
abbrev P5:FuncId:=193
abbrev Z9:FuncId:=194
abbrev Aaa:FuncId:=195
abbrev Aex:FuncId:=196
abbrev Aey:FuncId:=197
abbrev T6:FuncId:=198
abbrev N3:FuncId:=199
abbrev Aez:FuncId:=200
abbrev O0:FuncId:=201
abbrev Aab:FuncId:=202
abbrev Akk:FuncId:=203
abbrev Akl:FuncId:=204
abbrev Ae0:FuncId:=205
abbrev Ae1:FuncId:=206
abbrev Wx:FuncId:=207
abbrev Aac:FuncId:=208
abbrev Wy:FuncId:=209
abbrev Ry:FuncId:=210
abbrev Rz:FuncId:=211
abbrev P6:FuncId:=212
abbrev Wz:FuncId:=213
abbrev Aad:FuncId:=214
abbrev T7:FuncId:=215
abbrev T8:FuncId:=216
abbrev R0:FuncId:=217
abbrev T9:FuncId:=218
abbrev O1:FuncId:=219
abbrev Aae:FuncId:=220
abbrev Ae2:FuncId:=221
abbrev Ua:FuncId:=222
abbrev Akm:FuncId:=223
abbrev R1:FuncId:=233
abbrev Aaf:FuncId:=234
abbrev Ae3:FuncId:=236
abbrev Aag:FuncId:=238
abbrev O2:FuncId:=239
abbrev Ub:FuncId:=240
abbrev P7:FuncId:=241
abbrev W0:FuncId:=242
abbrev R2:FuncId:=243
abbrev Uc:FuncId:=244
abbrev N4:FuncId:=245
abbrev M5:FuncId:=246
abbrev Ae4:FuncId:=247
abbrev Ae5:FuncId:=249
abbrev O3:FuncId:=250
abbrev Ud:FuncId:=251
abbrev Ue:FuncId:=252
abbrev Aah:FuncId:=253
abbrev Uf:FuncId:=255
abbrev N5:FuncId:=256
abbrev Aai:FuncId:=257
abbrev P8:FuncId:=265
abbrev Aaj:FuncId:=266
abbrev W1:FuncId:=267
abbrev W2:FuncId:=268
abbrev W3:FuncId:=269
abbrev Aak:FuncId:=270
abbrev R3:FuncId:=271
abbrev W4:FuncId:=272
abbrev Ug:FuncId:=273
abbrev Aal:FuncId:=274
abbrev Aam:FuncId:=275
abbrev Aan:FuncId:=276
abbrev Uh:FuncId:=280
abbrev Ui:FuncId:=281
abbrev M6:FuncId:=284
abbrev Aao:FuncId:=285
abbrev Aap:FuncId:=286
abbrev Aaq:FuncId:=287
abbrev Aar:FuncId:=288
abbrev R4:FuncId:=289
abbrev Aas:FuncId:=290
abbrev O4:FuncId:=291
abbrev Lx:FuncId:=292
abbrev Lh:FuncId:=293
abbrev O5:FuncId:=294
abbrev Ae6:FuncId:=295
abbrev Aat:FuncId:=297
abbrev Ae7:FuncId:=302
abbrev W5:FuncId:=310
abbrev Uj:FuncId:=311
abbrev Aau:FuncId:=312
abbrev W6:FuncId:=313
abbrev Aav:FuncId:=314
abbrev R5:FuncId:=315
abbrev Aaw:FuncId:=316
abbrev Aax:FuncId:=317
abbrev Uk:FuncId:=321
abbrev Ae8:FuncId:=322
abbrev W7:FuncId:=323
abbrev R6:FuncId:=324
abbrev Aay:FuncId:=325
abbrev Aaz:FuncId:=326
abbrev Aa0:FuncId:=327
abbrev Ae9:FuncId:=328
abbrev Afa:FuncId:=338
abbrev Afb:FuncId:=339
end Go.Ab.Fn
namespace Go.Ab
open Go
abbrev O (k:IntKind) (n:Int):AV:=.val (.int k n)
abbrev Aw (b:Bool):AV:=.val (.bool b)
abbrev Gq (s:ByteArray):AV:=.val (.string s)
abbrev Ax {α:Type} (sz:Nat) (f:α->AV) (l:List α):AV:=.sl sz (l.map f)
abbrev Ev {α:Type} (sz:Nat) (g:List α->List AV) (l:List α):AV:=.sl sz (g l)
structure Af where
 G:Int
 U:Int
 R:List Af
mutual
def Akn:Af->AV
 | ⟨x0,x1,x2⟩=>.agg [O .i64 x0,O .i64 x1,.sl 3 (Bl x2)]
def Bl:List Af->List AV
 | []=>[]
 | x::xs=>Akn x::Bl xs
end
def Ee (x:Af):AV:=.agg [O .i64 x.G,O .i64 x.U,.sl 3 (Bl x.R)]
theorem A2j (x:Af):Akn x=Ee x:=by cases x;simp only[Akn,Ee]
theorem Li:∀l:List Af,Bl l=l.map Ee
 | []=>rfl
 | x::xs=>by simp only[Bl,List.map_cons,A2j,Li xs]
structure P9 where
 S:ByteArray
 R:List Af
def Afc (x:P9):AV:=.agg [Gq x.S,.sl 3 (Bl x.R)]
structure Ai where
 S:ByteArray
 V:Int
 O:List P9
def B4 (x:Ai):AV:=.agg [Gq x.S,O .i64 x.V,.sl 2 (List.map Afc x.O)]
structure B9 where
 D:List Ai
 V:List Af
 E:Af
def N6 (x:B9):AV:=.agg [.sl 3 (List.map B4 x.D),.sl 3 (Bl x.V),O .i64 x.E.G,O .i64 x.E.U,.sl 3 (Bl x.E.R)]
structure Ay where
 G:Int
 U:Int
 K:List Ay
mutual
def Ako:Ay->AV
 | ⟨x0,x1,x2⟩=>.agg [O .i64 x0,O .i64 x1,.sl 3 (Gl x2)]
def Gl:List Ay->List AV
 | []=>[]
 | x::xs=>Ako x::Gl xs
end
def Gg (x:Ay):AV:=.agg [O .i64 x.G,O .i64 x.U,.sl 3 (Gl x.K)]
theorem A2k (x:Ay):Ako x=Gg x:=by cases x;simp only[Ako,Gg]
theorem Jo:∀l:List Ay,Gl l=l.map Gg
 | []=>rfl
 | x::xs=>by simp only[Gl,List.map_cons,A2k,Jo xs]
structure Aq where
 N:Bool
 U:List Int
 B:List Int
def Dd (x:Aq):AV:=.agg [Aw x.N,.sl 1 (List.map (O .u32) x.U),.sl 1 (List.map (O .u32) x.B)]
structure Bq where
 v:Int
 C:Int
def E7 (x:Bq):AV:=.agg [O .i64 x.v,O .i64 x.C]
structure Bg where
 Q:Int
 T:List Bq
def H3 (x:Bg):AV:=.agg [O .i64 x.Q,.sl 2 (List.map E7 x.T)]
structure Ah where
 U:Int
 K:List Ah
mutual
def Akp:Ah->AV
 | ⟨x0,x1⟩=>.agg [O .i64 x0,.sl 2 (Hg x1)]
def Hg:List Ah->List AV
 | []=>[]
 | x::xs=>Akp x::Hg xs
end
def Fu (x:Ah):AV:=.agg [O .i64 x.U,.sl 2 (Hg x.K)]
theorem A2l (x:Ah):Akp x=Fu x:=by cases x;simp only[Akp,Fu]
theorem Lj:∀l:List Ah,Hg l=l.map Fu
 | []=>rfl
 | x::xs=>by simp only[Hg,List.map_cons,A2l,Lj xs]
structure Be where
 v:Int
 I:Ah
def Gb (x:Be):AV:=.agg [O .i64 x.v,O .i64 x.I.U,.sl 2 (Hg x.I.K)]
structure Bf where
 L:Bg
 P:Int
def F2 (x:Bf):AV:=.agg [O .i64 x.L.Q,.sl 2 (List.map E7 x.L.T),O .i64 x.P]
structure A5 where
 F:List Be
 A:List Bf
def H4 (x:A5):AV:=.agg [.sl 3 (List.map Gb x.F),.sl 3 (List.map F2 x.A)]
structure Aj where
 C:Aq
 M:A5
def Dr (x:Aj):AV:=.agg [Aw x.C.N,.sl 1 (List.map (O .u32) x.C.U),.sl 1 (List.map (O .u32) x.C.B),.sl 3 (List.map Gb x.M.F),.sl 3 (List.map F2 x.M.A)]
structure Ap9 where
 S:ByteArray
 Params:List Int
 Captured:List Int
 Result:Af
 Body:Int
def Ul (x:Ap9):AV:=.agg [Gq x.S,.sl 1 (List.map (O .i64) x.Params),.sl 1 (List.map (O .i64) x.Captured),O .i64 x.Result.G,O .i64 x.Result.U,.sl 3 (Bl x.Result.R),O .i64 x.Body]
structure Aqa where
 Op:Int
 U:Int
 V:List Int
 Binds:List (List Int)
 K:List Int
 Type_:Af
def Um (x:Aqa):AV:=.agg [O .i64 x.Op,O .i64 x.U,.sl 1 (List.map (O .i64) x.V),.sl 1 (List.map (Ax 1 (O .i64)) x.Binds),.sl 1 (List.map (O .i64) x.K),O .i64 x.Type_.G,O .i64 x.Type_.U,.sl 3 (Bl x.Type_.R)]
structure Lk where
 D:List Ai
 Codes:List Ap9
 V:List Af
 Exprs:List Aqa
def Un (x:Lk):AV:=.agg [.sl 3 (List.map B4 x.D),.sl 7 (List.map Ul x.Codes),.sl 3 (Bl x.V),.sl 8 (List.map Um x.Exprs)]
structure Ih where
 neg:Bool
 n:List Int
 d:List Int
def R7 (x:Ih):AV:=.agg [Aw x.neg,.sl 1 (List.map (O .u32) x.n),.sl 1 (List.map (O .u32) x.d)]
structure Hr where
 data:List Ai
 vars:Int
 left:Int
structure Au where
 I:Ah
 C:Aq
def B5 (x:Au):AV:=.agg [O .i64 x.I.U,.sl 2 (Hg x.I.K),Aw x.C.N,.sl 1 (List.map (O .u32) x.C.U),.sl 1 (List.map (O .u32) x.C.B)]
structure Aa1 where
 con:Int
 kids:List Ah
 places:List Int
 types:List Af
def A2m (x:Aa1):AV:=.agg [O .i64 x.con,.sl 2 (Hg x.kids),.sl 1 (List.map (O .i64) x.places),.sl 3 (Bl x.types)]
structure Kp where
 G:Int
 Text:ByteArray
 Pos:Int
def Afd (x:Kp):AV:=.agg [O .i64 x.G,Gq x.Text,O .i64 x.Pos]
structure Ii where
 list:List Ah
 coef:Aq
def O6 (x:Ii):AV:=.agg [.sl 2 (Hg x.list),Aw x.coef.N,.sl 1 (List.map (O .u32) x.coef.U),.sl 1 (List.map (O .u32) x.coef.B)]
end Go.Ab
