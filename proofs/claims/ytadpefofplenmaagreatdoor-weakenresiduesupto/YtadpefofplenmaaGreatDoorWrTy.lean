/- Types and steps. -/
import Derived.Test.YtadpefofplenmaaGreatDoorWrAb2
import Derived.Test.YtadpefofplenmaaGreatDoorProg
import Derived.KernelRfl
namespace Go.Ab
open Go Go.Proofs Go.Proofs.Tryz
theorem κ{p:Prop}(h:p:=by kernel_rfl):p:=h
def Ak1:Tr:=(.node (.node (.node (.node (.node (.node (.node .leaf 1 ⟨.other,1,8,[.nilFunc]⟩ .leaf) 2 ⟨.int .i64,1,8,[.int .i64 0]⟩ (.node .leaf 3 ⟨.int .i64,1,8,[.int .i64 0]⟩ .leaf)) 4 ⟨.bool,1,1,[.bool false]⟩ (.node (.node .leaf 5 ⟨.int .u8,1,1,[.int .u8 0]⟩ .leaf) 9 ⟨.string,1,16,[.string ⟨#[]⟩]⟩ .leaf)) 20 ⟨.other,1,16,[.nilIface]⟩ (.node (.node (.node .leaf 22 ⟨.slice 219,1,24,[.slice none 0 0]⟩ .leaf) 23 ⟨.slice 25,1,24,[.slice none 0 0]⟩ (.node .leaf 25 ⟨.struct [(0,1),(1,1),(2,1)],3,40,[.int .i64 0,.int .i64 0,.slice none 0 0]⟩ .leaf)) 27 ⟨.struct [(0,1),(1,1),(2,3)],5,88,[.slice none 0 0,.slice none 0 0,.int .i64 0,.int .i64 0,.slice none 0 0]⟩ (.node (.node .leaf 28 ⟨.slice 54,1,24,[.slice none 0 0]⟩ .leaf) 29 ⟨.slice 59,1,24,[.slice none 0 0]⟩ .leaf))) 33 ⟨.int .i64,1,8,[.int .i64 0]⟩ (.node (.node (.node (.node .leaf 38 ⟨.slice 77,1,24,[.slice none 0 0]⟩ .leaf) 40 ⟨.struct [(0,1),(1,1),(2,1)],3,56,[.bool false,.slice none 0 0,.slice none 0 0]⟩ (.node .leaf 43 ⟨.struct [(0,1),(1,1)],2,16,[.int .i64 0,.int .i64 0]⟩ .leaf)) 44 ⟨.slice 43,1,24,[.slice none 0 0]⟩ (.node (.node .leaf 46 ⟨.struct [(0,1),(1,1)],2,32,[.int .i64 0,.slice none 0 0]⟩ .leaf) 48 ⟨.struct [(0,2),(2,1)],3,40,[.int .i64 0,.slice none 0 0,.int .i64 0]⟩ .leaf)) 49 ⟨.slice 48,1,24,[.slice none 0 0]⟩ (.node (.node (.node .leaf 50 ⟨.slice 87,1,24,[.slice none 0 0]⟩ .leaf) 52 ⟨.struct [(0,1),(1,1)],2,48,[.slice none 0 0,.slice none 0 0]⟩ (.node .leaf 54 ⟨.struct [(0,3),(3,2)],5,104,[.bool false,.slice none 0 0,.slice none 0 0,.slice none 0 0,.slice none 0 0]⟩ .leaf)) 56 ⟨.struct [(0,1),(1,2),(3,2),(5,1)],6,80,[.int .i64 0,.int .i64 0,.slice none 0 0,.int .i64 0,.slice none 0 0,.int .i64 0]⟩ (.node (.node .leaf 57 ⟨.slice 40,1,24,[.slice none 0 0]⟩ .leaf) 59 ⟨.struct [(0,6),(6,3),(9,2),(11,1),(12,1)],13,232,[.int .i64 0,.int .i64 0,.slice none 0 0,.int .i64 0,.slice none 0 0,.int .i64 0,.bool false,.slice none 0 0,.slice none 0 0,.slice none 0 0,.slice none 0 0,.slice none 0 0,.slice none 0 0]⟩ .leaf)))) 61 ⟨.slice 46,1,24,[.slice none 0 0]⟩ (.node (.node (.node (.node (.node .leaf 76 ⟨.int .u64,1,8,[.int .u64 0]⟩ .leaf) 77 ⟨.int .u32,1,4,[.int .u32 0]⟩ (.node .leaf 83 ⟨.slice 85,1,24,[.slice none 0 0]⟩ .leaf)) 85 ⟨.struct [(0,1),(1,1)],2,32,[.int .i64 0,.slice none 0 0]⟩ (.node (.node .leaf 87 ⟨.struct [(0,1),(1,2)],3,40,[.int .i64 0,.int .i64 0,.slice none 0 0]⟩ .leaf) 88 ⟨.other,1,8,[.pointer none]⟩ .leaf)) 91 ⟨.other,1,8,[.pointer none]⟩ (.node (.node (.node .leaf 101 ⟨.other,1,8,[.nilFunc]⟩ .leaf) 103 ⟨.other,1,8,[.nilFunc]⟩ (.node .leaf 109 ⟨.slice 3,1,24,[.slice none 0 0]⟩ .leaf)) 112 ⟨.slice 77,1,24,[.slice none 0 0]⟩ (.node (.node .leaf 114 ⟨.struct [(0,1),(1,1),(2,1)],3,56,[.bool false,.slice none 0 0,.slice none 0 0]⟩ .leaf) 118 ⟨.other,1,8,[.nilFunc]⟩ .leaf))) 119 ⟨.slice 28,1,24,[.slice none 0 0]⟩ (.node (.node (.node (.node .leaf 121 ⟨.slice 246,1,24,[.slice none 0 0]⟩ .leaf) 122 ⟨.slice 250,1,24,[.slice none 0 0]⟩ (.node .leaf 124 ⟨.struct [(0,1),(1,1),(2,1),(3,1)],4,96,[.slice none 0 0,.slice none 0 0,.slice none 0 0,.slice none 0 0]⟩ .leaf)) 126 ⟨.map 9 3,1,8,[.map none]⟩ (.node (.node .leaf 127 ⟨.map 9 203,1,8,[.map none]⟩ .leaf) 129 ⟨.struct [(0,5),(5,1),(6,1)],7,104,[.slice none 0 0,.slice none 0 0,.int .i64 0,.int .i64 0,.slice none 0 0,.map none,.map none]⟩ .leaf)) 131 ⟨.struct [(0,1),(1,1)],2,32,[.map none,.slice none 0 0]⟩ (.node (.node (.node .leaf 137 ⟨.other,1,8,[.nilFunc]⟩ .leaf) 161 ⟨.other,1,8,[.nilFunc]⟩ .leaf) 168 ⟨.other,1,8,[.pointer none]⟩ (.node (.node .leaf 170 ⟨.struct [(0,1),(1,1),(2,1)],3,40,[.slice none 0 0,.int .i64 0,.int .i64 0]⟩ .leaf) 171 ⟨.other,1,8,[.nilFunc]⟩ .leaf))))) 173 ⟨.other,1,8,[.pointer none]⟩ (.node (.node (.node (.node (.node (.node .leaf 174 ⟨.slice 5,1,24,[.slice none 0 0]⟩ .leaf) 176 ⟨.struct [(0,1),(1,1)],2,32,[.pointer none,.slice none 0 0]⟩ (.node .leaf 178 ⟨.other,1,16,[.nilIface]⟩ .leaf)) 191 ⟨.int .u64,1,8,[.int .u64 0]⟩ (.node (.node .leaf 195 ⟨.other,1,8,[.nilFunc]⟩ .leaf) 197 ⟨.other,1,8,[.nilFunc]⟩ .leaf)) 203 ⟨.slice 207,1,24,[.slice none 0 0]⟩ (.node (.node (.node .leaf 207 ⟨.struct [(0,2),(2,3)],5,88,[.int .i64 0,.slice none 0 0,.bool false,.slice none 0 0,.slice none 0 0]⟩ .leaf) 216 ⟨.slice 9,1,24,[.slice none 0 0]⟩ (.node .leaf 217 ⟨.slice 222,1,24,[.slice none 0 0]⟩ .leaf)) 219 ⟨.struct [(0,1),(1,1),(2,1)],3,48,[.string ⟨#[]⟩,.int .i64 0,.slice none 0 0]⟩ (.node (.node .leaf 222 ⟨.struct [(0,1),(1,1)],2,40,[.string ⟨#[]⟩,.slice none 0 0]⟩ .leaf) 231 ⟨.slice 33,1,24,[.slice none 0 0]⟩ .leaf))) 235 ⟨.float .f64,1,8,[.float .f64 0]⟩ (.node (.node (.node (.node .leaf 242 ⟨.map 9 4,1,8,[.map none]⟩ .leaf) 246 ⟨.struct [(0,1),(1,1),(2,1),(3,3),(6,1)],7,112,[.string ⟨#[]⟩,.slice none 0 0,.slice none 0 0,.int .i64 0,.int .i64 0,.slice none 0 0,.int .i64 0]⟩ (.node .leaf 247 ⟨.other,1,8,[.nilFunc]⟩ .leaf)) 248 ⟨.slice 109,1,24,[.slice none 0 0]⟩ (.node (.node .leaf 250 ⟨.struct [(0,1),(1,1),(2,1),(3,1),(4,1),(5,3)],8,128,[.int .i64 0,.int .i64 0,.slice none 0 0,.slice none 0 0,.slice none 0 0,.int .i64 0,.int .i64 0,.slice none 0 0]⟩ .leaf) 251 ⟨.slice 4,1,24,[.slice none 0 0]⟩ .leaf)) 252 ⟨.other,1,8,[.nilFunc]⟩ (.node (.node (.node .leaf 253 ⟨.other,1,8,[.nilFunc]⟩ .leaf) 254 ⟨.other,1,8,[.pointer none]⟩ (.node .leaf 256 ⟨.struct [(0,4),(4,1)],5,120,[.slice none 0 0,.slice none 0 0,.slice none 0 0,.slice none 0 0,.slice none 0 0]⟩ .leaf)) 262 ⟨.other,1,8,[.pointer none]⟩ (.node (.node .leaf 267 ⟨.int .i64,1,8,[.int .i64 0]⟩ .leaf) 278 ⟨.other,1,8,[.nilFunc]⟩ .leaf)))) 293 ⟨.slice 50,1,24,[.slice none 0 0]⟩ (.node (.node (.node (.node (.node .leaf 295 ⟨.slice 49,1,24,[.slice none 0 0]⟩ .leaf) 297 ⟨.slice 301,1,24,[.slice none 0 0]⟩ (.node .leaf 301 ⟨.struct [(0,1),(1,1),(2,1)],3,32,[.int .i64 0,.string ⟨#[]⟩,.int .i64 0]⟩ .leaf)) 314 ⟨.other,1,8,[.nilFunc]⟩ (.node (.node .leaf 316 ⟨.slice 319,1,24,[.slice none 0 0]⟩ .leaf) 319 ⟨.struct [(0,1),(1,1),(2,1)],3,32,[.int .i64 0,.string ⟨#[]⟩,.int .i64 0]⟩ .leaf)) 330 ⟨.other,1,8,[.pointer none]⟩ (.node (.node (.node .leaf 339 ⟨.int .u64,1,8,[.int .u64 0]⟩ .leaf) 343 ⟨.other,1,8,[.pointer none]⟩ (.node .leaf 346 ⟨.slice 44,1,24,[.slice none 0 0]⟩ .leaf)) 349 ⟨.other,1,8,[.nilFunc]⟩ (.node (.node .leaf 354 ⟨.other,1,8,[.pointer none]⟩ .leaf) 365 ⟨.other,1,8,[.nilFunc]⟩ .leaf))) 374 ⟨.slice 207,1,24,[.slice none 0 0]⟩ (.node (.node (.node (.node .leaf 388 ⟨.other,1,8,[.pointer none]⟩ .leaf) 397 ⟨.other,1,8,[.nilFunc]⟩ (.node .leaf 401 ⟨.struct [(0,1),(1,3),(4,1),(5,1)],6,96,[.slice none 0 0,.int .i64 0,.int .i64 0,.slice none 0 0,.map none,.slice none 0 0]⟩ .leaf)) 402 ⟨.slice 405,1,24,[.slice none 0 0]⟩ (.node (.node .leaf 405 ⟨.struct [(0,1),(1,3)],4,80,[.slice none 0 0,.bool false,.slice none 0 0,.slice none 0 0]⟩ .leaf) 407 ⟨.slice 203,1,24,[.slice none 0 0]⟩ .leaf)) 409 ⟨.other,1,8,[.nilFunc]⟩ (.node (.node (.node .leaf 415 ⟨.slice 418,1,24,[.slice none 0 0]⟩ .leaf) 418 ⟨.struct [(0,1),(1,3)],4,80,[.slice none 0 0,.bool false,.slice none 0 0,.slice none 0 0]⟩ .leaf) 427 ⟨.other,1,8,[.nilFunc]⟩ (.node (.node .leaf 441 ⟨.other,1,8,[.nilFunc]⟩ .leaf) 448 ⟨.slice 83,1,24,[.slice none 0 0]⟩ .leaf))))))
def B8:Dp:=Ak1.find
theorem A31:Ak1.toList.map (λp=>Je prog p.1)=Ak1.toList.map (λp=>some p.2):=by kernel_rfl
theorem Ary:Dt prog B8:=Tr.ok A31
theorem Aai:prog.follows .mixedOrders=true:=by kernel_rfl
end Go.Ab
namespace Go.Ab.Fn
abbrev Afp:FuncId:=3
abbrev Aat:FuncId:=4
abbrev Aau:FuncId:=5
abbrev Aav:FuncId:=6
abbrev Uy:FuncId:=7
abbrev Aaw:FuncId:=8
abbrev Q2:FuncId:=9
abbrev I6:FuncId:=10
abbrev Q3:FuncId:=11
abbrev Aax:FuncId:=12
abbrev Aay:FuncId:=13
abbrev Xq:FuncId:=14
abbrev Q4:FuncId:=15
abbrev N0:FuncId:=16
abbrev N1:FuncId:=17
abbrev M5:FuncId:=18
abbrev M6:FuncId:=19
abbrev Sk:FuncId:=20
abbrev Sl:FuncId:=21
abbrev K9:FuncId:=22
abbrev O2:FuncId:=23
abbrev Sn:FuncId:=24
abbrev Xr:FuncId:=25
abbrev N2:FuncId:=26
abbrev Aaz:FuncId:=27
abbrev La:FuncId:=28
abbrev O3:FuncId:=29
abbrev Uz:FuncId:=30
abbrev Aa0:FuncId:=31
abbrev I7:FuncId:=32
abbrev Afq:FuncId:=33
abbrev P3:FuncId:=34
abbrev M7:FuncId:=35
abbrev M8:FuncId:=36
abbrev L8:FuncId:=37
abbrev Xs:FuncId:=38
abbrev Gr:FuncId:=39
abbrev M9:FuncId:=40
abbrev Xt:FuncId:=41
abbrev Q5:FuncId:=42
abbrev N3:FuncId:=43
abbrev Xu:FuncId:=44
abbrev Aa1:FuncId:=45
abbrev P4:FuncId:=46
abbrev U1:FuncId:=47
abbrev Xv:FuncId:=48
abbrev Aa2:FuncId:=49
abbrev Na:FuncId:=50
abbrev U2:FuncId:=51
abbrev So:FuncId:=52
abbrev I8:FuncId:=53
abbrev O4:FuncId:=54
abbrev U3:FuncId:=55
abbrev Xw:FuncId:=56
abbrev Aa3:FuncId:=57
abbrev U4:FuncId:=58
abbrev Ks:FuncId:=59
abbrev Xx:FuncId:=60
abbrev Afr:FuncId:=61
abbrev N4:FuncId:=62
abbrev Aa4:FuncId:=63
abbrev Ak2:FuncId:=64
abbrev Ak3:FuncId:=65
abbrev Aa5:FuncId:=66
abbrev Sp:FuncId:=67
abbrev Aa6:FuncId:=68
abbrev Aa7:FuncId:=69
abbrev Q6:FuncId:=70
abbrev Ir:FuncId:=71
abbrev U5:FuncId:=72
abbrev P5:FuncId:=73
abbrev Q7:FuncId:=74
abbrev Q8:FuncId:=75
abbrev Sq:FuncId:=76
abbrev Aa8:FuncId:=77
abbrev Q9:FuncId:=78
abbrev Xy:FuncId:=79
abbrev Aa9:FuncId:=80
abbrev Aba:FuncId:=81
abbrev Sr:FuncId:=82
abbrev Ra:FuncId:=83
abbrev Rb:FuncId:=84
abbrev Abb:FuncId:=85
abbrev Re:FuncId:=86
abbrev O5:FuncId:=87
abbrev Abc:FuncId:=88
abbrev Lo:FuncId:=89
abbrev Jl:FuncId:=90
abbrev Jx:FuncId:=91
abbrev Abd:FuncId:=92
abbrev Xz:FuncId:=93
abbrev L9:FuncId:=94
abbrev Ss:FuncId:=95
abbrev U6:FuncId:=96
abbrev Ma:FuncId:=97
abbrev P6:FuncId:=98
abbrev X0:FuncId:=99
abbrev Abe:FuncId:=100
abbrev U7:FuncId:=101
abbrev Su:FuncId:=102
abbrev X1:FuncId:=103
abbrev Mb:FuncId:=104
abbrev Sv:FuncId:=105
abbrev Abf:FuncId:=106
abbrev Abg:FuncId:=107
abbrev Md:FuncId:=108
abbrev Sw:FuncId:=109
abbrev X2:FuncId:=110
abbrev Abh:FuncId:=111
abbrev Abi:FuncId:=112
abbrev X3:FuncId:=113
abbrev Afs:FuncId:=114
abbrev Rf:FuncId:=115
abbrev X4:FuncId:=116
abbrev Ak4:FuncId:=117
abbrev Abj:FuncId:=118
abbrev Ak5:FuncId:=119
abbrev Ak6:FuncId:=120
abbrev Ak7:FuncId:=121
abbrev Ak8:FuncId:=122
abbrev Ak9:FuncId:=123
abbrev Ala:FuncId:=124
abbrev O6:FuncId:=125
abbrev P7:FuncId:=126
abbrev P8:FuncId:=127
abbrev X5:FuncId:=128
abbrev Kt:FuncId:=129
abbrev P9:FuncId:=130
abbrev Jy:FuncId:=131
abbrev Rg:FuncId:=132
abbrev Nb:FuncId:=133
abbrev X6:FuncId:=134
abbrev Rh:FuncId:=135
abbrev Ri:FuncId:=136
abbrev Aft:FuncId:=137
abbrev Abk:FuncId:=138
abbrev U8:FuncId:=139
abbrev Nc:FuncId:=140
abbrev Afu:FuncId:=141
abbrev Abl:FuncId:=142
abbrev Qa:FuncId:=143
abbrev Sx:FuncId:=144
abbrev Afv:FuncId:=145
abbrev Abm:FuncId:=146
abbrev O7:FuncId:=147
abbrev Abn:FuncId:=148
abbrev Me:FuncId:=149
abbrev Qb:FuncId:=150
abbrev N5:FuncId:=151
abbrev X7:FuncId:=152
abbrev N6:FuncId:=153
abbrev X8:FuncId:=154
abbrev U9:FuncId:=155
abbrev Sy:FuncId:=156
abbrev X9:FuncId:=157
abbrev N7:FuncId:=158
abbrev Sz:FuncId:=159
abbrev Va:FuncId:=160
abbrev Abo:FuncId:=161
abbrev Ya:FuncId:=162
abbrev Qc:FuncId:=163
abbrev Yb:FuncId:=164
abbrev Afw:FuncId:=165
abbrev Afx:FuncId:=166
abbrev Vb:FuncId:=167
abbrev S0:FuncId:=168
abbrev Yc:FuncId:=169
abbrev Rj:FuncId:=170
abbrev S3:FuncId:=171
abbrev S4:FuncId:=172
abbrev Vc:FuncId:=173
abbrev Lb:FuncId:=174
abbrev Rk:FuncId:=175
abbrev Yd:FuncId:=176
abbrev Abp:FuncId:=177
abbrev Kb:FuncId:=178
abbrev Abq:FuncId:=179
abbrev Ye:FuncId:=180
abbrev Yf:FuncId:=181
abbrev Abr:FuncId:=183
abbrev Alb:FuncId:=184
abbrev Afy:FuncId:=185
abbrev Abs:FuncId:=186
abbrev Yg:FuncId:=187
abbrev Yh:FuncId:=188
abbrev Mf:FuncId:=189
abbrev Vd:FuncId:=190
abbrev S5:FuncId:=191
abbrev Alc:FuncId:=192
abbrev Ald:FuncId:=193
abbrev Abt:FuncId:=200
abbrev Abu:FuncId:=201
abbrev O8:FuncId:=202
abbrev Abv:FuncId:=203
abbrev Ve:FuncId:=204
abbrev Vf:FuncId:=206
abbrev O9:FuncId:=207
abbrev Abw:FuncId:=208
abbrev Vg:FuncId:=209
abbrev Yi:FuncId:=210
abbrev Vh:FuncId:=211
abbrev Abx:FuncId:=212
abbrev Vi:FuncId:=213
abbrev Aby:FuncId:=214
abbrev Afz:FuncId:=223
abbrev Vj:FuncId:=224
abbrev Abz:FuncId:=225
abbrev Af0:FuncId:=226
abbrev Ab0:FuncId:=227
abbrev Ab1:FuncId:=228
abbrev Vk:FuncId:=229
abbrev Ab2:FuncId:=230
abbrev Yj:FuncId:=231
abbrev Ab3:FuncId:=232
abbrev Ab4:FuncId:=233
abbrev Vl:FuncId:=234
abbrev Ab5:FuncId:=235
abbrev Ab6:FuncId:=236
abbrev Pa:FuncId:=237
abbrev Af1:FuncId:=239
abbrev Rl:FuncId:=240
abbrev Ab7:FuncId:=241
abbrev Af2:FuncId:=242
abbrev Af3:FuncId:=243
abbrev Af4:FuncId:=244
abbrev S6:FuncId:=245
abbrev S7:FuncId:=246
abbrev Yk:FuncId:=247
abbrev Vm:FuncId:=248
abbrev Yl:FuncId:=249
abbrev Ym:FuncId:=250
abbrev Ale:FuncId:=252
abbrev Alf:FuncId:=258
abbrev Ab8:FuncId:=261
abbrev Vn:FuncId:=262
abbrev Ab9:FuncId:=263
abbrev Aca:FuncId:=264
abbrev Acb:FuncId:=265
abbrev Af5:FuncId:=266
abbrev Yn:FuncId:=267
abbrev Vo:FuncId:=268
abbrev Alg:FuncId:=269
abbrev Vp:FuncId:=280
abbrev S8:FuncId:=281
abbrev Yo:FuncId:=283
abbrev Yp:FuncId:=285
abbrev Vq:FuncId:=286
abbrev Yq:FuncId:=287
abbrev Acd:FuncId:=288
abbrev Af6:FuncId:=294
abbrev Yr:FuncId:=295
abbrev Rm:FuncId:=296
abbrev Af7:FuncId:=297
abbrev Af8:FuncId:=298
abbrev Ys:FuncId:=299
abbrev Af9:FuncId:=300
abbrev Aga:FuncId:=310
abbrev Yt:FuncId:=312
abbrev Qd:FuncId:=313
abbrev Vr:FuncId:=314
abbrev Yu:FuncId:=315
abbrev Ace:FuncId:=316
abbrev Acf:FuncId:=317
abbrev Yv:FuncId:=318
abbrev Yw:FuncId:=319
abbrev Agb:FuncId:=320
abbrev Acg:FuncId:=321
abbrev Ach:FuncId:=322
abbrev S9:FuncId:=323
abbrev Yx:FuncId:=324
abbrev Vs:FuncId:=325
abbrev Yy:FuncId:=326
abbrev Yz:FuncId:=327
abbrev Rn:FuncId:=332
abbrev Aci:FuncId:=333
abbrev Acj:FuncId:=334
abbrev Ack:FuncId:=335
abbrev Acl:FuncId:=336
abbrev Vt:FuncId:=340
abbrev Vu:FuncId:=341
abbrev Acm:FuncId:=347
abbrev Agc:FuncId:=348
abbrev Vv:FuncId:=365
abbrev Acn:FuncId:=366
abbrev Vx:FuncId:=367
abbrev Aco:FuncId:=368
abbrev Y0:FuncId:=373
abbrev Vy:FuncId:=374
abbrev Acp:FuncId:=375
abbrev Y1:FuncId:=376
abbrev Acq:FuncId:=377
abbrev Ta:FuncId:=378
abbrev Acr:FuncId:=379
abbrev Acs:FuncId:=380
abbrev Vz:FuncId:=381
abbrev V1:FuncId:=382
abbrev Tb:FuncId:=383
abbrev Agd:FuncId:=390
abbrev Tc:FuncId:=410
abbrev Y2:FuncId:=411
abbrev V2:FuncId:=427
end Go.Ab.Fn
namespace Go.Ab
open Go
abbrev O(k:IntKind)(n:Int):AV:=.val (.int k n)
abbrev eo:=O .i64
abbrev fo:=O .u32
abbrev io:=O .u64
abbrev jo:=O .u8
abbrev Av(b:Bool):AV:=.val (.bool b)
abbrev E5(s:Β):AV:=.val (.string s)
abbrev Ax{α:Type}(sz:Nat)(f:α->AV)(l:Λ α):AV:=.sl sz (l.map f)
abbrev Jz{α:Type}(sz:Nat)(g:Λ α->Λ AV)(l:Λ α):AV:=.sl sz (g l)
structure Ai where
 G:Int
 U:Int
 R:List Ai
mutual
def Alh:Ai->AV
 |⟨x0,x1,x2⟩=>.agg [eo x0,eo x1,.sl 3 (B4 x2)]
def B4:List Ai->List AV
 |[]=>[]
 |x::xs=>Alh x::B4 xs
end
def Fx(x:Ai):AV:=.agg [eo x.G,eo x.U,.sl 3 (B4 x.R)]
theorem A32(x:Ai):Alh x=Fx x:=by cases x;simp only[Alh,Fx]
theorem Lp:∀l:Λ Ai,B4 l=l.map Fx
 |[]=>rfl
 |x::xs=>by simp only[B4,List.map_cons,A32,Lp xs]
structure Pb where
 S:Β
 R:List Ai
def Age(x:Pb):AV:=.agg [E5 x.S,.sl 3 (B4 x.R)]
structure A4 where
 S:Β
 V:Int
 O:List Pb
def Dc(x:A4):AV:=.agg [E5 x.S,eo x.V,.sl 2 (List.map Age x.O)]
structure A8 where
 D:List A4
 V:List Ai
 E:Ai
def Gi(x:A8):AV:=.agg [.sl 3 (List.map Dc x.D),.sl 3 (B4 x.V),eo x.E.G,eo x.E.U,.sl 3 (B4 x.E.R)]
structure An where
 N:Bool
 U:List Int
 B:List Int
def B9(x:An):AV:=.agg [Av x.N,.sl 1 (List.map fo x.U),.sl 1 (List.map fo x.B)]
structure Bh where
 v:Int
 C:Int
def C9(x:Bh):AV:=.agg [eo x.v,eo x.C]
structure Aq where
 Q:Int
 T:List Bh
def Dq(x:Aq):AV:=.agg [eo x.Q,.sl 2 (List.map C9 x.T)]
structure A6 where
 L:Aq
 P:Int
def Em(x:A6):AV:=.agg [eo x.L.Q,.sl 2 (List.map C9 x.L.T),eo x.P]
structure Ay where
 U:Int
 K:List Ay
mutual
def Ali:Ay->AV
 |⟨x0,x1⟩=>.agg [eo x0,.sl 2 (Lc x1)]
def Lc:List Ay->List AV
 |[]=>[]
 |x::xs=>Ali x::Lc xs
end
def Hx(x:Ay):AV:=.agg [eo x.U,.sl 2 (Lc x.K)]
theorem A33(x:Ay):Ali x=Hx x:=by cases x;simp only[Ali,Hx]
theorem Nd:∀l:Λ Ay,Lc l=l.map Hx
 |[]=>rfl
 |x::xs=>by simp only[Lc,List.map_cons,A33,Nd xs]
structure Bl where
 v:Int
 I:Ay
def Fy(x:Bl):AV:=.agg [eo x.v,eo x.I.U,.sl 2 (Lc x.I.K)]
structure Aw where
 F:List Bl
 A:List A6
def Hi(x:Aw):AV:=.agg [.sl 3 (List.map Fy x.F),.sl 3 (List.map Em x.A)]
structure Ae where
 C:An
 M:Aw
def Bk(x:Ae):AV:=.agg [Av x.C.N,.sl 1 (List.map fo x.C.U),.sl 1 (List.map fo x.C.B),.sl 3 (List.map Fy x.M.F),.sl 3 (List.map Em x.M.A)]
structure Hu where
 G:Int
 E:Aq
 F:Aq
 K:Int
def N8(x:Hu):AV:=.agg [eo x.G,eo x.E.Q,.sl 2 (List.map C9 x.E.T),eo x.F.Q,.sl 2 (List.map C9 x.F.T),eo x.K]
structure Gj where
 X:Hu
 C:An
 W:Aw
 Y:List An
 Z:List An
def Nf(x:Gj):AV:=.agg [eo x.X.G,eo x.X.E.Q,.sl 2 (List.map C9 x.X.E.T),eo x.X.F.Q,.sl 2 (List.map C9 x.X.F.T),eo x.X.K,Av x.C.N,.sl 1 (List.map fo x.C.U),.sl 1 (List.map fo x.C.B),.sl 3 (List.map Fy x.W.F),.sl 3 (List.map Em x.W.A),.sl 3 (List.map B9 x.Y),.sl 3 (List.map B9 x.Z)]
structure Is where
 neg:Bool
 n:List Int
 d:List Int
def Td(x:Is):AV:=.agg [Av x.neg,.sl 1 (List.map fo x.n),.sl 1 (List.map fo x.d)]
structure Arz where
 S:Β
 Params:List Int
 Captured:List Int
 Result:Ai
 Body:Int
def V3(x:Arz):AV:=.agg [E5 x.S,.sl 1 (List.map eo x.Params),.sl 1 (List.map eo x.Captured),eo x.Result.G,eo x.Result.U,.sl 3 (B4 x.Result.R),eo x.Body]
structure Ar0 where
 Op:Int
 U:Int
 V:List Int
 Binds:List (List Int)
 K:List Int
 Type_:Ai
def V4(x:Ar0):AV:=.agg [eo x.Op,eo x.U,.sl 1 (List.map eo x.V),.sl 1 (List.map (Ax 1 eo) x.Binds),.sl 1 (List.map eo x.K),eo x.Type_.G,eo x.Type_.U,.sl 3 (B4 x.Type_.R)]
structure Lq where
 D:List A4
 Codes:List Arz
 V:List Ai
 Exprs:List Ar0
def V5(x:Lq):AV:=.agg [.sl 3 (List.map Dc x.D),.sl 7 (List.map V3 x.Codes),.sl 3 (B4 x.V),.sl 8 (List.map V4 x.Exprs)]
structure Hy where
 data:List A4
 vars:Int
 left:Int
structure Cn where
 I:Ay
 C:An
def Ep(x:Cn):AV:=.agg [eo x.I.U,.sl 2 (Lc x.I.K),Av x.C.N,.sl 1 (List.map fo x.C.U),.sl 1 (List.map fo x.C.B)]
structure Lr where
 G:Int
 Text:Β
 Pos:Int
def Alj(x:Lr):AV:=.agg [eo x.G,E5 x.Text,eo x.Pos]
structure Ku where
 G:Int
 Text:Β
 Pos:Int
def Agf(x:Ku):AV:=.agg [eo x.G,E5 x.Text,eo x.Pos]
structure A34 where
 list:List Ay
 coef:An
abbrev Ad:=List Ae
abbrev Ag:=List Int
abbrev As:=List (Β×List Cn)
abbrev At:=List (Β×Int)
abbrev A0:=List A4
abbrev A1:=List Ai
abbrev A2:=List A6
abbrev A5:=Option Int
abbrev A7:=List Bh
abbrev A9:=Option (List Int)
abbrev Ba:=Option (List Ae×Int)
abbrev Be:=List Bl
abbrev Bg:=List Ay
abbrev Bi:=List An
abbrev Bo:=List Aq
abbrev Br:=Option ((Int×List (Β×Int))⊕((Bool×List (Β×Int))⊕List (Β×Int)))
abbrev Bs:=List (Ay×Nat)
abbrev Bu:=Option (List Ae)
abbrev Bv:=Option An
abbrev B0:=List Rat
abbrev Cf:=List (List Ay×Nat)
abbrev Cm:=Option Β
abbrev Cp:=Option Nat
abbrev Cx:=Option ((Nat×Int×List Ae)⊕(Nat×Int×List Ae))
abbrev C5:=List Β
abbrev C6:=Option ((Int×List Ae)⊕(Int×List Ae))
abbrev Df:=List (Rat×Aw)
abbrev Dj:=List (Nat×Nat)
abbrev Dl:=Option (List Ae×Int×List (Β×Int)×List (Β×List Cn))
abbrev Do:=Option (List Bh)
abbrev D2:=List Nat
abbrev D4:=Option (List An)
abbrev D6:=Option ((Int×Int)⊕(Int⊕Int))
abbrev Ec:=List Gj
abbrev Eg:=List (Β×Bool)
abbrev Ev:=List (Aw×Nat)
abbrev Ey:=Option (Bool×List (Β×Int))
abbrev E4:=Option (Int×List (Β×Int))
abbrev E9:=Option (List A6)
abbrev F0:=Option (Aq×Int)
abbrev F2:=Option (Int×List Int)
abbrev Hl:=Option (List Bl)
abbrev Id:=Option ((Nat×Int×List Ae)⊕(Nat×List Ae))
abbrev If:=Option (List (Β×Int)×List Ae)
abbrev In:=List Bool
abbrev Io:=Option (Int⊕Int)
abbrev K2:=Option (List Ai×Bool)
abbrev K3:=List (List Ae)
end Go.Ab
