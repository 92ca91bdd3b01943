/- Types and steps. -/
import Derived.Test.YtnjbofimdneilaaGreatDoorWkAb2
import Derived.Test.YtnjbofimdneilaaGreatDoorProg
import Derived.KernelRfl
namespace Go.Ab
open Go Go.Proofs Go.Proofs.Tryz
theorem κ{p:Prop}(h:p:=by kernel_rfl):p:=h
def Al0:Tr:=(.node (.node (.node (.node (.node (.node (.node .leaf 1 ⟨.other,1,8,[.nilFunc]⟩ .leaf) 2 ⟨.int .i64,1,8,[.int .i64 0]⟩ (.node .leaf 3 ⟨.int .i64,1,8,[.int .i64 0]⟩ .leaf)) 4 ⟨.bool,1,1,[.bool false]⟩ (.node (.node .leaf 5 ⟨.int .u8,1,1,[.int .u8 0]⟩ .leaf) 9 ⟨.string,1,16,[.string ⟨#[]⟩]⟩ .leaf)) 20 ⟨.other,1,16,[.nilIface]⟩ (.node (.node (.node .leaf 22 ⟨.slice 175,1,24,[.slice none 0 0]⟩ .leaf) 23 ⟨.slice 25,1,24,[.slice none 0 0]⟩ (.node .leaf 25 ⟨.struct [(0,1),(1,1),(2,1)],3,40,[.int .i64 0,.int .i64 0,.slice none 0 0]⟩ .leaf)) 27 ⟨.struct [(0,1),(1,1),(2,3)],5,88,[.slice none 0 0,.slice none 0 0,.int .i64 0,.int .i64 0,.slice none 0 0]⟩ (.node (.node .leaf 28 ⟨.slice 45,1,24,[.slice none 0 0]⟩ .leaf) 29 ⟨.slice 53,1,24,[.slice none 0 0]⟩ .leaf))) 30 ⟨.slice 58,1,24,[.slice none 0 0]⟩ (.node (.node (.node (.node .leaf 34 ⟨.int .i64,1,8,[.int .i64 0]⟩ .leaf) 37 ⟨.slice 75,1,24,[.slice none 0 0]⟩ (.node .leaf 39 ⟨.struct [(0,1),(1,1),(2,1)],3,56,[.bool false,.slice none 0 0,.slice none 0 0]⟩ .leaf)) 42 ⟨.struct [(0,1),(1,1)],2,16,[.int .i64 0,.int .i64 0]⟩ (.node (.node .leaf 43 ⟨.slice 42,1,24,[.slice none 0 0]⟩ .leaf) 45 ⟨.struct [(0,1),(1,1)],2,32,[.int .i64 0,.slice none 0 0]⟩ .leaf)) 47 ⟨.struct [(0,2),(2,1)],3,40,[.int .i64 0,.slice none 0 0,.int .i64 0]⟩ (.node (.node (.node .leaf 48 ⟨.slice 47,1,24,[.slice none 0 0]⟩ .leaf) 49 ⟨.slice 81,1,24,[.slice none 0 0]⟩ (.node .leaf 51 ⟨.struct [(0,1),(1,1)],2,48,[.slice none 0 0,.slice none 0 0]⟩ .leaf)) 53 ⟨.struct [(0,3),(3,2)],5,104,[.bool false,.slice none 0 0,.slice none 0 0,.slice none 0 0,.slice none 0 0]⟩ (.node (.node .leaf 55 ⟨.struct [(0,1),(1,2),(3,2),(5,1)],6,80,[.int .i64 0,.int .i64 0,.slice none 0 0,.int .i64 0,.slice none 0 0,.int .i64 0]⟩ .leaf) 56 ⟨.slice 39,1,24,[.slice none 0 0]⟩ .leaf)))) 58 ⟨.struct [(0,6),(6,3),(9,2),(11,1),(12,1)],13,232,[.int .i64 0,.int .i64 0,.slice none 0 0,.int .i64 0,.slice none 0 0,.int .i64 0,.bool false,.slice none 0 0,.slice none 0 0,.slice none 0 0,.slice none 0 0,.slice none 0 0,.slice none 0 0]⟩ (.node (.node (.node (.node (.node .leaf 74 ⟨.int .u64,1,8,[.int .u64 0]⟩ .leaf) 75 ⟨.int .u32,1,4,[.int .u32 0]⟩ (.node .leaf 77 ⟨.slice 79,1,24,[.slice none 0 0]⟩ .leaf)) 79 ⟨.struct [(0,1),(1,1)],2,32,[.int .i64 0,.slice none 0 0]⟩ (.node (.node .leaf 81 ⟨.struct [(0,1),(1,2)],3,40,[.int .i64 0,.int .i64 0,.slice none 0 0]⟩ .leaf) 82 ⟨.other,1,8,[.pointer none]⟩ .leaf)) 86 ⟨.slice 3,1,24,[.slice none 0 0]⟩ (.node (.node (.node .leaf 89 ⟨.slice 75,1,24,[.slice none 0 0]⟩ .leaf) 91 ⟨.struct [(0,1),(1,1),(2,1)],3,56,[.bool false,.slice none 0 0,.slice none 0 0]⟩ (.node .leaf 98 ⟨.other,1,8,[.nilFunc]⟩ .leaf)) 104 ⟨.slice 29,1,24,[.slice none 0 0]⟩ (.node (.node .leaf 106 ⟨.slice 202,1,24,[.slice none 0 0]⟩ .leaf) 107 ⟨.slice 206,1,24,[.slice none 0 0]⟩ .leaf))) 109 ⟨.struct [(0,1),(1,1),(2,1),(3,1)],4,96,[.slice none 0 0,.slice none 0 0,.slice none 0 0,.slice none 0 0]⟩ (.node (.node (.node (.node .leaf 111 ⟨.map 9 3,1,8,[.map none]⟩ .leaf) 112 ⟨.map 9 260,1,8,[.map none]⟩ (.node .leaf 114 ⟨.struct [(0,5),(5,1),(6,1)],7,104,[.slice none 0 0,.slice none 0 0,.int .i64 0,.int .i64 0,.slice none 0 0,.map none,.map none]⟩ .leaf)) 116 ⟨.other,1,8,[.nilFunc]⟩ (.node (.node .leaf 122 ⟨.other,1,8,[.pointer none]⟩ .leaf) 142 ⟨.other,1,8,[.pointer none]⟩ .leaf)) 144 ⟨.struct [(0,1),(1,1),(2,1)],3,40,[.slice none 0 0,.int .i64 0,.int .i64 0]⟩ (.node (.node (.node .leaf 145 ⟨.other,1,8,[.nilFunc]⟩ .leaf) 149 ⟨.int .u64,1,8,[.int .u64 0]⟩ .leaf) 159 ⟨.struct [(0,1),(1,1)],2,32,[.map none,.slice none 0 0]⟩ (.node (.node .leaf 162 ⟨.other,1,8,[.nilFunc]⟩ .leaf) 166 ⟨.other,1,8,[.nilFunc]⟩ .leaf))))) 172 ⟨.slice 9,1,24,[.slice none 0 0]⟩ (.node (.node (.node (.node (.node (.node .leaf 173 ⟨.slice 178,1,24,[.slice none 0 0]⟩ .leaf) 175 ⟨.struct [(0,1),(1,1),(2,1)],3,48,[.string ⟨#[]⟩,.int .i64 0,.slice none 0 0]⟩ (.node .leaf 178 ⟨.struct [(0,1),(1,1)],2,40,[.string ⟨#[]⟩,.slice none 0 0]⟩ .leaf)) 187 ⟨.other,1,8,[.nilFunc]⟩ (.node (.node .leaf 197 ⟨.float .f64,1,8,[.float .f64 0]⟩ .leaf) 198 ⟨.map 9 4,1,8,[.map none]⟩ .leaf)) 202 ⟨.struct [(0,1),(1,1),(2,1),(3,3),(6,1)],7,112,[.string ⟨#[]⟩,.slice none 0 0,.slice none 0 0,.int .i64 0,.int .i64 0,.slice none 0 0,.int .i64 0]⟩ (.node (.node (.node .leaf 203 ⟨.other,1,8,[.nilFunc]⟩ .leaf) 204 ⟨.slice 86,1,24,[.slice none 0 0]⟩ (.node .leaf 206 ⟨.struct [(0,1),(1,1),(2,1),(3,1),(4,1),(5,3)],8,128,[.int .i64 0,.int .i64 0,.slice none 0 0,.slice none 0 0,.slice none 0 0,.int .i64 0,.int .i64 0,.slice none 0 0]⟩ .leaf)) 207 ⟨.slice 4,1,24,[.slice none 0 0]⟩ (.node (.node .leaf 208 ⟨.other,1,8,[.nilFunc]⟩ .leaf) 209 ⟨.other,1,8,[.nilFunc]⟩ .leaf))) 210 ⟨.other,1,8,[.pointer none]⟩ (.node (.node (.node (.node .leaf 212 ⟨.struct [(0,4),(4,1)],5,120,[.slice none 0 0,.slice none 0 0,.slice none 0 0,.slice none 0 0,.slice none 0 0]⟩ .leaf) 219 ⟨.other,1,8,[.nilFunc]⟩ (.node .leaf 221 ⟨.other,1,8,[.nilFunc]⟩ .leaf)) 223 ⟨.int .i64,1,8,[.int .i64 0]⟩ (.node (.node .leaf 237 ⟨.other,1,8,[.nilFunc]⟩ .leaf) 239 ⟨.other,1,8,[.pointer none]⟩ .leaf)) 240 ⟨.slice 5,1,24,[.slice none 0 0]⟩ (.node (.node (.node .leaf 242 ⟨.struct [(0,1),(1,1)],2,32,[.pointer none,.slice none 0 0]⟩ .leaf) 244 ⟨.other,1,16,[.nilIface]⟩ (.node .leaf 260 ⟨.slice 264,1,24,[.slice none 0 0]⟩ .leaf)) 264 ⟨.struct [(0,2),(2,3)],5,88,[.int .i64 0,.slice none 0 0,.bool false,.slice none 0 0,.slice none 0 0]⟩ (.node (.node .leaf 273 ⟨.slice 277,1,24,[.slice none 0 0]⟩ .leaf) 277 ⟨.struct [(0,1),(1,1),(2,1)],3,32,[.int .i64 0,.string ⟨#[]⟩,.int .i64 0]⟩ .leaf)))) 283 ⟨.slice 34,1,24,[.slice none 0 0]⟩ (.node (.node (.node (.node (.node .leaf 285 ⟨.slice 288,1,24,[.slice none 0 0]⟩ .leaf) 288 ⟨.struct [(0,1),(1,1),(2,1)],3,32,[.int .i64 0,.string ⟨#[]⟩,.int .i64 0]⟩ (.node .leaf 302 ⟨.other,1,8,[.nilFunc]⟩ .leaf)) 304 ⟨.int .u64,1,8,[.int .u64 0]⟩ (.node (.node .leaf 308 ⟨.other,1,8,[.pointer none]⟩ .leaf) 311 ⟨.slice 43,1,24,[.slice none 0 0]⟩ .leaf)) 316 ⟨.other,1,8,[.pointer none]⟩ (.node (.node (.node .leaf 334 ⟨.slice 49,1,24,[.slice none 0 0]⟩ .leaf) 336 ⟨.slice 48,1,24,[.slice none 0 0]⟩ (.node .leaf 338 ⟨.other,1,8,[.nilFunc]⟩ .leaf)) 355 ⟨.other,1,8,[.nilFunc]⟩ (.node (.node .leaf 357 ⟨.other,1,8,[.pointer none]⟩ .leaf) 361 ⟨.other,1,8,[.pointer none]⟩ .leaf))) 376 ⟨.other,1,8,[.pointer none]⟩ (.node (.node (.node (.node .leaf 391 ⟨.slice 264,1,24,[.slice none 0 0]⟩ .leaf) 398 ⟨.other,1,8,[.nilFunc]⟩ (.node .leaf 414 ⟨.other,1,8,[.nilFunc]⟩ .leaf)) 418 ⟨.struct [(0,1),(1,3),(4,1),(5,1)],6,96,[.slice none 0 0,.int .i64 0,.int .i64 0,.slice none 0 0,.map none,.slice none 0 0]⟩ (.node (.node .leaf 419 ⟨.slice 422,1,24,[.slice none 0 0]⟩ .leaf) 422 ⟨.struct [(0,1),(1,3)],4,80,[.slice none 0 0,.bool false,.slice none 0 0,.slice none 0 0]⟩ .leaf)) 424 ⟨.slice 260,1,24,[.slice none 0 0]⟩ (.node (.node (.node .leaf 426 ⟨.other,1,8,[.nilFunc]⟩ .leaf) 430 ⟨.slice 433,1,24,[.slice none 0 0]⟩ .leaf) 433 ⟨.struct [(0,1),(1,3)],4,80,[.slice none 0 0,.bool false,.slice none 0 0,.slice none 0 0]⟩ (.node (.node .leaf 446 ⟨.other,1,8,[.nilFunc]⟩ .leaf) 453 ⟨.slice 77,1,24,[.slice none 0 0]⟩ .leaf))))))
def B7:Dv:=Al0.find
theorem A40:Al0.toList.map (λp=>Jk prog p.1)=Al0.toList.map (λp=>some p.2):=by kernel_rfl
theorem Asp:Dx prog B7:=Tr.ok A40
theorem Aa7:prog.follows .mixedOrders=true:=by kernel_rfl
end Go.Ab
namespace Go.Ab.Fn
abbrev Agd:FuncId:=3
abbrev Abi:FuncId:=4
abbrev Abj:FuncId:=5
abbrev Abk:FuncId:=6
abbrev N6:FuncId:=7
abbrev Abl:FuncId:=8
abbrev Hj:FuncId:=9
abbrev Abm:FuncId:=10
abbrev Abn:FuncId:=11
abbrev X3:FuncId:=12
abbrev Q8:FuncId:=13
abbrev N7:FuncId:=14
abbrev N8:FuncId:=15
abbrev Nb:FuncId:=16
abbrev U6:FuncId:=17
abbrev U7:FuncId:=18
abbrev Jd:FuncId:=19
abbrev U8:FuncId:=20
abbrev U9:FuncId:=21
abbrev Kg:FuncId:=22
abbrev Va:FuncId:=23
abbrev Abo:FuncId:=24
abbrev X4:FuncId:=25
abbrev X5:FuncId:=26
abbrev Lf:FuncId:=27
abbrev O8:FuncId:=28
abbrev Qc:FuncId:=29
abbrev Nc:FuncId:=30
abbrev Ky:FuncId:=31
abbrev X6:FuncId:=32
abbrev Vb:FuncId:=33
abbrev N9:FuncId:=34
abbrev Abp:FuncId:=35
abbrev Nd:FuncId:=36
abbrev Sr:FuncId:=37
abbrev Ss:FuncId:=38
abbrev Age:FuncId:=39
abbrev Abq:FuncId:=40
abbrev X7:FuncId:=41
abbrev Abr:FuncId:=42
abbrev X8:FuncId:=43
abbrev X9:FuncId:=44
abbrev Abs:FuncId:=45
abbrev Lg:FuncId:=46
abbrev O9:FuncId:=47
abbrev Su:FuncId:=48
abbrev Ya:FuncId:=49
abbrev Yb:FuncId:=50
abbrev Abt:FuncId:=51
abbrev Vc:FuncId:=52
abbrev Abu:FuncId:=53
abbrev Sv:FuncId:=54
abbrev Abv:FuncId:=55
abbrev Yc:FuncId:=56
abbrev Abw:FuncId:=57
abbrev Abx:FuncId:=58
abbrev Yd:FuncId:=59
abbrev Ye:FuncId:=60
abbrev Q9:FuncId:=61
abbrev Yf:FuncId:=62
abbrev Nf:FuncId:=63
abbrev Mf:FuncId:=64
abbrev Yg:FuncId:=65
abbrev Gn:FuncId:=66
abbrev Ng:FuncId:=67
abbrev Yh:FuncId:=68
abbrev Ra:FuncId:=69
abbrev Oa:FuncId:=70
abbrev Agf:FuncId:=71
abbrev Aby:FuncId:=72
abbrev Rb:FuncId:=73
abbrev Pa:FuncId:=74
abbrev Abz:FuncId:=75
abbrev Lu:FuncId:=76
abbrev Pb:FuncId:=77
abbrev Yi:FuncId:=78
abbrev Vd:FuncId:=79
abbrev Ab0:FuncId:=80
abbrev Ve:FuncId:=81
abbrev Qd:FuncId:=82
abbrev Vf:FuncId:=83
abbrev Yj:FuncId:=84
abbrev Ab1:FuncId:=85
abbrev Nh:FuncId:=86
abbrev Mg:FuncId:=87
abbrev Sw:FuncId:=88
abbrev Ab2:FuncId:=89
abbrev Ab3:FuncId:=90
abbrev Mh:FuncId:=91
abbrev Sx:FuncId:=92
abbrev Ab4:FuncId:=93
abbrev Al1:FuncId:=94
abbrev Al2:FuncId:=95
abbrev Al3:FuncId:=96
abbrev Al4:FuncId:=97
abbrev Al5:FuncId:=98
abbrev Al6:FuncId:=99
abbrev Pc:FuncId:=100
abbrev Qf:FuncId:=101
abbrev Qg:FuncId:=102
abbrev Yk:FuncId:=103
abbrev Sy:FuncId:=104
abbrev Al7:FuncId:=105
abbrev Vg:FuncId:=106
abbrev Re:FuncId:=107
abbrev Yl:FuncId:=108
abbrev Qh:FuncId:=109
abbrev Ab5:FuncId:=110
abbrev Ym:FuncId:=111
abbrev Yn:FuncId:=112
abbrev Mi:FuncId:=113
abbrev Ab6:FuncId:=114
abbrev Rf:FuncId:=115
abbrev Iu:FuncId:=116
abbrev Vh:FuncId:=117
abbrev Qi:FuncId:=118
abbrev Rg:FuncId:=119
abbrev Rh:FuncId:=120
abbrev Ab7:FuncId:=121
abbrev Yo:FuncId:=122
abbrev Ab8:FuncId:=123
abbrev Ab9:FuncId:=124
abbrev Sz:FuncId:=125
abbrev Ri:FuncId:=126
abbrev Rj:FuncId:=127
abbrev Vi:FuncId:=128
abbrev S0:FuncId:=129
abbrev Yp:FuncId:=130
abbrev Rk:FuncId:=131
abbrev S3:FuncId:=132
abbrev S4:FuncId:=133
abbrev Vj:FuncId:=134
abbrev Lh:FuncId:=135
abbrev Rl:FuncId:=136
abbrev Je:FuncId:=137
abbrev Vk:FuncId:=138
abbrev S5:FuncId:=139
abbrev Yq:FuncId:=140
abbrev Yr:FuncId:=141
abbrev Ys:FuncId:=142
abbrev Aca:FuncId:=143
abbrev Yt:FuncId:=144
abbrev Yu:FuncId:=145
abbrev S6:FuncId:=146
abbrev Jq:FuncId:=147
abbrev Iv:FuncId:=148
abbrev Yv:FuncId:=149
abbrev Mj:FuncId:=150
abbrev S7:FuncId:=151
abbrev Vl:FuncId:=152
abbrev Mk:FuncId:=153
abbrev Qj:FuncId:=154
abbrev Vm:FuncId:=155
abbrev S8:FuncId:=156
abbrev Al8:FuncId:=157
abbrev Al9:FuncId:=158
abbrev Acb:FuncId:=165
abbrev Acd:FuncId:=166
abbrev Ob:FuncId:=167
abbrev Pd:FuncId:=168
abbrev Pe:FuncId:=169
abbrev Ni:FuncId:=170
abbrev Agg:FuncId:=171
abbrev Ace:FuncId:=172
abbrev Qk:FuncId:=173
abbrev S9:FuncId:=174
abbrev Agh:FuncId:=175
abbrev Acf:FuncId:=176
abbrev Ama:FuncId:=177
abbrev Amb:FuncId:=183
abbrev Agi:FuncId:=187
abbrev Ml:FuncId:=188
abbrev Yw:FuncId:=189
abbrev Yx:FuncId:=190
abbrev Acg:FuncId:=191
abbrev Ach:FuncId:=192
abbrev Aci:FuncId:=193
abbrev Vn:FuncId:=194
abbrev Acj:FuncId:=195
abbrev Ack:FuncId:=196
abbrev Acl:FuncId:=197
abbrev Kz:FuncId:=198
abbrev Ql:FuncId:=199
abbrev J4:FuncId:=200
abbrev Rm:FuncId:=201
abbrev Nj:FuncId:=202
abbrev Yy:FuncId:=203
abbrev Rn:FuncId:=204
abbrev Ro:FuncId:=205
abbrev Agj:FuncId:=206
abbrev Acm:FuncId:=207
abbrev Acn:FuncId:=208
abbrev Oc:FuncId:=209
abbrev Yz:FuncId:=210
abbrev Y0:FuncId:=211
abbrev Vo:FuncId:=212
abbrev Ta:FuncId:=213
abbrev Y1:FuncId:=214
abbrev Od:FuncId:=215
abbrev Tb:FuncId:=216
abbrev Vp:FuncId:=217
abbrev Aco:FuncId:=218
abbrev Y2:FuncId:=219
abbrev Qm:FuncId:=220
abbrev Y3:FuncId:=221
abbrev Agk:FuncId:=222
abbrev Agl:FuncId:=223
abbrev Agm:FuncId:=224
abbrev Tc:FuncId:=225
abbrev Vq:FuncId:=226
abbrev Y4:FuncId:=227
abbrev Acp:FuncId:=228
abbrev Y5:FuncId:=229
abbrev Y6:FuncId:=230
abbrev Nk:FuncId:=231
abbrev Td:FuncId:=232
abbrev Y7:FuncId:=233
abbrev Kh:FuncId:=234
abbrev Acq:FuncId:=235
abbrev Agn:FuncId:=237
abbrev Y8:FuncId:=238
abbrev Vr:FuncId:=239
abbrev Amc:FuncId:=240
abbrev Vs:FuncId:=251
abbrev Vt:FuncId:=252
abbrev Te:FuncId:=253
abbrev Pf:FuncId:=254
abbrev Ago:FuncId:=255
abbrev Acr:FuncId:=256
abbrev Acs:FuncId:=257
abbrev Vu:FuncId:=258
abbrev Acu:FuncId:=259
abbrev Y9:FuncId:=265
abbrev Rq:FuncId:=266
abbrev Agp:FuncId:=267
abbrev Rr:FuncId:=268
abbrev Acv:FuncId:=269
abbrev Vv:FuncId:=270
abbrev Vx:FuncId:=272
abbrev Pg:FuncId:=273
abbrev Acw:FuncId:=274
abbrev Vy:FuncId:=275
abbrev Za:FuncId:=276
abbrev Vz:FuncId:=277
abbrev Acx:FuncId:=278
abbrev V1:FuncId:=279
abbrev Acy:FuncId:=280
abbrev V2:FuncId:=288
abbrev Acz:FuncId:=289
abbrev Ac0:FuncId:=290
abbrev Agq:FuncId:=292
abbrev Rs:FuncId:=293
abbrev Ac1:FuncId:=294
abbrev Agr:FuncId:=295
abbrev Ags:FuncId:=296
abbrev Ac2:FuncId:=297
abbrev Zb:FuncId:=298
abbrev Zc:FuncId:=299
abbrev Agt:FuncId:=300
abbrev Ac3:FuncId:=301
abbrev Ac4:FuncId:=302
abbrev Tf:FuncId:=303
abbrev Zd:FuncId:=304
abbrev Ze:FuncId:=305
abbrev Ac5:FuncId:=306
abbrev Zf:FuncId:=307
abbrev Tg:FuncId:=308
abbrev Zg:FuncId:=309
abbrev V3:FuncId:=310
abbrev Zh:FuncId:=311
abbrev Ac6:FuncId:=313
abbrev Ac7:FuncId:=314
abbrev Ac8:FuncId:=315
abbrev Ac9:FuncId:=316
abbrev Agu:FuncId:=320
abbrev Zi:FuncId:=321
abbrev V4:FuncId:=322
abbrev V5:FuncId:=323
abbrev Agv:FuncId:=324
abbrev Ada:FuncId:=326
abbrev Zj:FuncId:=328
abbrev Zk:FuncId:=330
abbrev V6:FuncId:=331
abbrev Zl:FuncId:=332
abbrev Adb:FuncId:=333
abbrev Agw:FuncId:=337
abbrev Agx:FuncId:=347
abbrev Zm:FuncId:=349
abbrev Qo:FuncId:=350
abbrev V7:FuncId:=351
abbrev Zn:FuncId:=352
abbrev Adc:FuncId:=353
abbrev V8:FuncId:=354
abbrev Add:FuncId:=355
abbrev V9:FuncId:=356
abbrev Zo:FuncId:=357
abbrev Zp:FuncId:=358
abbrev Zq:FuncId:=360
abbrev Wa:FuncId:=361
abbrev Ade:FuncId:=362
abbrev Zr:FuncId:=363
abbrev Adf:FuncId:=364
abbrev Th:FuncId:=365
abbrev Adg:FuncId:=366
abbrev Adh:FuncId:=367
abbrev Wb:FuncId:=368
abbrev Wc:FuncId:=369
abbrev Ti:FuncId:=370
abbrev Agy:FuncId:=373
abbrev Agz:FuncId:=374
abbrev Wd:FuncId:=403
abbrev Adi:FuncId:=404
abbrev Tj:FuncId:=405
abbrev Zs:FuncId:=406
abbrev We:FuncId:=429
end Go.Ab.Fn
namespace Go.Ab
open Go
abbrev O(k:IntKind)(n:Int):AV:=.val (.int k n)
abbrev eo:=O .i64
abbrev fo:=O .u32
abbrev io:=O .u64
abbrev jo:=O .u8
abbrev Av(b:Bool):AV:=.val (.bool b)
abbrev E4(s:Β):AV:=.val (.string s)
abbrev Aw{α:Type}(sz:Nat)(f:α->AV)(l:Λ α):AV:=.sl sz (l.map f)
abbrev J5{α:Type}(sz:Nat)(g:Λ α->Λ AV)(l:Λ α):AV:=.sl sz (g l)
structure Ak where
 G:Int
 U:Int
 R:List Ak
mutual
def Amd:Ak->AV
 |⟨x0,x1,x2⟩=>.agg [eo x0,eo x1,.sl 3 (B6 x2)]
def B6:List Ak->List AV
 |[]=>[]
 |x::xs=>Amd x::B6 xs
end
def Fz(x:Ak):AV:=.agg [eo x.G,eo x.U,.sl 3 (B6 x.R)]
theorem A41(x:Ak):Amd x=Fz x:=by cases x;simp only[Amd,Fz]
theorem Lv:∀l:Λ Ak,B6 l=l.map Fz
 |[]=>rfl
 |x::xs=>by simp only[B6,List.map_cons,A41,Lv xs]
structure Ph where
 S:Β
 R:List Ak
def Ag0(x:Ph):AV:=.agg [E4 x.S,.sl 3 (B6 x.R)]
structure A5 where
 S:Β
 V:Int
 O:List Ph
def Di(x:A5):AV:=.agg [E4 x.S,eo x.V,.sl 2 (List.map Ag0 x.O)]
structure A9 where
 D:List A5
 V:List Ak
 E:Ak
def Gk(x:A9):AV:=.agg [.sl 3 (List.map Di x.D),.sl 3 (B6 x.V),eo x.E.G,eo x.E.U,.sl 3 (B6 x.E.R)]
structure Am where
 N:Bool
 U:List Int
 B:List Int
def B4(x:Am):AV:=.agg [Av x.N,.sl 1 (List.map fo x.U),.sl 1 (List.map fo x.B)]
structure Bh where
 v:Int
 C:Int
def Da(x:Bh):AV:=.agg [eo x.v,eo x.C]
structure Ao where
 Q:Int
 T:List Bh
def C1(x:Ao):AV:=.agg [eo x.Q,.sl 2 (List.map Da x.T)]
structure A8 where
 L:Ao
 P:Int
def En(x:A8):AV:=.agg [eo x.L.Q,.sl 2 (List.map Da x.L.T),eo x.P]
structure A3 where
 U:Int
 K:List A3
mutual
def Ame:A3->AV
 |⟨x0,x1⟩=>.agg [eo x0,.sl 2 (Li x1)]
def Li:List A3->List AV
 |[]=>[]
 |x::xs=>Ame x::Li xs
end
def Hz(x:A3):AV:=.agg [eo x.U,.sl 2 (Li x.K)]
theorem A42(x:A3):Ame x=Hz x:=by cases x;simp only[Ame,Hz]
theorem Nl:∀l:Λ A3,Li l=l.map Hz
 |[]=>rfl
 |x::xs=>by simp only[Li,List.map_cons,A42,Nl xs]
structure Bm where
 v:Int
 I:A3
def F0(x:Bm):AV:=.agg [eo x.v,eo x.I.U,.sl 2 (Li x.I.K)]
structure Ax where
 F:List Bm
 A:List A8
def Hn(x:Ax):AV:=.agg [.sl 3 (List.map F0 x.F),.sl 3 (List.map En x.A)]
structure Af where
 C:Am
 M:Ax
def Bl(x:Af):AV:=.agg [Av x.C.N,.sl 1 (List.map fo x.C.U),.sl 1 (List.map fo x.C.B),.sl 3 (List.map F0 x.M.F),.sl 3 (List.map En x.M.A)]
structure Gx where
 G:Int
 E:Ao
 F:Ao
 K:Int
def Mm(x:Gx):AV:=.agg [eo x.G,eo x.E.Q,.sl 2 (List.map Da x.E.T),eo x.F.Q,.sl 2 (List.map Da x.F.T),eo x.K]
structure Fm where
 X:Gx
 C:Am
 W:Ax
 Y:List Am
 Z:List Am
def Lw(x:Fm):AV:=.agg [eo x.X.G,eo x.X.E.Q,.sl 2 (List.map Da x.X.E.T),eo x.X.F.Q,.sl 2 (List.map Da x.X.F.T),eo x.X.K,Av x.C.N,.sl 1 (List.map fo x.C.U),.sl 1 (List.map fo x.C.B),.sl 3 (List.map F0 x.W.F),.sl 3 (List.map En x.W.A),.sl 3 (List.map B4 x.Y),.sl 3 (List.map B4 x.Z)]
structure Iw where
 neg:Bool
 n:List Int
 d:List Int
def Tk(x:Iw):AV:=.agg [Av x.neg,.sl 1 (List.map fo x.n),.sl 1 (List.map fo x.d)]
structure Asq where
 S:Β
 Params:List Int
 Captured:List Int
 Result:Ak
 Body:Int
def Wf(x:Asq):AV:=.agg [E4 x.S,.sl 1 (List.map eo x.Params),.sl 1 (List.map eo x.Captured),eo x.Result.G,eo x.Result.U,.sl 3 (B6 x.Result.R),eo x.Body]
structure Asr where
 Op:Int
 U:Int
 V:List Int
 Binds:List (List Int)
 K:List Int
 Type_:Ak
def Wg(x:Asr):AV:=.agg [eo x.Op,eo x.U,.sl 1 (List.map eo x.V),.sl 1 (List.map (Aw 1 eo) x.Binds),.sl 1 (List.map eo x.K),eo x.Type_.G,eo x.Type_.U,.sl 3 (B6 x.Type_.R)]
structure Lx where
 D:List A5
 Codes:List Asq
 V:List Ak
 Exprs:List Asr
def Wh(x:Lx):AV:=.agg [.sl 3 (List.map Di x.D),.sl 7 (List.map Wf x.Codes),.sl 3 (B6 x.V),.sl 8 (List.map Wg x.Exprs)]
structure H3 where
 data:List A5
 vars:Int
 left:Int
structure Co where
 I:A3
 C:Am
def Er(x:Co):AV:=.agg [eo x.I.U,.sl 2 (Li x.I.K),Av x.C.N,.sl 1 (List.map fo x.C.U),.sl 1 (List.map fo x.C.B)]
structure Ly where
 G:Int
 Text:Β
 Pos:Int
def Amf(x:Ly):AV:=.agg [eo x.G,E4 x.Text,eo x.Pos]
structure K0 where
 G:Int
 Text:Β
 Pos:Int
def Ag1(x:K0):AV:=.agg [eo x.G,E4 x.Text,eo x.Pos]
structure A43 where
 list:List A3
 coef:Am
abbrev Ad:=List Af
abbrev Ag:=List Int
abbrev Aq:=List (Β×List Co)
abbrev At:=List (Β×Int)
abbrev A0:=List A5
abbrev A1:=List Ak
abbrev A2:=List A8
abbrev A4:=Option Int
abbrev A6:=List Ao
abbrev A7:=List Bh
abbrev Ba:=Option (List Int)
abbrev Bc:=List Am
abbrev Be:=Option (List Af×Int)
abbrev Bi:=List Bm
abbrev Bo:=List A3
abbrev Br:=Option ((Int×List (Β×Int))⊕((Bool×List (Β×Int))⊕List (Β×Int)))
abbrev Bv:=List (A3×Nat)
abbrev Bw:=Option (List Af)
abbrev Bx:=Option Am
abbrev B0:=List Rat
abbrev Ci:=List (List A3×Nat)
abbrev Cn:=Option Β
abbrev Cq:=Option Nat
abbrev Cx:=Option ((Nat×Int×List Af)⊕(Nat×Int×List Af))
abbrev Cy:=List Β
abbrev C6:=Option ((Int×List Af)⊕(Int×List Af))
abbrev C7:=List (Rat×Ax)
abbrev Dk:=List (Nat×Nat)
abbrev Dn:=Option (List Af×Int×List (Β×Int)×List (Β×List Co))
abbrev Do:=Option (List Bh)
abbrev Dr:=List Nat
abbrev D4:=List Fm
abbrev D6:=Option (List Am)
abbrev D7:=Option ((Int×Int)⊕(Int⊕Int))
abbrev Ee:=List (Β×Bool)
abbrev Ei:=List (Ax×Nat)
abbrev Ev:=Option (Bool×List (Β×Int))
abbrev E3:=Option (Int×List (Β×Int))
abbrev E9:=Option (List A8)
abbrev Fa:=Option (Ao×Int)
abbrev F3:=Option (Int×List Int)
abbrev F6:=Option (List Bm)
abbrev Hl:=Option (Int⊕Int)
abbrev Id:=Option ((Nat×Int×List Af)⊕(Nat×List Af))
abbrev If:=Option (List (Β×Int)×List Af)
abbrev In:=List Bool
abbrev Io:=Option (List Ak×Bool)
abbrev K2:=List (List Af)
end Go.Ab
