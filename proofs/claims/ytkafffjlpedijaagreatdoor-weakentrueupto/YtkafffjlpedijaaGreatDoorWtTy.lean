/- The types that the program uses; plain types for its data. -/
import Derived.Test.YtkafffjlpedijaaGreatDoorWtAb2
import Derived.Test.YtkafffjlpedijaaGreatDoorProg
import Derived.KernelRfl
namespace Go.Ab
open Go Go.Proofs Go.Proofs.Tryz
theorem κ {p:Prop} (h:p:=by kernel_rfl):p:=h
def Aih:Tr:=(.node (.node (.node (.node (.node (.node (.node .leaf 1 ⟨.other,1,8,[.nilFunc]⟩ .leaf) 2 ⟨.int .i64,1,8,[.int .i64 0]⟩ (.node .leaf 3 ⟨.int .i64,1,8,[.int .i64 0]⟩ .leaf)) 4 ⟨.bool,1,1,[.bool false]⟩ (.node (.node .leaf 5 ⟨.int .u8,1,1,[.int .u8 0]⟩ .leaf) 9 ⟨.string,1,16,[.string ⟨#[]⟩]⟩ .leaf)) 20 ⟨.other,1,16,[.nilIface]⟩ (.node (.node (.node .leaf 22 ⟨.slice 206,1,24,[.slice none 0 0]⟩ .leaf) 23 ⟨.slice 25,1,24,[.slice none 0 0]⟩ (.node .leaf 25 ⟨.struct [(0,1),(1,1),(2,1)],3,40,[.int .i64 0,.int .i64 0,.slice none 0 0]⟩ .leaf)) 27 ⟨.struct [(0,1),(1,1),(2,3)],5,88,[.slice none 0 0,.slice none 0 0,.int .i64 0,.int .i64 0,.slice none 0 0]⟩ (.node (.node .leaf 28 ⟨.slice 53,1,24,[.slice none 0 0]⟩ .leaf) 29 ⟨.slice 61,1,24,[.slice none 0 0]⟩ .leaf))) 30 ⟨.slice 66,1,24,[.slice none 0 0]⟩ (.node (.node (.node (.node .leaf 31 ⟨.slice 33,1,24,[.slice none 0 0]⟩ .leaf) 33 ⟨.struct [(0,1),(1,1),(2,1)],3,40,[.int .i64 0,.int .i64 0,.slice none 0 0]⟩ (.node .leaf 38 ⟨.int .i64,1,8,[.int .i64 0]⟩ .leaf)) 41 ⟨.slice 101,1,24,[.slice none 0 0]⟩ (.node (.node .leaf 43 ⟨.struct [(0,1),(1,1),(2,1)],3,56,[.bool false,.slice none 0 0,.slice none 0 0]⟩ .leaf) 50 ⟨.struct [(0,1),(1,1)],2,16,[.int .i64 0,.int .i64 0]⟩ .leaf)) 51 ⟨.slice 50,1,24,[.slice none 0 0]⟩ (.node (.node (.node .leaf 53 ⟨.struct [(0,1),(1,1)],2,32,[.int .i64 0,.slice none 0 0]⟩ .leaf) 55 ⟨.struct [(0,2),(2,1)],3,40,[.int .i64 0,.slice none 0 0,.int .i64 0]⟩ (.node .leaf 56 ⟨.slice 55,1,24,[.slice none 0 0]⟩ .leaf)) 57 ⟨.slice 94,1,24,[.slice none 0 0]⟩ (.node (.node .leaf 59 ⟨.struct [(0,1),(1,1)],2,48,[.slice none 0 0,.slice none 0 0]⟩ .leaf) 61 ⟨.struct [(0,3),(3,2)],5,104,[.bool false,.slice none 0 0,.slice none 0 0,.slice none 0 0,.slice none 0 0]⟩ .leaf)))) 63 ⟨.struct [(0,1),(1,2),(3,2),(5,1)],6,80,[.int .i64 0,.int .i64 0,.slice none 0 0,.int .i64 0,.slice none 0 0,.int .i64 0]⟩ (.node (.node (.node (.node (.node .leaf 64 ⟨.slice 43,1,24,[.slice none 0 0]⟩ .leaf) 66 ⟨.struct [(0,6),(6,3),(9,2),(11,1),(12,1)],13,232,[.int .i64 0,.int .i64 0,.slice none 0 0,.int .i64 0,.slice none 0 0,.int .i64 0,.bool false,.slice none 0 0,.slice none 0 0,.slice none 0 0,.slice none 0 0,.slice none 0 0,.slice none 0 0]⟩ (.node .leaf 81 ⟨.slice 3,1,24,[.slice none 0 0]⟩ .leaf)) 83 ⟨.other,1,8,[.pointer none]⟩ (.node (.node .leaf 86 ⟨.other,1,8,[.nilFunc]⟩ .leaf) 90 ⟨.slice 92,1,24,[.slice none 0 0]⟩ .leaf)) 92 ⟨.struct [(0,1),(1,1)],2,32,[.int .i64 0,.slice none 0 0]⟩ (.node (.node (.node .leaf 94 ⟨.struct [(0,1),(1,2)],3,40,[.int .i64 0,.int .i64 0,.slice none 0 0]⟩ .leaf) 96 ⟨.other,1,8,[.nilFunc]⟩ (.node .leaf 100 ⟨.int .u64,1,8,[.int .u64 0]⟩ .leaf)) 101 ⟨.int .u32,1,4,[.int .u32 0]⟩ (.node (.node .leaf 106 ⟨.slice 101,1,24,[.slice none 0 0]⟩ .leaf) 108 ⟨.struct [(0,1),(1,1),(2,1)],3,56,[.bool false,.slice none 0 0,.slice none 0 0]⟩ .leaf))) 115 ⟨.other,1,8,[.nilFunc]⟩ (.node (.node (.node (.node .leaf 118 ⟨.slice 29,1,24,[.slice none 0 0]⟩ .leaf) 120 ⟨.slice 212,1,24,[.slice none 0 0]⟩ (.node .leaf 121 ⟨.slice 216,1,24,[.slice none 0 0]⟩ .leaf)) 123 ⟨.struct [(0,1),(1,1),(2,1),(3,1)],4,96,[.slice none 0 0,.slice none 0 0,.slice none 0 0,.slice none 0 0]⟩ (.node (.node .leaf 125 ⟨.map 9 3,1,8,[.map none]⟩ .leaf) 126 ⟨.map 9 286,1,8,[.map none]⟩ .leaf)) 128 ⟨.struct [(0,5),(5,1),(6,1)],7,104,[.slice none 0 0,.slice none 0 0,.int .i64 0,.int .i64 0,.slice none 0 0,.map none,.map none]⟩ (.node (.node (.node .leaf 133 ⟨.other,1,8,[.pointer none]⟩ .leaf) 147 ⟨.other,1,8,[.nilFunc]⟩ (.node .leaf 151 ⟨.other,1,8,[.pointer none]⟩ .leaf)) 160 ⟨.other,1,8,[.pointer none]⟩ (.node (.node .leaf 162 ⟨.struct [(0,1),(1,1),(2,1)],3,40,[.slice none 0 0,.int .i64 0,.int .i64 0]⟩ .leaf) 163 ⟨.other,1,8,[.nilFunc]⟩ .leaf))))) 168 ⟨.int .u64,1,8,[.int .u64 0]⟩ (.node (.node (.node (.node (.node (.node .leaf 170 ⟨.other,1,8,[.nilFunc]⟩ .leaf) 192 ⟨.struct [(0,1),(1,1)],2,32,[.map none,.slice none 0 0]⟩ (.node .leaf 196 ⟨.other,1,8,[.nilFunc]⟩ .leaf)) 202 ⟨.map 9 4,1,8,[.map none]⟩ (.node (.node .leaf 204 ⟨.slice 208,1,24,[.slice none 0 0]⟩ .leaf) 206 ⟨.struct [(0,1),(1,1),(2,1)],3,48,[.string ⟨#[]⟩,.int .i64 0,.slice none 0 0]⟩ .leaf)) 208 ⟨.struct [(0,1),(1,1)],2,40,[.string ⟨#[]⟩,.slice none 0 0]⟩ (.node (.node (.node .leaf 212 ⟨.struct [(0,1),(1,1),(2,1),(3,3),(6,1)],7,112,[.string ⟨#[]⟩,.slice none 0 0,.slice none 0 0,.int .i64 0,.int .i64 0,.slice none 0 0,.int .i64 0]⟩ .leaf) 213 ⟨.other,1,8,[.nilFunc]⟩ (.node .leaf 214 ⟨.slice 81,1,24,[.slice none 0 0]⟩ .leaf)) 216 ⟨.struct [(0,1),(1,1),(2,1),(3,1),(4,1),(5,3)],8,128,[.int .i64 0,.int .i64 0,.slice none 0 0,.slice none 0 0,.slice none 0 0,.int .i64 0,.int .i64 0,.slice none 0 0]⟩ (.node (.node .leaf 217 ⟨.slice 4,1,24,[.slice none 0 0]⟩ .leaf) 218 ⟨.other,1,8,[.nilFunc]⟩ .leaf))) 219 ⟨.other,1,8,[.nilFunc]⟩ (.node (.node (.node (.node .leaf 220 ⟨.other,1,8,[.pointer none]⟩ .leaf) 222 ⟨.struct [(0,4),(4,1)],5,120,[.slice none 0 0,.slice none 0 0,.slice none 0 0,.slice none 0 0,.slice none 0 0]⟩ (.node .leaf 230 ⟨.other,1,8,[.nilFunc]⟩ .leaf)) 231 ⟨.other,1,8,[.nilFunc]⟩ (.node (.node .leaf 233 ⟨.other,1,8,[.nilFunc]⟩ .leaf) 235 ⟨.int .i64,1,8,[.int .i64 0]⟩ .leaf)) 246 ⟨.other,1,8,[.nilFunc]⟩ (.node (.node (.node .leaf 254 ⟨.slice 256,1,24,[.slice none 0 0]⟩ .leaf) 256 ⟨.struct [(0,1),(1,1),(2,1),(3,1)],4,80,[.int .i64 0,.slice none 0 0,.slice none 0 0,.slice none 0 0]⟩ (.node .leaf 259 ⟨.float .f64,1,8,[.float .f64 0]⟩ .leaf)) 266 ⟨.other,1,8,[.nilFunc]⟩ (.node (.node .leaf 268 ⟨.other,1,8,[.pointer none]⟩ .leaf) 269 ⟨.slice 5,1,24,[.slice none 0 0]⟩ .leaf)))) 271 ⟨.struct [(0,1),(1,1)],2,32,[.pointer none,.slice none 0 0]⟩ (.node (.node (.node (.node (.node .leaf 273 ⟨.other,1,16,[.nilIface]⟩ .leaf) 286 ⟨.slice 290,1,24,[.slice none 0 0]⟩ (.node .leaf 290 ⟨.struct [(0,2),(2,3)],5,88,[.int .i64 0,.slice none 0 0,.bool false,.slice none 0 0,.slice none 0 0]⟩ .leaf)) 299 ⟨.slice 303,1,24,[.slice none 0 0]⟩ (.node (.node .leaf 303 ⟨.struct [(0,1),(1,1),(2,1)],3,32,[.int .i64 0,.string ⟨#[]⟩,.int .i64 0]⟩ .leaf) 315 ⟨.other,1,8,[.nilFunc]⟩ .leaf)) 317 ⟨.int .u64,1,8,[.int .u64 0]⟩ (.node (.node (.node .leaf 329 ⟨.slice 217,1,24,[.slice none 0 0]⟩ .leaf) 330 ⟨.other,1,8,[.nilFunc]⟩ (.node .leaf 332 ⟨.slice 51,1,24,[.slice none 0 0]⟩ .leaf)) 337 ⟨.other,1,8,[.pointer none]⟩ (.node (.node .leaf 351 ⟨.slice 57,1,24,[.slice none 0 0]⟩ .leaf) 353 ⟨.slice 56,1,24,[.slice none 0 0]⟩ .leaf))) 355 ⟨.other,1,8,[.nilFunc]⟩ (.node (.node (.node (.node .leaf 362 ⟨.other,1,8,[.nilFunc]⟩ .leaf) 364 ⟨.other,1,8,[.pointer none]⟩ (.node .leaf 368 ⟨.other,1,8,[.pointer none]⟩ .leaf)) 377 ⟨.other,1,8,[.pointer none]⟩ (.node (.node .leaf 391 ⟨.other,1,8,[.nilFunc]⟩ .leaf) 406 ⟨.other,1,8,[.nilFunc]⟩ .leaf)) 408 ⟨.struct [(0,1),(1,3),(4,1),(5,1)],6,96,[.slice none 0 0,.int .i64 0,.int .i64 0,.slice none 0 0,.map none,.slice none 0 0]⟩ (.node (.node (.node .leaf 409 ⟨.slice 412,1,24,[.slice none 0 0]⟩ .leaf) 412 ⟨.struct [(0,1),(1,3)],4,80,[.slice none 0 0,.bool false,.slice none 0 0,.slice none 0 0]⟩ (.node .leaf 415 ⟨.slice 286,1,24,[.slice none 0 0]⟩ .leaf)) 417 ⟨.other,1,8,[.nilFunc]⟩ (.node (.node .leaf 430 ⟨.other,1,8,[.nilFunc]⟩ .leaf) 435 ⟨.slice 90,1,24,[.slice none 0 0]⟩ .leaf))))))
def Ci:C6:=Aih.find
theorem A1h:Aih.toList.map (λp=>Im prog p.1)=Aih.toList.map (λp=>some p.2):=κ
theorem Aot:C7 prog Ci:=Tr.ok A1h
theorem Ya:prog.follows .mixedOrders=true:=κ
end Go.Ab
namespace Go.Ab.Fn
abbrev Add:FuncId:=3
abbrev Yj:FuncId:=4
abbrev Yk:FuncId:=5
abbrev Yl:FuncId:=6
abbrev Vo:FuncId:=7
abbrev Ms:FuncId:=8
abbrev Ym:FuncId:=9
abbrev Td:FuncId:=10
abbrev Yn:FuncId:=11
abbrev Mt:FuncId:=12
abbrev Yo:FuncId:=13
abbrev Yp:FuncId:=14
abbrev Vp:FuncId:=15
abbrev Pf:FuncId:=16
abbrev Mu:FuncId:=17
abbrev Mv:FuncId:=18
abbrev Te:FuncId:=19
abbrev L2:FuncId:=20
abbrev Tf:FuncId:=21
abbrev Q3:FuncId:=22
abbrev G5:FuncId:=23
abbrev Q4:FuncId:=24
abbrev Q5:FuncId:=25
abbrev Yq:FuncId:=26
abbrev Kq:FuncId:=27
abbrev L3:FuncId:=28
abbrev Vq:FuncId:=29
abbrev Pg:FuncId:=30
abbrev Lf:FuncId:=31
abbrev Dj:FuncId:=32
abbrev Tg:FuncId:=33
abbrev Ea:FuncId:=34
abbrev It:FuncId:=35
abbrev Q6:FuncId:=36
abbrev Th:FuncId:=37
abbrev Yr:FuncId:=38
abbrev L5:FuncId:=39
abbrev Ph:FuncId:=40
abbrev Oh:FuncId:=41
abbrev Jl:FuncId:=42
abbrev Vr:FuncId:=43
abbrev Ys:FuncId:=44
abbrev Mw:FuncId:=45
abbrev Yt:FuncId:=46
abbrev Mx:FuncId:=47
abbrev Pi:FuncId:=48
abbrev Ti:FuncId:=49
abbrev Ade:FuncId:=50
abbrev Yu:FuncId:=51
abbrev Yv:FuncId:=52
abbrev Tj:FuncId:=53
abbrev Oi:FuncId:=54
abbrev Yw:FuncId:=55
abbrev Vs:FuncId:=56
abbrev Q7:FuncId:=57
abbrev Adf:FuncId:=58
abbrev Oj:FuncId:=59
abbrev Q8:FuncId:=60
abbrev Tk:FuncId:=61
abbrev Ok:FuncId:=62
abbrev Adg:FuncId:=63
abbrev Nr:FuncId:=64
abbrev Pj:FuncId:=65
abbrev Vt:FuncId:=66
abbrev Ns:FuncId:=67
abbrev Pk:FuncId:=68
abbrev Pl:FuncId:=69
abbrev Pm:FuncId:=70
abbrev Yx:FuncId:=71
abbrev Vu:FuncId:=72
abbrev Yy:FuncId:=73
abbrev Tl:FuncId:=74
abbrev Vv:FuncId:=75
abbrev Yz:FuncId:=76
abbrev Q9:FuncId:=77
abbrev Pn:FuncId:=78
abbrev Vx:FuncId:=79
abbrev Kr:FuncId:=80
abbrev J8:FuncId:=81
abbrev Vy:FuncId:=82
abbrev Ks:FuncId:=83
abbrev Adh:FuncId:=84
abbrev Tm:FuncId:=85
abbrev Ol:FuncId:=86
abbrev Adi:FuncId:=87
abbrev Tn:FuncId:=88
abbrev Y0:FuncId:=89
abbrev Aii:FuncId:=90
abbrev Aij:FuncId:=91
abbrev Aik:FuncId:=92
abbrev Ail:FuncId:=93
abbrev Aim:FuncId:=94
abbrev Ain:FuncId:=95
abbrev Nt:FuncId:=96
abbrev Po:FuncId:=97
abbrev Om:FuncId:=98
abbrev Vz:FuncId:=99
abbrev Ra:FuncId:=100
abbrev Aio:FuncId:=101
abbrev To:FuncId:=102
abbrev Y1:FuncId:=103
abbrev Y2:FuncId:=104
abbrev Rb:FuncId:=105
abbrev Adj:FuncId:=106
abbrev V1:FuncId:=107
abbrev Pp:FuncId:=108
abbrev Adk:FuncId:=109
abbrev Y3:FuncId:=110
abbrev Y4:FuncId:=111
abbrev V2:FuncId:=112
abbrev Lg:FuncId:=113
abbrev Y5:FuncId:=114
abbrev Tp:FuncId:=115
abbrev V3:FuncId:=116
abbrev My:FuncId:=117
abbrev Y6:FuncId:=118
abbrev Re:FuncId:=119
abbrev Rf:FuncId:=120
abbrev Lh:FuncId:=121
abbrev Y7:FuncId:=122
abbrev Y8:FuncId:=123
abbrev On:FuncId:=124
abbrev V4:FuncId:=125
abbrev Kt:FuncId:=126
abbrev Y9:FuncId:=127
abbrev V5:FuncId:=128
abbrev V6:FuncId:=129
abbrev Za:FuncId:=130
abbrev Pq:FuncId:=131
abbrev Ps:FuncId:=132
abbrev Zb:FuncId:=133
abbrev V7:FuncId:=134
abbrev Adl:FuncId:=135
abbrev Zc:FuncId:=136
abbrev Rg:FuncId:=137
abbrev Pt:FuncId:=138
abbrev Oo:FuncId:=139
abbrev Tq:FuncId:=140
abbrev Rh:FuncId:=141
abbrev Aip:FuncId:=142
abbrev Aiq:FuncId:=143
abbrev Zd:FuncId:=150
abbrev Ze:FuncId:=151
abbrev Mz:FuncId:=152
abbrev Nu:FuncId:=153
abbrev M0:FuncId:=154
abbrev L6:FuncId:=155
abbrev Adm:FuncId:=156
abbrev Zf:FuncId:=157
abbrev Oq:FuncId:=158
abbrev Ri:FuncId:=159
abbrev Adn:FuncId:=160
abbrev Zg:FuncId:=161
abbrev Air:FuncId:=162
abbrev Ais:FuncId:=168
abbrev Ado:FuncId:=172
abbrev V8:FuncId:=173
abbrev Zh:FuncId:=174
abbrev V9:FuncId:=175
abbrev Rj:FuncId:=176
abbrev Rk:FuncId:=177
abbrev Pu:FuncId:=178
abbrev Ts:FuncId:=179
abbrev Zi:FuncId:=180
abbrev Tt:FuncId:=181
abbrev Adp:FuncId:=182
abbrev Rl:FuncId:=183
abbrev Tu:FuncId:=184
abbrev Pv:FuncId:=185
abbrev Zj:FuncId:=186
abbrev M1:FuncId:=187
abbrev Wa:FuncId:=188
abbrev Wb:FuncId:=189
abbrev Zk:FuncId:=190
abbrev Zl:FuncId:=191
abbrev Zm:FuncId:=192
abbrev Tv:FuncId:=193
abbrev Zn:FuncId:=194
abbrev Zo:FuncId:=195
abbrev Zp:FuncId:=196
abbrev Jm:FuncId:=197
abbrev L7:FuncId:=198
abbrev Jd:FuncId:=199
abbrev Px:FuncId:=200
abbrev L8:FuncId:=201
abbrev Zq:FuncId:=202
abbrev Zr:FuncId:=203
abbrev Nv:FuncId:=204
abbrev Wc:FuncId:=205
abbrev Tw:FuncId:=206
abbrev Rm:FuncId:=207
abbrev Rn:FuncId:=208
abbrev Wd:FuncId:=209
abbrev Li:FuncId:=210
abbrev Ro:FuncId:=211
abbrev Rp:FuncId:=212
abbrev We:FuncId:=213
abbrev Wf:FuncId:=214
abbrev Nw:FuncId:=215
abbrev Tx:FuncId:=216
abbrev Adq:FuncId:=217
abbrev Adr:FuncId:=218
abbrev Ads:FuncId:=219
abbrev Ty:FuncId:=220
abbrev Ait:FuncId:=221
abbrev Tz:FuncId:=232
abbrev T0:FuncId:=233
abbrev Rq:FuncId:=234
abbrev Adt:FuncId:=235
abbrev Zs:FuncId:=236
abbrev Zt:FuncId:=237
abbrev T1:FuncId:=238
abbrev Zu:FuncId:=239
abbrev Wg:FuncId:=245
abbrev T2:FuncId:=246
abbrev Wh:FuncId:=247
abbrev Zv:FuncId:=248
abbrev Rr:FuncId:=249
abbrev Wi:FuncId:=250
abbrev T3:FuncId:=251
abbrev Wj:FuncId:=252
abbrev Py:FuncId:=253
abbrev Adu:FuncId:=254
abbrev Zw:FuncId:=255
abbrev T5:FuncId:=256
abbrev T6:FuncId:=258
abbrev Nx:FuncId:=259
abbrev Zx:FuncId:=260
abbrev T7:FuncId:=268
abbrev Zy:FuncId:=269
abbrev Zz:FuncId:=270
abbrev Adv:FuncId:=272
abbrev Z1:FuncId:=273
abbrev Adw:FuncId:=274
abbrev Adx:FuncId:=275
abbrev Z2:FuncId:=276
abbrev Z3:FuncId:=277
abbrev Z4:FuncId:=278
abbrev Ady:FuncId:=282
abbrev Wk:FuncId:=283
abbrev T8:FuncId:=284
abbrev T9:FuncId:=285
abbrev Adz:FuncId:=286
abbrev Z5:FuncId:=288
abbrev Wl:FuncId:=290
abbrev Ad0:FuncId:=295
abbrev Ad1:FuncId:=304
abbrev Ot:FuncId:=306
abbrev Ua:FuncId:=307
abbrev Wm:FuncId:=308
abbrev Z6:FuncId:=309
abbrev Wn:FuncId:=310
abbrev Ub:FuncId:=311
abbrev Z7:FuncId:=312
abbrev Wo:FuncId:=313
abbrev Z8:FuncId:=314
abbrev Rs:FuncId:=315
abbrev Z9:FuncId:=316
abbrev Aaa:FuncId:=317
abbrev Ad2:FuncId:=320
abbrev Ad3:FuncId:=321
abbrev Aab:FuncId:=347
end Go.Ab.Fn
namespace Go.Ab
open Go
abbrev O (k:IntKind) (n:Int):AV:=.val (.int k n)
abbrev Au (b:Bool):AV:=.val (.bool b)
abbrev F9 (s:ByteArray):AV:=.val (.string s)
abbrev Ar {α:Type} (sz:Nat) (f:α->AV) (l:List α):AV:=.sl sz (l.map f)
abbrev Gy {α:Type} (sz:Nat) (g:List α->List AV) (l:List α):AV:=.sl sz (g l)
structure Ah where
 G:Int
 U:Int
 R:(List Ah)
mutual
def Aiu:Ah->AV
 | ⟨x0,x1,x2⟩=>.agg [O .i64 x0,O .i64 x1,.sl 3 (Br x2)]
def Br:List Ah->List AV
 | []=>[]
 | x::xs=>Aiu x::Br xs
end
def E3 (x:Ah):AV:=.agg [O .i64 x.G,O .i64 x.U,.sl 3 (Br x.R)]
theorem A1i (x:Ah):Aiu x=E3 x:=by cases x;simp only[Aiu,E3]
theorem Lj:∀l:List Ah,Br l=l.map E3
 | []=>rfl
 | x::xs=>by simp only[Br,List.map_cons,A1i,Lj xs]
structure Pz where
 S:ByteArray
 R:(List Ah)
def Ad4 (x:Pz):AV:=.agg [F9 x.S,.sl 3 (Br x.R)]
structure Aw where
 S:ByteArray
 V:Int
 O:(List Pz)
def Co (x:Aw):AV:=.agg [F9 x.S,O .i64 x.V,.sl 2 (List.map Ad4 x.O)]
structure Bh where
 D:(List Aw)
 V:(List Ah)
 E:Ah
def Iu (x:Bh):AV:=.agg [.sl 3 (List.map Co x.D),.sl 3 (Br x.V),O .i64 x.E.G,O .i64 x.E.U,.sl 3 (Br x.E.R)]
structure A3 where
 G:Int
 U:Int
 K:(List A3)
mutual
def Aiv:A3->AV
 | ⟨x0,x1,x2⟩=>.agg [O .i64 x0,O .i64 x1,.sl 3 (Ha x2)]
def Ha:List A3->List AV
 | []=>[]
 | x::xs=>Aiv x::Ha xs
end
def Gf (x:A3):AV:=.agg [O .i64 x.G,O .i64 x.U,.sl 3 (Ha x.K)]
theorem A1j (x:A3):Aiv x=Gf x:=by cases x;simp only[Aiv,Gf]
theorem J1:∀l:List A3,Ha l=l.map Gf
 | []=>rfl
 | x::xs=>by simp only[Ha,List.map_cons,A1j,J1 xs]
structure Aj where
 N:Bool
 U:(List Int)
 B:(List Int)
def B2 (x:Aj):AV:=.agg [Au x.N,.sl 1 (List.map (O .u32) x.U),.sl 1 (List.map (O .u32) x.B)]
structure Bk where
 v:Int
 C:Int
def Dr (x:Bk):AV:=.agg [O .i64 x.v,O .i64 x.C]
structure As where
 Q:Int
 T:(List Bk)
def Dn (x:As):AV:=.agg [O .i64 x.Q,.sl 2 (List.map Dr x.T)]
structure Be where
 L:As
 P:Int
def Ff (x:Be):AV:=.agg [O .i64 x.L.Q,.sl 2 (List.map Dr x.L.T),O .i64 x.P]
structure Bj where
 U:Int
 K:(List Bj)
mutual
def Aiw:Bj->AV
 | ⟨x0,x1⟩=>.agg [O .i64 x0,.sl 2 (J9 x1)]
def J9:List Bj->List AV
 | []=>[]
 | x::xs=>Aiw x::J9 xs
end
def Hb (x:Bj):AV:=.agg [O .i64 x.U,.sl 2 (J9 x.K)]
theorem A1k (x:Bj):Aiw x=Hb x:=by cases x;simp only[Aiw,Hb]
theorem M2:∀l:List Bj,J9 l=l.map Hb
 | []=>rfl
 | x::xs=>by simp only[J9,List.map_cons,A1k,M2 xs]
structure Ca where
 v:Int
 I:Bj
def Fg (x:Ca):AV:=.agg [O .i64 x.v,O .i64 x.I.U,.sl 2 (J9 x.I.K)]
structure A7 where
 F:(List Ca)
 A:(List Be)
def H8 (x:A7):AV:=.agg [.sl 3 (List.map Fg x.F),.sl 3 (List.map Ff x.A)]
structure Ai where
 C:Aj
 M:A7
def B4 (x:Ai):AV:=.agg [Au x.C.N,.sl 1 (List.map (O .u32) x.C.U),.sl 1 (List.map (O .u32) x.C.B),.sl 3 (List.map Fg x.M.F),.sl 3 (List.map Ff x.M.A)]
structure Hy where
 G:Int
 E:As
 F:As
 K:Int
def Ou (x:Hy):AV:=.agg [O .i64 x.G,O .i64 x.E.Q,.sl 2 (List.map Dr x.E.T),O .i64 x.F.Q,.sl 2 (List.map Dr x.F.T),O .i64 x.K]
structure Ee where
 X:Hy
 C:Aj
 W:A7
 Y:(List Aj)
 Z:(List Aj)
def Ny (x:Ee):AV:=.agg [O .i64 x.X.G,O .i64 x.X.E.Q,.sl 2 (List.map Dr x.X.E.T),O .i64 x.X.F.Q,.sl 2 (List.map Dr x.X.F.T),O .i64 x.X.K,Au x.C.N,.sl 1 (List.map (O .u32) x.C.U),.sl 1 (List.map (O .u32) x.C.B),.sl 3 (List.map Fg x.W.F),.sl 3 (List.map Ff x.W.A),.sl 3 (List.map B2 x.Y),.sl 3 (List.map B2 x.Z)]
structure Hz where
 neg:Bool
 n:(List Int)
 d:(List Int)
def Rt (x:Hz):AV:=.agg [Au x.neg,.sl 1 (List.map (O .u32) x.n),.sl 1 (List.map (O .u32) x.d)]
structure Aou where
 S:ByteArray
 Params:(List Int)
 Captured:(List Int)
 Result:Ah
 Body:Int
def Uc (x:Aou):AV:=.agg [F9 x.S,.sl 1 (List.map (O .i64) x.Params),.sl 1 (List.map (O .i64) x.Captured),O .i64 x.Result.G,O .i64 x.Result.U,.sl 3 (Br x.Result.R),O .i64 x.Body]
structure Aov where
 Op:Int
 U:Int
 V:(List Int)
 Binds:(List (List Int))
 K:(List Int)
 Type_:Ah
def Ud (x:Aov):AV:=.agg [O .i64 x.Op,O .i64 x.U,.sl 1 (List.map (O .i64) x.V),.sl 1 (List.map (Ar 1 (O .i64)) x.Binds),.sl 1 (List.map (O .i64) x.K),O .i64 x.Type_.G,O .i64 x.Type_.U,.sl 3 (Br x.Type_.R)]
structure Ku where
 D:(List Aw)
 Codes:(List Aou)
 V:(List Ah)
 Exprs:(List Aov)
def Ue (x:Ku):AV:=.agg [.sl 3 (List.map Co x.D),.sl 7 (List.map Uc x.Codes),.sl 3 (Br x.V),.sl 8 (List.map Ud x.Exprs)]
structure Hg where
 data:(List Aw)
 vars:Int
 left:Int
structure Aac where
 con:Int
 kids:(List Bj)
 places:(List Int)
 types:(List Ah)
def A1l (x:Aac):AV:=.agg [O .i64 x.con,.sl 2 (J9 x.kids),.sl 1 (List.map (O .i64) x.places),.sl 3 (Br x.types)]
structure Ch where
 I:Bj
 C:Aj
def Ds (x:Ch):AV:=.agg [O .i64 x.I.U,.sl 2 (J9 x.I.K),Au x.C.N,.sl 1 (List.map (O .u32) x.C.U),.sl 1 (List.map (O .u32) x.C.B)]
structure J2 where
 G:Int
 Text:ByteArray
 Pos:Int
def Ad5 (x:J2):AV:=.agg [O .i64 x.G,F9 x.Text,O .i64 x.Pos]
end Go.Ab
