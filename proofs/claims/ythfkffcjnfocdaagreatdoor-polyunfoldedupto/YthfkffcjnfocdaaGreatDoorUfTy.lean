/- Types and steps. -/
import Derived.Test.YthfkffcjnfocdaaGreatDoorUfAb2
import Derived.Test.YthfkffcjnfocdaaGreatDoorProg
import Derived.KernelRfl
namespace Go.Ab
open Go Go.Proofs Go.Proofs.Tryz
theorem κ{p:Prop}(h:p:=by kernel_rfl):p:=h
def Amr:Tr:=(.node (.node (.node (.node (.node (.node (.node .leaf 1 ⟨.other,1,8,[.nilFunc]⟩ .leaf) 2 ⟨.int .i64,1,8,[.int .i64 0]⟩ (.node .leaf 3 ⟨.int .i64,1,8,[.int .i64 0]⟩ .leaf)) 4 ⟨.bool,1,1,[.bool false]⟩ (.node (.node .leaf 5 ⟨.int .u8,1,1,[.int .u8 0]⟩ .leaf) 9 ⟨.string,1,16,[.string ⟨#[]⟩]⟩ .leaf)) 20 ⟨.other,1,16,[.nilIface]⟩ (.node (.node (.node .leaf 22 ⟨.slice 63,1,24,[.slice none 0 0]⟩ .leaf) 23 ⟨.slice 25,1,24,[.slice none 0 0]⟩ (.node .leaf 25 ⟨.struct [(0,1),(1,1),(2,1)],3,40,[.int .i64 0,.int .i64 0,.slice none 0 0]⟩ .leaf)) 27 ⟨.struct [(0,1),(1,1),(2,3)],5,88,[.slice none 0 0,.slice none 0 0,.int .i64 0,.int .i64 0,.slice none 0 0]⟩ (.node (.node .leaf 28 ⟨.slice 83,1,24,[.slice none 0 0]⟩ .leaf) 29 ⟨.slice 3,1,24,[.slice none 0 0]⟩ .leaf))) 30 ⟨.slice 32,1,24,[.slice none 0 0]⟩ (.node (.node (.node (.node .leaf 32 ⟨.struct [(0,1),(1,1),(2,1)],3,40,[.int .i64 0,.int .i64 0,.slice none 0 0]⟩ .leaf) 35 ⟨.int .i64,1,8,[.int .i64 0]⟩ (.node .leaf 43 ⟨.slice 147,1,24,[.slice none 0 0]⟩ .leaf)) 45 ⟨.struct [(0,1),(1,1),(2,1)],3,56,[.bool false,.slice none 0 0,.slice none 0 0]⟩ (.node (.node .leaf 50 ⟨.slice 28,1,24,[.slice none 0 0]⟩ .leaf) 54 ⟨.other,1,8,[.nilFunc]⟩ .leaf)) 56 ⟨.other,1,8,[.pointer none]⟩ (.node (.node (.node .leaf 59 ⟨.other,1,8,[.nilFunc]⟩ .leaf) 61 ⟨.slice 67,1,24,[.slice none 0 0]⟩ (.node .leaf 63 ⟨.struct [(0,1),(1,1),(2,1)],3,48,[.string ⟨#[]⟩,.int .i64 0,.slice none 0 0]⟩ .leaf)) 67 ⟨.struct [(0,1),(1,1)],2,40,[.string ⟨#[]⟩,.slice none 0 0]⟩ (.node (.node .leaf 68 ⟨.other,1,8,[.nilFunc]⟩ .leaf) 70 ⟨.other,1,8,[.nilFunc]⟩ .leaf)))) 71 ⟨.other,1,8,[.nilFunc]⟩ (.node (.node (.node (.node (.node .leaf 75 ⟨.slice 99,1,24,[.slice none 0 0]⟩ .leaf) 77 ⟨.struct [(0,1),(1,1)],2,32,[.int .i64 0,.slice none 0 0]⟩ (.node .leaf 78 ⟨.slice 93,1,24,[.slice none 0 0]⟩ .leaf)) 79 ⟨.slice 97,1,24,[.slice none 0 0]⟩ (.node (.node .leaf 81 ⟨.struct [(0,1),(1,1)],2,48,[.slice none 0 0,.slice none 0 0]⟩ .leaf) 83 ⟨.struct [(0,3),(3,2)],5,104,[.bool false,.slice none 0 0,.slice none 0 0,.slice none 0 0,.slice none 0 0]⟩ .leaf)) 86 ⟨.other,1,8,[.nilFunc]⟩ (.node (.node (.node .leaf 89 ⟨.slice 91,1,24,[.slice none 0 0]⟩ .leaf) 91 ⟨.struct [(0,1),(1,1)],2,32,[.int .i64 0,.slice none 0 0]⟩ (.node .leaf 93 ⟨.struct [(0,1),(1,2)],3,40,[.int .i64 0,.int .i64 0,.slice none 0 0]⟩ .leaf)) 95 ⟨.other,1,8,[.nilFunc]⟩ (.node (.node .leaf 97 ⟨.struct [(0,2),(2,1)],3,40,[.int .i64 0,.slice none 0 0,.int .i64 0]⟩ .leaf) 99 ⟨.struct [(0,1),(1,1)],2,16,[.int .i64 0,.int .i64 0]⟩ .leaf))) 106 ⟨.other,1,8,[.nilFunc]⟩ (.node (.node (.node (.node .leaf 108 ⟨.other,1,8,[.pointer none]⟩ .leaf) 110 ⟨.slice 245,1,24,[.slice none 0 0]⟩ (.node .leaf 111 ⟨.slice 248,1,24,[.slice none 0 0]⟩ .leaf)) 113 ⟨.struct [(0,1),(1,1),(2,1),(3,1)],4,96,[.slice none 0 0,.slice none 0 0,.slice none 0 0,.slice none 0 0]⟩ (.node (.node .leaf 115 ⟨.map 9 3,1,8,[.map none]⟩ .leaf) 116 ⟨.map 9 177,1,8,[.map none]⟩ .leaf)) 118 ⟨.struct [(0,5),(5,1),(6,1)],7,104,[.slice none 0 0,.slice none 0 0,.int .i64 0,.int .i64 0,.slice none 0 0,.map none,.map none]⟩ (.node (.node (.node .leaf 124 ⟨.other,1,8,[.nilFunc]⟩ .leaf) 125 ⟨.other,1,8,[.pointer none]⟩ (.node .leaf 127 ⟨.slice 81,1,24,[.slice none 0 0]⟩ .leaf)) 133 ⟨.map 9 127,1,8,[.map none]⟩ (.node (.node .leaf 136 ⟨.slice 89,1,24,[.slice none 0 0]⟩ .leaf) 146 ⟨.int .u64,1,8,[.int .u64 0]⟩ .leaf))))) 147 ⟨.int .u32,1,4,[.int .u32 0]⟩ (.node (.node (.node (.node (.node (.node .leaf 151 ⟨.slice 147,1,24,[.slice none 0 0]⟩ .leaf) 154 ⟨.struct [(0,1),(1,1),(2,1)],3,56,[.bool false,.slice none 0 0,.slice none 0 0]⟩ (.node .leaf 165 ⟨.other,1,8,[.pointer none]⟩ .leaf)) 167 ⟨.struct [(0,1),(1,1),(2,1)],3,40,[.slice none 0 0,.int .i64 0,.int .i64 0]⟩ (.node (.node .leaf 171 ⟨.struct [(0,1),(1,1)],2,32,[.map none,.slice none 0 0]⟩ .leaf) 176 ⟨.other,1,8,[.nilFunc]⟩ .leaf)) 177 ⟨.slice 181,1,24,[.slice none 0 0]⟩ (.node (.node (.node .leaf 181 ⟨.struct [(0,2),(2,3)],5,88,[.int .i64 0,.slice none 0 0,.bool false,.slice none 0 0,.slice none 0 0]⟩ .leaf) 186 ⟨.other,1,8,[.nilFunc]⟩ (.node .leaf 187 ⟨.slice 45,1,24,[.slice none 0 0]⟩ .leaf)) 193 ⟨.other,1,8,[.nilFunc]⟩ (.node (.node .leaf 195 ⟨.other,1,8,[.pointer none]⟩ .leaf) 196 ⟨.slice 5,1,24,[.slice none 0 0]⟩ .leaf))) 198 ⟨.struct [(0,1),(1,1)],2,32,[.pointer none,.slice none 0 0]⟩ (.node (.node (.node (.node .leaf 200 ⟨.other,1,16,[.nilIface]⟩ .leaf) 214 ⟨.other,1,8,[.nilFunc]⟩ (.node .leaf 215 ⟨.other,1,8,[.nilFunc]⟩ .leaf)) 219 ⟨.other,1,8,[.nilFunc]⟩ (.node (.node .leaf 226 ⟨.int .u64,1,8,[.int .u64 0]⟩ .leaf) 240 ⟨.map 9 4,1,8,[.map none]⟩ .leaf)) 245 ⟨.struct [(0,1),(1,1),(2,1),(3,3),(6,1)],7,112,[.string ⟨#[]⟩,.slice none 0 0,.slice none 0 0,.int .i64 0,.int .i64 0,.slice none 0 0,.int .i64 0]⟩ (.node (.node (.node .leaf 246 ⟨.slice 29,1,24,[.slice none 0 0]⟩ .leaf) 248 ⟨.struct [(0,1),(1,1),(2,1),(3,1),(4,1),(5,3)],8,128,[.int .i64 0,.int .i64 0,.slice none 0 0,.slice none 0 0,.slice none 0 0,.int .i64 0,.int .i64 0,.slice none 0 0]⟩ (.node .leaf 249 ⟨.slice 4,1,24,[.slice none 0 0]⟩ .leaf)) 250 ⟨.other,1,8,[.nilFunc]⟩ (.node (.node .leaf 251 ⟨.other,1,8,[.nilFunc]⟩ .leaf) 252 ⟨.other,1,8,[.pointer none]⟩ .leaf)))) 254 ⟨.struct [(0,4),(4,1)],5,120,[.slice none 0 0,.slice none 0 0,.slice none 0 0,.slice none 0 0,.slice none 0 0]⟩ (.node (.node (.node (.node (.node .leaf 261 ⟨.slice 78,1,24,[.slice none 0 0]⟩ .leaf) 263 ⟨.slice 79,1,24,[.slice none 0 0]⟩ (.node .leaf 271 ⟨.other,1,8,[.nilFunc]⟩ .leaf)) 278 ⟨.other,1,8,[.pointer none]⟩ (.node (.node .leaf 290 ⟨.int .i64,1,8,[.int .i64 0]⟩ .leaf) 301 ⟨.other,1,8,[.nilFunc]⟩ .leaf)) 306 ⟨.slice 308,1,24,[.slice none 0 0]⟩ (.node (.node (.node .leaf 308 ⟨.struct [(0,1),(1,1),(2,1),(3,1)],4,80,[.int .i64 0,.slice none 0 0,.slice none 0 0,.slice none 0 0]⟩ .leaf) 310 ⟨.slice 314,1,24,[.slice none 0 0]⟩ (.node .leaf 314 ⟨.struct [(0,1),(1,1),(2,1)],3,32,[.int .i64 0,.string ⟨#[]⟩,.int .i64 0]⟩ .leaf)) 326 ⟨.other,1,8,[.pointer none]⟩ (.node (.node .leaf 345 ⟨.other,1,8,[.pointer none]⟩ .leaf) 353 ⟨.float .f64,1,8,[.float .f64 0]⟩ .leaf))) 354 ⟨.int .u64,1,8,[.int .u64 0]⟩ (.node (.node (.node (.node .leaf 366 ⟨.slice 249,1,24,[.slice none 0 0]⟩ .leaf) 367 ⟨.other,1,8,[.nilFunc]⟩ (.node .leaf 368 ⟨.other,1,8,[.nilFunc]⟩ .leaf)) 375 ⟨.other,1,8,[.nilFunc]⟩ (.node (.node .leaf 377 ⟨.struct [(0,1),(1,3),(4,1),(5,1)],6,96,[.slice none 0 0,.int .i64 0,.int .i64 0,.slice none 0 0,.map none,.slice none 0 0]⟩ .leaf) 378 ⟨.slice 381,1,24,[.slice none 0 0]⟩ .leaf)) 381 ⟨.struct [(0,1),(1,3)],4,80,[.slice none 0 0,.bool false,.slice none 0 0,.slice none 0 0]⟩ (.node (.node (.node .leaf 384 ⟨.slice 177,1,24,[.slice none 0 0]⟩ .leaf) 386 ⟨.other,1,8,[.nilFunc]⟩ .leaf) 397 ⟨.other,1,8,[.pointer none]⟩ (.node (.node .leaf 403 ⟨.other,1,8,[.nilFunc]⟩ .leaf) 406 ⟨.other,1,8,[.nilFunc]⟩ .leaf))))))
def Cr:Di:=Amr.find
theorem A7f:Amr.toList.map (λp=>J3 prog p.1)=Amr.toList.map (λp=>some p.2):=by kernel_rfl
theorem Atv:Dk prog Cr:=Tr.ok A7f
theorem Aax:prog.follows .mixedOrders=true:=by kernel_rfl
end Go.Ab
namespace Go.Ab.Fn
abbrev Agz:FuncId:=3
abbrev Yd:FuncId:=4
abbrev Aa6:FuncId:=5
abbrev Aa7:FuncId:=6
abbrev Qk:FuncId:=7
abbrev V2:FuncId:=8
abbrev Ye:FuncId:=9
abbrev Ql:FuncId:=10
abbrev Tx:FuncId:=11
abbrev Aa8:FuncId:=12
abbrev Aa9:FuncId:=13
abbrev Aba:FuncId:=14
abbrev Abb:FuncId:=15
abbrev V3:FuncId:=16
abbrev Pi:FuncId:=17
abbrev Qm:FuncId:=18
abbrev Jw:FuncId:=19
abbrev Pj:FuncId:=20
abbrev R4:FuncId:=21
abbrev Abc:FuncId:=22
abbrev Abd:FuncId:=23
abbrev Abe:FuncId:=24
abbrev Ams:FuncId:=25
abbrev Amt:FuncId:=26
abbrev Amu:FuncId:=27
abbrev Qo:FuncId:=28
abbrev Abf:FuncId:=29
abbrev Ty:FuncId:=30
abbrev E4:FuncId:=31
abbrev Yf:FuncId:=32
abbrev Fz:FuncId:=33
abbrev J7:FuncId:=34
abbrev V4:FuncId:=35
abbrev Yg:FuncId:=36
abbrev Abg:FuncId:=37
abbrev Abh:FuncId:=38
abbrev Abi:FuncId:=39
abbrev Abj:FuncId:=40
abbrev Yh:FuncId:=41
abbrev Tz:FuncId:=42
abbrev V5:FuncId:=43
abbrev Qp:FuncId:=44
abbrev Abk:FuncId:=45
abbrev T0:FuncId:=46
abbrev T1:FuncId:=47
abbrev R5:FuncId:=48
abbrev Abl:FuncId:=49
abbrev Yi:FuncId:=50
abbrev Ni:FuncId:=51
abbrev Qq:FuncId:=52
abbrev V6:FuncId:=53
abbrev T2:FuncId:=54
abbrev V7:FuncId:=55
abbrev Amv:FuncId:=56
abbrev M1:FuncId:=57
abbrev Abm:FuncId:=58
abbrev V8:FuncId:=59
abbrev Oo:FuncId:=60
abbrev T3:FuncId:=61
abbrev V9:FuncId:=62
abbrev Amw:FuncId:=63
abbrev Ag0:FuncId:=64
abbrev Wa:FuncId:=65
abbrev Abn:FuncId:=66
abbrev Yj:FuncId:=67
abbrev Ag1:FuncId:=68
abbrev Qs:FuncId:=69
abbrev T5:FuncId:=70
abbrev Wb:FuncId:=71
abbrev Qt:FuncId:=72
abbrev Qu:FuncId:=73
abbrev Pk:FuncId:=74
abbrev Oq:FuncId:=75
abbrev R6:FuncId:=76
abbrev Yk:FuncId:=77
abbrev Jq:FuncId:=78
abbrev Wc:FuncId:=79
abbrev R7:FuncId:=80
abbrev Abo:FuncId:=81
abbrev Ag2:FuncId:=82
abbrev T6:FuncId:=83
abbrev Abp:FuncId:=84
abbrev Amx:FuncId:=85
abbrev Amy:FuncId:=86
abbrev Amz:FuncId:=87
abbrev Am0:FuncId:=88
abbrev Am1:FuncId:=89
abbrev Am2:FuncId:=90
abbrev Pl:FuncId:=91
abbrev Lq:FuncId:=92
abbrev Qv:FuncId:=93
abbrev Yl:FuncId:=94
abbrev T7:FuncId:=95
abbrev Ag3:FuncId:=96
abbrev Ag4:FuncId:=97
abbrev Abq:FuncId:=98
abbrev Abr:FuncId:=99
abbrev Ym:FuncId:=100
abbrev Qw:FuncId:=101
abbrev Nj:FuncId:=102
abbrev Abs:FuncId:=103
abbrev Abt:FuncId:=104
abbrev Yn:FuncId:=105
abbrev Pm:FuncId:=106
abbrev Qx:FuncId:=107
abbrev Yo:FuncId:=108
abbrev Abu:FuncId:=109
abbrev R8:FuncId:=110
abbrev R9:FuncId:=111
abbrev Yp:FuncId:=112
abbrev K8:FuncId:=113
abbrev J8:FuncId:=114
abbrev Qy:FuncId:=115
abbrev M2:FuncId:=116
abbrev Pn:FuncId:=117
abbrev Abv:FuncId:=118
abbrev Sa:FuncId:=119
abbrev Wd:FuncId:=120
abbrev Abw:FuncId:=121
abbrev We:FuncId:=122
abbrev Sb:FuncId:=123
abbrev Qz:FuncId:=124
abbrev Ot:FuncId:=125
abbrev Yq:FuncId:=126
abbrev Abx:FuncId:=127
abbrev Ag5:FuncId:=128
abbrev Yr:FuncId:=129
abbrev Ag6:FuncId:=130
abbrev Am3:FuncId:=131
abbrev Aby:FuncId:=132
abbrev Am4:FuncId:=133
abbrev Sc:FuncId:=134
abbrev Abz:FuncId:=135
abbrev Ab0:FuncId:=136
abbrev T8:FuncId:=137
abbrev Ys:FuncId:=138
abbrev T9:FuncId:=139
abbrev Ag7:FuncId:=140
abbrev Nk:FuncId:=141
abbrev Ab1:FuncId:=142
abbrev Yt:FuncId:=143
abbrev Yu:FuncId:=144
abbrev Po:FuncId:=145
abbrev Ab2:FuncId:=146
abbrev Yv:FuncId:=147
abbrev Yw:FuncId:=148
abbrev Ab3:FuncId:=149
abbrev Wf:FuncId:=150
abbrev Wg:FuncId:=151
abbrev Ua:FuncId:=152
abbrev Am5:FuncId:=153
abbrev Am6:FuncId:=154
abbrev Ab4:FuncId:=160
abbrev Ab5:FuncId:=161
abbrev Ab6:FuncId:=162
abbrev Ou:FuncId:=163
abbrev Ag8:FuncId:=164
abbrev Ab7:FuncId:=165
abbrev Q2:FuncId:=166
abbrev Ag9:FuncId:=167
abbrev Ab8:FuncId:=168
abbrev Aha:FuncId:=169
abbrev Ahb:FuncId:=170
abbrev Ahc:FuncId:=171
abbrev L9:FuncId:=172
abbrev Ahd:FuncId:=173
abbrev Ahe:FuncId:=174
abbrev Ab9:FuncId:=175
abbrev Aca:FuncId:=176
abbrev Acb:FuncId:=177
abbrev Sd:FuncId:=178
abbrev Acd:FuncId:=179
abbrev Ace:FuncId:=180
abbrev Acf:FuncId:=181
abbrev Ov:FuncId:=183
abbrev Q3:FuncId:=184
abbrev Pp:FuncId:=185
abbrev Se:FuncId:=186
abbrev Yx:FuncId:=187
abbrev Yy:FuncId:=188
abbrev Ub:FuncId:=189
abbrev Ahf:FuncId:=190
abbrev Q4:FuncId:=191
abbrev Acg:FuncId:=192
abbrev Am7:FuncId:=193
abbrev Am8:FuncId:=194
abbrev Ahg:FuncId:=195
abbrev Ahh:FuncId:=196
abbrev Am9:FuncId:=197
abbrev Ana:FuncId:=203
abbrev Ahi:FuncId:=207
abbrev Yz:FuncId:=208
abbrev Ach:FuncId:=209
abbrev Y0:FuncId:=210
abbrev Y1:FuncId:=211
abbrev Aci:FuncId:=212
abbrev Wh:FuncId:=213
abbrev Uc:FuncId:=214
abbrev Wi:FuncId:=215
abbrev Acj:FuncId:=216
abbrev Ahj:FuncId:=217
abbrev Wj:FuncId:=218
abbrev Anb:FuncId:=219
abbrev Wk:FuncId:=229
abbrev Ahk:FuncId:=230
abbrev Wl:FuncId:=232
abbrev Sf:FuncId:=233
abbrev Y2:FuncId:=234
abbrev Ud:FuncId:=235
abbrev Wm:FuncId:=236
abbrev Pq:FuncId:=237
abbrev Ow:FuncId:=238
abbrev Ahl:FuncId:=239
abbrev Ahm:FuncId:=241
abbrev Q5:FuncId:=242
abbrev Wn:FuncId:=243
abbrev Wo:FuncId:=244
abbrev Ack:FuncId:=245
abbrev Wp:FuncId:=246
abbrev Ps:FuncId:=247
abbrev Acl:FuncId:=248
abbrev Pt:FuncId:=256
abbrev Ahn:FuncId:=257
abbrev Acm:FuncId:=260
abbrev Wq:FuncId:=268
abbrev Wr:FuncId:=269
abbrev Y3:FuncId:=275
abbrev Y4:FuncId:=276
abbrev Y5:FuncId:=277
abbrev Acn:FuncId:=278
abbrev Ue:FuncId:=279
abbrev Y6:FuncId:=280
abbrev Ws:FuncId:=281
abbrev Aco:FuncId:=282
abbrev Acp:FuncId:=283
abbrev Acq:FuncId:=284
abbrev Acr:FuncId:=289
abbrev Acs:FuncId:=290
abbrev Acu:FuncId:=291
abbrev Uf:FuncId:=292
abbrev Acv:FuncId:=293
abbrev Q6:FuncId:=294
abbrev M3:FuncId:=295
abbrev Mp:FuncId:=296
abbrev Q7:FuncId:=297
abbrev Aho:FuncId:=298
abbrev Acw:FuncId:=300
abbrev Y7:FuncId:=312
abbrev Wt:FuncId:=313
abbrev Acx:FuncId:=314
abbrev Y8:FuncId:=315
abbrev Acy:FuncId:=316
abbrev Ug:FuncId:=317
abbrev Acz:FuncId:=318
abbrev Ac0:FuncId:=319
abbrev Ahp:FuncId:=323
abbrev Uh:FuncId:=324
abbrev Ac1:FuncId:=325
abbrev Ac2:FuncId:=326
abbrev Ac3:FuncId:=327
abbrev Ahq:FuncId:=328
abbrev Ahr:FuncId:=336
abbrev Ahs:FuncId:=337
end Go.Ab.Fn
namespace Go.Ab
open Go
abbrev O(k:IntKind)(n:Int):AV:=.val (.int k n)
abbrev eo:=O .i64
abbrev fo:=O .u32
abbrev io:=O .u64
abbrev jo:=O .u8
abbrev Ay(b:Bool):AV:=.val (.bool b)
abbrev Hh(s:Β):AV:=.val (.string s)
abbrev Az{α:Type}(sz:Nat)(f:α->AV)(l:Λ α):AV:=.sl sz (l.map f)
abbrev Eo{α:Type}(sz:Nat)(g:Λ α->Λ AV)(l:Λ α):AV:=.sl sz (g l)
structure Ad where
 G:Int
 U:Int
 R:List Ad
mutual
def Ac4:Ad->AV
 |⟨x0,x1,x2⟩=>.agg [eo x0,eo x1,.sl 3 (Bj x2)]
def Bj:List Ad->List AV
 |[]=>[]
 |x::xs=>Ac4 x::Bj xs
end
def Ec(x:Ad):AV:=.agg [eo x.G,eo x.U,.sl 3 (Bj x.R)]
theorem Atw(x:Ad):Ac4 x=Ec x:=by cases x;simp only[Ac4,Ec]
theorem Mq:∀l:Λ Ad,Bj l=l.map Ec
 |[]=>rfl
 |x::xs=>by simp only[Bj,List.map_cons,Atw,Mq xs]
structure Q8 where
 S:Β
 R:List Ad
def Ac5(x:Q8):AV:=.agg [Hh x.S,.sl 3 (Bj x.R)]
structure Ai where
 S:Β
 V:Int
 O:List Q8
def B0(x:Ai):AV:=.agg [Hh x.S,eo x.V,.sl 2 (List.map Ac5 x.O)]
structure Bx where
 D:List Ai
 V:List Ad
 E:Ad
def Pu(x:Bx):AV:=.agg [.sl 3 (List.map B0 x.D),.sl 3 (Bj x.V),eo x.E.G,eo x.E.U,.sl 3 (Bj x.E.R)]
structure A3 where
 G:Int
 U:Int
 K:List A3
mutual
def Anc:A3->AV
 |⟨x0,x1,x2⟩=>.agg [eo x0,eo x1,.sl 3 (Hi x2)]
def Hi:List A3->List AV
 |[]=>[]
 |x::xs=>Anc x::Hi xs
end
def G6(x:A3):AV:=.agg [eo x.G,eo x.U,.sl 3 (Hi x.K)]
theorem A7g(x:A3):Anc x=G6 x:=by cases x;simp only[Anc,G6]
theorem Ko:∀l:Λ A3,Hi l=l.map G6
 |[]=>rfl
 |x::xs=>by simp only[Hi,List.map_cons,A7g,Ko xs]
structure Ar where
 N:Bool
 U:List Int
 B:List Int
def Dm(x:Ar):AV:=.agg [Ay x.N,.sl 1 (List.map fo x.U),.sl 1 (List.map fo x.B)]
structure Fm where
 v:Int
 C:Int
def K9(x:Fm):AV:=.agg [eo x.v,eo x.C]
structure Cg where
 Q:Int
 T:List Fm
def Pv(x:Cg):AV:=.agg [eo x.Q,.sl 2 (List.map K9 x.T)]
structure Ag where
 U:Int
 K:List Ag
mutual
def Wu:Ag->AV
 |⟨x0,x1⟩=>.agg [eo x0,.sl 2 (D5 x1)]
def D5:List Ag->List AV
 |[]=>[]
 |x::xs=>Wu x::D5 xs
end
def Eb(x:Ag):AV:=.agg [eo x.U,.sl 2 (D5 x.K)]
theorem Atx(x:Ag):Wu x=Eb x:=by cases x;simp only[Wu,Eb]
theorem Is:∀l:Λ Ag,D5 l=l.map Eb
 |[]=>rfl
 |x::xs=>by simp only[D5,List.map_cons,Atx,Is xs]
structure A8 where
 v:Int
 I:Ag
def Gq(x:A8):AV:=.agg [eo x.v,eo x.I.U,.sl 2 (D5 x.I.K)]
structure Bh where
 L:Cg
 P:Int
def Gt(x:Bh):AV:=.agg [eo x.L.Q,.sl 2 (List.map K9 x.L.T),eo x.P]
structure A4 where
 F:List A8
 A:List Bh
def G3(x:A4):AV:=.agg [.sl 3 (List.map Gq x.F),.sl 3 (List.map Gt x.A)]
structure Aj where
 C:Ar
 M:A4
def Dy(x:Aj):AV:=.agg [Ay x.C.N,.sl 1 (List.map fo x.C.U),.sl 1 (List.map fo x.C.B),.sl 3 (List.map Gq x.M.F),.sl 3 (List.map Gt x.M.A)]
structure Aty where
 S:Β
 Params:List Int
 Captured:List Int
 Result:Ad
 Body:Int
def Wv(x:Aty):AV:=.agg [Hh x.S,.sl 1 (List.map eo x.Params),.sl 1 (List.map eo x.Captured),eo x.Result.G,eo x.Result.U,.sl 3 (Bj x.Result.R),eo x.Body]
structure Atz where
 Op:Int
 U:Int
 V:List Int
 Binds:List (List Int)
 K:List Int
 Type_:Ad
def Ww(x:Atz):AV:=.agg [eo x.Op,eo x.U,.sl 1 (List.map eo x.V),.sl 1 (List.map (Az 1 eo) x.Binds),.sl 1 (List.map eo x.K),eo x.Type_.G,eo x.Type_.U,.sl 3 (Bj x.Type_.R)]
structure Mr where
 D:List Ai
 Codes:List Aty
 V:List Ad
 Exprs:List Atz
def Wx(x:Mr):AV:=.agg [.sl 3 (List.map B0 x.D),.sl 7 (List.map Wv x.Codes),.sl 3 (Bj x.V),.sl 8 (List.map Ww x.Exprs)]
structure Jf where
 neg:Bool
 n:List Int
 d:List Int
def Ui(x:Jf):AV:=.agg [Ay x.neg,.sl 1 (List.map fo x.n),.sl 1 (List.map fo x.d)]
structure It where
 data:List Ai
 vars:Int
 left:Int
structure As where
 I:Ag
 C:Ar
def B8(x:As):AV:=.agg [eo x.I.U,.sl 2 (D5 x.I.K),Ay x.C.N,.sl 1 (List.map fo x.C.U),.sl 1 (List.map fo x.C.B)]
structure Ac6 where
 con:Int
 kids:List Ag
 places:List Int
 types:List Ad
def A7h(x:Ac6):AV:=.agg [eo x.con,.sl 2 (D5 x.kids),.sl 1 (List.map eo x.places),.sl 3 (Bj x.types)]
structure Lr where
 G:Int
 Text:Β
 Pos:Int
def Aht(x:Lr):AV:=.agg [eo x.G,Hh x.Text,eo x.Pos]
structure Jg where
 list:List Ag
 coef:Ar
def Q9(x:Jg):AV:=.agg [.sl 2 (D5 x.list),Ay x.coef.N,.sl 1 (List.map fo x.coef.U),.sl 1 (List.map fo x.coef.B)]
mutual
theorem At0:∀x:Ag,E8 (Wu x)
 |⟨_,_⟩=>by
  simp only[Wu]
  exact .agg _ (List.forall_mem_cons.2 ⟨.val _,List.forall_mem_cons.2 ⟨E8.slL (Ahu _) δ,(λ_ h=>nomatch h)⟩⟩)
theorem Ahu:∀l:List Ag,∀y∈D5 l,E8 y
 |[],y,h=>by simp only[D5]at h;cases h
 |x::xs,y,h=>by
  simp only[D5,List.mem_cons]at h
  rcases h with rfl|h
  .exact At0 x
  .exact Ahu xs y h
end
theorem A7i(x:Ag):E8 (Eb x):=by rw[<-Atx];exact At0 x
mutual
theorem A7j:∀x:Ag,Ix (Wu x)
 |⟨_,_⟩=>by
  simp only[Wu]
  exact .mk _ _ _ (Ane _)
theorem Ane:∀l:List Ag,∀y∈D5 l,Ix y
 |[],y,h=>by simp only[D5]at h;cases h
 |x::xs,y,h=>by
  simp only[D5,List.mem_cons]at h
  rcases h with rfl|h
  .exact A7j x
  .exact Ane xs y h
end
mutual
theorem At1:∀x:Ad,E8 (Ac4 x)
 |⟨_,_,_⟩=>by
  simp only[Ac4]
  exact .agg _ (List.forall_mem_cons.2 ⟨.val _,List.forall_mem_cons.2 ⟨.val _,List.forall_mem_cons.2 ⟨E8.slL (Anf _) δ,(λ_ h=>nomatch h)⟩⟩⟩)
theorem Anf:∀l:List Ad,∀y∈Bj l,E8 y
 |[],y,h=>by simp only[Bj]at h;cases h
 |x::xs,y,h=>by
  simp only[Bj,List.mem_cons]at h
  rcases h with rfl|h
  .exact At1 x
  .exact Anf xs y h
end
theorem A7k(x:Ad):E8 (Ec x):=by rw[<-Atw];exact At1 x
theorem A7l(x:Q8):E8 (Ac5 x):=.agg _ (List.forall_mem_cons.2 ⟨.val _,List.forall_mem_cons.2 ⟨E8.slL (Anf _) δ,(λ_ h=>nomatch h)⟩⟩)
theorem A7m(x:Ai):E8 (B0 x):=.agg _ (List.forall_mem_cons.2 ⟨.val _,List.forall_mem_cons.2 ⟨.val _,List.forall_mem_cons.2 ⟨E8.slM (λ_=>A7l _) δ _,(λ_ h=>nomatch h)⟩⟩⟩)
theorem A7n(x:A8):E8 (Gq x):=.agg _ (List.forall_mem_cons.2 ⟨.val _,List.forall_mem_cons.2 ⟨.val _,List.forall_mem_cons.2 ⟨E8.slL (Ahu _) δ,(λ_ h=>nomatch h)⟩⟩⟩)
theorem A7o(x:Fm):E8 (K9 x):=.agg _ (List.forall_mem_cons.2 ⟨.val _,List.forall_mem_cons.2 ⟨.val _,(λ_ h=>nomatch h)⟩⟩)
theorem A7p(x:Bh):E8 (Gt x):=.agg _ (List.forall_mem_cons.2 ⟨.val _,List.forall_mem_cons.2 ⟨E8.slM (λ_=>A7o _) δ _,List.forall_mem_cons.2 ⟨.val _,(λ_ h=>nomatch h)⟩⟩⟩)
theorem A7q(x:Aj):E8 (Dy x):=.agg _ (List.forall_mem_cons.2 ⟨.val _,List.forall_mem_cons.2 ⟨E8.slM (λ_=>.val _) δ _,List.forall_mem_cons.2 ⟨E8.slM (λ_=>.val _) δ _,List.forall_mem_cons.2 ⟨E8.slM (λ_=>A7n _) δ _,List.forall_mem_cons.2 ⟨E8.slM (λ_=>A7p _) δ _,(λ_ h=>nomatch h)⟩⟩⟩⟩⟩)
theorem A7r(x:As):E8 (B8 x):=.agg _ (List.forall_mem_cons.2 ⟨.val _,List.forall_mem_cons.2 ⟨E8.slL (Ahu _) δ,List.forall_mem_cons.2 ⟨.val _,List.forall_mem_cons.2 ⟨E8.slM (λ_=>.val _) δ _,List.forall_mem_cons.2 ⟨E8.slM (λ_=>.val _) δ _,(λ_ h=>nomatch h)⟩⟩⟩⟩⟩)
abbrev aSf(l:Λ Ag):AV:=.sf (D5 l)
theorem A7s(l:Λ (List Ag))(u:Value):Agp (.tup [Az 1 aSf l,.val u]) (.tup [Az 1 (Eo 2 D5) l,.val u]):=by have h:=A6m (l:=l.map D5) (u:=u);rw[List.map_map,List.map_map]at h;exact h
abbrev Aa:=List Int
abbrev Af:=List (Β×Int)
abbrev Ap:=List Ai
abbrev At:=List (Β×List As)
abbrev Au:=List Ad
abbrev A0:=List Ag
abbrev A1:=List Aj
abbrev A2:=List (Ag×Nat)
abbrev A7:=List Bh
abbrev A9:=List A3
abbrev Be:=List (List Ag)
abbrev Bf:=List A8
abbrev Bg:=Option Int
abbrev Bp:=List Bool
abbrev Bq:=Option (List Int)
abbrev Bv:=List As
abbrev B1:=List (List Ag×Nat)
abbrev B2:=Option ((Int×List (Β×Int))⊕((Bool×List (Β×Int))⊕List (Β×Int)))
abbrev B3:=List A4
abbrev B9:=Option Nat
abbrev Cd:=Option Β
abbrev Ch:=List Fm
abbrev Ci:=Option ((Int×List (Β×Int)×List Aj)⊕(Int×List (Β×Int)×List Aj))
abbrev Ck:=Option (List As)
abbrev Cs:=Option ((Int×List Aj)⊕(Int×List Aj))
abbrev Cx:=List (Nat×Nat)
abbrev Dj:=Option (List Aj×Int×List (Β×Int)×List (Β×List As))
abbrev Dl:=List (Rat×A4)
abbrev Do:=List (List Aj)
abbrev Ds:=Option Ar
abbrev D1:=Option (List Ar)
abbrev D4:=List Nat
abbrev Ea:=List (Β×Bool)
abbrev Ed:=Option (Bool×List (Β×Int))
abbrev Eg:=List Ar
abbrev Fh:=Option (List Bh)
abbrev Fi:=List (Β×List A4)
abbrev F6:=Option (List (List Ag))
abbrev Gc:=Option (Int×List Int)
abbrev Gd:=Option (List A8)
abbrev Gl:=Option (List Aj)
abbrev Hl:=Option (List Aj×Int)
abbrev Id:=Option (List (Β×Int)×List Aj)
abbrev If:=List Β
abbrev In:=Option (List Ad)
abbrev Io:=Option (List Ad×Bool)
abbrev K2:=List (List As)
end Go.Ab
