/- The types that the program uses; plain types for its data. -/
import Derived.Test.YtohelcameomopaaGreatDoorApAb2
import Derived.Test.YtohelcameomopaaGreatDoorProg
import Derived.KernelRfl
namespace Go.Ab
open Go Go.Proofs Go.Proofs.Tryz
theorem κ {p:Prop} (h:p:=by kernel_rfl):p:=h
def Afz:Tr:=(.node (.node (.node (.node (.node (.node (.node .leaf 1 ⟨.other,1,8,[.nilFunc]⟩ .leaf) 2 ⟨.int .i64,1,8,[.int .i64 0]⟩ (.node .leaf 3 ⟨.int .i64,1,8,[.int .i64 0]⟩ .leaf)) 4 ⟨.bool,1,1,[.bool false]⟩ (.node (.node .leaf 5 ⟨.int .u8,1,1,[.int .u8 0]⟩ .leaf) 9 ⟨.string,1,16,[.string ⟨#[]⟩]⟩ .leaf)) 20 ⟨.other,1,16,[.nilIface]⟩ (.node (.node (.node .leaf 22 ⟨.slice 172,1,24,[.slice none 0 0]⟩ .leaf) 23 ⟨.slice 25,1,24,[.slice none 0 0]⟩ (.node .leaf 25 ⟨.struct [(0,1),(1,1),(2,1)],3,40,[.int .i64 0,.int .i64 0,.slice none 0 0]⟩ .leaf)) 27 ⟨.struct [(0,1),(1,1),(2,3)],5,88,[.slice none 0 0,.slice none 0 0,.int .i64 0,.int .i64 0,.slice none 0 0]⟩ (.node (.node .leaf 28 ⟨.slice 69,1,24,[.slice none 0 0]⟩ .leaf) 30 ⟨.struct [(0,1),(1,1)],2,32,[.int .i64 0,.slice none 0 0]⟩ .leaf))) 32 ⟨.struct [(0,1),(1,2),(3,2),(5,1)],6,80,[.int .i64 0,.int .i64 0,.slice none 0 0,.int .i64 0,.slice none 0 0,.int .i64 0]⟩ (.node (.node (.node (.node .leaf 36 ⟨.slice 66,1,24,[.slice none 0 0]⟩ .leaf) 37 ⟨.int .i64,1,8,[.int .i64 0]⟩ (.node .leaf 40 ⟨.slice 30,1,24,[.slice none 0 0]⟩ .leaf)) 58 ⟨.slice 135,1,24,[.slice none 0 0]⟩ (.node (.node .leaf 60 ⟨.struct [(0,1),(1,1),(2,1)],3,56,[.bool false,.slice none 0 0,.slice none 0 0]⟩ .leaf) 61 ⟨.slice 97,1,24,[.slice none 0 0]⟩ .leaf)) 62 ⟨.slice 101,1,24,[.slice none 0 0]⟩ (.node (.node (.node .leaf 64 ⟨.struct [(0,1),(1,1)],2,48,[.slice none 0 0,.slice none 0 0]⟩ .leaf) 66 ⟨.struct [(0,3),(3,2)],5,104,[.bool false,.slice none 0 0,.slice none 0 0,.slice none 0 0,.slice none 0 0]⟩ .leaf) 69 ⟨.struct [(0,1),(1,1)],2,16,[.int .i64 0,.int .i64 0]⟩ (.node (.node .leaf 70 ⟨.other,1,8,[.pointer none]⟩ .leaf) 79 ⟨.slice 37,1,24,[.slice none 0 0]⟩ .leaf)))) 85 ⟨.other,1,8,[.nilFunc]⟩ (.node (.node (.node (.node (.node .leaf 91 ⟨.other,1,8,[.nilFunc]⟩ .leaf) 93 ⟨.slice 95,1,24,[.slice none 0 0]⟩ (.node .leaf 95 ⟨.struct [(0,1),(1,1)],2,32,[.int .i64 0,.slice none 0 0]⟩ .leaf)) 97 ⟨.struct [(0,1),(1,2)],3,40,[.int .i64 0,.int .i64 0,.slice none 0 0]⟩ (.node (.node .leaf 98 ⟨.other,1,8,[.nilFunc]⟩ .leaf) 101 ⟨.struct [(0,2),(2,1)],3,40,[.int .i64 0,.slice none 0 0,.int .i64 0]⟩ .leaf)) 103 ⟨.slice 36,1,24,[.slice none 0 0]⟩ (.node (.node (.node .leaf 105 ⟨.slice 200,1,24,[.slice none 0 0]⟩ .leaf) 106 ⟨.slice 204,1,24,[.slice none 0 0]⟩ .leaf) 108 ⟨.struct [(0,1),(1,1),(2,1),(3,1)],4,96,[.slice none 0 0,.slice none 0 0,.slice none 0 0,.slice none 0 0]⟩ (.node (.node .leaf 110 ⟨.map 9 3,1,8,[.map none]⟩ .leaf) 111 ⟨.map 9 187,1,8,[.map none]⟩ .leaf))) 113 ⟨.struct [(0,5),(5,1),(6,1)],7,104,[.slice none 0 0,.slice none 0 0,.int .i64 0,.int .i64 0,.slice none 0 0,.map none,.map none]⟩ (.node (.node (.node (.node .leaf 116 ⟨.other,1,8,[.pointer none]⟩ .leaf) 128 ⟨.slice 60,1,24,[.slice none 0 0]⟩ (.node .leaf 134 ⟨.int .u64,1,8,[.int .u64 0]⟩ .leaf)) 135 ⟨.int .u32,1,4,[.int .u32 0]⟩ (.node (.node .leaf 141 ⟨.other,1,8,[.nilFunc]⟩ .leaf) 142 ⟨.slice 28,1,24,[.slice none 0 0]⟩ .leaf)) 145 ⟨.other,1,8,[.pointer none]⟩ (.node (.node (.node .leaf 147 ⟨.struct [(0,1),(1,1),(2,1)],3,40,[.slice none 0 0,.int .i64 0,.int .i64 0]⟩ .leaf) 148 ⟨.other,1,8,[.nilFunc]⟩ .leaf) 153 ⟨.other,1,8,[.nilFunc]⟩ (.node (.node .leaf 156 ⟨.struct [(0,1),(1,1)],2,32,[.map none,.slice none 0 0]⟩ .leaf) 159 ⟨.slice 135,1,24,[.slice none 0 0]⟩ .leaf))))) 162 ⟨.struct [(0,1),(1,1),(2,1)],3,56,[.bool false,.slice none 0 0,.slice none 0 0]⟩ (.node (.node (.node (.node (.node (.node .leaf 165 ⟨.other,1,8,[.nilFunc]⟩ .leaf) 169 ⟨.slice 9,1,24,[.slice none 0 0]⟩ (.node .leaf 170 ⟨.slice 175,1,24,[.slice none 0 0]⟩ .leaf)) 172 ⟨.struct [(0,1),(1,1),(2,1)],3,48,[.string ⟨#[]⟩,.int .i64 0,.slice none 0 0]⟩ (.node (.node .leaf 175 ⟨.struct [(0,1),(1,1)],2,40,[.string ⟨#[]⟩,.slice none 0 0]⟩ .leaf) 187 ⟨.slice 190,1,24,[.slice none 0 0]⟩ .leaf)) 190 ⟨.struct [(0,2),(2,3)],5,88,[.int .i64 0,.slice none 0 0,.bool false,.slice none 0 0,.slice none 0 0]⟩ (.node (.node (.node .leaf 194 ⟨.int .u64,1,8,[.int .u64 0]⟩ .leaf) 195 ⟨.map 9 4,1,8,[.map none]⟩ (.node .leaf 198 ⟨.slice 3,1,24,[.slice none 0 0]⟩ .leaf)) 200 ⟨.struct [(0,1),(1,1),(2,1),(3,3),(6,1)],7,112,[.string ⟨#[]⟩,.slice none 0 0,.slice none 0 0,.int .i64 0,.int .i64 0,.slice none 0 0,.int .i64 0]⟩ (.node (.node .leaf 201 ⟨.other,1,8,[.nilFunc]⟩ .leaf) 202 ⟨.slice 198,1,24,[.slice none 0 0]⟩ .leaf))) 204 ⟨.struct [(0,1),(1,1),(2,1),(3,1),(4,1),(5,3)],8,128,[.int .i64 0,.int .i64 0,.slice none 0 0,.slice none 0 0,.slice none 0 0,.int .i64 0,.int .i64 0,.slice none 0 0]⟩ (.node (.node (.node (.node .leaf 205 ⟨.slice 4,1,24,[.slice none 0 0]⟩ .leaf) 206 ⟨.other,1,8,[.nilFunc]⟩ (.node .leaf 207 ⟨.other,1,8,[.nilFunc]⟩ .leaf)) 208 ⟨.other,1,8,[.pointer none]⟩ (.node (.node .leaf 210 ⟨.struct [(0,4),(4,1)],5,120,[.slice none 0 0,.slice none 0 0,.slice none 0 0,.slice none 0 0,.slice none 0 0]⟩ .leaf) 218 ⟨.other,1,8,[.nilFunc]⟩ .leaf)) 220 ⟨.other,1,8,[.nilFunc]⟩ (.node (.node (.node .leaf 232 ⟨.other,1,8,[.pointer none]⟩ .leaf) 233 ⟨.slice 5,1,24,[.slice none 0 0]⟩ .leaf) 235 ⟨.struct [(0,1),(1,1)],2,32,[.pointer none,.slice none 0 0]⟩ (.node (.node .leaf 237 ⟨.other,1,16,[.nilIface]⟩ .leaf) 251 ⟨.slice 255,1,24,[.slice none 0 0]⟩ .leaf)))) 255 ⟨.struct [(0,1),(1,1),(2,1)],3,32,[.int .i64 0,.string ⟨#[]⟩,.int .i64 0]⟩ (.node (.node (.node (.node (.node .leaf 259 ⟨.slice 190,1,24,[.slice none 0 0]⟩ .leaf) 262 ⟨.int .i64,1,8,[.int .i64 0]⟩ (.node .leaf 270 ⟨.slice 273,1,24,[.slice none 0 0]⟩ .leaf)) 273 ⟨.struct [(0,1),(1,1),(2,1)],3,32,[.int .i64 0,.string ⟨#[]⟩,.int .i64 0]⟩ (.node (.node .leaf 297 ⟨.other,1,8,[.pointer none]⟩ .leaf) 307 ⟨.slice 61,1,24,[.slice none 0 0]⟩ .leaf)) 309 ⟨.slice 62,1,24,[.slice none 0 0]⟩ (.node (.node (.node .leaf 311 ⟨.other,1,8,[.nilFunc]⟩ .leaf) 318 ⟨.float .f64,1,8,[.float .f64 0]⟩ .leaf) 319 ⟨.slice 322,1,24,[.slice none 0 0]⟩ (.node (.node .leaf 322 ⟨.struct [(0,1),(1,3)],4,80,[.slice none 0 0,.bool false,.slice none 0 0,.slice none 0 0]⟩ .leaf) 325 ⟨.int .u64,1,8,[.int .u64 0]⟩ .leaf))) 329 ⟨.other,1,8,[.pointer none]⟩ (.node (.node (.node (.node .leaf 341 ⟨.other,1,8,[.pointer none]⟩ .leaf) 352 ⟨.other,1,8,[.pointer none]⟩ (.node .leaf 366 ⟨.other,1,8,[.pointer none]⟩ .leaf)) 374 ⟨.other,1,8,[.nilFunc]⟩ (.node (.node .leaf 379 ⟨.other,1,8,[.nilFunc]⟩ .leaf) 383 ⟨.struct [(0,1),(1,3),(4,1),(5,1)],6,96,[.slice none 0 0,.int .i64 0,.int .i64 0,.slice none 0 0,.map none,.slice none 0 0]⟩ .leaf)) 384 ⟨.slice 387,1,24,[.slice none 0 0]⟩ (.node (.node (.node .leaf 387 ⟨.struct [(0,1),(1,3)],4,80,[.slice none 0 0,.bool false,.slice none 0 0,.slice none 0 0]⟩ .leaf) 389 ⟨.slice 187,1,24,[.slice none 0 0]⟩ .leaf) 391 ⟨.other,1,8,[.nilFunc]⟩ (.node (.node .leaf 405 ⟨.other,1,8,[.nilFunc]⟩ .leaf) 413 ⟨.slice 93,1,24,[.slice none 0 0]⟩ .leaf))))))
def Bx:Cx:=Afz.find
theorem Awb:Afz.toList.map (λp=>G8 prog p.1)=Afz.toList.map (λp=>some p.2):=κ
theorem Alr:Cy prog Bx:=Tr.ok Awb
theorem Wk:prog.follows .mixedOrders=true:=κ
end Go.Ab
namespace Go.Ab.Fn
abbrev Aaz:FuncId:=3
abbrev Aa0:FuncId:=4
abbrev Ws:FuncId:=5
abbrev Aa1:FuncId:=6
abbrev T0:FuncId:=7
abbrev Wt:FuncId:=8
abbrev T1:FuncId:=9
abbrev Wu:FuncId:=10
abbrev Wv:FuncId:=11
abbrev L7:FuncId:=12
abbrev Rf:FuncId:=13
abbrev O9:FuncId:=14
abbrev Af0:FuncId:=15
abbrev Af1:FuncId:=16
abbrev Ww:FuncId:=17
abbrev T2:FuncId:=18
abbrev Aa2:FuncId:=19
abbrev Wx:FuncId:=20
abbrev M2:FuncId:=21
abbrev T3:FuncId:=22
abbrev J4:FuncId:=23
abbrev Pa:FuncId:=24
abbrev Pb:FuncId:=25
abbrev Rg:FuncId:=26
abbrev Rh:FuncId:=27
abbrev T5:FuncId:=28
abbrev L8:FuncId:=29
abbrev T6:FuncId:=30
abbrev T7:FuncId:=31
abbrev I4:FuncId:=32
abbrev Ks:FuncId:=33
abbrev Jn:FuncId:=34
abbrev Lg:FuncId:=35
abbrev Wy:FuncId:=36
abbrev Lh:FuncId:=37
abbrev Li:FuncId:=38
abbrev N0:FuncId:=39
abbrev T8:FuncId:=40
abbrev T9:FuncId:=41
abbrev Wz:FuncId:=42
abbrev Pc:FuncId:=43
abbrev Jo:FuncId:=44
abbrev W0:FuncId:=45
abbrev Iw:FuncId:=46
abbrev Ri:FuncId:=47
abbrev Ua:FuncId:=48
abbrev Ub:FuncId:=49
abbrev Uc:FuncId:=50
abbrev M3:FuncId:=51
abbrev Rj:FuncId:=52
abbrev Jp:FuncId:=53
abbrev I5:FuncId:=54
abbrev Ud:FuncId:=55
abbrev Ue:FuncId:=56
abbrev W1:FuncId:=57
abbrev W2:FuncId:=58
abbrev Uf:FuncId:=59
abbrev W3:FuncId:=60
abbrev Rk:FuncId:=61
abbrev Pd:FuncId:=62
abbrev I6:FuncId:=63
abbrev L9:FuncId:=64
abbrev Rl:FuncId:=65
abbrev W4:FuncId:=66
abbrev Pe:FuncId:=67
abbrev W5:FuncId:=68
abbrev Rm:FuncId:=69
abbrev W6:FuncId:=70
abbrev Lj:FuncId:=71
abbrev Kt:FuncId:=72
abbrev W7:FuncId:=73
abbrev F3:FuncId:=74
abbrev Ku:FuncId:=75
abbrev Rn:FuncId:=76
abbrev W8:FuncId:=77
abbrev N1:FuncId:=78
abbrev Pf:FuncId:=79
abbrev W9:FuncId:=80
abbrev Jq:FuncId:=81
abbrev Pg:FuncId:=82
abbrev Ug:FuncId:=83
abbrev Aa3:FuncId:=84
abbrev Uh:FuncId:=85
abbrev I7:FuncId:=86
abbrev Ma:FuncId:=87
abbrev Ui:FuncId:=88
abbrev Af2:FuncId:=89
abbrev Ph:FuncId:=90
abbrev J5:FuncId:=91
abbrev Uj:FuncId:=92
abbrev N2:FuncId:=93
abbrev Kv:FuncId:=94
abbrev Aa4:FuncId:=95
abbrev Uk:FuncId:=96
abbrev Xa:FuncId:=97
abbrev Ro:FuncId:=98
abbrev Ul:FuncId:=99
abbrev Xb:FuncId:=100
abbrev Af3:FuncId:=101
abbrev Af4:FuncId:=102
abbrev Af5:FuncId:=103
abbrev Af6:FuncId:=104
abbrev Af7:FuncId:=105
abbrev Af8:FuncId:=106
abbrev Mb:FuncId:=107
abbrev M4:FuncId:=108
abbrev M5:FuncId:=109
abbrev Ix:FuncId:=110
abbrev Um:FuncId:=111
abbrev Pi:FuncId:=112
abbrev Aa5:FuncId:=113
abbrev Un:FuncId:=114
abbrev Rp:FuncId:=115
abbrev M6:FuncId:=116
abbrev Uo:FuncId:=117
abbrev Xc:FuncId:=118
abbrev N3:FuncId:=119
abbrev Hj:FuncId:=120
abbrev Rq:FuncId:=121
abbrev N4:FuncId:=122
abbrev N5:FuncId:=123
abbrev N6:FuncId:=124
abbrev Xd:FuncId:=125
abbrev Up:FuncId:=126
abbrev Pj:FuncId:=127
abbrev Rr:FuncId:=128
abbrev Pk:FuncId:=129
abbrev Uq:FuncId:=130
abbrev N7:FuncId:=131
abbrev Pl:FuncId:=132
abbrev Rs:FuncId:=133
abbrev Rt:FuncId:=134
abbrev Ur:FuncId:=135
abbrev Us:FuncId:=136
abbrev Pm:FuncId:=137
abbrev Ut:FuncId:=138
abbrev Uu:FuncId:=139
abbrev Xe:FuncId:=140
abbrev Ru:FuncId:=141
abbrev Xf:FuncId:=143
abbrev Pn:FuncId:=144
abbrev Po:FuncId:=145
abbrev J6:FuncId:=146
abbrev Xg:FuncId:=147
abbrev Uv:FuncId:=148
abbrev Xh:FuncId:=149
abbrev Rv:FuncId:=150
abbrev Pp:FuncId:=151
abbrev Af9:FuncId:=152
abbrev Aga:FuncId:=153
abbrev Xi:FuncId:=160
abbrev M7:FuncId:=161
abbrev Xj:FuncId:=162
abbrev Xk:FuncId:=163
abbrev Pq:FuncId:=164
abbrev Md:FuncId:=165
abbrev Lk:FuncId:=166
abbrev Aa6:FuncId:=167
abbrev Xl:FuncId:=168
abbrev M8:FuncId:=169
abbrev Pr:FuncId:=170
abbrev Aa7:FuncId:=171
abbrev Xm:FuncId:=172
abbrev Aa8:FuncId:=173
abbrev Xn:FuncId:=174
abbrev Uw:FuncId:=175
abbrev Xo:FuncId:=176
abbrev Agb:FuncId:=177
abbrev N8:FuncId:=178
abbrev Agc:FuncId:=179
abbrev Ux:FuncId:=180
abbrev Uy:FuncId:=181
abbrev Uz:FuncId:=182
abbrev Me:FuncId:=183
abbrev Rw:FuncId:=184
abbrev Iy:FuncId:=185
abbrev Kw:FuncId:=186
abbrev Hv:FuncId:=187
abbrev N9:FuncId:=188
abbrev Kx:FuncId:=189
abbrev Aa9:FuncId:=190
abbrev Oa:FuncId:=191
abbrev Ob:FuncId:=192
abbrev Aba:FuncId:=193
abbrev Xp:FuncId:=194
abbrev Xq:FuncId:=195
abbrev Abb:FuncId:=196
abbrev Abc:FuncId:=197
abbrev Abd:FuncId:=198
abbrev Ps:FuncId:=199
abbrev Xr:FuncId:=200
abbrev Xs:FuncId:=201
abbrev Abe:FuncId:=203
abbrev Abf:FuncId:=212
abbrev Abg:FuncId:=213
abbrev U1:FuncId:=214
abbrev Rx:FuncId:=215
abbrev Agd:FuncId:=216
abbrev U2:FuncId:=227
abbrev Pt:FuncId:=228
abbrev Abh:FuncId:=229
abbrev Xt:FuncId:=230
abbrev Xu:FuncId:=231
abbrev Xv:FuncId:=232
abbrev Abi:FuncId:=233
abbrev Abj:FuncId:=235
abbrev Oc:FuncId:=236
abbrev Xw:FuncId:=237
abbrev Xx:FuncId:=238
abbrev Ry:FuncId:=239
abbrev Rz:FuncId:=241
abbrev Mf:FuncId:=242
abbrev Xy:FuncId:=243
abbrev R0:FuncId:=244
abbrev U3:FuncId:=245
abbrev J7:FuncId:=246
abbrev R3:FuncId:=247
abbrev Xz:FuncId:=248
abbrev R4:FuncId:=249
abbrev X0:FuncId:=250
abbrev R5:FuncId:=258
abbrev Abk:FuncId:=259
abbrev Abl:FuncId:=260
abbrev X1:FuncId:=261
abbrev U4:FuncId:=262
abbrev U5:FuncId:=263
abbrev Abm:FuncId:=264
abbrev X2:FuncId:=265
abbrev X3:FuncId:=266
abbrev Pu:FuncId:=267
abbrev U6:FuncId:=268
abbrev X4:FuncId:=277
abbrev X5:FuncId:=278
abbrev X6:FuncId:=279
abbrev X7:FuncId:=280
abbrev R6:FuncId:=284
abbrev R7:FuncId:=285
abbrev Abn:FuncId:=286
abbrev Abo:FuncId:=287
abbrev Abp:FuncId:=297
abbrev U7:FuncId:=299
abbrev M9:FuncId:=300
abbrev R8:FuncId:=301
abbrev U8:FuncId:=302
abbrev X8:FuncId:=303
abbrev U9:FuncId:=305
abbrev Va:FuncId:=307
abbrev R9:FuncId:=308
abbrev Vb:FuncId:=309
abbrev X9:FuncId:=310
abbrev Sa:FuncId:=314
abbrev Ya:FuncId:=315
abbrev Vc:FuncId:=318
abbrev Sb:FuncId:=319
abbrev Yb:FuncId:=320
abbrev Vd:FuncId:=321
abbrev Yc:FuncId:=322
abbrev Pv:FuncId:=323
abbrev Yd:FuncId:=324
abbrev Ye:FuncId:=325
abbrev Sc:FuncId:=326
abbrev Sd:FuncId:=327
abbrev Px:FuncId:=328
abbrev Se:FuncId:=347
abbrev Yf:FuncId:=348
abbrev Py:FuncId:=354
abbrev Ve:FuncId:=355
abbrev Sf:FuncId:=372
end Go.Ab.Fn
namespace Go.Ab
open Go
abbrev O (k:IntKind) (n:Int):AV:=.val (.int k n)
abbrev Ap (b:Bool):AV:=.val (.bool b)
abbrev Dz (s:ByteArray):AV:=.val (.string s)
abbrev As {α:Type} (sz:Nat) (f:α->AV) (l:List α):AV:=.sl sz (l.map f)
abbrev Hw {α:Type} (sz:Nat) (g:List α->List AV) (l:List α):AV:=.sl sz (g l)
structure Ai where
 Kind:Int
 Num:Int
 Args:(List Ai)
mutual
def Age:Ai->AV
 | ⟨x0,x1,x2⟩=>.agg [O .i64 x0,O .i64 x1,.sl 3 (Bq x2)]
def Bq:List Ai->List AV
 | []=>[]
 | x::xs=>Age x::Bq xs
end
def Ei (x:Ai):AV:=.agg [O .i64 x.Kind,O .i64 x.Num,.sl 3 (Bq x.Args)]
theorem Awc (x:Ai):Age x=Ei x:=by cases x; simp only [Age,Ei]
theorem J8:∀l:List Ai,Bq l=l.map Ei
 | []=>rfl
 | x::xs=>by simp only [Bq,List.map_cons,Awc,J8 xs]
structure Mg where
 Name:ByteArray
 Args:(List Ai)
def Abq (x:Mg):AV:=.agg [Dz x.Name,.sl 3 (Bq x.Args)]
structure A3 where
 Name:ByteArray
 Vars:Int
 Cons:(List Mg)
def Ct (x:A3):AV:=.agg [Dz x.Name,O .i64 x.Vars,.sl 2 (List.map Abq x.Cons)]
structure Bk where
 Data:(List A3)
 Vars:(List Ai)
 Res:Ai
def Fx (x:Bk):AV:=.agg [.sl 3 (List.map Ct x.Data),.sl 3 (Bq x.Vars),O .i64 x.Res.Kind,O .i64 x.Res.Num,.sl 3 (Bq x.Res.Args)]
structure A5 where
 Var:Int
 Coef:Int
def Cp (x:A5):AV:=.agg [O .i64 x.Var,O .i64 x.Coef]
structure Bb where
 Const:Int
 Terms:(List A5)
def D0 (x:Bb):AV:=.agg [O .i64 x.Const,.sl 2 (List.map Cp x.Terms)]
structure Eu where
 Kind:Int
 E:Bb
 F:Bb
 K:Int
def Jr (x:Eu):AV:=.agg [O .i64 x.Kind,O .i64 x.E.Const,.sl 2 (List.map Cp x.E.Terms),O .i64 x.F.Const,.sl 2 (List.map Cp x.F.Terms),O .i64 x.K]
structure Ar where
 Neg:Bool
 Num:(List Int)
 Den:(List Int)
def Ck (x:Ar):AV:=.agg [Ap x.Neg,.sl 1 (List.map (O .u32) x.Num),.sl 1 (List.map (O .u32) x.Den)]
structure Bn where
 Num:Int
 Kids:(List Bn)
mutual
def Agf:Bn->AV
 | ⟨x0,x1⟩=>.agg [O .i64 x0,.sl 2 (I8 x1)]
def I8:List Bn->List AV
 | []=>[]
 | x::xs=>Agf x::I8 xs
end
def Gv (x:Bn):AV:=.agg [O .i64 x.Num,.sl 2 (I8 x.Kids)]
theorem Awd (x:Bn):Agf x=Gv x:=by cases x; simp only [Agf,Gv]
theorem Mh:∀l:List Bn,I8 l=l.map Gv
 | []=>rfl
 | x::xs=>by simp only [I8,List.map_cons,Awd,Mh xs]
structure B7 where
 Var:Int
 Index:Bn
def Ds (x:B7):AV:=.agg [O .i64 x.Var,O .i64 x.Index.Num,.sl 2 (I8 x.Index.Kids)]
structure A7 where
 Lin:Bb
 Deg:Int
def Dq (x:A7):AV:=.agg [O .i64 x.Lin.Const,.sl 2 (List.map Cp x.Lin.Terms),O .i64 x.Deg]
structure Ba where
 Factors:(List B7)
 Atoms:(List A7)
def Ge (x:Ba):AV:=.agg [.sl 3 (List.map Ds x.Factors),.sl 3 (List.map Dq x.Atoms)]
structure Ah where
 Coef:Ar
 Mono:Ba
def Be (x:Ah):AV:=.agg [Ap x.Coef.Neg,.sl 1 (List.map (O .u32) x.Coef.Num),.sl 1 (List.map (O .u32) x.Coef.Den),.sl 3 (List.map Ds x.Mono.Factors),.sl 3 (List.map Dq x.Mono.Atoms)]
structure Als where
 Name:ByteArray
 Params:(List Int)
 Captured:(List Int)
 Result:Ai
 Body:Int
def Sg (x:Als):AV:=.agg [Dz x.Name,.sl 1 (List.map (O .i64) x.Params),.sl 1 (List.map (O .i64) x.Captured),O .i64 x.Result.Kind,O .i64 x.Result.Num,.sl 3 (Bq x.Result.Args),O .i64 x.Body]
structure Alt where
 Op:Int
 Num:Int
 Vars:(List Int)
 Binds:(List (List Int))
 Kids:(List Int)
 Type_:Ai
def Sh (x:Alt):AV:=.agg [O .i64 x.Op,O .i64 x.Num,.sl 1 (List.map (O .i64) x.Vars),.sl 1 (List.map (As 1 (O .i64)) x.Binds),.sl 1 (List.map (O .i64) x.Kids),O .i64 x.Type_.Kind,O .i64 x.Type_.Num,.sl 3 (Bq x.Type_.Args)]
structure Js where
 Data:(List A3)
 Codes:(List Als)
 Vars:(List Ai)
 Exprs:(List Alt)
def Si (x:Js):AV:=.agg [.sl 3 (List.map Ct x.Data),.sl 7 (List.map Sg x.Codes),.sl 3 (Bq x.Vars),.sl 8 (List.map Sh x.Exprs)]
structure F8 where
 data:(List A3)
 vars:Int
 left:Int
structure Gw where
 neg:Bool
 n:(List Int)
 d:(List Int)
def Pz (x:Gw):AV:=.agg [Ap x.neg,.sl 1 (List.map (O .u32) x.n),.sl 1 (List.map (O .u32) x.d)]
structure Cs where
 Index:Bn
 Coef:Ar
def Dn (x:Cs):AV:=.agg [O .i64 x.Index.Num,.sl 2 (I8 x.Index.Kids),Ap x.Coef.Neg,.sl 1 (List.map (O .u32) x.Coef.Num),.sl 1 (List.map (O .u32) x.Coef.Den)]
structure Jt where
 Kind:Int
 Text:ByteArray
 Pos:Int
def Agg (x:Jt):AV:=.agg [O .i64 x.Kind,Dz x.Text,O .i64 x.Pos]
structure Iz where
 Kind:Int
 Text:ByteArray
 Pos:Int
def Abr (x:Iz):AV:=.agg [O .i64 x.Kind,Dz x.Text,O .i64 x.Pos]
end Go.Ab
