/- The types that the program uses; plain types for its data. -/
import Derived.Test.YtkcnpnalkpmhaaaGreatDoorPhAb2
import Derived.Test.YtkcnpnalkpmhaaaGreatDoorProg
import Derived.KernelRfl
namespace Go.Ab
open Go Go.Proofs Go.Proofs.Tryz
theorem κ {p:Prop} (h:p:=by kernel_rfl):p:=h
def Ajw:Tr:=(.node (.node (.node (.node (.node (.node (.node .leaf 1 ⟨.other,1,8,[.nilFunc]⟩ .leaf) 2 ⟨.int .i64,1,8,[.int .i64 0]⟩ (.node .leaf 3 ⟨.int .i64,1,8,[.int .i64 0]⟩ .leaf)) 4 ⟨.bool,1,1,[.bool false]⟩ (.node (.node .leaf 5 ⟨.int .u8,1,1,[.int .u8 0]⟩ .leaf) 9 ⟨.string,1,16,[.string ⟨#[]⟩]⟩ .leaf)) 20 ⟨.other,1,16,[.nilIface]⟩ (.node (.node (.node .leaf 22 ⟨.slice 167,1,24,[.slice none 0 0]⟩ .leaf) 23 ⟨.slice 25,1,24,[.slice none 0 0]⟩ (.node .leaf 25 ⟨.struct [(0,1),(1,1),(2,1)],3,40,[.int .i64 0,.int .i64 0,.slice none 0 0]⟩ .leaf)) 27 ⟨.struct [(0,1),(1,1),(2,3)],5,88,[.slice none 0 0,.slice none 0 0,.int .i64 0,.int .i64 0,.slice none 0 0]⟩ (.node (.node .leaf 28 ⟨.slice 66,1,24,[.slice none 0 0]⟩ .leaf) 29 ⟨.slice 31,1,24,[.slice none 0 0]⟩ .leaf))) 31 ⟨.struct [(0,1),(1,1),(2,1)],3,40,[.int .i64 0,.int .i64 0,.slice none 0 0]⟩ (.node (.node (.node (.node .leaf 34 ⟨.slice 118,1,24,[.slice none 0 0]⟩ .leaf) 36 ⟨.struct [(0,1),(1,1),(2,1)],3,56,[.bool false,.slice none 0 0,.slice none 0 0]⟩ (.node .leaf 37 ⟨.int .i64,1,8,[.int .i64 0]⟩ .leaf)) 44 ⟨.other,1,8,[.nilFunc]⟩ (.node (.node .leaf 46 ⟨.slice 28,1,24,[.slice none 0 0]⟩ .leaf) 50 ⟨.other,1,8,[.nilFunc]⟩ .leaf)) 52 ⟨.other,1,8,[.pointer none]⟩ (.node (.node (.node .leaf 55 ⟨.other,1,8,[.nilFunc]⟩ .leaf) 56 ⟨.slice 3,1,24,[.slice none 0 0]⟩ .leaf) 61 ⟨.slice 71,1,24,[.slice none 0 0]⟩ (.node (.node .leaf 62 ⟨.slice 77,1,24,[.slice none 0 0]⟩ .leaf) 64 ⟨.struct [(0,1),(1,1)],2,48,[.slice none 0 0,.slice none 0 0]⟩ .leaf)))) 66 ⟨.struct [(0,3),(3,2)],5,104,[.bool false,.slice none 0 0,.slice none 0 0,.slice none 0 0,.slice none 0 0]⟩ (.node (.node (.node (.node (.node .leaf 67 ⟨.slice 69,1,24,[.slice none 0 0]⟩ .leaf) 69 ⟨.struct [(0,1),(1,1)],2,32,[.int .i64 0,.slice none 0 0]⟩ (.node .leaf 71 ⟨.struct [(0,1),(1,2)],3,40,[.int .i64 0,.int .i64 0,.slice none 0 0]⟩ .leaf)) 73 ⟨.slice 79,1,24,[.slice none 0 0]⟩ (.node (.node .leaf 75 ⟨.struct [(0,1),(1,1)],2,32,[.int .i64 0,.slice none 0 0]⟩ .leaf) 77 ⟨.struct [(0,2),(2,1)],3,40,[.int .i64 0,.slice none 0 0,.int .i64 0]⟩ .leaf)) 79 ⟨.struct [(0,1),(1,1)],2,16,[.int .i64 0,.int .i64 0]⟩ (.node (.node (.node .leaf 81 ⟨.other,1,8,[.pointer none]⟩ .leaf) 99 ⟨.other,1,8,[.nilFunc]⟩ .leaf) 101 ⟨.other,1,8,[.pointer none]⟩ (.node (.node .leaf 103 ⟨.slice 237,1,24,[.slice none 0 0]⟩ .leaf) 104 ⟨.slice 241,1,24,[.slice none 0 0]⟩ .leaf))) 106 ⟨.struct [(0,1),(1,1),(2,1),(3,1)],4,96,[.slice none 0 0,.slice none 0 0,.slice none 0 0,.slice none 0 0]⟩ (.node (.node (.node (.node .leaf 108 ⟨.map 9 3,1,8,[.map none]⟩ .leaf) 109 ⟨.map 9 141,1,8,[.map none]⟩ (.node .leaf 111 ⟨.struct [(0,5),(5,1),(6,1)],7,104,[.slice none 0 0,.slice none 0 0,.int .i64 0,.int .i64 0,.slice none 0 0,.map none,.map none]⟩ .leaf)) 116 ⟨.slice 118,1,24,[.slice none 0 0]⟩ (.node (.node .leaf 118 ⟨.int .u32,1,4,[.int .u32 0]⟩ .leaf) 120 ⟨.struct [(0,1),(1,1),(2,1)],3,56,[.bool false,.slice none 0 0,.slice none 0 0]⟩ .leaf)) 130 ⟨.struct [(0,1),(1,1)],2,32,[.map none,.slice none 0 0]⟩ (.node (.node (.node .leaf 135 ⟨.other,1,8,[.nilFunc]⟩ .leaf) 140 ⟨.other,1,8,[.nilFunc]⟩ .leaf) 141 ⟨.slice 145,1,24,[.slice none 0 0]⟩ (.node (.node .leaf 145 ⟨.struct [(0,2),(2,3)],5,88,[.int .i64 0,.slice none 0 0,.bool false,.slice none 0 0,.slice none 0 0]⟩ .leaf) 151 ⟨.other,1,8,[.nilFunc]⟩ .leaf))))) 152 ⟨.slice 36,1,24,[.slice none 0 0]⟩ (.node (.node (.node (.node (.node (.node .leaf 160 ⟨.int .u64,1,8,[.int .u64 0]⟩ .leaf) 165 ⟨.slice 169,1,24,[.slice none 0 0]⟩ (.node .leaf 167 ⟨.struct [(0,1),(1,1),(2,1)],3,48,[.string ⟨#[]⟩,.int .i64 0,.slice none 0 0]⟩ .leaf)) 169 ⟨.struct [(0,1),(1,1)],2,40,[.string ⟨#[]⟩,.slice none 0 0]⟩ (.node (.node .leaf 171 ⟨.other,1,8,[.pointer none]⟩ .leaf) 173 ⟨.struct [(0,1),(1,1),(2,1)],3,40,[.slice none 0 0,.int .i64 0,.int .i64 0]⟩ .leaf)) 176 ⟨.int .u64,1,8,[.int .u64 0]⟩ (.node (.node (.node .leaf 191 ⟨.other,1,8,[.pointer none]⟩ .leaf) 192 ⟨.slice 5,1,24,[.slice none 0 0]⟩ .leaf) 194 ⟨.struct [(0,1),(1,1)],2,32,[.pointer none,.slice none 0 0]⟩ (.node (.node .leaf 196 ⟨.other,1,16,[.nilIface]⟩ .leaf) 207 ⟨.other,1,8,[.nilFunc]⟩ .leaf))) 217 ⟨.other,1,8,[.nilFunc]⟩ (.node (.node (.node (.node .leaf 220 ⟨.slice 61,1,24,[.slice none 0 0]⟩ .leaf) 222 ⟨.slice 62,1,24,[.slice none 0 0]⟩ (.node .leaf 225 ⟨.other,1,8,[.nilFunc]⟩ .leaf)) 227 ⟨.other,1,8,[.nilFunc]⟩ (.node (.node .leaf 232 ⟨.map 9 4,1,8,[.map none]⟩ .leaf) 237 ⟨.struct [(0,1),(1,1),(2,1),(3,3),(6,1)],7,112,[.string ⟨#[]⟩,.slice none 0 0,.slice none 0 0,.int .i64 0,.int .i64 0,.slice none 0 0,.int .i64 0]⟩ .leaf)) 238 ⟨.other,1,8,[.nilFunc]⟩ (.node (.node (.node .leaf 239 ⟨.slice 56,1,24,[.slice none 0 0]⟩ .leaf) 241 ⟨.struct [(0,1),(1,1),(2,1),(3,1),(4,1),(5,3)],8,128,[.int .i64 0,.int .i64 0,.slice none 0 0,.slice none 0 0,.slice none 0 0,.int .i64 0,.int .i64 0,.slice none 0 0]⟩ .leaf) 242 ⟨.slice 4,1,24,[.slice none 0 0]⟩ (.node (.node .leaf 243 ⟨.other,1,8,[.nilFunc]⟩ .leaf) 244 ⟨.other,1,8,[.nilFunc]⟩ .leaf)))) 245 ⟨.other,1,8,[.pointer none]⟩ (.node (.node (.node (.node (.node .leaf 247 ⟨.struct [(0,4),(4,1)],5,120,[.slice none 0 0,.slice none 0 0,.slice none 0 0,.slice none 0 0,.slice none 0 0]⟩ .leaf) 250 ⟨.int .i64,1,8,[.int .i64 0]⟩ (.node .leaf 261 ⟨.other,1,8,[.nilFunc]⟩ .leaf)) 269 ⟨.slice 271,1,24,[.slice none 0 0]⟩ (.node (.node .leaf 271 ⟨.struct [(0,1),(1,1),(2,1),(3,1)],4,80,[.int .i64 0,.slice none 0 0,.slice none 0 0,.slice none 0 0]⟩ .leaf) 277 ⟨.other,1,8,[.pointer none]⟩ .leaf)) 291 ⟨.other,1,8,[.pointer none]⟩ (.node (.node (.node .leaf 303 ⟨.float .f64,1,8,[.float .f64 0]⟩ .leaf) 304 ⟨.slice 308,1,24,[.slice none 0 0]⟩ .leaf) 308 ⟨.struct [(0,1),(1,1),(2,1)],3,32,[.int .i64 0,.string ⟨#[]⟩,.int .i64 0]⟩ (.node (.node .leaf 317 ⟨.int .u64,1,8,[.int .u64 0]⟩ .leaf) 329 ⟨.slice 242,1,24,[.slice none 0 0]⟩ .leaf))) 330 ⟨.other,1,8,[.nilFunc]⟩ (.node (.node (.node (.node .leaf 331 ⟨.other,1,8,[.pointer none]⟩ .leaf) 340 ⟨.other,1,8,[.nilFunc]⟩ (.node .leaf 342 ⟨.struct [(0,1),(1,3),(4,1),(5,1)],6,96,[.slice none 0 0,.int .i64 0,.int .i64 0,.slice none 0 0,.map none,.slice none 0 0]⟩ .leaf)) 343 ⟨.slice 346,1,24,[.slice none 0 0]⟩ (.node (.node .leaf 346 ⟨.struct [(0,1),(1,3)],4,80,[.slice none 0 0,.bool false,.slice none 0 0,.slice none 0 0]⟩ .leaf) 349 ⟨.slice 141,1,24,[.slice none 0 0]⟩ .leaf)) 351 ⟨.other,1,8,[.nilFunc]⟩ (.node (.node (.node .leaf 354 ⟨.other,1,8,[.nilFunc]⟩ .leaf) 360 ⟨.other,1,8,[.pointer none]⟩ .leaf) 372 ⟨.other,1,8,[.nilFunc]⟩ (.node (.node .leaf 379 ⟨.other,1,8,[.nilFunc]⟩ .leaf) 384 ⟨.slice 67,1,24,[.slice none 0 0]⟩ .leaf))))))
def Cs:Dd:=Ajw.find
theorem A2g:Ajw.toList.map (λp=>I9 prog p.1)=Ajw.toList.map (λp=>some p.2):=κ
theorem Apx:De prog Cs:=Tr.ok A2g
theorem Y3:prog.follows .mixedOrders=true:=κ
end Go.Ab
namespace Go.Ab.Fn
abbrev Aed:FuncId:=3
abbrev Zc:FuncId:=4
abbrev Zd:FuncId:=5
abbrev Nl:FuncId:=6
abbrev R5:FuncId:=7
abbrev T9:FuncId:=8
abbrev Wn:FuncId:=9
abbrev Pf:FuncId:=10
abbrev R6:FuncId:=11
abbrev Ua:FuncId:=12
abbrev Ze:FuncId:=13
abbrev Zf:FuncId:=14
abbrev Zg:FuncId:=15
abbrev Zh:FuncId:=16
abbrev Ub:FuncId:=17
abbrev Mn:FuncId:=18
abbrev Mo:FuncId:=19
abbrev Wo:FuncId:=20
abbrev Ql:FuncId:=21
abbrev L2:FuncId:=22
abbrev D0:FuncId:=23
abbrev Uc:FuncId:=24
abbrev Ec:FuncId:=25
abbrev Iy:FuncId:=26
abbrev R7:FuncId:=27
abbrev Qm:FuncId:=28
abbrev L3:FuncId:=29
abbrev Lj:FuncId:=30
abbrev Wp:FuncId:=31
abbrev R8:FuncId:=32
abbrev Qo:FuncId:=33
abbrev Ajx:FuncId:=34
abbrev Ajy:FuncId:=35
abbrev Ajz:FuncId:=36
abbrev Wq:FuncId:=37
abbrev R9:FuncId:=38
abbrev Nm:FuncId:=39
abbrev Nn:FuncId:=40
abbrev Zi:FuncId:=41
abbrev Sa:FuncId:=42
abbrev Sb:FuncId:=43
abbrev Zj:FuncId:=44
abbrev Zk:FuncId:=45
abbrev Zl:FuncId:=46
abbrev Zm:FuncId:=47
abbrev Wr:FuncId:=48
abbrev Sc:FuncId:=49
abbrev Ud:FuncId:=50
abbrev Pg:FuncId:=51
abbrev Zn:FuncId:=52
abbrev Zo:FuncId:=53
abbrev Ws:FuncId:=54
abbrev Aee:FuncId:=55
abbrev Ph:FuncId:=56
abbrev Sd:FuncId:=57
abbrev Ue:FuncId:=58
abbrev Pi:FuncId:=59
abbrev Wt:FuncId:=60
abbrev Oo:FuncId:=61
abbrev No:FuncId:=62
abbrev Qp:FuncId:=63
abbrev Wu:FuncId:=64
abbrev Ik:FuncId:=65
abbrev Uf:FuncId:=66
abbrev Qq:FuncId:=67
abbrev Zp:FuncId:=68
abbrev Pj:FuncId:=69
abbrev Qs:FuncId:=70
abbrev Se:FuncId:=71
abbrev Wv:FuncId:=72
abbrev Pk:FuncId:=73
abbrev Ww:FuncId:=74
abbrev Wx:FuncId:=75
abbrev Wy:FuncId:=76
abbrev Sf:FuncId:=77
abbrev Mp:FuncId:=78
abbrev Ug:FuncId:=79
abbrev Wz:FuncId:=80
abbrev W0:FuncId:=81
abbrev W1:FuncId:=82
abbrev Nq:FuncId:=83
abbrev Oq:FuncId:=84
abbrev Uh:FuncId:=85
abbrev Aef:FuncId:=86
abbrev Aeg:FuncId:=87
abbrev Qt:FuncId:=88
abbrev Ui:FuncId:=89
abbrev Aj0:FuncId:=90
abbrev Qu:FuncId:=91
abbrev L5:FuncId:=92
abbrev W2:FuncId:=93
abbrev Zq:FuncId:=94
abbrev Uj:FuncId:=95
abbrev Zr:FuncId:=96
abbrev Aeh:FuncId:=97
abbrev Sg:FuncId:=98
abbrev Zs:FuncId:=99
abbrev Aj1:FuncId:=100
abbrev Aj2:FuncId:=101
abbrev Aj3:FuncId:=102
abbrev Aj4:FuncId:=103
abbrev Aj5:FuncId:=104
abbrev Aj6:FuncId:=105
abbrev Ot:FuncId:=106
abbrev Ko:FuncId:=107
abbrev Pl:FuncId:=108
abbrev W3:FuncId:=109
abbrev Aj7:FuncId:=110
abbrev Uk:FuncId:=111
abbrev Zt:FuncId:=112
abbrev Zu:FuncId:=113
abbrev Sh:FuncId:=114
abbrev Aei:FuncId:=115
abbrev W4:FuncId:=116
abbrev Qv:FuncId:=117
abbrev Aej:FuncId:=118
abbrev Mq:FuncId:=119
abbrev Zv:FuncId:=120
abbrev W5:FuncId:=121
abbrev W6:FuncId:=122
abbrev L6:FuncId:=123
abbrev Zw:FuncId:=124
abbrev Ul:FuncId:=125
abbrev W7:FuncId:=126
abbrev Zx:FuncId:=127
abbrev Jv:FuncId:=128
abbrev Kz:FuncId:=129
abbrev Jd:FuncId:=130
abbrev Qw:FuncId:=131
abbrev L7:FuncId:=132
abbrev Zy:FuncId:=133
abbrev Nr:FuncId:=134
abbrev Aek:FuncId:=135
abbrev Zz:FuncId:=136
abbrev Pm:FuncId:=137
abbrev Qx:FuncId:=138
abbrev Ael:FuncId:=139
abbrev Z0:FuncId:=140
abbrev Z1:FuncId:=141
abbrev Ns:FuncId:=142
abbrev Aem:FuncId:=143
abbrev Mr:FuncId:=144
abbrev Aen:FuncId:=145
abbrev Aeo:FuncId:=146
abbrev Z2:FuncId:=147
abbrev Z3:FuncId:=148
abbrev Z4:FuncId:=149
abbrev Aep:FuncId:=150
abbrev Aeq:FuncId:=151
abbrev W8:FuncId:=152
abbrev Z5:FuncId:=153
abbrev Aer:FuncId:=154
abbrev W9:FuncId:=155
abbrev Um:FuncId:=156
abbrev Z6:FuncId:=157
abbrev Z7:FuncId:=158
abbrev Un:FuncId:=159
abbrev Uo:FuncId:=160
abbrev Si:FuncId:=161
abbrev Aj8:FuncId:=162
abbrev Aj9:FuncId:=163
abbrev Z8:FuncId:=170
abbrev Z9:FuncId:=171
abbrev Aka:FuncId:=172
abbrev Akb:FuncId:=178
abbrev Aes:FuncId:=182
abbrev Xa:FuncId:=183
abbrev Aaa:FuncId:=184
abbrev Xb:FuncId:=185
abbrev Sj:FuncId:=186
abbrev Sk:FuncId:=187
abbrev Qy:FuncId:=188
abbrev Up:FuncId:=189
abbrev Aab:FuncId:=190
abbrev Uq:FuncId:=191
abbrev Ur:FuncId:=192
abbrev Sl:FuncId:=193
abbrev Us:FuncId:=194
abbrev Pn:FuncId:=195
abbrev Aac:FuncId:=196
abbrev Aad:FuncId:=197
abbrev Po:FuncId:=198
abbrev Ut:FuncId:=200
abbrev Ou:FuncId:=201
abbrev Aae:FuncId:=202
abbrev Uu:FuncId:=210
abbrev Aaf:FuncId:=211
abbrev Qz:FuncId:=212
abbrev Aet:FuncId:=213
abbrev Sn:FuncId:=214
abbrev Aeu:FuncId:=215
abbrev Uv:FuncId:=217
abbrev Q2:FuncId:=218
abbrev Xc:FuncId:=219
abbrev So:FuncId:=220
abbrev Uw:FuncId:=221
abbrev Ov:FuncId:=222
abbrev Nt:FuncId:=223
abbrev Aev:FuncId:=224
abbrev Aew:FuncId:=226
abbrev Pp:FuncId:=227
abbrev Ux:FuncId:=228
abbrev Uy:FuncId:=229
abbrev Aag:FuncId:=230
abbrev Aex:FuncId:=231
abbrev Aey:FuncId:=232
abbrev Uz:FuncId:=233
abbrev Akc:FuncId:=234
abbrev Xd:FuncId:=250
abbrev U1:FuncId:=251
abbrev Xe:FuncId:=252
abbrev Aah:FuncId:=253
abbrev Sp:FuncId:=254
abbrev Xf:FuncId:=255
abbrev U2:FuncId:=256
abbrev Nu:FuncId:=258
abbrev U3:FuncId:=263
abbrev U4:FuncId:=264
abbrev Aai:FuncId:=266
abbrev Aaj:FuncId:=267
abbrev Aak:FuncId:=268
abbrev Aal:FuncId:=269
abbrev Sq:FuncId:=270
abbrev Aam:FuncId:=271
abbrev Pq:FuncId:=272
abbrev L8:FuncId:=273
abbrev Lk:FuncId:=274
abbrev Ps:FuncId:=275
abbrev Aez:FuncId:=276
abbrev Aan:FuncId:=278
abbrev Aao:FuncId:=279
abbrev Aap:FuncId:=280
abbrev Aaq:FuncId:=281
abbrev U5:FuncId:=292
abbrev Ae0:FuncId:=293
abbrev Xg:FuncId:=294
abbrev Sr:FuncId:=295
abbrev Aar:FuncId:=296
abbrev Aas:FuncId:=297
abbrev Aat:FuncId:=298
abbrev Ae1:FuncId:=299
abbrev Xh:FuncId:=301
abbrev U6:FuncId:=302
abbrev Aau:FuncId:=303
abbrev Xi:FuncId:=304
abbrev Aav:FuncId:=305
abbrev Ss:FuncId:=306
abbrev Aaw:FuncId:=307
abbrev Aax:FuncId:=308
abbrev Ae2:FuncId:=315
abbrev Ae3:FuncId:=316
end Go.Ab.Fn
namespace Go.Ab
open Go
abbrev O (k:IntKind) (n:Int):AV:=.val (.int k n)
abbrev Aw (b:Bool):AV:=.val (.bool b)
abbrev Gw (s:ByteArray):AV:=.val (.string s)
abbrev Ax {α:Type} (sz:Nat) (f:α->AV) (l:List α):AV:=.sl sz (l.map f)
abbrev Fi {α:Type} (sz:Nat) (g:List α->List AV) (l:List α):AV:=.sl sz (g l)
structure Af where
 G:Int
 U:Int
 R:List Af
mutual
def Akd:Af->AV
 | ⟨x0,x1,x2⟩=>.agg [O .i64 x0,O .i64 x1,.sl 3 (Bk x2)]
def Bk:List Af->List AV
 | []=>[]
 | x::xs=>Akd x::Bk xs
end
def Ea (x:Af):AV:=.agg [O .i64 x.G,O .i64 x.U,.sl 3 (Bk x.R)]
theorem A2h (x:Af):Akd x=Ea x:=by cases x;simp only[Akd,Ea]
theorem Ll:∀l:List Af,Bk l=l.map Ea
 | []=>rfl
 | x::xs=>by simp only[Bk,List.map_cons,A2h,Ll xs]
structure Q3 where
 S:ByteArray
 R:List Af
def Ae4 (x:Q3):AV:=.agg [Gw x.S,.sl 3 (Bk x.R)]
structure Ak where
 S:ByteArray
 V:Int
 O:List Q3
def B6 (x:Ak):AV:=.agg [Gw x.S,O .i64 x.V,.sl 2 (List.map Ae4 x.O)]
structure Cd where
 D:List Ak
 V:List Af
 E:Af
def Nv (x:Cd):AV:=.agg [.sl 3 (List.map B6 x.D),.sl 3 (Bk x.V),O .i64 x.E.G,O .i64 x.E.U,.sl 3 (Bk x.E.R)]
structure Az where
 G:Int
 U:Int
 K:List Az
mutual
def Ake:Az->AV
 | ⟨x0,x1,x2⟩=>.agg [O .i64 x0,O .i64 x1,.sl 3 (Hw x2)]
def Hw:List Az->List AV
 | []=>[]
 | x::xs=>Ake x::Hw xs
end
def Hr (x:Az):AV:=.agg [O .i64 x.G,O .i64 x.U,.sl 3 (Hw x.K)]
theorem A2i (x:Az):Ake x=Hr x:=by cases x;simp only[Ake,Hr]
theorem K1:∀l:List Az,Hw l=l.map Hr
 | []=>rfl
 | x::xs=>by simp only[Hw,List.map_cons,A2i,K1 xs]
structure Ao where
 N:Bool
 U:List Int
 B:List Int
def C1 (x:Ao):AV:=.agg [Aw x.N,.sl 1 (List.map (O .u32) x.U),.sl 1 (List.map (O .u32) x.B)]
structure Ai where
 U:Int
 K:List Ai
mutual
def Akf:Ai->AV
 | ⟨x0,x1⟩=>.agg [O .i64 x0,.sl 2 (Hk x1)]
def Hk:List Ai->List AV
 | []=>[]
 | x::xs=>Akf x::Hk xs
end
def Fe (x:Ai):AV:=.agg [O .i64 x.U,.sl 2 (Hk x.K)]
theorem A2j (x:Ai):Akf x=Fe x:=by cases x;simp only[Akf,Fe]
theorem Lm:∀l:List Ai,Hk l=l.map Fe
 | []=>rfl
 | x::xs=>by simp only[Hk,List.map_cons,A2j,Lm xs]
structure Bh where
 v:Int
 I:Ai
def F5 (x:Bh):AV:=.agg [O .i64 x.v,O .i64 x.I.U,.sl 2 (Hk x.I.K)]
structure En where
 v:Int
 C:Int
def Jn (x:En):AV:=.agg [O .i64 x.v,O .i64 x.C]
structure Co where
 Q:Int
 T:List En
def Nw (x:Co):AV:=.agg [O .i64 x.Q,.sl 2 (List.map Jn x.T)]
structure Bi where
 L:Co
 P:Int
def F6 (x:Bi):AV:=.agg [O .i64 x.L.Q,.sl 2 (List.map Jn x.L.T),O .i64 x.P]
structure Bj where
 F:List Bh
 A:List Bi
def Je (x:Bj):AV:=.agg [.sl 3 (List.map F5 x.F),.sl 3 (List.map F6 x.A)]
structure Aj where
 C:Ao
 M:Bj
def Cv (x:Aj):AV:=.agg [Aw x.C.N,.sl 1 (List.map (O .u32) x.C.U),.sl 1 (List.map (O .u32) x.C.B),.sl 3 (List.map F5 x.M.F),.sl 3 (List.map F6 x.M.A)]
structure Apy where
 S:ByteArray
 Params:List Int
 Captured:List Int
 Result:Af
 Body:Int
def U7 (x:Apy):AV:=.agg [Gw x.S,.sl 1 (List.map (O .i64) x.Params),.sl 1 (List.map (O .i64) x.Captured),O .i64 x.Result.G,O .i64 x.Result.U,.sl 3 (Bk x.Result.R),O .i64 x.Body]
structure Apz where
 Op:Int
 U:Int
 V:List Int
 Binds:List (List Int)
 K:List Int
 Type_:Af
def U8 (x:Apz):AV:=.agg [O .i64 x.Op,O .i64 x.U,.sl 1 (List.map (O .i64) x.V),.sl 1 (List.map (Ax 1 (O .i64)) x.Binds),.sl 1 (List.map (O .i64) x.K),O .i64 x.Type_.G,O .i64 x.Type_.U,.sl 3 (Bk x.Type_.R)]
structure Ln where
 D:List Ak
 Codes:List Apy
 V:List Af
 Exprs:List Apz
def U9 (x:Ln):AV:=.agg [.sl 3 (List.map B6 x.D),.sl 7 (List.map U7 x.Codes),.sl 3 (Bk x.V),.sl 8 (List.map U8 x.Exprs)]
structure Is where
 neg:Bool
 n:List Int
 d:List Int
def Su (x:Is):AV:=.agg [Aw x.neg,.sl 1 (List.map (O .u32) x.n),.sl 1 (List.map (O .u32) x.d)]
structure Av where
 I:Ai
 C:Ao
def B5 (x:Av):AV:=.agg [O .i64 x.I.U,.sl 2 (Hk x.I.K),Aw x.C.N,.sl 1 (List.map (O .u32) x.C.U),.sl 1 (List.map (O .u32) x.C.B)]
structure H8 where
 data:List Ak
 vars:Int
 left:Int
structure Aay where
 con:Int
 kids:List Ai
 places:List Int
 types:List Af
def A2k (x:Aay):AV:=.agg [O .i64 x.con,.sl 2 (Hk x.kids),.sl 1 (List.map (O .i64) x.places),.sl 3 (Bk x.types)]
structure Kp where
 G:Int
 Text:ByteArray
 Pos:Int
def Ae5 (x:Kp):AV:=.agg [O .i64 x.G,Gw x.Text,O .i64 x.Pos]
structure It where
 list:List Ai
 coef:Ao
def Pt (x:It):AV:=.agg [.sl 2 (Hk x.list),Aw x.coef.N,.sl 1 (List.map (O .u32) x.coef.U),.sl 1 (List.map (O .u32) x.coef.B)]
end Go.Ab
