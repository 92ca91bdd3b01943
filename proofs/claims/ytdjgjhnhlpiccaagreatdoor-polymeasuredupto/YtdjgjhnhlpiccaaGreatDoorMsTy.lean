/- The types that the program uses; plain types for its data. -/
import Derived.Test.YtdjgjhnhlpiccaaGreatDoorMsAb2
import Derived.Test.YtdjgjhnhlpiccaaGreatDoorProg
import Derived.KernelRfl
namespace Go.Ab
open Go Go.Proofs Go.Proofs.Tryz
theorem κ {p:Prop} (h:p:=by kernel_rfl):p:=h
def Aj0:Tr:=(.node (.node (.node (.node (.node (.node (.node .leaf 1 ⟨.other,1,8,[.nilFunc]⟩ .leaf) 2 ⟨.int .i64,1,8,[.int .i64 0]⟩ (.node .leaf 3 ⟨.int .i64,1,8,[.int .i64 0]⟩ .leaf)) 4 ⟨.bool,1,1,[.bool false]⟩ (.node (.node .leaf 5 ⟨.int .u8,1,1,[.int .u8 0]⟩ .leaf) 9 ⟨.string,1,16,[.string ⟨#[]⟩]⟩ .leaf)) 20 ⟨.other,1,16,[.nilIface]⟩ (.node (.node (.node .leaf 22 ⟨.slice 159,1,24,[.slice none 0 0]⟩ .leaf) 23 ⟨.slice 25,1,24,[.slice none 0 0]⟩ (.node .leaf 25 ⟨.struct [(0,1),(1,1),(2,1)],3,40,[.int .i64 0,.int .i64 0,.slice none 0 0]⟩ .leaf)) 27 ⟨.struct [(0,1),(1,1),(2,3)],5,88,[.slice none 0 0,.slice none 0 0,.int .i64 0,.int .i64 0,.slice none 0 0]⟩ (.node (.node .leaf 28 ⟨.slice 82,1,24,[.slice none 0 0]⟩ .leaf) 29 ⟨.slice 31,1,24,[.slice none 0 0]⟩ .leaf))) 31 ⟨.struct [(0,1),(1,1),(2,1)],3,40,[.int .i64 0,.int .i64 0,.slice none 0 0]⟩ (.node (.node (.node (.node .leaf 34 ⟨.int .i64,1,8,[.int .i64 0]⟩ .leaf) 37 ⟨.slice 92,1,24,[.slice none 0 0]⟩ (.node .leaf 39 ⟨.struct [(0,1),(1,1)],2,32,[.int .i64 0,.slice none 0 0]⟩ .leaf)) 45 ⟨.slice 132,1,24,[.slice none 0 0]⟩ (.node (.node .leaf 47 ⟨.struct [(0,1),(1,1),(2,1)],3,56,[.bool false,.slice none 0 0,.slice none 0 0]⟩ .leaf) 53 ⟨.slice 28,1,24,[.slice none 0 0]⟩ .leaf)) 57 ⟨.other,1,8,[.nilFunc]⟩ (.node (.node (.node .leaf 59 ⟨.other,1,8,[.pointer none]⟩ .leaf) 62 ⟨.other,1,8,[.nilFunc]⟩ (.node .leaf 65 ⟨.slice 67,1,24,[.slice none 0 0]⟩ .leaf)) 67 ⟨.struct [(0,1),(1,1)],2,32,[.int .i64 0,.slice none 0 0]⟩ (.node (.node .leaf 69 ⟨.struct [(0,1),(1,2)],3,40,[.int .i64 0,.int .i64 0,.slice none 0 0]⟩ .leaf) 70 ⟨.slice 77,1,24,[.slice none 0 0]⟩ .leaf)))) 71 ⟨.other,1,8,[.nilFunc]⟩ (.node (.node (.node (.node (.node .leaf 73 ⟨.struct [(0,2),(2,1)],3,40,[.int .i64 0,.slice none 0 0,.int .i64 0]⟩ .leaf) 74 ⟨.slice 73,1,24,[.slice none 0 0]⟩ (.node .leaf 75 ⟨.slice 69,1,24,[.slice none 0 0]⟩ .leaf)) 77 ⟨.struct [(0,1),(1,1)],2,48,[.slice none 0 0,.slice none 0 0]⟩ (.node (.node .leaf 79 ⟨.other,1,8,[.nilFunc]⟩ .leaf) 82 ⟨.struct [(0,3),(3,2)],5,104,[.bool false,.slice none 0 0,.slice none 0 0,.slice none 0 0,.slice none 0 0]⟩ .leaf)) 85 ⟨.other,1,8,[.nilFunc]⟩ (.node (.node (.node .leaf 86 ⟨.slice 3,1,24,[.slice none 0 0]⟩ .leaf) 90 ⟨.other,1,8,[.nilFunc]⟩ (.node .leaf 92 ⟨.struct [(0,1),(1,1)],2,16,[.int .i64 0,.int .i64 0]⟩ .leaf)) 103 ⟨.other,1,8,[.nilFunc]⟩ (.node (.node .leaf 105 ⟨.other,1,8,[.pointer none]⟩ .leaf) 107 ⟨.slice 220,1,24,[.slice none 0 0]⟩ .leaf))) 108 ⟨.slice 224,1,24,[.slice none 0 0]⟩ (.node (.node (.node (.node .leaf 110 ⟨.struct [(0,1),(1,1),(2,1),(3,1)],4,96,[.slice none 0 0,.slice none 0 0,.slice none 0 0,.slice none 0 0]⟩ .leaf) 112 ⟨.map 9 3,1,8,[.map none]⟩ (.node .leaf 113 ⟨.map 9 176,1,8,[.map none]⟩ .leaf)) 115 ⟨.struct [(0,5),(5,1),(6,1)],7,104,[.slice none 0 0,.slice none 0 0,.int .i64 0,.int .i64 0,.slice none 0 0,.map none,.map none]⟩ (.node (.node .leaf 119 ⟨.other,1,8,[.nilFunc]⟩ .leaf) 120 ⟨.other,1,8,[.nilFunc]⟩ .leaf)) 121 ⟨.other,1,8,[.nilFunc]⟩ (.node (.node (.node .leaf 122 ⟨.other,1,8,[.pointer none]⟩ .leaf) 131 ⟨.int .u64,1,8,[.int .u64 0]⟩ .leaf) 132 ⟨.int .u32,1,4,[.int .u32 0]⟩ (.node (.node .leaf 136 ⟨.slice 132,1,24,[.slice none 0 0]⟩ .leaf) 139 ⟨.struct [(0,1),(1,1),(2,1)],3,56,[.bool false,.slice none 0 0,.slice none 0 0]⟩ .leaf))))) 150 ⟨.int .u64,1,8,[.int .u64 0]⟩ (.node (.node (.node (.node (.node (.node .leaf 155 ⟨.other,1,8,[.nilFunc]⟩ .leaf) 157 ⟨.slice 161,1,24,[.slice none 0 0]⟩ (.node .leaf 159 ⟨.struct [(0,1),(1,1),(2,1)],3,48,[.string ⟨#[]⟩,.int .i64 0,.slice none 0 0]⟩ .leaf)) 161 ⟨.struct [(0,1),(1,1)],2,40,[.string ⟨#[]⟩,.slice none 0 0]⟩ (.node (.node .leaf 163 ⟨.other,1,8,[.pointer none]⟩ .leaf) 165 ⟨.struct [(0,1),(1,1),(2,1)],3,40,[.slice none 0 0,.int .i64 0,.int .i64 0]⟩ .leaf)) 170 ⟨.struct [(0,1),(1,1)],2,32,[.map none,.slice none 0 0]⟩ (.node (.node (.node .leaf 175 ⟨.other,1,8,[.nilFunc]⟩ .leaf) 176 ⟨.slice 180,1,24,[.slice none 0 0]⟩ (.node .leaf 180 ⟨.struct [(0,2),(2,3)],5,88,[.int .i64 0,.slice none 0 0,.bool false,.slice none 0 0,.slice none 0 0]⟩ .leaf)) 185 ⟨.other,1,8,[.nilFunc]⟩ (.node (.node .leaf 186 ⟨.slice 47,1,24,[.slice none 0 0]⟩ .leaf) 192 ⟨.other,1,8,[.nilFunc]⟩ .leaf))) 215 ⟨.map 9 4,1,8,[.map none]⟩ (.node (.node (.node (.node .leaf 220 ⟨.struct [(0,1),(1,1),(2,1),(3,3),(6,1)],7,112,[.string ⟨#[]⟩,.slice none 0 0,.slice none 0 0,.int .i64 0,.int .i64 0,.slice none 0 0,.int .i64 0]⟩ .leaf) 221 ⟨.other,1,8,[.nilFunc]⟩ (.node .leaf 222 ⟨.slice 86,1,24,[.slice none 0 0]⟩ .leaf)) 224 ⟨.struct [(0,1),(1,1),(2,1),(3,1),(4,1),(5,3)],8,128,[.int .i64 0,.int .i64 0,.slice none 0 0,.slice none 0 0,.slice none 0 0,.int .i64 0,.int .i64 0,.slice none 0 0]⟩ (.node (.node .leaf 225 ⟨.slice 4,1,24,[.slice none 0 0]⟩ .leaf) 226 ⟨.other,1,8,[.nilFunc]⟩ .leaf)) 227 ⟨.other,1,8,[.nilFunc]⟩ (.node (.node (.node .leaf 228 ⟨.other,1,8,[.pointer none]⟩ .leaf) 230 ⟨.struct [(0,4),(4,1)],5,120,[.slice none 0 0,.slice none 0 0,.slice none 0 0,.slice none 0 0,.slice none 0 0]⟩ (.node .leaf 235 ⟨.other,1,8,[.nilFunc]⟩ .leaf)) 237 ⟨.slice 75,1,24,[.slice none 0 0]⟩ (.node (.node .leaf 239 ⟨.slice 74,1,24,[.slice none 0 0]⟩ .leaf) 242 ⟨.other,1,8,[.pointer none]⟩ .leaf)))) 243 ⟨.slice 5,1,24,[.slice none 0 0]⟩ (.node (.node (.node (.node (.node .leaf 245 ⟨.struct [(0,1),(1,1)],2,32,[.pointer none,.slice none 0 0]⟩ .leaf) 247 ⟨.other,1,16,[.nilIface]⟩ (.node .leaf 266 ⟨.int .i64,1,8,[.int .i64 0]⟩ .leaf)) 277 ⟨.other,1,8,[.nilFunc]⟩ (.node (.node .leaf 285 ⟨.slice 287,1,24,[.slice none 0 0]⟩ .leaf) 287 ⟨.struct [(0,1),(1,1),(2,1),(3,1)],4,80,[.int .i64 0,.slice none 0 0,.slice none 0 0,.slice none 0 0]⟩ .leaf)) 290 ⟨.slice 294,1,24,[.slice none 0 0]⟩ (.node (.node (.node .leaf 294 ⟨.struct [(0,1),(1,1),(2,1)],3,32,[.int .i64 0,.string ⟨#[]⟩,.int .i64 0]⟩ .leaf) 308 ⟨.other,1,8,[.pointer none]⟩ (.node .leaf 311 ⟨.other,1,8,[.pointer none]⟩ .leaf)) 331 ⟨.float .f64,1,8,[.float .f64 0]⟩ (.node (.node .leaf 332 ⟨.int .u64,1,8,[.int .u64 0]⟩ .leaf) 344 ⟨.slice 225,1,24,[.slice none 0 0]⟩ .leaf))) 345 ⟨.other,1,8,[.nilFunc]⟩ (.node (.node (.node (.node .leaf 346 ⟨.other,1,8,[.nilFunc]⟩ .leaf) 353 ⟨.other,1,8,[.pointer none]⟩ (.node .leaf 359 ⟨.other,1,8,[.nilFunc]⟩ .leaf)) 361 ⟨.struct [(0,1),(1,3),(4,1),(5,1)],6,96,[.slice none 0 0,.int .i64 0,.int .i64 0,.slice none 0 0,.map none,.slice none 0 0]⟩ (.node (.node .leaf 362 ⟨.slice 365,1,24,[.slice none 0 0]⟩ .leaf) 365 ⟨.struct [(0,1),(1,3)],4,80,[.slice none 0 0,.bool false,.slice none 0 0,.slice none 0 0]⟩ .leaf)) 368 ⟨.slice 176,1,24,[.slice none 0 0]⟩ (.node (.node (.node .leaf 370 ⟨.other,1,8,[.nilFunc]⟩ .leaf) 375 ⟨.other,1,8,[.pointer none]⟩ .leaf) 381 ⟨.other,1,8,[.nilFunc]⟩ (.node (.node .leaf 386 ⟨.other,1,8,[.nilFunc]⟩ .leaf) 395 ⟨.slice 65,1,24,[.slice none 0 0]⟩ .leaf))))))
def Cm:Dc:=Aj0.find
theorem A2p:Aj0.toList.map (λp=>I9 prog p.1)=Aj0.toList.map (λp=>some p.2):=κ
theorem Ap9:Dd prog Cm:=Tr.ok A2p
theorem Yt:prog.follows .mixedOrders=true:=κ
end Go.Ab
namespace Go.Ab.Fn
abbrev Aei:FuncId:=3
abbrev Y2:FuncId:=4
abbrev Y3:FuncId:=5
abbrev Wc:FuncId:=6
abbrev Tx:FuncId:=7
abbrev P3:FuncId:=8
abbrev Wd:FuncId:=9
abbrev Ox:FuncId:=10
abbrev Rp:FuncId:=11
abbrev We:FuncId:=12
abbrev Y4:FuncId:=13
abbrev Y5:FuncId:=14
abbrev Y6:FuncId:=15
abbrev Y7:FuncId:=16
abbrev Ty:FuncId:=17
abbrev Na:FuncId:=18
abbrev Oy:FuncId:=19
abbrev P4:FuncId:=20
abbrev Kn:FuncId:=21
abbrev Rq:FuncId:=22
abbrev Wf:FuncId:=23
abbrev Tz:FuncId:=24
abbrev Aj1:FuncId:=25
abbrev Wg:FuncId:=26
abbrev Aj2:FuncId:=27
abbrev Aj3:FuncId:=28
abbrev Aj4:FuncId:=29
abbrev Oz:FuncId:=30
abbrev Y8:FuncId:=31
abbrev Rr:FuncId:=32
abbrev Ed:FuncId:=33
abbrev Wh:FuncId:=34
abbrev Fa:FuncId:=35
abbrev Jd:FuncId:=36
abbrev T0:FuncId:=37
abbrev Wi:FuncId:=38
abbrev Y9:FuncId:=39
abbrev T1:FuncId:=40
abbrev Lj:FuncId:=41
abbrev T2:FuncId:=42
abbrev Za:FuncId:=43
abbrev Zb:FuncId:=44
abbrev Zc:FuncId:=45
abbrev Zd:FuncId:=46
abbrev Wj:FuncId:=47
abbrev Rs:FuncId:=48
abbrev T3:FuncId:=49
abbrev O0:FuncId:=50
abbrev Ze:FuncId:=51
abbrev Wk:FuncId:=52
abbrev Wl:FuncId:=53
abbrev Aej:FuncId:=54
abbrev Wm:FuncId:=55
abbrev T5:FuncId:=56
abbrev Me:FuncId:=57
abbrev P5:FuncId:=58
abbrev Rt:FuncId:=59
abbrev P6:FuncId:=60
abbrev Aj5:FuncId:=61
abbrev Aek:FuncId:=62
abbrev T6:FuncId:=63
abbrev Zf:FuncId:=64
abbrev Wn:FuncId:=65
abbrev Ael:FuncId:=66
abbrev O1:FuncId:=67
abbrev Ru:FuncId:=68
abbrev T7:FuncId:=69
abbrev O2:FuncId:=70
abbrev Wo:FuncId:=71
abbrev N7:FuncId:=72
abbrev Nb:FuncId:=73
abbrev P7:FuncId:=74
abbrev Wp:FuncId:=75
abbrev Ir:FuncId:=76
abbrev T8:FuncId:=77
abbrev P8:FuncId:=78
abbrev Wq:FuncId:=79
abbrev Nc:FuncId:=80
abbrev Aem:FuncId:=81
abbrev Zg:FuncId:=82
abbrev O3:FuncId:=83
abbrev Zh:FuncId:=84
abbrev Zi:FuncId:=85
abbrev Aen:FuncId:=86
abbrev Rv:FuncId:=87
abbrev Zj:FuncId:=88
abbrev Aj6:FuncId:=89
abbrev Aj7:FuncId:=90
abbrev Aj8:FuncId:=91
abbrev Aj9:FuncId:=92
abbrev Aka:FuncId:=93
abbrev Akb:FuncId:=94
abbrev N8:FuncId:=95
abbrev Ko:FuncId:=96
abbrev O4:FuncId:=97
abbrev Wr:FuncId:=98
abbrev Rw:FuncId:=99
abbrev Aeo:FuncId:=100
abbrev Aep:FuncId:=101
abbrev Aeq:FuncId:=102
abbrev Zk:FuncId:=103
abbrev Zl:FuncId:=104
abbrev Ws:FuncId:=105
abbrev Rx:FuncId:=106
abbrev N9:FuncId:=107
abbrev T9:FuncId:=108
abbrev Zm:FuncId:=109
abbrev Zn:FuncId:=110
abbrev Wt:FuncId:=111
abbrev O5:FuncId:=112
abbrev Wu:FuncId:=113
abbrev Zo:FuncId:=114
abbrev P9:FuncId:=115
abbrev Qa:FuncId:=116
abbrev Wv:FuncId:=117
abbrev Aer:FuncId:=118
abbrev Akc:FuncId:=119
abbrev Zp:FuncId:=120
abbrev Akd:FuncId:=121
abbrev Ua:FuncId:=122
abbrev Zq:FuncId:=123
abbrev Zr:FuncId:=124
abbrev Ry:FuncId:=125
abbrev Aes:FuncId:=126
abbrev Ww:FuncId:=127
abbrev Rz:FuncId:=128
abbrev Aet:FuncId:=129
abbrev Mf:FuncId:=130
abbrev Zs:FuncId:=131
abbrev Wx:FuncId:=132
abbrev Wy:FuncId:=133
abbrev Oa:FuncId:=134
abbrev Zt:FuncId:=135
abbrev Wz:FuncId:=136
abbrev W0:FuncId:=137
abbrev Zu:FuncId:=138
abbrev Ub:FuncId:=139
abbrev Aeu:FuncId:=140
abbrev Uc:FuncId:=141
abbrev Ud:FuncId:=142
abbrev R0:FuncId:=143
abbrev Ake:FuncId:=144
abbrev Akf:FuncId:=145
abbrev Zv:FuncId:=152
abbrev Zw:FuncId:=153
abbrev Zx:FuncId:=154
abbrev Nd:FuncId:=155
abbrev Aev:FuncId:=156
abbrev Zy:FuncId:=157
abbrev Qb:FuncId:=158
abbrev Aew:FuncId:=159
abbrev Zz:FuncId:=160
abbrev Aex:FuncId:=161
abbrev Aey:FuncId:=162
abbrev Aez:FuncId:=163
abbrev Kb:FuncId:=164
abbrev Mg:FuncId:=165
abbrev L0:FuncId:=166
abbrev Mh:FuncId:=167
abbrev Ae0:FuncId:=168
abbrev Z0:FuncId:=169
abbrev Je:FuncId:=170
abbrev Qc:FuncId:=171
abbrev Z1:FuncId:=172
abbrev Z2:FuncId:=173
abbrev O6:FuncId:=174
abbrev Z3:FuncId:=175
abbrev Akg:FuncId:=176
abbrev Akh:FuncId:=177
abbrev Ae1:FuncId:=178
abbrev Ae2:FuncId:=179
abbrev Aki:FuncId:=180
abbrev Akj:FuncId:=186
abbrev Ae3:FuncId:=190
abbrev W1:FuncId:=191
abbrev Z4:FuncId:=192
abbrev W2:FuncId:=193
abbrev R1:FuncId:=194
abbrev R2:FuncId:=195
abbrev Qd:FuncId:=196
abbrev W3:FuncId:=197
abbrev Z5:FuncId:=198
abbrev Ue:FuncId:=199
abbrev Uf:FuncId:=200
abbrev R3:FuncId:=201
abbrev Ug:FuncId:=202
abbrev O7:FuncId:=203
abbrev Z6:FuncId:=204
abbrev Ae4:FuncId:=205
abbrev Uh:FuncId:=206
abbrev Akk:FuncId:=207
abbrev R4:FuncId:=218
abbrev Z7:FuncId:=219
abbrev Ae5:FuncId:=220
abbrev Z8:FuncId:=222
abbrev O8:FuncId:=223
abbrev Ui:FuncId:=224
abbrev Qf:FuncId:=225
abbrev W4:FuncId:=226
abbrev R5:FuncId:=227
abbrev Uj:FuncId:=228
abbrev Ob:FuncId:=229
abbrev Nf:FuncId:=230
abbrev Ae6:FuncId:=231
abbrev O9:FuncId:=233
abbrev Uk:FuncId:=234
abbrev Ul:FuncId:=235
abbrev Z9:FuncId:=236
abbrev Um:FuncId:=238
abbrev Oc:FuncId:=239
abbrev Aaa:FuncId:=240
abbrev Qg:FuncId:=248
abbrev Ae7:FuncId:=249
abbrev W5:FuncId:=255
abbrev W6:FuncId:=256
abbrev W7:FuncId:=257
abbrev Aab:FuncId:=258
abbrev R6:FuncId:=259
abbrev W8:FuncId:=260
abbrev Un:FuncId:=261
abbrev Aac:FuncId:=262
abbrev Aad:FuncId:=263
abbrev Aae:FuncId:=264
abbrev Uo:FuncId:=268
abbrev Up:FuncId:=269
abbrev Ng:FuncId:=272
abbrev Aaf:FuncId:=273
abbrev Aag:FuncId:=274
abbrev Aah:FuncId:=275
abbrev Aai:FuncId:=276
abbrev R7:FuncId:=277
abbrev Aaj:FuncId:=278
abbrev Pa:FuncId:=279
abbrev L2:FuncId:=280
abbrev Lk:FuncId:=281
abbrev Pb:FuncId:=282
abbrev Ae8:FuncId:=283
abbrev Aak:FuncId:=285
abbrev W9:FuncId:=291
abbrev Uq:FuncId:=292
abbrev Aal:FuncId:=293
abbrev Xa:FuncId:=294
abbrev Aam:FuncId:=295
abbrev R8:FuncId:=296
abbrev Aan:FuncId:=297
abbrev Aao:FuncId:=298
abbrev Ur:FuncId:=302
abbrev Ae9:FuncId:=303
abbrev Xb:FuncId:=304
abbrev R9:FuncId:=305
abbrev Aap:FuncId:=306
abbrev Aaq:FuncId:=307
abbrev Aar:FuncId:=308
abbrev Afa:FuncId:=309
abbrev Afb:FuncId:=316
abbrev Afc:FuncId:=317
end Go.Ab.Fn
namespace Go.Ab
open Go
abbrev O (k:IntKind) (n:Int):AV:=.val (.int k n)
abbrev Aw (b:Bool):AV:=.val (.bool b)
abbrev Gv (s:ByteArray):AV:=.val (.string s)
abbrev Az {α:Type} (sz:Nat) (f:α->AV) (l:List α):AV:=.sl sz (l.map f)
abbrev E3 {α:Type} (sz:Nat) (g:List α->List AV) (l:List α):AV:=.sl sz (g l)
structure Af where
 G:Int
 U:Int
 R:List Af
mutual
def Akl:Af->AV
 | ⟨x0,x1,x2⟩=>.agg [O .i64 x0,O .i64 x1,.sl 3 (Bj x2)]
def Bj:List Af->List AV
 | []=>[]
 | x::xs=>Akl x::Bj xs
end
def Ee (x:Af):AV:=.agg [O .i64 x.G,O .i64 x.U,.sl 3 (Bj x.R)]
theorem A2q (x:Af):Akl x=Ee x:=by cases x;simp only[Akl,Ee]
theorem Ll:∀l:List Af,Bj l=l.map Ee
 | []=>rfl
 | x::xs=>by simp only[Bj,List.map_cons,A2q,Ll xs]
structure Qh where
 S:ByteArray
 R:List Af
def Afd (x:Qh):AV:=.agg [Gv x.S,.sl 3 (Bj x.R)]
structure Ai where
 S:ByteArray
 V:Int
 O:List Qh
def B6 (x:Ai):AV:=.agg [Gv x.S,O .i64 x.V,.sl 2 (List.map Afd x.O)]
structure B9 where
 D:List Ai
 V:List Af
 E:Af
def Nh (x:B9):AV:=.agg [.sl 3 (List.map B6 x.D),.sl 3 (Bj x.V),O .i64 x.E.G,O .i64 x.E.U,.sl 3 (Bj x.E.R)]
structure Ax where
 G:Int
 U:Int
 K:List Ax
mutual
def Akm:Ax->AV
 | ⟨x0,x1,x2⟩=>.agg [O .i64 x0,O .i64 x1,.sl 3 (Gw x2)]
def Gw:List Ax->List AV
 | []=>[]
 | x::xs=>Akm x::Gw xs
end
def Gg (x:Ax):AV:=.agg [O .i64 x.G,O .i64 x.U,.sl 3 (Gw x.K)]
theorem A2r (x:Ax):Akm x=Gg x:=by cases x;simp only[Akm,Gg]
theorem Jn:∀l:List Ax,Gw l=l.map Gg
 | []=>rfl
 | x::xs=>by simp only[Gw,List.map_cons,A2r,Jn xs]
structure Es where
 v:Int
 C:Int
def H7 (x:Es):AV:=.agg [O .i64 x.v,O .i64 x.C]
structure Bn where
 Q:Int
 T:List Es
def L3 (x:Bn):AV:=.agg [O .i64 x.Q,.sl 2 (List.map H7 x.T)]
structure Ao where
 N:Bool
 U:List Int
 B:List Int
def C8 (x:Ao):AV:=.agg [Aw x.N,.sl 1 (List.map (O .u32) x.U),.sl 1 (List.map (O .u32) x.B)]
structure Ah where
 U:Int
 K:List Ah
mutual
def Akn:Ah->AV
 | ⟨x0,x1⟩=>.agg [O .i64 x0,.sl 2 (Hh x1)]
def Hh:List Ah->List AV
 | []=>[]
 | x::xs=>Akn x::Hh xs
end
def Fv (x:Ah):AV:=.agg [O .i64 x.U,.sl 2 (Hh x.K)]
theorem A2s (x:Ah):Akn x=Fv x:=by cases x;simp only[Akn,Fv]
theorem Lm:∀l:List Ah,Hh l=l.map Fv
 | []=>rfl
 | x::xs=>by simp only[Hh,List.map_cons,A2s,Lm xs]
structure Bb where
 v:Int
 I:Ah
def Ga (x:Bb):AV:=.agg [O .i64 x.v,O .i64 x.I.U,.sl 2 (Hh x.I.K)]
structure Bd where
 L:Bn
 P:Int
def F0 (x:Bd):AV:=.agg [O .i64 x.L.Q,.sl 2 (List.map H7 x.L.T),O .i64 x.P]
structure A3 where
 F:List Bb
 A:List Bd
def G6 (x:A3):AV:=.agg [.sl 3 (List.map Ga x.F),.sl 3 (List.map F0 x.A)]
structure Aj where
 C:Ao
 M:A3
def C9 (x:Aj):AV:=.agg [Aw x.C.N,.sl 1 (List.map (O .u32) x.C.U),.sl 1 (List.map (O .u32) x.C.B),.sl 3 (List.map Ga x.M.F),.sl 3 (List.map F0 x.M.A)]
structure Aqa where
 S:ByteArray
 Params:List Int
 Captured:List Int
 Result:Af
 Body:Int
def Us (x:Aqa):AV:=.agg [Gv x.S,.sl 1 (List.map (O .i64) x.Params),.sl 1 (List.map (O .i64) x.Captured),O .i64 x.Result.G,O .i64 x.Result.U,.sl 3 (Bj x.Result.R),O .i64 x.Body]
structure Aqb where
 Op:Int
 U:Int
 V:List Int
 Binds:List (List Int)
 K:List Int
 Type_:Af
def Ut (x:Aqb):AV:=.agg [O .i64 x.Op,O .i64 x.U,.sl 1 (List.map (O .i64) x.V),.sl 1 (List.map (Az 1 (O .i64)) x.Binds),.sl 1 (List.map (O .i64) x.K),O .i64 x.Type_.G,O .i64 x.Type_.U,.sl 3 (Bj x.Type_.R)]
structure Ln where
 D:List Ai
 Codes:List Aqa
 V:List Af
 Exprs:List Aqb
def Uu (x:Ln):AV:=.agg [.sl 3 (List.map B6 x.D),.sl 7 (List.map Us x.Codes),.sl 3 (Bj x.V),.sl 8 (List.map Ut x.Exprs)]
structure Ie where
 neg:Bool
 n:List Int
 d:List Int
def Sa (x:Ie):AV:=.agg [Aw x.neg,.sl 1 (List.map (O .u32) x.n),.sl 1 (List.map (O .u32) x.d)]
structure Ht where
 data:List Ai
 vars:Int
 left:Int
structure Ap where
 I:Ah
 C:Ao
def Bz (x:Ap):AV:=.agg [O .i64 x.I.U,.sl 2 (Hh x.I.K),Aw x.C.N,.sl 1 (List.map (O .u32) x.C.U),.sl 1 (List.map (O .u32) x.C.B)]
structure Aas where
 con:Int
 kids:List Ah
 places:List Int
 types:List Af
def A2t (x:Aas):AV:=.agg [O .i64 x.con,.sl 2 (Hh x.kids),.sl 1 (List.map (O .i64) x.places),.sl 3 (Bj x.types)]
structure Kp where
 G:Int
 Text:ByteArray
 Pos:Int
def Afe (x:Kp):AV:=.agg [O .i64 x.G,Gv x.Text,O .i64 x.Pos]
structure Ig where
 list:List Ah
 coef:Ao
def Pc (x:Ig):AV:=.agg [.sl 2 (Hh x.list),Aw x.coef.N,.sl 1 (List.map (O .u32) x.coef.U),.sl 1 (List.map (O .u32) x.coef.B)]
end Go.Ab
