/- The types that the program uses; plain types for its data. -/
import Derived.Test.YtphbdfhbonlpfaaGreatDoorRgAb2
import Derived.Test.YtphbdfhbonlpfaaGreatDoorProg
import Derived.KernelRfl
namespace Go.Ab
open Go Go.Proofs Go.Proofs.Tryz
theorem κ {p:Prop} (h:p:=by kernel_rfl):p:=h
def Ajj:Tr:=(.node (.node (.node (.node (.node (.node (.node .leaf 1 ⟨.other,1,8,[.nilFunc]⟩ .leaf) 2 ⟨.int .i64,1,8,[.int .i64 0]⟩ (.node .leaf 3 ⟨.int .i64,1,8,[.int .i64 0]⟩ .leaf)) 4 ⟨.bool,1,1,[.bool false]⟩ (.node (.node .leaf 5 ⟨.int .u8,1,1,[.int .u8 0]⟩ .leaf) 9 ⟨.string,1,16,[.string ⟨#[]⟩]⟩ .leaf)) 20 ⟨.other,1,16,[.nilIface]⟩ (.node (.node (.node .leaf 22 ⟨.slice 145,1,24,[.slice none 0 0]⟩ .leaf) 23 ⟨.slice 25,1,24,[.slice none 0 0]⟩ .leaf) 25 ⟨.struct [(0,1),(1,1),(2,1)],3,40,[.int .i64 0,.int .i64 0,.slice none 0 0]⟩ (.node (.node .leaf 27 ⟨.struct [(0,1),(1,1),(2,3)],5,88,[.slice none 0 0,.slice none 0 0,.int .i64 0,.int .i64 0,.slice none 0 0]⟩ .leaf) 28 ⟨.slice 52,1,24,[.slice none 0 0]⟩ .leaf))) 32 ⟨.slice 56,1,24,[.slice none 0 0]⟩ (.node (.node (.node (.node .leaf 34 ⟨.struct [(0,1),(1,1),(2,1)],3,56,[.bool false,.slice none 0 0,.slice none 0 0]⟩ .leaf) 36 ⟨.int .i64,1,8,[.int .i64 0]⟩ .leaf) 42 ⟨.slice 28,1,24,[.slice none 0 0]⟩ (.node (.node .leaf 47 ⟨.slice 114,1,24,[.slice none 0 0]⟩ .leaf) 48 ⟨.slice 117,1,24,[.slice none 0 0]⟩ .leaf)) 50 ⟨.struct [(0,1),(1,1)],2,48,[.slice none 0 0,.slice none 0 0]⟩ (.node (.node (.node .leaf 52 ⟨.struct [(0,3),(3,2)],5,104,[.bool false,.slice none 0 0,.slice none 0 0,.slice none 0 0,.slice none 0 0]⟩ .leaf) 55 ⟨.int .u64,1,8,[.int .u64 0]⟩ .leaf) 56 ⟨.int .u32,1,4,[.int .u32 0]⟩ (.node (.node .leaf 57 ⟨.other,1,8,[.pointer none]⟩ .leaf) 60 ⟨.other,1,8,[.pointer none]⟩ .leaf)))) 68 ⟨.other,1,8,[.nilFunc]⟩ (.node (.node (.node (.node (.node .leaf 71 ⟨.slice 193,1,24,[.slice none 0 0]⟩ .leaf) 73 ⟨.struct [(0,1),(1,1)],2,32,[.int .i64 0,.slice none 0 0]⟩ (.node .leaf 78 ⟨.other,1,8,[.nilFunc]⟩ .leaf)) 82 ⟨.slice 56,1,24,[.slice none 0 0]⟩ (.node (.node .leaf 84 ⟨.struct [(0,1),(1,1),(2,1)],3,56,[.bool false,.slice none 0 0,.slice none 0 0]⟩ .leaf) 93 ⟨.slice 231,1,24,[.slice none 0 0]⟩ .leaf)) 94 ⟨.slice 235,1,24,[.slice none 0 0]⟩ (.node (.node (.node .leaf 96 ⟨.struct [(0,1),(1,1),(2,1),(3,1)],4,96,[.slice none 0 0,.slice none 0 0,.slice none 0 0,.slice none 0 0]⟩ .leaf) 97 ⟨.map 9 3,1,8,[.map none]⟩ .leaf) 98 ⟨.map 9 123,1,8,[.map none]⟩ (.node (.node .leaf 100 ⟨.struct [(0,5),(5,1),(6,1)],7,104,[.slice none 0 0,.slice none 0 0,.int .i64 0,.int .i64 0,.slice none 0 0,.map none,.map none]⟩ .leaf) 103 ⟨.struct [(0,1),(1,1)],2,32,[.map none,.slice none 0 0]⟩ .leaf))) 107 ⟨.other,1,8,[.nilFunc]⟩ (.node (.node (.node (.node .leaf 110 ⟨.slice 112,1,24,[.slice none 0 0]⟩ .leaf) 112 ⟨.struct [(0,1),(1,1)],2,32,[.int .i64 0,.slice none 0 0]⟩ .leaf) 114 ⟨.struct [(0,1),(1,2)],3,40,[.int .i64 0,.int .i64 0,.slice none 0 0]⟩ (.node (.node .leaf 117 ⟨.struct [(0,2),(2,1)],3,40,[.int .i64 0,.slice none 0 0,.int .i64 0]⟩ .leaf) 122 ⟨.other,1,8,[.nilFunc]⟩ .leaf)) 123 ⟨.slice 127,1,24,[.slice none 0 0]⟩ (.node (.node (.node .leaf 127 ⟨.struct [(0,2),(2,3)],5,88,[.int .i64 0,.slice none 0 0,.bool false,.slice none 0 0,.slice none 0 0]⟩ .leaf) 133 ⟨.other,1,8,[.nilFunc]⟩ .leaf) 134 ⟨.slice 34,1,24,[.slice none 0 0]⟩ (.node (.node .leaf 143 ⟨.slice 147,1,24,[.slice none 0 0]⟩ .leaf) 145 ⟨.struct [(0,1),(1,1),(2,1)],3,48,[.string ⟨#[]⟩,.int .i64 0,.slice none 0 0]⟩ .leaf))))) 147 ⟨.struct [(0,1),(1,1)],2,40,[.string ⟨#[]⟩,.slice none 0 0]⟩ (.node (.node (.node (.node (.node (.node .leaf 149 ⟨.other,1,8,[.pointer none]⟩ .leaf) 150 ⟨.slice 9,1,24,[.slice none 0 0]⟩ (.node .leaf 160 ⟨.other,1,8,[.nilFunc]⟩ .leaf)) 167 ⟨.other,1,8,[.pointer none]⟩ (.node (.node .leaf 169 ⟨.struct [(0,1),(1,1),(2,1)],3,40,[.slice none 0 0,.int .i64 0,.int .i64 0]⟩ .leaf) 170 ⟨.other,1,8,[.pointer none]⟩ .leaf)) 171 ⟨.slice 5,1,24,[.slice none 0 0]⟩ (.node (.node (.node .leaf 173 ⟨.struct [(0,1),(1,1)],2,32,[.pointer none,.slice none 0 0]⟩ .leaf) 175 ⟨.other,1,16,[.nilIface]⟩ .leaf) 185 ⟨.int .u64,1,8,[.int .u64 0]⟩ (.node (.node .leaf 193 ⟨.struct [(0,1),(1,1)],2,16,[.int .i64 0,.int .i64 0]⟩ .leaf) 202 ⟨.other,1,8,[.nilFunc]⟩ .leaf))) 208 ⟨.slice 47,1,24,[.slice none 0 0]⟩ (.node (.node (.node (.node .leaf 210 ⟨.slice 48,1,24,[.slice none 0 0]⟩ .leaf) 213 ⟨.other,1,8,[.nilFunc]⟩ .leaf) 215 ⟨.other,1,8,[.nilFunc]⟩ (.node (.node .leaf 217 ⟨.slice 221,1,24,[.slice none 0 0]⟩ .leaf) 221 ⟨.struct [(0,1),(1,1),(2,1)],3,32,[.int .i64 0,.string ⟨#[]⟩,.int .i64 0]⟩ .leaf)) 225 ⟨.float .f64,1,8,[.float .f64 0]⟩ (.node (.node (.node .leaf 226 ⟨.map 9 4,1,8,[.map none]⟩ .leaf) 229 ⟨.slice 3,1,24,[.slice none 0 0]⟩ .leaf) 231 ⟨.struct [(0,1),(1,1),(2,1),(3,3),(6,1)],7,112,[.string ⟨#[]⟩,.slice none 0 0,.slice none 0 0,.int .i64 0,.int .i64 0,.slice none 0 0,.int .i64 0]⟩ (.node (.node .leaf 232 ⟨.other,1,8,[.nilFunc]⟩ .leaf) 233 ⟨.slice 229,1,24,[.slice none 0 0]⟩ .leaf)))) 235 ⟨.struct [(0,1),(1,1),(2,1),(3,1),(4,1),(5,3)],8,128,[.int .i64 0,.int .i64 0,.slice none 0 0,.slice none 0 0,.slice none 0 0,.int .i64 0,.int .i64 0,.slice none 0 0]⟩ (.node (.node (.node (.node (.node .leaf 236 ⟨.slice 4,1,24,[.slice none 0 0]⟩ .leaf) 237 ⟨.other,1,8,[.nilFunc]⟩ .leaf) 238 ⟨.other,1,8,[.nilFunc]⟩ (.node (.node .leaf 239 ⟨.other,1,8,[.pointer none]⟩ .leaf) 241 ⟨.struct [(0,4),(4,1)],5,120,[.slice none 0 0,.slice none 0 0,.slice none 0 0,.slice none 0 0,.slice none 0 0]⟩ .leaf)) 246 ⟨.other,1,8,[.pointer none]⟩ (.node (.node (.node .leaf 249 ⟨.int .i64,1,8,[.int .i64 0]⟩ .leaf) 266 ⟨.other,1,8,[.pointer none]⟩ .leaf) 279 ⟨.other,1,8,[.nilFunc]⟩ (.node (.node .leaf 293 ⟨.slice 296,1,24,[.slice none 0 0]⟩ .leaf) 296 ⟨.struct [(0,1),(1,1),(2,1)],3,32,[.int .i64 0,.string ⟨#[]⟩,.int .i64 0]⟩ .leaf))) 306 ⟨.other,1,8,[.pointer none]⟩ (.node (.node (.node (.node .leaf 309 ⟨.int .u64,1,8,[.int .u64 0]⟩ .leaf) 319 ⟨.other,1,8,[.nilFunc]⟩ .leaf) 323 ⟨.struct [(0,1),(1,3),(4,1),(5,1)],6,96,[.slice none 0 0,.int .i64 0,.int .i64 0,.slice none 0 0,.map none,.slice none 0 0]⟩ (.node (.node .leaf 324 ⟨.slice 327,1,24,[.slice none 0 0]⟩ .leaf) 327 ⟨.struct [(0,1),(1,3)],4,80,[.slice none 0 0,.bool false,.slice none 0 0,.slice none 0 0]⟩ .leaf)) 330 ⟨.slice 123,1,24,[.slice none 0 0]⟩ (.node (.node (.node .leaf 332 ⟨.other,1,8,[.nilFunc]⟩ .leaf) 347 ⟨.other,1,8,[.pointer none]⟩ .leaf) 355 ⟨.other,1,8,[.nilFunc]⟩ (.node (.node .leaf 364 ⟨.other,1,8,[.nilFunc]⟩ .leaf) 368 ⟨.slice 110,1,24,[.slice none 0 0]⟩ .leaf))))))
def Cp:C9:=Ajj.find
theorem A0z:Ajj.toList.map (λp=>I9 prog p.1)=Ajj.toList.map (λp=>some p.2):=κ
theorem Api:Da prog Cp:=Tr.ok A0z
theorem Yr:prog.follows .mixedOrders=true:=κ
end Go.Ab
namespace Go.Ab.Fn
abbrev Ads:FuncId:=3
abbrev Y1:FuncId:=4
abbrev Mh:FuncId:=5
abbrev Y2:FuncId:=6
abbrev V7:FuncId:=7
abbrev N6:FuncId:=8
abbrev Lx:FuncId:=9
abbrev Jn:FuncId:=10
abbrev P4:FuncId:=11
abbrev Y3:FuncId:=12
abbrev Y4:FuncId:=13
abbrev Y5:FuncId:=14
abbrev Y6:FuncId:=15
abbrev I4:FuncId:=16
abbrev J3:FuncId:=17
abbrev Ti:FuncId:=18
abbrev P5:FuncId:=19
abbrev N7:FuncId:=20
abbrev O1:FuncId:=21
abbrev Lg:FuncId:=22
abbrev Ly:FuncId:=23
abbrev V8:FuncId:=24
abbrev Y7:FuncId:=25
abbrev V9:FuncId:=26
abbrev Rl:FuncId:=27
abbrev Hm:FuncId:=28
abbrev P6:FuncId:=29
abbrev Ajk:FuncId:=30
abbrev Ajl:FuncId:=31
abbrev Y8:FuncId:=32
abbrev Y9:FuncId:=33
abbrev Za:FuncId:=34
abbrev Zb:FuncId:=35
abbrev Wa:FuncId:=36
abbrev Zc:FuncId:=37
abbrev P7:FuncId:=38
abbrev Zd:FuncId:=39
abbrev Wb:FuncId:=40
abbrev Ze:FuncId:=41
abbrev Wc:FuncId:=42
abbrev Wd:FuncId:=43
abbrev O2:FuncId:=44
abbrev Zf:FuncId:=45
abbrev P8:FuncId:=46
abbrev We:FuncId:=47
abbrev Zg:FuncId:=48
abbrev Tj:FuncId:=49
abbrev Wf:FuncId:=50
abbrev P9:FuncId:=51
abbrev Zh:FuncId:=52
abbrev Zi:FuncId:=53
abbrev N8:FuncId:=54
abbrev O3:FuncId:=55
abbrev Qa:FuncId:=56
abbrev Rm:FuncId:=57
abbrev Wg:FuncId:=58
abbrev Wh:FuncId:=59
abbrev Tk:FuncId:=60
abbrev Zj:FuncId:=61
abbrev O4:FuncId:=62
abbrev Wi:FuncId:=63
abbrev Wj:FuncId:=64
abbrev Wk:FuncId:=65
abbrev Rn:FuncId:=66
abbrev Mi:FuncId:=67
abbrev Tl:FuncId:=68
abbrev Wl:FuncId:=69
abbrev Wm:FuncId:=70
abbrev Wn:FuncId:=71
abbrev M7:FuncId:=72
abbrev N9:FuncId:=73
abbrev Tn:FuncId:=74
abbrev Qb:FuncId:=75
abbrev Adt:FuncId:=76
abbrev Adu:FuncId:=77
abbrev Qc:FuncId:=78
abbrev To:FuncId:=79
abbrev Ajm:FuncId:=80
abbrev Zk:FuncId:=81
abbrev Adv:FuncId:=82
abbrev Ro:FuncId:=83
abbrev Tp:FuncId:=84
abbrev Rp:FuncId:=85
abbrev Wo:FuncId:=86
abbrev Qd:FuncId:=87
abbrev Rq:FuncId:=88
abbrev Tq:FuncId:=89
abbrev Wp:FuncId:=90
abbrev Ts:FuncId:=91
abbrev Tt:FuncId:=92
abbrev Qf:FuncId:=93
abbrev Tu:FuncId:=94
abbrev Rr:FuncId:=95
abbrev Wq:FuncId:=96
abbrev Adw:FuncId:=97
abbrev Lz:FuncId:=98
abbrev Tv:FuncId:=99
abbrev Zl:FuncId:=100
abbrev Zm:FuncId:=101
abbrev Tw:FuncId:=102
abbrev Wr:FuncId:=103
abbrev Zn:FuncId:=104
abbrev Ajn:FuncId:=105
abbrev Ajo:FuncId:=106
abbrev Ajp:FuncId:=107
abbrev Ajq:FuncId:=108
abbrev Ajr:FuncId:=109
abbrev Ajs:FuncId:=110
abbrev Oa:FuncId:=111
abbrev O5:FuncId:=112
abbrev Ws:FuncId:=113
abbrev Jo:FuncId:=114
abbrev Kt:FuncId:=115
abbrev Jc:FuncId:=116
abbrev Qg:FuncId:=117
abbrev L0:FuncId:=118
abbrev Adx:FuncId:=119
abbrev Zo:FuncId:=120
abbrev Wt:FuncId:=121
abbrev M8:FuncId:=122
abbrev Ady:FuncId:=123
abbrev Zp:FuncId:=124
abbrev O6:FuncId:=125
abbrev Qh:FuncId:=126
abbrev Adz:FuncId:=127
abbrev Zq:FuncId:=128
abbrev Zr:FuncId:=129
abbrev Wu:FuncId:=130
abbrev M9:FuncId:=131
abbrev Ad0:FuncId:=132
abbrev Ob:FuncId:=133
abbrev G1:FuncId:=134
abbrev Mj:FuncId:=135
abbrev Ad1:FuncId:=136
abbrev Ad2:FuncId:=137
abbrev Zs:FuncId:=138
abbrev Zt:FuncId:=139
abbrev Qi:FuncId:=140
abbrev Zu:FuncId:=141
abbrev L2:FuncId:=142
abbrev Ad3:FuncId:=143
abbrev Ad4:FuncId:=144
abbrev Wv:FuncId:=145
abbrev Zv:FuncId:=146
abbrev Ad5:FuncId:=147
abbrev Ww:FuncId:=148
abbrev Tx:FuncId:=149
abbrev Ty:FuncId:=150
abbrev Ad6:FuncId:=151
abbrev Rs:FuncId:=152
abbrev Tz:FuncId:=153
abbrev Wx:FuncId:=154
abbrev Zw:FuncId:=155
abbrev T0:FuncId:=156
abbrev Zx:FuncId:=157
abbrev T1:FuncId:=158
abbrev T2:FuncId:=159
abbrev Rt:FuncId:=160
abbrev Ajt:FuncId:=161
abbrev Aju:FuncId:=162
abbrev Zy:FuncId:=169
abbrev Zz:FuncId:=170
abbrev Z0:FuncId:=171
abbrev O7:FuncId:=172
abbrev T3:FuncId:=174
abbrev Oc:FuncId:=175
abbrev Z1:FuncId:=176
abbrev T5:FuncId:=177
abbrev Wy:FuncId:=178
abbrev Z2:FuncId:=179
abbrev Ad7:FuncId:=188
abbrev Z3:FuncId:=189
abbrev Z4:FuncId:=190
abbrev Qj:FuncId:=191
abbrev Ad8:FuncId:=192
abbrev Ru:FuncId:=193
abbrev Ad9:FuncId:=194
abbrev T6:FuncId:=196
abbrev T7:FuncId:=197
abbrev Qk:FuncId:=198
abbrev Mk:FuncId:=199
abbrev Wz:FuncId:=200
abbrev Rv:FuncId:=201
abbrev T8:FuncId:=202
abbrev Od:FuncId:=203
abbrev Na:FuncId:=204
abbrev Aea:FuncId:=205
abbrev Aeb:FuncId:=207
abbrev W0:FuncId:=208
abbrev O8:FuncId:=209
abbrev T9:FuncId:=210
abbrev Ua:FuncId:=211
abbrev Z5:FuncId:=212
abbrev Aec:FuncId:=213
abbrev Z6:FuncId:=214
abbrev W1:FuncId:=215
abbrev W2:FuncId:=216
abbrev Aed:FuncId:=217
abbrev Z7:FuncId:=218
abbrev Z8:FuncId:=219
abbrev Rw:FuncId:=220
abbrev W3:FuncId:=221
abbrev W4:FuncId:=222
abbrev Ql:FuncId:=223
abbrev Ub:FuncId:=224
abbrev W5:FuncId:=225
abbrev Z9:FuncId:=226
abbrev Aee:FuncId:=227
abbrev Rx:FuncId:=228
abbrev Uc:FuncId:=229
abbrev Ajv:FuncId:=230
abbrev Nb:FuncId:=242
abbrev Ud:FuncId:=249
abbrev Ue:FuncId:=250
abbrev Aaa:FuncId:=252
abbrev Aab:FuncId:=253
abbrev Aac:FuncId:=254
abbrev Aef:FuncId:=255
abbrev Uf:FuncId:=256
abbrev Ry:FuncId:=257
abbrev Aad:FuncId:=258
abbrev Rz:FuncId:=259
abbrev Aae:FuncId:=260
abbrev O9:FuncId:=261
abbrev L3:FuncId:=262
abbrev Lh:FuncId:=263
abbrev Pa:FuncId:=264
abbrev Aeg:FuncId:=265
abbrev Ug:FuncId:=267
abbrev Aaf:FuncId:=268
abbrev Uh:FuncId:=269
abbrev Aag:FuncId:=270
abbrev Aah:FuncId:=271
abbrev Aai:FuncId:=272
abbrev Aaj:FuncId:=273
abbrev Ui:FuncId:=274
abbrev Uj:FuncId:=284
abbrev Aeh:FuncId:=285
abbrev R0:FuncId:=286
abbrev W6:FuncId:=287
abbrev W7:FuncId:=288
abbrev R3:FuncId:=289
abbrev Aak:FuncId:=290
abbrev Aal:FuncId:=291
abbrev Aam:FuncId:=292
abbrev Aei:FuncId:=293
abbrev R4:FuncId:=295
abbrev W8:FuncId:=296
abbrev W9:FuncId:=297
abbrev Uk:FuncId:=298
abbrev Aan:FuncId:=299
abbrev Xa:FuncId:=300
abbrev Aao:FuncId:=301
abbrev R5:FuncId:=302
abbrev Aap:FuncId:=303
abbrev Aaq:FuncId:=304
abbrev Ul:FuncId:=305
abbrev Um:FuncId:=306
abbrev R6:FuncId:=307
abbrev Aej:FuncId:=314
abbrev Aek:FuncId:=315
abbrev Un:FuncId:=323
end Go.Ab.Fn
namespace Go.Ab
open Go
abbrev O (k:IntKind) (n:Int):AV:=.val (.int k n)
abbrev Ar (b:Bool):AV:=.val (.bool b)
abbrev Es (s:ByteArray):AV:=.val (.string s)
abbrev Ax {α:Type} (sz:Nat) (f:α->AV) (l:List α):AV:=.sl sz (l.map f)
abbrev Gk {α:Type} (sz:Nat) (g:List α->List AV) (l:List α):AV:=.sl sz (g l)
structure Af where
 G:Int
 U:Int
 R:List Af
mutual
def Ajw:Af->AV
 | ⟨x0,x1,x2⟩=>.agg [O .i64 x0,O .i64 x1,.sl 3 (Bh x2)]
def Bh:List Af->List AV
 | []=>[]
 | x::xs=>Ajw x::Bh xs
end
def D2 (x:Af):AV:=.agg [O .i64 x.G,O .i64 x.U,.sl 3 (Bh x.R)]
theorem A00 (x:Af):Ajw x=D2 x:=by cases x;simp only[Ajw,D2]
theorem Li:∀l:List Af,Bh l=l.map D2
 | []=>rfl
 | x::xs=>by simp only[Bh,List.map_cons,A00,Li xs]
structure Oe where
 S:ByteArray
 R:List Af
def Ael (x:Oe):AV:=.agg [Es x.S,.sl 3 (Bh x.R)]
structure Al where
 S:ByteArray
 V:Int
 O:List Oe
def Ce (x:Al):AV:=.agg [Es x.S,O .i64 x.V,.sl 2 (List.map Ael x.O)]
structure Bs where
 D:List Al
 V:List Af
 E:Af
def Ke (x:Bs):AV:=.agg [.sl 3 (List.map Ce x.D),.sl 3 (Bh x.V),O .i64 x.E.G,O .i64 x.E.U,.sl 3 (Bh x.E.R)]
structure A7 where
 N:Bool
 U:List Int
 B:List Int
def Dm (x:A7):AV:=.agg [Ar x.N,.sl 1 (List.map (O .u32) x.U),.sl 1 (List.map (O .u32) x.B)]
structure Ai where
 U:Int
 K:List Ai
mutual
def Ajx:Ai->AV
 | ⟨x0,x1⟩=>.agg [O .i64 x0,.sl 2 (G6 x1)]
def G6:List Ai->List AV
 | []=>[]
 | x::xs=>Ajx x::G6 xs
end
def Et (x:Ai):AV:=.agg [O .i64 x.U,.sl 2 (G6 x.K)]
theorem A01 (x:Ai):Ajx x=Et x:=by cases x;simp only[Ajx,Et]
theorem Lj:∀l:List Ai,G6 l=l.map Et
 | []=>rfl
 | x::xs=>by simp only[G6,List.map_cons,A01,Lj xs]
structure Bf where
 v:Int
 I:Ai
def F0 (x:Bf):AV:=.agg [O .i64 x.v,O .i64 x.I.U,.sl 2 (G6 x.I.K)]
structure Ek where
 v:Int
 C:Int
def Jg (x:Ek):AV:=.agg [O .i64 x.v,O .i64 x.C]
structure Bz where
 Q:Int
 T:List Ek
def J4 (x:Bz):AV:=.agg [O .i64 x.Q,.sl 2 (List.map Jg x.T)]
structure Bi where
 L:Bz
 P:Int
def F1 (x:Bi):AV:=.agg [O .i64 x.L.Q,.sl 2 (List.map Jg x.L.T),O .i64 x.P]
structure Bd where
 F:List Bf
 A:List Bi
def Ib (x:Bd):AV:=.agg [.sl 3 (List.map F0 x.F),.sl 3 (List.map F1 x.A)]
structure Aj where
 C:A7
 M:Bd
def Cn (x:Aj):AV:=.agg [Ar x.C.N,.sl 1 (List.map (O .u32) x.C.U),.sl 1 (List.map (O .u32) x.C.B),.sl 3 (List.map F0 x.M.F),.sl 3 (List.map F1 x.M.A)]
structure Iu where
 neg:Bool
 n:List Int
 d:List Int
def R7 (x:Iu):AV:=.agg [Ar x.neg,.sl 1 (List.map (O .u32) x.n),.sl 1 (List.map (O .u32) x.d)]
structure Apj where
 S:ByteArray
 Params:List Int
 Captured:List Int
 Result:Af
 Body:Int
def Uo (x:Apj):AV:=.agg [Es x.S,.sl 1 (List.map (O .i64) x.Params),.sl 1 (List.map (O .i64) x.Captured),O .i64 x.Result.G,O .i64 x.Result.U,.sl 3 (Bh x.Result.R),O .i64 x.Body]
structure Apk where
 Op:Int
 U:Int
 V:List Int
 Binds:List (List Int)
 K:List Int
 Type_:Af
def Up (x:Apk):AV:=.agg [O .i64 x.Op,O .i64 x.U,.sl 1 (List.map (O .i64) x.V),.sl 1 (List.map (Ax 1 (O .i64)) x.Binds),.sl 1 (List.map (O .i64) x.K),O .i64 x.Type_.G,O .i64 x.Type_.U,.sl 3 (Bh x.Type_.R)]
structure Lk where
 D:List Al
 Codes:List Apj
 V:List Af
 Exprs:List Apk
def Uq (x:Lk):AV:=.agg [.sl 3 (List.map Ce x.D),.sl 7 (List.map Uo x.Codes),.sl 3 (Bh x.V),.sl 8 (List.map Up x.Exprs)]
structure Av where
 I:Ai
 C:A7
def B0 (x:Av):AV:=.agg [O .i64 x.I.U,.sl 2 (G6 x.I.K),Ar x.C.N,.sl 1 (List.map (O .u32) x.C.U),.sl 1 (List.map (O .u32) x.C.B)]
structure H7 where
 data:List Al
 vars:Int
 left:Int
structure Ll where
 G:Int
 Text:ByteArray
 Pos:Int
def Ajy (x:Ll):AV:=.agg [O .i64 x.G,Es x.Text,O .i64 x.Pos]
structure Kf where
 G:Int
 Text:ByteArray
 Pos:Int
def Aem (x:Kf):AV:=.agg [O .i64 x.G,Es x.Text,O .i64 x.Pos]
structure Il where
 list:List Ai
 coef:A7
def Pb (x:Il):AV:=.agg [.sl 2 (G6 x.list),Ar x.coef.N,.sl 1 (List.map (O .u32) x.coef.U),.sl 1 (List.map (O .u32) x.coef.B)]
end Go.Ab
