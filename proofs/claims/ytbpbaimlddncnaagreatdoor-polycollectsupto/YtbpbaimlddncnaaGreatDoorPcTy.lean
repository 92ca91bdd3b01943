/- Types and steps. -/
import Derived.Test.YtbpbaimlddncnaaGreatDoorPcAb2
import Derived.Test.YtbpbaimlddncnaaGreatDoorProg
import Derived.KernelRfl
namespace Go.Ab
open Go Go.Proofs Go.Proofs.Tryz
theorem κ {p:Prop} (h:p:=by kernel_rfl):p:=h
def Agg:Tr:=(.node (.node (.node (.node (.node (.node (.node .leaf 1 ⟨.other,1,8,[.nilFunc]⟩ .leaf) 2 ⟨.int .i64,1,8,[.int .i64 0]⟩ .leaf) 3 ⟨.int .i64,1,8,[.int .i64 0]⟩ (.node (.node .leaf 4 ⟨.bool,1,1,[.bool false]⟩ .leaf) 5 ⟨.int .u8,1,1,[.int .u8 0]⟩ .leaf)) 9 ⟨.string,1,16,[.string ⟨#[]⟩]⟩ (.node (.node (.node .leaf 20 ⟨.other,1,16,[.nilIface]⟩ .leaf) 22 ⟨.slice 141,1,24,[.slice none 0 0]⟩ .leaf) 23 ⟨.slice 25,1,24,[.slice none 0 0]⟩ (.node (.node .leaf 25 ⟨.struct [(0,1),(1,1),(2,1)],3,40,[.int .i64 0,.int .i64 0,.slice none 0 0]⟩ .leaf) 27 ⟨.struct [(0,1),(1,1),(2,3)],5,88,[.slice none 0 0,.slice none 0 0,.int .i64 0,.int .i64 0,.slice none 0 0]⟩ .leaf))) 28 ⟨.slice 53,1,24,[.slice none 0 0]⟩ (.node (.node (.node (.node .leaf 30 ⟨.int .i64,1,8,[.int .i64 0]⟩ .leaf) 35 ⟨.slice 74,1,24,[.slice none 0 0]⟩ .leaf) 37 ⟨.struct [(0,1),(1,1),(2,1)],3,56,[.bool false,.slice none 0 0,.slice none 0 0]⟩ (.node (.node .leaf 42 ⟨.slice 28,1,24,[.slice none 0 0]⟩ .leaf) 45 ⟨.other,1,8,[.pointer none]⟩ .leaf)) 48 ⟨.slice 95,1,24,[.slice none 0 0]⟩ (.node (.node (.node .leaf 49 ⟨.slice 62,1,24,[.slice none 0 0]⟩ .leaf) 51 ⟨.struct [(0,1),(1,1)],2,48,[.slice none 0 0,.slice none 0 0]⟩ .leaf) 53 ⟨.struct [(0,3),(3,2)],5,104,[.bool false,.slice none 0 0,.slice none 0 0,.slice none 0 0,.slice none 0 0]⟩ (.node (.node .leaf 56 ⟨.other,1,8,[.pointer none]⟩ .leaf) 58 ⟨.slice 102,1,24,[.slice none 0 0]⟩ .leaf)))) 60 ⟨.struct [(0,1),(1,1)],2,32,[.int .i64 0,.slice none 0 0]⟩ (.node (.node (.node (.node (.node .leaf 62 ⟨.struct [(0,2),(2,1)],3,40,[.int .i64 0,.slice none 0 0,.int .i64 0]⟩ .leaf) 73 ⟨.int .u64,1,8,[.int .u64 0]⟩ .leaf) 74 ⟨.int .u32,1,4,[.int .u32 0]⟩ (.node (.node .leaf 79 ⟨.other,1,8,[.nilFunc]⟩ .leaf) 81 ⟨.slice 209,1,24,[.slice none 0 0]⟩ .leaf)) 82 ⟨.slice 213,1,24,[.slice none 0 0]⟩ (.node (.node (.node .leaf 84 ⟨.struct [(0,1),(1,1),(2,1),(3,1)],4,96,[.slice none 0 0,.slice none 0 0,.slice none 0 0,.slice none 0 0]⟩ .leaf) 86 ⟨.map 9 3,1,8,[.map none]⟩ .leaf) 87 ⟨.map 9 109,1,8,[.map none]⟩ (.node (.node .leaf 89 ⟨.struct [(0,5),(5,1),(6,1)],7,104,[.slice none 0 0,.slice none 0 0,.int .i64 0,.int .i64 0,.slice none 0 0,.map none,.map none]⟩ .leaf) 91 ⟨.slice 93,1,24,[.slice none 0 0]⟩ .leaf))) 93 ⟨.struct [(0,1),(1,1)],2,32,[.int .i64 0,.slice none 0 0]⟩ (.node (.node (.node (.node .leaf 95 ⟨.struct [(0,1),(1,2)],3,40,[.int .i64 0,.int .i64 0,.slice none 0 0]⟩ .leaf) 96 ⟨.other,1,8,[.nilFunc]⟩ .leaf) 100 ⟨.struct [(0,1),(1,1)],2,32,[.map none,.slice none 0 0]⟩ (.node (.node .leaf 102 ⟨.struct [(0,1),(1,1)],2,16,[.int .i64 0,.int .i64 0]⟩ .leaf) 108 ⟨.other,1,8,[.nilFunc]⟩ .leaf)) 109 ⟨.slice 113,1,24,[.slice none 0 0]⟩ (.node (.node (.node .leaf 113 ⟨.struct [(0,2),(2,3)],5,88,[.int .i64 0,.slice none 0 0,.bool false,.slice none 0 0,.slice none 0 0]⟩ .leaf) 119 ⟨.other,1,8,[.nilFunc]⟩ .leaf) 120 ⟨.slice 37,1,24,[.slice none 0 0]⟩ (.node (.node .leaf 125 ⟨.other,1,8,[.nilFunc]⟩ .leaf) 128 ⟨.other,1,8,[.nilFunc]⟩ .leaf))))) 139 ⟨.slice 143,1,24,[.slice none 0 0]⟩ (.node (.node (.node (.node (.node (.node .leaf 141 ⟨.struct [(0,1),(1,1),(2,1)],3,48,[.string ⟨#[]⟩,.int .i64 0,.slice none 0 0]⟩ .leaf) 143 ⟨.struct [(0,1),(1,1)],2,40,[.string ⟨#[]⟩,.slice none 0 0]⟩ .leaf) 145 ⟨.other,1,8,[.pointer none]⟩ (.node (.node .leaf 146 ⟨.other,1,8,[.pointer none]⟩ .leaf) 148 ⟨.struct [(0,1),(1,1),(2,1)],3,40,[.slice none 0 0,.int .i64 0,.int .i64 0]⟩ .leaf)) 154 ⟨.other,1,8,[.nilFunc]⟩ (.node (.node (.node .leaf 158 ⟨.other,1,8,[.nilFunc]⟩ .leaf) 159 ⟨.slice 74,1,24,[.slice none 0 0]⟩ .leaf) 161 ⟨.struct [(0,1),(1,1),(2,1)],3,56,[.bool false,.slice none 0 0,.slice none 0 0]⟩ (.node (.node .leaf 165 ⟨.other,1,8,[.pointer none]⟩ .leaf) 166 ⟨.slice 5,1,24,[.slice none 0 0]⟩ .leaf))) 168 ⟨.struct [(0,1),(1,1)],2,32,[.pointer none,.slice none 0 0]⟩ (.node (.node (.node (.node .leaf 170 ⟨.other,1,16,[.nilIface]⟩ .leaf) 191 ⟨.int .u64,1,8,[.int .u64 0]⟩ .leaf) 193 ⟨.other,1,8,[.nilFunc]⟩ (.node (.node .leaf 203 ⟨.map 9 4,1,8,[.map none]⟩ .leaf) 207 ⟨.slice 3,1,24,[.slice none 0 0]⟩ .leaf)) 209 ⟨.struct [(0,1),(1,1),(2,1),(3,3),(6,1)],7,112,[.string ⟨#[]⟩,.slice none 0 0,.slice none 0 0,.int .i64 0,.int .i64 0,.slice none 0 0,.int .i64 0]⟩ (.node (.node (.node .leaf 210 ⟨.other,1,8,[.nilFunc]⟩ .leaf) 211 ⟨.slice 207,1,24,[.slice none 0 0]⟩ .leaf) 213 ⟨.struct [(0,1),(1,1),(2,1),(3,1),(4,1),(5,3)],8,128,[.int .i64 0,.int .i64 0,.slice none 0 0,.slice none 0 0,.slice none 0 0,.int .i64 0,.int .i64 0,.slice none 0 0]⟩ (.node (.node .leaf 214 ⟨.slice 4,1,24,[.slice none 0 0]⟩ .leaf) 215 ⟨.other,1,8,[.nilFunc]⟩ .leaf)))) 216 ⟨.other,1,8,[.nilFunc]⟩ (.node (.node (.node (.node (.node .leaf 217 ⟨.other,1,8,[.pointer none]⟩ .leaf) 219 ⟨.struct [(0,4),(4,1)],5,120,[.slice none 0 0,.slice none 0 0,.slice none 0 0,.slice none 0 0,.slice none 0 0]⟩ .leaf) 228 ⟨.other,1,8,[.pointer none]⟩ (.node (.node .leaf 233 ⟨.other,1,8,[.pointer none]⟩ .leaf) 252 ⟨.int .i64,1,8,[.int .i64 0]⟩ .leaf)) 263 ⟨.float .f64,1,8,[.float .f64 0]⟩ (.node (.node (.node .leaf 264 ⟨.slice 268,1,24,[.slice none 0 0]⟩ .leaf) 268 ⟨.struct [(0,1),(1,1),(2,1)],3,32,[.int .i64 0,.string ⟨#[]⟩,.int .i64 0]⟩ .leaf) 286 ⟨.other,1,8,[.pointer none]⟩ (.node (.node .leaf 293 ⟨.other,1,8,[.nilFunc]⟩ .leaf) 297 ⟨.struct [(0,1),(1,3),(4,1),(5,1)],6,96,[.slice none 0 0,.int .i64 0,.int .i64 0,.slice none 0 0,.map none,.slice none 0 0]⟩ .leaf))) 298 ⟨.slice 301,1,24,[.slice none 0 0]⟩ (.node (.node (.node (.node .leaf 301 ⟨.struct [(0,1),(1,3)],4,80,[.slice none 0 0,.bool false,.slice none 0 0,.slice none 0 0]⟩ .leaf) 304 ⟨.slice 109,1,24,[.slice none 0 0]⟩ .leaf) 306 ⟨.other,1,8,[.nilFunc]⟩ (.node (.node .leaf 308 ⟨.slice 48,1,24,[.slice none 0 0]⟩ .leaf) 310 ⟨.slice 49,1,24,[.slice none 0 0]⟩ .leaf)) 316 ⟨.int .u64,1,8,[.int .u64 0]⟩ (.node (.node (.node .leaf 321 ⟨.other,1,8,[.nilFunc]⟩ .leaf) 337 ⟨.other,1,8,[.nilFunc]⟩ .leaf) 351 ⟨.other,1,8,[.pointer none]⟩ (.node (.node .leaf 357 ⟨.other,1,8,[.nilFunc]⟩ .leaf) 359 ⟨.slice 91,1,24,[.slice none 0 0]⟩ .leaf))))))
def Ct:C6:=Agg.find
theorem Aw8:Agg.toList.map (λp=>Ie prog p.1)=Agg.toList.map (λp=>some p.2):=by kernel_rfl
theorem Ama:C8 prog Ct:=Tr.ok Aw8
theorem Wf:prog.follows .mixedOrders=true:=by kernel_rfl
end Go.Ab
namespace Go.Ab.Fn
abbrev Aaz:FuncId:=3
abbrev Ws:FuncId:=4
abbrev P3:FuncId:=5
abbrev Wt:FuncId:=6
abbrev T7:FuncId:=7
abbrev Rm:FuncId:=8
abbrev Om:FuncId:=9
abbrev T8:FuncId:=10
abbrev Wu:FuncId:=11
abbrev Wv:FuncId:=12
abbrev L3:FuncId:=13
abbrev Rn:FuncId:=14
abbrev Ro:FuncId:=15
abbrev Rp:FuncId:=16
abbrev P4:FuncId:=17
abbrev Lf:FuncId:=18
abbrev Lg:FuncId:=19
abbrev My:FuncId:=20
abbrev Agh:FuncId:=21
abbrev T9:FuncId:=22
abbrev Ww:FuncId:=23
abbrev Rq:FuncId:=24
abbrev On:FuncId:=25
abbrev Wx:FuncId:=26
abbrev Wy:FuncId:=27
abbrev Wz:FuncId:=28
abbrev W0:FuncId:=29
abbrev W1:FuncId:=30
abbrev Ua:FuncId:=31
abbrev Ub:FuncId:=32
abbrev Oo:FuncId:=33
abbrev W2:FuncId:=34
abbrev Rr:FuncId:=35
abbrev L5:FuncId:=36
abbrev Rs:FuncId:=37
abbrev P5:FuncId:=38
abbrev Uc:FuncId:=39
abbrev W3:FuncId:=40
abbrev Iy:FuncId:=41
abbrev W4:FuncId:=42
abbrev W5:FuncId:=43
abbrev Ud:FuncId:=44
abbrev No:FuncId:=45
abbrev Lh:FuncId:=46
abbrev Rt:FuncId:=47
abbrev W6:FuncId:=48
abbrev W7:FuncId:=49
abbrev Ue:FuncId:=50
abbrev Mz:FuncId:=51
abbrev Nq:FuncId:=52
abbrev Uf:FuncId:=53
abbrev W8:FuncId:=54
abbrev M0:FuncId:=55
abbrev Nr:FuncId:=56
abbrev Oq:FuncId:=57
abbrev P6:FuncId:=58
abbrev Ug:FuncId:=59
abbrev Ot:FuncId:=60
abbrev Agi:FuncId:=61
abbrev Uh:FuncId:=62
abbrev G6:FuncId:=63
abbrev Ui:FuncId:=64
abbrev W9:FuncId:=65
abbrev Ru:FuncId:=66
abbrev Rv:FuncId:=67
abbrev Xa:FuncId:=68
abbrev Xb:FuncId:=69
abbrev Aa0:FuncId:=70
abbrev P7:FuncId:=71
abbrev Xc:FuncId:=72
abbrev Agj:FuncId:=73
abbrev Agk:FuncId:=74
abbrev Agl:FuncId:=75
abbrev Agm:FuncId:=76
abbrev Agn:FuncId:=77
abbrev Ago:FuncId:=78
abbrev M1:FuncId:=79
abbrev Ji:FuncId:=80
abbrev Ns:FuncId:=81
abbrev Uj:FuncId:=82
abbrev Li:FuncId:=83
abbrev P8:FuncId:=84
abbrev M2:FuncId:=85
abbrev Aa1:FuncId:=86
abbrev Uk:FuncId:=87
abbrev Xd:FuncId:=88
abbrev Rw:FuncId:=89
abbrev M3:FuncId:=90
abbrev Lj:FuncId:=91
abbrev Nt:FuncId:=92
abbrev Xe:FuncId:=93
abbrev Aa2:FuncId:=94
abbrev Ja:FuncId:=95
abbrev Ku:FuncId:=96
abbrev F6:FuncId:=97
abbrev Jy:FuncId:=98
abbrev Xf:FuncId:=99
abbrev Aa3:FuncId:=100
abbrev Aa4:FuncId:=101
abbrev Xg:FuncId:=102
abbrev Nu:FuncId:=103
abbrev Xh:FuncId:=104
abbrev Ou:FuncId:=105
abbrev Xi:FuncId:=106
abbrev Ii:FuncId:=107
abbrev Ov:FuncId:=108
abbrev Aa5:FuncId:=109
abbrev Ow:FuncId:=110
abbrev Xj:FuncId:=111
abbrev Rx:FuncId:=112
abbrev Aa6:FuncId:=113
abbrev Xk:FuncId:=114
abbrev Ox:FuncId:=115
abbrev Aa7:FuncId:=116
abbrev Xl:FuncId:=117
abbrev Xm:FuncId:=118
abbrev Ul:FuncId:=119
abbrev Oy:FuncId:=120
abbrev Kv:FuncId:=121
abbrev Ry:FuncId:=122
abbrev Xn:FuncId:=123
abbrev Xo:FuncId:=124
abbrev Rz:FuncId:=125
abbrev Um:FuncId:=126
abbrev Un:FuncId:=127
abbrev R0:FuncId:=128
abbrev R3:FuncId:=129
abbrev P9:FuncId:=130
abbrev Agp:FuncId:=131
abbrev Agq:FuncId:=132
abbrev Xp:FuncId:=139
abbrev Nv:FuncId:=140
abbrev R4:FuncId:=141
abbrev R5:FuncId:=142
abbrev Aa8:FuncId:=143
abbrev Xq:FuncId:=144
abbrev Xr:FuncId:=145
abbrev Uo:FuncId:=146
abbrev Aa9:FuncId:=147
abbrev Xs:FuncId:=149
abbrev R6:FuncId:=150
abbrev R7:FuncId:=151
abbrev Oz:FuncId:=152
abbrev Lk:FuncId:=153
abbrev Up:FuncId:=154
abbrev Qa:FuncId:=155
abbrev R8:FuncId:=156
abbrev M4:FuncId:=157
abbrev L6:FuncId:=158
abbrev Aba:FuncId:=159
abbrev Abb:FuncId:=160
abbrev Abc:FuncId:=161
abbrev Abd:FuncId:=163
abbrev Uq:FuncId:=164
abbrev Nw:FuncId:=165
abbrev R9:FuncId:=166
abbrev Sa:FuncId:=167
abbrev Xt:FuncId:=168
abbrev Sb:FuncId:=170
abbrev M5:FuncId:=171
abbrev Xu:FuncId:=172
abbrev Sc:FuncId:=173
abbrev Ur:FuncId:=174
abbrev Abe:FuncId:=175
abbrev Xv:FuncId:=176
abbrev Abf:FuncId:=185
abbrev Xw:FuncId:=186
abbrev O0:FuncId:=187
abbrev Kw:FuncId:=188
abbrev Abg:FuncId:=189
abbrev Qb:FuncId:=190
abbrev Sd:FuncId:=191
abbrev Agr:FuncId:=192
abbrev L7:FuncId:=203
abbrev Se:FuncId:=204
abbrev Abh:FuncId:=205
abbrev O1:FuncId:=215
abbrev Xx:FuncId:=216
abbrev Xy:FuncId:=217
abbrev Xz:FuncId:=218
abbrev Abi:FuncId:=219
abbrev Sf:FuncId:=220
abbrev Qc:FuncId:=221
abbrev X0:FuncId:=222
abbrev Qd:FuncId:=223
abbrev X1:FuncId:=224
abbrev Nx:FuncId:=225
abbrev Kx:FuncId:=226
abbrev Kf:FuncId:=227
abbrev Ny:FuncId:=228
abbrev Abj:FuncId:=229
abbrev Abk:FuncId:=230
abbrev Abl:FuncId:=231
abbrev Sg:FuncId:=233
abbrev X2:FuncId:=234
abbrev Sh:FuncId:=236
abbrev X3:FuncId:=237
abbrev Si:FuncId:=238
abbrev X4:FuncId:=244
abbrev X5:FuncId:=245
abbrev X6:FuncId:=246
abbrev Sj:FuncId:=250
abbrev Sk:FuncId:=251
abbrev Qf:FuncId:=252
abbrev Sl:FuncId:=257
abbrev Abm:FuncId:=258
abbrev Qg:FuncId:=259
abbrev Us:FuncId:=260
abbrev Ut:FuncId:=261
abbrev Qh:FuncId:=262
abbrev X7:FuncId:=263
abbrev X8:FuncId:=264
abbrev X9:FuncId:=265
abbrev Abn:FuncId:=266
abbrev Uu:FuncId:=272
abbrev Sn:FuncId:=273
abbrev Uv:FuncId:=274
abbrev Ya:FuncId:=275
abbrev Uw:FuncId:=277
abbrev So:FuncId:=278
abbrev Yb:FuncId:=279
abbrev Ux:FuncId:=280
abbrev Yc:FuncId:=281
abbrev Qi:FuncId:=282
abbrev Yd:FuncId:=283
abbrev Ye:FuncId:=284
abbrev Abo:FuncId:=288
abbrev Abp:FuncId:=289
end Go.Ab.Fn
namespace Go.Ab
open Go
abbrev O (k:IntKind) (n:Int):AV:=.val (.int k n)
abbrev As (b:Bool):AV:=.val (.bool b)
abbrev Fy (s:ByteArray):AV:=.val (.string s)
abbrev Au {α:Type} (sz:Nat) (f:α->AV) (l:List α):AV:=.sl sz (l.map f)
abbrev G2 {α:Type} (sz:Nat) (g:List α->List AV) (l:List α):AV:=.sl sz (g l)
structure Ag where
 G:Int
 U:Int
 R:List Ag
mutual
def Ags:Ag->AV
 | ⟨x0,x1,x2⟩=>.agg [O .i64 x0,O .i64 x1,.sl 3 (Bj x2)]
def Bj:List Ag->List AV
 | []=>[]
 | x::xs=>Ags x::Bj xs
end
def Et (x:Ag):AV:=.agg [O .i64 x.G,O .i64 x.U,.sl 3 (Bj x.R)]
theorem Aw9 (x:Ag):Ags x=Et x:=by cases x;simp only[Ags,Et]
theorem Kg:∀l:List Ag,Bj l=l.map Et
 | []=>rfl
 | x::xs=>by simp only[Bj,List.map_cons,Aw9,Kg xs]
structure O2 where
 S:ByteArray
 R:List Ag
def Abq (x:O2):AV:=.agg [Fy x.S,.sl 3 (Bj x.R)]
structure Am where
 S:ByteArray
 V:Int
 O:List O2
def Cf (x:Am):AV:=.agg [Fy x.S,O .i64 x.V,.sl 2 (List.map Abq x.O)]
structure Cu where
 D:List Am
 V:List Ag
 E:Ag
def M6 (x:Cu):AV:=.agg [.sl 3 (List.map Cf x.D),.sl 3 (Bj x.V),O .i64 x.E.G,O .i64 x.E.U,.sl 3 (Bj x.E.R)]
structure A3 where
 N:Bool
 U:List Int
 B:List Int
def Dj (x:A3):AV:=.agg [As x.N,.sl 1 (List.map (O .u32) x.U),.sl 1 (List.map (O .u32) x.B)]
structure Ai where
 U:Int
 K:List Ai
mutual
def Agt:Ai->AV
 | ⟨x0,x1⟩=>.agg [O .i64 x0,.sl 2 (Gq x1)]
def Gq:List Ai->List AV
 | []=>[]
 | x::xs=>Agt x::Gq xs
end
def E4 (x:Ai):AV:=.agg [O .i64 x.U,.sl 2 (Gq x.K)]
theorem Axa (x:Ai):Agt x=E4 x:=by cases x;simp only[Agt,E4]
theorem Kh:∀l:List Ai,Gq l=l.map E4
 | []=>rfl
 | x::xs=>by simp only[Gq,List.map_cons,Axa,Kh xs]
structure Bg where
 v:Int
 I:Ai
def Fo (x:Bg):AV:=.agg [O .i64 x.v,O .i64 x.I.U,.sl 2 (Gq x.I.K)]
structure B0 where
 v:Int
 C:Int
def E9 (x:B0):AV:=.agg [O .i64 x.v,O .i64 x.C]
structure Bz where
 Q:Int
 T:List B0
def Jz (x:Bz):AV:=.agg [O .i64 x.Q,.sl 2 (List.map E9 x.T)]
structure Bc where
 L:Bz
 P:Int
def Fd (x:Bc):AV:=.agg [O .i64 x.L.Q,.sl 2 (List.map E9 x.L.T),O .i64 x.P]
structure Br where
 F:List Bg
 A:List Bc
def It (x:Br):AV:=.agg [.sl 3 (List.map Fo x.F),.sl 3 (List.map Fd x.A)]
structure Aj where
 C:A3
 M:Br
def C9 (x:Aj):AV:=.agg [As x.C.N,.sl 1 (List.map (O .u32) x.C.U),.sl 1 (List.map (O .u32) x.C.B),.sl 3 (List.map Fo x.M.F),.sl 3 (List.map Fd x.M.A)]
structure Amb where
 S:ByteArray
 Params:List Int
 Captured:List Int
 Result:Ag
 Body:Int
def Sp (x:Amb):AV:=.agg [Fy x.S,.sl 1 (List.map (O .i64) x.Params),.sl 1 (List.map (O .i64) x.Captured),O .i64 x.Result.G,O .i64 x.Result.U,.sl 3 (Bj x.Result.R),O .i64 x.Body]
structure Amc where
 Op:Int
 U:Int
 V:List Int
 Binds:List (List Int)
 K:List Int
 Type_:Ag
def Sq (x:Amc):AV:=.agg [O .i64 x.Op,O .i64 x.U,.sl 1 (List.map (O .i64) x.V),.sl 1 (List.map (Au 1 (O .i64)) x.Binds),.sl 1 (List.map (O .i64) x.K),O .i64 x.Type_.G,O .i64 x.Type_.U,.sl 3 (Bj x.Type_.R)]
structure Ki where
 D:List Am
 Codes:List Amb
 V:List Ag
 Exprs:List Amc
def Sr (x:Ki):AV:=.agg [.sl 3 (List.map Cf x.D),.sl 7 (List.map Sp x.Codes),.sl 3 (Bj x.V),.sl 8 (List.map Sq x.Exprs)]
structure Ar where
 I:Ai
 C:A3
def Bs (x:Ar):AV:=.agg [O .i64 x.I.U,.sl 2 (Gq x.I.K),As x.C.N,.sl 1 (List.map (O .u32) x.C.U),.sl 1 (List.map (O .u32) x.C.B)]
structure G7 where
 data:List Am
 vars:Int
 left:Int
structure Hv where
 neg:Bool
 n:List Int
 d:List Int
def Qj (x:Hv):AV:=.agg [As x.neg,.sl 1 (List.map (O .u32) x.n),.sl 1 (List.map (O .u32) x.d)]
structure Jj where
 G:Int
 Text:ByteArray
 Pos:Int
def Abr (x:Jj):AV:=.agg [O .i64 x.G,Fy x.Text,O .i64 x.Pos]
structure Hr where
 list:List Ai
 coef:A3
def Nz (x:Hr):AV:=.agg [.sl 2 (Gq x.list),As x.coef.N,.sl 1 (List.map (O .u32) x.coef.U),.sl 1 (List.map (O .u32) x.coef.B)]
end Go.Ab
