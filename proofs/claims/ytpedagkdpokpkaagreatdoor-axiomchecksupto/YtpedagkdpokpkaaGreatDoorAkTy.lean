/- The types that the program uses; plain types for its data. -/
import Derived.Test.YtpedagkdpokpkaaGreatDoorAkAb2
import Derived.Test.YtpedagkdpokpkaaGreatDoorProg
import Derived.KernelRfl
namespace Go.Ab
open Go Go.Proofs
def Wz:Tr:=(.node (.node (.node (.node (.node (.node (.node .leaf 1 ⟨.other,1,8,[.nilFunc]⟩ .leaf) 2 ⟨.int .i64,1,8,[.int .i64 0]⟩ (.node .leaf 3 ⟨.int .i64,1,8,[.int .i64 0]⟩ .leaf)) 4 ⟨.bool,1,1,[.bool false]⟩ (.node (.node .leaf 5 ⟨.int .u8,1,1,[.int .u8 0]⟩ .leaf) 9 ⟨.string,1,16,[.string ⟨#[]⟩]⟩ .leaf)) 20 ⟨.other,1,16,[.nilIface]⟩ (.node (.node (.node .leaf 22 ⟨.slice 25,1,24,[.slice none 0 0]⟩ .leaf) 23 ⟨.slice 71,1,24,[.slice none 0 0]⟩ .leaf) 25 ⟨.struct [(0,1),(1,1)],2,32,[.int .i64 0,.slice none 0 0]⟩ (.node (.node .leaf 27 ⟨.struct [(0,1),(1,2),(3,2),(5,1)],6,80,[.int .i64 0,.int .i64 0,.slice none 0 0,.int .i64 0,.slice none 0 0,.int .i64 0]⟩ .leaf) 28 ⟨.slice 50,1,24,[.slice none 0 0]⟩ .leaf))) 34 ⟨.slice 221,1,24,[.slice none 0 0]⟩ (.node (.node (.node (.node .leaf 35 ⟨.slice 37,1,24,[.slice none 0 0]⟩ .leaf) 37 ⟨.struct [(0,1),(1,1),(2,1)],3,40,[.int .i64 0,.int .i64 0,.slice none 0 0]⟩ (.node .leaf 39 ⟨.struct [(0,1),(1,1),(2,3)],5,88,[.slice none 0 0,.slice none 0 0,.int .i64 0,.int .i64 0,.slice none 0 0]⟩ .leaf)) 40 ⟨.slice 75,1,24,[.slice none 0 0]⟩ (.node (.node .leaf 41 ⟨.slice 56,1,24,[.slice none 0 0]⟩ .leaf) 45 ⟨.int .i64,1,8,[.int .i64 0]⟩ .leaf)) 48 ⟨.slice 107,1,24,[.slice none 0 0]⟩ (.node (.node (.node .leaf 50 ⟨.struct [(0,1),(1,1),(2,1)],3,56,[.bool false,.slice none 0 0,.slice none 0 0]⟩ .leaf) 51 ⟨.slice 113,1,24,[.slice none 0 0]⟩ .leaf) 52 ⟨.slice 73,1,24,[.slice none 0 0]⟩ (.node (.node .leaf 54 ⟨.struct [(0,1),(1,1)],2,48,[.slice none 0 0,.slice none 0 0]⟩ .leaf) 56 ⟨.struct [(0,6),(6,3),(9,2),(11,1),(12,1)],13,232,[.int .i64 0,.int .i64 0,.slice none 0 0,.int .i64 0,.slice none 0 0,.int .i64 0,.bool false,.slice none 0 0,.slice none 0 0,.slice none 0 0,.slice none 0 0,.slice none 0 0,.slice none 0 0]⟩ .leaf)))) 71 ⟨.struct [(0,1),(1,1)],2,16,[.int .i64 0,.int .i64 0]⟩ (.node (.node (.node (.node (.node .leaf 73 ⟨.struct [(0,2),(2,1)],3,40,[.int .i64 0,.slice none 0 0,.int .i64 0]⟩ .leaf) 75 ⟨.struct [(0,3),(3,2)],5,104,[.bool false,.slice none 0 0,.slice none 0 0,.slice none 0 0,.slice none 0 0]⟩ (.node .leaf 79 ⟨.slice 3,1,24,[.slice none 0 0]⟩ .leaf)) 86 ⟨.other,1,8,[.pointer none]⟩ (.node (.node .leaf 89 ⟨.other,1,8,[.pointer none]⟩ .leaf) 106 ⟨.int .u64,1,8,[.int .u64 0]⟩ .leaf)) 107 ⟨.int .u32,1,4,[.int .u32 0]⟩ (.node (.node (.node .leaf 109 ⟨.slice 111,1,24,[.slice none 0 0]⟩ .leaf) 111 ⟨.struct [(0,1),(1,1)],2,32,[.int .i64 0,.slice none 0 0]⟩ .leaf) 113 ⟨.struct [(0,1),(1,2)],3,40,[.int .i64 0,.int .i64 0,.slice none 0 0]⟩ (.node (.node .leaf 117 ⟨.slice 107,1,24,[.slice none 0 0]⟩ .leaf) 119 ⟨.struct [(0,1),(1,1),(2,1)],3,56,[.bool false,.slice none 0 0,.slice none 0 0]⟩ .leaf))) 125 ⟨.other,1,8,[.nilFunc]⟩ (.node (.node (.node (.node .leaf 126 ⟨.slice 40,1,24,[.slice none 0 0]⟩ .leaf) 128 ⟨.slice 227,1,24,[.slice none 0 0]⟩ (.node .leaf 129 ⟨.slice 231,1,24,[.slice none 0 0]⟩ .leaf)) 131 ⟨.struct [(0,1),(1,1),(2,1),(3,1)],4,96,[.slice none 0 0,.slice none 0 0,.slice none 0 0,.slice none 0 0]⟩ (.node (.node .leaf 133 ⟨.map 9 3,1,8,[.map none]⟩ .leaf) 134 ⟨.map 9 275,1,8,[.map none]⟩ .leaf)) 136 ⟨.struct [(0,5),(5,1),(6,1)],7,104,[.slice none 0 0,.slice none 0 0,.int .i64 0,.int .i64 0,.slice none 0 0,.map none,.map none]⟩ (.node (.node (.node .leaf 138 ⟨.struct [(0,1),(1,1)],2,32,[.map none,.slice none 0 0]⟩ .leaf) 141 ⟨.other,1,8,[.nilFunc]⟩ .leaf) 144 ⟨.other,1,8,[.nilFunc]⟩ (.node (.node .leaf 148 ⟨.other,1,8,[.nilFunc]⟩ .leaf) 154 ⟨.other,1,8,[.nilFunc]⟩ .leaf))))) 169 ⟨.other,1,8,[.pointer none]⟩ (.node (.node (.node (.node (.node (.node .leaf 171 ⟨.struct [(0,1),(1,1),(2,1)],3,40,[.slice none 0 0,.int .i64 0,.int .i64 0]⟩ .leaf) 172 ⟨.other,1,8,[.nilFunc]⟩ (.node .leaf 175 ⟨.other,1,8,[.pointer none]⟩ .leaf)) 176 ⟨.slice 5,1,24,[.slice none 0 0]⟩ (.node (.node .leaf 178 ⟨.struct [(0,1),(1,1)],2,32,[.pointer none,.slice none 0 0]⟩ .leaf) 180 ⟨.other,1,16,[.nilIface]⟩ .leaf)) 191 ⟨.int .u64,1,8,[.int .u64 0]⟩ (.node (.node (.node .leaf 195 ⟨.other,1,8,[.nilFunc]⟩ .leaf) 196 ⟨.other,1,8,[.nilFunc]⟩ .leaf) 199 ⟨.other,1,8,[.nilFunc]⟩ (.node (.node .leaf 203 ⟨.other,1,8,[.nilFunc]⟩ .leaf) 204 ⟨.slice 23,1,24,[.slice none 0 0]⟩ .leaf))) 217 ⟨.map 9 4,1,8,[.map none]⟩ (.node (.node (.node (.node .leaf 219 ⟨.slice 223,1,24,[.slice none 0 0]⟩ .leaf) 221 ⟨.struct [(0,1),(1,1),(2,1)],3,48,[.string ⟨#[]⟩,.int .i64 0,.slice none 0 0]⟩ (.node .leaf 223 ⟨.struct [(0,1),(1,1)],2,40,[.string ⟨#[]⟩,.slice none 0 0]⟩ .leaf)) 227 ⟨.struct [(0,1),(1,1),(2,1),(3,3),(6,1)],7,112,[.string ⟨#[]⟩,.slice none 0 0,.slice none 0 0,.int .i64 0,.int .i64 0,.slice none 0 0,.int .i64 0]⟩ (.node (.node .leaf 228 ⟨.other,1,8,[.nilFunc]⟩ .leaf) 229 ⟨.slice 79,1,24,[.slice none 0 0]⟩ .leaf)) 231 ⟨.struct [(0,1),(1,1),(2,1),(3,1),(4,1),(5,3)],8,128,[.int .i64 0,.int .i64 0,.slice none 0 0,.slice none 0 0,.slice none 0 0,.int .i64 0,.int .i64 0,.slice none 0 0]⟩ (.node (.node (.node .leaf 232 ⟨.slice 4,1,24,[.slice none 0 0]⟩ .leaf) 233 ⟨.other,1,8,[.nilFunc]⟩ .leaf) 234 ⟨.other,1,8,[.nilFunc]⟩ (.node (.node .leaf 235 ⟨.other,1,8,[.pointer none]⟩ .leaf) 237 ⟨.struct [(0,4),(4,1)],5,120,[.slice none 0 0,.slice none 0 0,.slice none 0 0,.slice none 0 0,.slice none 0 0]⟩ .leaf)))) 244 ⟨.other,1,8,[.pointer none]⟩ (.node (.node (.node (.node (.node .leaf 249 ⟨.int .i64,1,8,[.int .i64 0]⟩ .leaf) 263 ⟨.other,1,8,[.nilFunc]⟩ (.node .leaf 265 ⟨.float .f64,1,8,[.float .f64 0]⟩ .leaf)) 275 ⟨.slice 279,1,24,[.slice none 0 0]⟩ (.node (.node .leaf 279 ⟨.struct [(0,2),(2,3)],5,88,[.int .i64 0,.slice none 0 0,.bool false,.slice none 0 0,.slice none 0 0]⟩ .leaf) 288 ⟨.slice 292,1,24,[.slice none 0 0]⟩ .leaf)) 292 ⟨.struct [(0,1),(1,1),(2,1)],3,32,[.int .i64 0,.string ⟨#[]⟩,.int .i64 0]⟩ (.node (.node (.node .leaf 303 ⟨.other,1,8,[.pointer none]⟩ .leaf) 308 ⟨.int .u64,1,8,[.int .u64 0]⟩ .leaf) 312 ⟨.other,1,8,[.pointer none]⟩ (.node (.node .leaf 329 ⟨.slice 51,1,24,[.slice none 0 0]⟩ .leaf) 331 ⟨.slice 52,1,24,[.slice none 0 0]⟩ .leaf))) 333 ⟨.other,1,8,[.nilFunc]⟩ (.node (.node (.node (.node .leaf 352 ⟨.other,1,8,[.pointer none]⟩ .leaf) 363 ⟨.other,1,8,[.pointer none]⟩ .leaf) 381 ⟨.other,1,8,[.nilFunc]⟩ (.node (.node .leaf 391 ⟨.other,1,8,[.nilFunc]⟩ .leaf) 395 ⟨.struct [(0,1),(1,3),(4,1),(5,1)],6,96,[.slice none 0 0,.int .i64 0,.int .i64 0,.slice none 0 0,.map none,.slice none 0 0]⟩ .leaf)) 396 ⟨.slice 399,1,24,[.slice none 0 0]⟩ (.node (.node (.node .leaf 399 ⟨.struct [(0,1),(1,3)],4,80,[.slice none 0 0,.bool false,.slice none 0 0,.slice none 0 0]⟩ .leaf) 402 ⟨.slice 275,1,24,[.slice none 0 0]⟩ .leaf) 404 ⟨.other,1,8,[.nilFunc]⟩ (.node (.node .leaf 413 ⟨.other,1,8,[.nilFunc]⟩ .leaf) 419 ⟨.slice 109,1,24,[.slice none 0 0]⟩ .leaf))))))
def Bs:Ch:=Wz.find
theorem Akh:Wz.toList.map (fun p=>E4 Go.Proofs.Tryz.prog p.1)=Wz.toList.map (fun p=>some p.2):=by kernel_rfl
theorem Ac9:Ci Go.Proofs.Tryz.prog Bs:=Tr.ok Akh
theorem Ow:Go.Proofs.Tryz.prog.follows .mixedOrders=true:=by kernel_rfl
end Go.Ab
namespace Go.Ab.Fn
abbrev Sq:FuncId:=3
abbrev Sr:FuncId:=7
abbrev O6:FuncId:=8
abbrev Ss:FuncId:=9
abbrev Na:FuncId:=10
abbrev O7:FuncId:=11
abbrev O8:FuncId:=12
abbrev Nb:FuncId:=16
abbrev W0:FuncId:=21
abbrev W1:FuncId:=22
abbrev W2:FuncId:=23
abbrev Iy:FuncId:=24
abbrev Nc:FuncId:=25
abbrev O9:FuncId:=26
abbrev Lm:FuncId:=27
abbrev Pa:FuncId:=28
abbrev Ln:FuncId:=29
abbrev G4:FuncId:=30
abbrev Nd:FuncId:=33
abbrev Nf:FuncId:=34
abbrev W3:FuncId:=35
abbrev Pb:FuncId:=36
abbrev Fp:FuncId:=38
abbrev Lo:FuncId:=41
abbrev Lp:FuncId:=42
abbrev J9:FuncId:=43
abbrev Lq:FuncId:=44
abbrev Su:FuncId:=45
abbrev W4:FuncId:=46
abbrev W5:FuncId:=47
abbrev Fw:FuncId:=48
abbrev Iz:FuncId:=49
abbrev I0:FuncId:=50
abbrev Ng:FuncId:=51
abbrev Pc:FuncId:=52
abbrev Nh:FuncId:=53
abbrev Ni:FuncId:=54
abbrev Pd:FuncId:=55
abbrev Nj:FuncId:=56
abbrev Nk:FuncId:=57
abbrev Pe:FuncId:=58
abbrev Nl:FuncId:=59
abbrev Nm:FuncId:=60
abbrev Ka:FuncId:=61
abbrev G5:FuncId:=62
abbrev Jf:FuncId:=63
abbrev Nn:FuncId:=65
abbrev Lr:FuncId:=66
abbrev No:FuncId:=67
abbrev Hj:FuncId:=68
abbrev Pf:FuncId:=69
abbrev Sv:FuncId:=70
abbrev W6:FuncId:=75
abbrev Nq:FuncId:=76
abbrev W7:FuncId:=77
abbrev W8:FuncId:=78
abbrev Jg:FuncId:=79
abbrev Sw:FuncId:=80
abbrev Pg:FuncId:=81
abbrev Sx:FuncId:=82
abbrev W9:FuncId:=83
abbrev Ls:FuncId:=84
abbrev Xa:FuncId:=85
abbrev Nr:FuncId:=86
abbrev Ph:FuncId:=87
abbrev Ns:FuncId:=88
abbrev Pi:FuncId:=89
abbrev Pj:FuncId:=90
abbrev Pk:FuncId:=91
abbrev Pl:FuncId:=92
abbrev Lt:FuncId:=93
abbrev Pm:FuncId:=94
abbrev Pn:FuncId:=95
abbrev Po:FuncId:=96
abbrev Ic:FuncId:=97
abbrev Pp:FuncId:=98
abbrev Nt:FuncId:=99
abbrev Nu:FuncId:=100
abbrev Jh:FuncId:=101
abbrev Hk:FuncId:=102
abbrev Ie:FuncId:=103
abbrev Pq:FuncId:=104
abbrev Nv:FuncId:=105
abbrev Pr:FuncId:=106
abbrev Lu:FuncId:=107
abbrev Ps:FuncId:=108
abbrev Nw:FuncId:=109
abbrev Nx:FuncId:=110
abbrev Xb:FuncId:=111
abbrev Ee:FuncId:=112
abbrev Xc:FuncId:=114
abbrev Xd:FuncId:=116
abbrev Xe:FuncId:=117
abbrev Xf:FuncId:=118
abbrev Xg:FuncId:=119
abbrev Xh:FuncId:=120
abbrev Xi:FuncId:=121
abbrev Xj:FuncId:=122
abbrev Pt:FuncId:=123
abbrev Kb:FuncId:=124
abbrev Sy:FuncId:=125
abbrev Xk:FuncId:=126
abbrev Hm:FuncId:=127
abbrev Ny:FuncId:=128
abbrev Hn:FuncId:=129
abbrev Nz:FuncId:=130
abbrev I1:FuncId:=131
abbrev N0:FuncId:=132
abbrev I2:FuncId:=133
abbrev Xl:FuncId:=134
abbrev Lv:FuncId:=135
abbrev G6:FuncId:=136
abbrev Xm:FuncId:=137
abbrev Xn:FuncId:=138
abbrev Kc:FuncId:=139
abbrev Pu:FuncId:=140
abbrev Xo:FuncId:=141
abbrev Xp:FuncId:=142
abbrev Lw:FuncId:=143
abbrev Xq:FuncId:=144
abbrev Sz:FuncId:=145
abbrev Xr:FuncId:=146
abbrev N1:FuncId:=147
abbrev Ji:FuncId:=148
abbrev S0:FuncId:=149
abbrev Jj:FuncId:=150
abbrev Ez:FuncId:=151
abbrev N2:FuncId:=152
abbrev Jk:FuncId:=153
abbrev Ho:FuncId:=154
abbrev Pv:FuncId:=155
abbrev Kd:FuncId:=156
abbrev Ke:FuncId:=157
abbrev Pw:FuncId:=158
abbrev Gn:FuncId:=159
abbrev Px:FuncId:=160
abbrev Py:FuncId:=161
abbrev Xs:FuncId:=162
abbrev Gp:FuncId:=163
abbrev Lx:FuncId:=164
abbrev S3:FuncId:=165
abbrev S4:FuncId:=166
abbrev Pz:FuncId:=167
abbrev S5:FuncId:=168
abbrev S6:FuncId:=169
abbrev Xt:FuncId:=170
abbrev Xu:FuncId:=171
abbrev S7:FuncId:=178
abbrev Xv:FuncId:=179
abbrev S8:FuncId:=180
abbrev P0:FuncId:=181
abbrev Xw:FuncId:=182
abbrev P1:FuncId:=183
abbrev P3:FuncId:=185
abbrev Kf:FuncId:=186
abbrev Jl:FuncId:=187
abbrev P4:FuncId:=188
abbrev Ly:FuncId:=189
abbrev N3:FuncId:=190
abbrev S9:FuncId:=191
abbrev Xx:FuncId:=192
abbrev Ta:FuncId:=201
abbrev Lz:FuncId:=202
abbrev Tb:FuncId:=203
abbrev Xy:FuncId:=204
abbrev Xz:FuncId:=205
abbrev Tc:FuncId:=206
abbrev P5:FuncId:=207
abbrev X0:FuncId:=208
abbrev X1:FuncId:=209
abbrev Td:FuncId:=210
abbrev Te:FuncId:=211
abbrev P6:FuncId:=212
abbrev X2:FuncId:=213
abbrev X3:FuncId:=219
abbrev Jm:FuncId:=222
abbrev Tf:FuncId:=223
abbrev Tg:FuncId:=224
abbrev X4:FuncId:=225
abbrev Th:FuncId:=227
abbrev Ti:FuncId:=229
abbrev Tj:FuncId:=230
abbrev X5:FuncId:=231
abbrev P7:FuncId:=232
abbrev Tk:FuncId:=233
abbrev X6:FuncId:=234
abbrev X7:FuncId:=235
abbrev X8:FuncId:=236
abbrev Tl:FuncId:=237
abbrev P8:FuncId:=238
abbrev X9:FuncId:=239
abbrev P9:FuncId:=250
abbrev Qa:FuncId:=252
abbrev L0:FuncId:=254
abbrev Qb:FuncId:=255
abbrev L1:FuncId:=256
abbrev Tm:FuncId:=262
abbrev Ya:FuncId:=263
abbrev Tn:FuncId:=264
abbrev Yb:FuncId:=275
abbrev Yc:FuncId:=277
abbrev Yd:FuncId:=278
abbrev Ye:FuncId:=279
abbrev Yf:FuncId:=280
abbrev Yg:FuncId:=281
abbrev Yh:FuncId:=282
abbrev Yi:FuncId:=283
abbrev To:FuncId:=284
abbrev Yj:FuncId:=285
abbrev Qc:FuncId:=289
abbrev Tp:FuncId:=290
abbrev N4:FuncId:=295
abbrev L2:FuncId:=296
abbrev N5:FuncId:=297
abbrev Qd:FuncId:=298
abbrev Tq:FuncId:=304
abbrev Ts:FuncId:=314
abbrev Yk:FuncId:=316
abbrev Qf:FuncId:=317
abbrev Yl:FuncId:=318
abbrev Ym:FuncId:=319
abbrev Yn:FuncId:=320
abbrev Tt:FuncId:=321
abbrev Qg:FuncId:=322
abbrev Yo:FuncId:=323
abbrev Yp:FuncId:=324
abbrev Yq:FuncId:=325
abbrev Qh:FuncId:=326
abbrev Yr:FuncId:=327
abbrev Ys:FuncId:=328
abbrev Qi:FuncId:=329
abbrev Qj:FuncId:=330
abbrev N6:FuncId:=331
abbrev Tu:FuncId:=355
abbrev Yt:FuncId:=356
end Go.Ab.Fn
namespace Go.Ab
open Go
abbrev O (k:IntKind) (n:Int):AV:=.val (.int k n)
abbrev Al (b:Bool):AV:=.val (.bool b)
abbrev D4 (s:ByteArray):AV:=.val (.string s)
abbrev Ak {α:Type} (sz:Nat) (f:α->AV) (l:List α):AV:=.sl sz (l.map f)
abbrev Hq {α:Type} (sz:Nat) (g:List α->List AV) (l:List α):AV:=.sl sz (g l)
structure Ax where
 Var:Int
 Coef:Int
def B2 (x:Ax):AV:=.agg [O .i64 x.Var,O .i64 x.Coef]
structure Ao where
 Const:Int
 Terms:(List Ax)
def B9 (x:Ao):AV:=.agg [O .i64 x.Const,.sl 2 (List.map B2 x.Terms)]
structure Ds where
 Kind:Int
 E:Ao
 F:Ao
 K:Int
def Gq (x:Ds):AV:=.agg [O .i64 x.Kind,O .i64 x.E.Const,.sl 2 (List.map B2 x.E.Terms),O .i64 x.F.Const,.sl 2 (List.map B2 x.F.Terms),O .i64 x.K]
structure Aw where
 Kind:Int
 Num:Int
 Args:(List Aw)
mutual
def Yu:Aw->AV
 | ⟨x0,x1,x2⟩=>.agg [O .i64 x0,O .i64 x1,.sl 3 (Bl x2)]
def Bl:List Aw->List AV
 | []=>[]
 | x::xs=>Yu x::Bl xs
end
def Fj (x:Aw):AV:=.agg [O .i64 x.Kind,O .i64 x.Num,.sl 3 (Bl x.Args)]
theorem Aki (x:Aw):Yu x=Fj x:=by cases x; simp only [Yu,Fj]
theorem Ig:∀l:List Aw,Bl l=l.map Fj
 | []=>rfl
 | x::xs=>by simp only [Bl,List.map_cons,Aki,Ig xs]
structure Yv where
 Name:ByteArray
 Args:(List Aw)
def Akj (x:Yv):AV:=.agg [D4 x.Name,.sl 3 (Bl x.Args)]
structure B3 where
 Name:ByteArray
 Vars:Int
 Cons:(List Yv)
def Cp (x:B3):AV:=.agg [D4 x.Name,O .i64 x.Vars,.sl 2 (List.map Akj x.Cons)]
structure Df where
 Data:(List B3)
 Vars:(List Aw)
 Res:Aw
def Hr (x:Df):AV:=.agg [.sl 3 (List.map Cp x.Data),.sl 3 (Bl x.Vars),O .i64 x.Res.Kind,O .i64 x.Res.Num,.sl 3 (Bl x.Res.Args)]
structure Ai where
 Neg:Bool
 Num:(List Int)
 Den:(List Int)
def Bi (x:Ai):AV:=.agg [Al x.Neg,.sl 1 (List.map (O .u32) x.Num),.sl 1 (List.map (O .u32) x.Den)]
structure Cq where
 Num:Int
 Kids:(List Cq)
mutual
def Yw:Cq->AV
 | ⟨x0,x1⟩=>.agg [O .i64 x0,.sl 2 (Hs x1)]
def Hs:List Cq->List AV
 | []=>[]
 | x::xs=>Yw x::Hs xs
end
def Gr (x:Cq):AV:=.agg [O .i64 x.Num,.sl 2 (Hs x.Kids)]
theorem Akk (x:Cq):Yw x=Gr x:=by cases x; simp only [Yw,Gr]
theorem Ih:∀l:List Cq,Hs l=l.map Gr
 | []=>rfl
 | x::xs=>by simp only [Hs,List.map_cons,Akk,Ih xs]
structure Cu where
 Var:Int
 Index:Cq
def D6 (x:Cu):AV:=.agg [O .i64 x.Var,O .i64 x.Index.Num,.sl 2 (Hs x.Index.Kids)]
structure B5 where
 Lin:Ao
 Deg:Int
def Dt (x:B5):AV:=.agg [O .i64 x.Lin.Const,.sl 2 (List.map B2 x.Lin.Terms),O .i64 x.Deg]
structure Ce where
 Factors:(List Cu)
 Atoms:(List B5)
def Fx (x:Ce):AV:=.agg [.sl 3 (List.map D6 x.Factors),.sl 3 (List.map Dt x.Atoms)]
structure Az where
 Coef:Ai
 Mono:Ce
def B8 (x:Az):AV:=.agg [Al x.Coef.Neg,.sl 1 (List.map (O .u32) x.Coef.Num),.sl 1 (List.map (O .u32) x.Coef.Den),.sl 3 (List.map D6 x.Mono.Factors),.sl 3 (List.map Dt x.Mono.Atoms)]
structure Eo where
 neg:Bool
 n:(List Int)
 d:(List Int)
def Kg (x:Eo):AV:=.agg [Al x.neg,.sl 1 (List.map (O .u32) x.n),.sl 1 (List.map (O .u32) x.d)]
structure Ada where
 Name:ByteArray
 Params:(List Int)
 Captured:(List Int)
 Result:Aw
 Body:Int
def L3 (x:Ada):AV:=.agg [D4 x.Name,.sl 1 (List.map (O .i64) x.Params),.sl 1 (List.map (O .i64) x.Captured),O .i64 x.Result.Kind,O .i64 x.Result.Num,.sl 3 (Bl x.Result.Args),O .i64 x.Body]
structure Adb where
 Op:Int
 Num:Int
 Vars:(List Int)
 Binds:(List (List Int))
 Kids:(List Int)
 Type_:Aw
def L5 (x:Adb):AV:=.agg [O .i64 x.Op,O .i64 x.Num,.sl 1 (List.map (O .i64) x.Vars),.sl 1 (List.map (Ak 1 (O .i64)) x.Binds),.sl 1 (List.map (O .i64) x.Kids),O .i64 x.Type_.Kind,O .i64 x.Type_.Num,.sl 3 (Bl x.Type_.Args)]
structure Gc where
 Data:(List B3)
 Codes:(List Ada)
 Vars:(List Aw)
 Exprs:(List Adb)
def L6 (x:Gc):AV:=.agg [.sl 3 (List.map Cp x.Data),.sl 7 (List.map L3 x.Codes),.sl 3 (Bl x.Vars),.sl 8 (List.map L5 x.Exprs)]
structure Ei where
 data:(List B3)
 vars:Int
 left:Int
structure Db where
 Index:Cq
 Coef:Ai
def Du (x:Db):AV:=.agg [O .i64 x.Index.Num,.sl 2 (Hs x.Index.Kids),Al x.Coef.Neg,.sl 1 (List.map (O .u32) x.Coef.Num),.sl 1 (List.map (O .u32) x.Coef.Den)]
structure F4 where
 Kind:Int
 Text:ByteArray
 Pos:Int
def Tv (x:F4):AV:=.agg [O .i64 x.Kind,D4 x.Text,O .i64 x.Pos]
end Go.Ab
