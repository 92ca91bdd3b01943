/- The types that the program uses; plain types for its data. -/
import Derived.Test.YtpedagkdpokpkaaGreatDoorWgAb2
import Derived.Test.YtpedagkdpokpkaaGreatDoorProg
import Derived.KernelRfl
namespace Go.Ab
open Go Go.Proofs
def Ads:Tr:=(.node (.node (.node (.node (.node (.node (.node .leaf 1 ⟨.other,1,8,[.nilFunc]⟩ .leaf) 2 ⟨.int .i64,1,8,[.int .i64 0]⟩ (.node .leaf 3 ⟨.int .i64,1,8,[.int .i64 0]⟩ .leaf)) 4 ⟨.bool,1,1,[.bool false]⟩ (.node (.node .leaf 5 ⟨.int .u8,1,1,[.int .u8 0]⟩ .leaf) 9 ⟨.string,1,16,[.string ⟨#[]⟩]⟩ .leaf)) 20 ⟨.other,1,16,[.nilIface]⟩ (.node (.node (.node .leaf 22 ⟨.slice 25,1,24,[.slice none 0 0]⟩ .leaf) 23 ⟨.slice 71,1,24,[.slice none 0 0]⟩ .leaf) 25 ⟨.struct [(0,1),(1,1)],2,32,[.int .i64 0,.slice none 0 0]⟩ (.node (.node .leaf 27 ⟨.struct [(0,1),(1,2),(3,2),(5,1)],6,80,[.int .i64 0,.int .i64 0,.slice none 0 0,.int .i64 0,.slice none 0 0,.int .i64 0]⟩ .leaf) 28 ⟨.slice 50,1,24,[.slice none 0 0]⟩ .leaf))) 34 ⟨.slice 221,1,24,[.slice none 0 0]⟩ (.node (.node (.node (.node .leaf 35 ⟨.slice 37,1,24,[.slice none 0 0]⟩ .leaf) 37 ⟨.struct [(0,1),(1,1),(2,1)],3,40,[.int .i64 0,.int .i64 0,.slice none 0 0]⟩ (.node .leaf 39 ⟨.struct [(0,1),(1,1),(2,3)],5,88,[.slice none 0 0,.slice none 0 0,.int .i64 0,.int .i64 0,.slice none 0 0]⟩ .leaf)) 40 ⟨.slice 75,1,24,[.slice none 0 0]⟩ (.node (.node .leaf 41 ⟨.slice 56,1,24,[.slice none 0 0]⟩ .leaf) 45 ⟨.int .i64,1,8,[.int .i64 0]⟩ .leaf)) 48 ⟨.slice 107,1,24,[.slice none 0 0]⟩ (.node (.node (.node .leaf 50 ⟨.struct [(0,1),(1,1),(2,1)],3,56,[.bool false,.slice none 0 0,.slice none 0 0]⟩ .leaf) 51 ⟨.slice 113,1,24,[.slice none 0 0]⟩ .leaf) 52 ⟨.slice 73,1,24,[.slice none 0 0]⟩ (.node (.node .leaf 54 ⟨.struct [(0,1),(1,1)],2,48,[.slice none 0 0,.slice none 0 0]⟩ .leaf) 56 ⟨.struct [(0,6),(6,3),(9,2),(11,1),(12,1)],13,232,[.int .i64 0,.int .i64 0,.slice none 0 0,.int .i64 0,.slice none 0 0,.int .i64 0,.bool false,.slice none 0 0,.slice none 0 0,.slice none 0 0,.slice none 0 0,.slice none 0 0,.slice none 0 0]⟩ .leaf)))) 71 ⟨.struct [(0,1),(1,1)],2,16,[.int .i64 0,.int .i64 0]⟩ (.node (.node (.node (.node (.node .leaf 73 ⟨.struct [(0,2),(2,1)],3,40,[.int .i64 0,.slice none 0 0,.int .i64 0]⟩ .leaf) 75 ⟨.struct [(0,3),(3,2)],5,104,[.bool false,.slice none 0 0,.slice none 0 0,.slice none 0 0,.slice none 0 0]⟩ (.node .leaf 79 ⟨.slice 3,1,24,[.slice none 0 0]⟩ .leaf)) 86 ⟨.other,1,8,[.pointer none]⟩ (.node (.node .leaf 89 ⟨.other,1,8,[.pointer none]⟩ .leaf) 106 ⟨.int .u64,1,8,[.int .u64 0]⟩ .leaf)) 107 ⟨.int .u32,1,4,[.int .u32 0]⟩ (.node (.node (.node .leaf 109 ⟨.slice 111,1,24,[.slice none 0 0]⟩ .leaf) 111 ⟨.struct [(0,1),(1,1)],2,32,[.int .i64 0,.slice none 0 0]⟩ .leaf) 113 ⟨.struct [(0,1),(1,2)],3,40,[.int .i64 0,.int .i64 0,.slice none 0 0]⟩ (.node (.node .leaf 117 ⟨.slice 107,1,24,[.slice none 0 0]⟩ .leaf) 119 ⟨.struct [(0,1),(1,1),(2,1)],3,56,[.bool false,.slice none 0 0,.slice none 0 0]⟩ .leaf))) 125 ⟨.other,1,8,[.nilFunc]⟩ (.node (.node (.node (.node .leaf 126 ⟨.slice 40,1,24,[.slice none 0 0]⟩ .leaf) 128 ⟨.slice 227,1,24,[.slice none 0 0]⟩ (.node .leaf 129 ⟨.slice 231,1,24,[.slice none 0 0]⟩ .leaf)) 131 ⟨.struct [(0,1),(1,1),(2,1),(3,1)],4,96,[.slice none 0 0,.slice none 0 0,.slice none 0 0,.slice none 0 0]⟩ (.node (.node .leaf 133 ⟨.map 9 3,1,8,[.map none]⟩ .leaf) 134 ⟨.map 9 275,1,8,[.map none]⟩ .leaf)) 136 ⟨.struct [(0,5),(5,1),(6,1)],7,104,[.slice none 0 0,.slice none 0 0,.int .i64 0,.int .i64 0,.slice none 0 0,.map none,.map none]⟩ (.node (.node (.node .leaf 138 ⟨.struct [(0,1),(1,1)],2,32,[.map none,.slice none 0 0]⟩ .leaf) 141 ⟨.other,1,8,[.nilFunc]⟩ .leaf) 144 ⟨.other,1,8,[.nilFunc]⟩ (.node (.node .leaf 148 ⟨.other,1,8,[.nilFunc]⟩ .leaf) 154 ⟨.other,1,8,[.nilFunc]⟩ .leaf))))) 169 ⟨.other,1,8,[.pointer none]⟩ (.node (.node (.node (.node (.node (.node .leaf 171 ⟨.struct [(0,1),(1,1),(2,1)],3,40,[.slice none 0 0,.int .i64 0,.int .i64 0]⟩ .leaf) 172 ⟨.other,1,8,[.nilFunc]⟩ (.node .leaf 175 ⟨.other,1,8,[.pointer none]⟩ .leaf)) 176 ⟨.slice 5,1,24,[.slice none 0 0]⟩ (.node (.node .leaf 178 ⟨.struct [(0,1),(1,1)],2,32,[.pointer none,.slice none 0 0]⟩ .leaf) 180 ⟨.other,1,16,[.nilIface]⟩ .leaf)) 191 ⟨.int .u64,1,8,[.int .u64 0]⟩ (.node (.node (.node .leaf 195 ⟨.other,1,8,[.nilFunc]⟩ .leaf) 196 ⟨.other,1,8,[.nilFunc]⟩ .leaf) 199 ⟨.other,1,8,[.nilFunc]⟩ (.node (.node .leaf 203 ⟨.other,1,8,[.nilFunc]⟩ .leaf) 204 ⟨.slice 23,1,24,[.slice none 0 0]⟩ .leaf))) 217 ⟨.map 9 4,1,8,[.map none]⟩ (.node (.node (.node (.node .leaf 219 ⟨.slice 223,1,24,[.slice none 0 0]⟩ .leaf) 221 ⟨.struct [(0,1),(1,1),(2,1)],3,48,[.string ⟨#[]⟩,.int .i64 0,.slice none 0 0]⟩ (.node .leaf 223 ⟨.struct [(0,1),(1,1)],2,40,[.string ⟨#[]⟩,.slice none 0 0]⟩ .leaf)) 227 ⟨.struct [(0,1),(1,1),(2,1),(3,3),(6,1)],7,112,[.string ⟨#[]⟩,.slice none 0 0,.slice none 0 0,.int .i64 0,.int .i64 0,.slice none 0 0,.int .i64 0]⟩ (.node (.node .leaf 228 ⟨.other,1,8,[.nilFunc]⟩ .leaf) 229 ⟨.slice 79,1,24,[.slice none 0 0]⟩ .leaf)) 231 ⟨.struct [(0,1),(1,1),(2,1),(3,1),(4,1),(5,3)],8,128,[.int .i64 0,.int .i64 0,.slice none 0 0,.slice none 0 0,.slice none 0 0,.int .i64 0,.int .i64 0,.slice none 0 0]⟩ (.node (.node (.node .leaf 232 ⟨.slice 4,1,24,[.slice none 0 0]⟩ .leaf) 233 ⟨.other,1,8,[.nilFunc]⟩ .leaf) 234 ⟨.other,1,8,[.nilFunc]⟩ (.node (.node .leaf 235 ⟨.other,1,8,[.pointer none]⟩ .leaf) 237 ⟨.struct [(0,4),(4,1)],5,120,[.slice none 0 0,.slice none 0 0,.slice none 0 0,.slice none 0 0,.slice none 0 0]⟩ .leaf)))) 244 ⟨.other,1,8,[.pointer none]⟩ (.node (.node (.node (.node (.node .leaf 249 ⟨.int .i64,1,8,[.int .i64 0]⟩ .leaf) 263 ⟨.other,1,8,[.nilFunc]⟩ (.node .leaf 265 ⟨.float .f64,1,8,[.float .f64 0]⟩ .leaf)) 275 ⟨.slice 279,1,24,[.slice none 0 0]⟩ (.node (.node .leaf 279 ⟨.struct [(0,2),(2,3)],5,88,[.int .i64 0,.slice none 0 0,.bool false,.slice none 0 0,.slice none 0 0]⟩ .leaf) 288 ⟨.slice 292,1,24,[.slice none 0 0]⟩ .leaf)) 292 ⟨.struct [(0,1),(1,1),(2,1)],3,32,[.int .i64 0,.string ⟨#[]⟩,.int .i64 0]⟩ (.node (.node (.node .leaf 303 ⟨.other,1,8,[.pointer none]⟩ .leaf) 308 ⟨.int .u64,1,8,[.int .u64 0]⟩ .leaf) 312 ⟨.other,1,8,[.pointer none]⟩ (.node (.node .leaf 329 ⟨.slice 51,1,24,[.slice none 0 0]⟩ .leaf) 331 ⟨.slice 52,1,24,[.slice none 0 0]⟩ .leaf))) 333 ⟨.other,1,8,[.nilFunc]⟩ (.node (.node (.node (.node .leaf 352 ⟨.other,1,8,[.pointer none]⟩ .leaf) 363 ⟨.other,1,8,[.pointer none]⟩ .leaf) 381 ⟨.other,1,8,[.nilFunc]⟩ (.node (.node .leaf 391 ⟨.other,1,8,[.nilFunc]⟩ .leaf) 395 ⟨.struct [(0,1),(1,3),(4,1),(5,1)],6,96,[.slice none 0 0,.int .i64 0,.int .i64 0,.slice none 0 0,.map none,.slice none 0 0]⟩ .leaf)) 396 ⟨.slice 399,1,24,[.slice none 0 0]⟩ (.node (.node (.node .leaf 399 ⟨.struct [(0,1),(1,3)],4,80,[.slice none 0 0,.bool false,.slice none 0 0,.slice none 0 0]⟩ .leaf) 402 ⟨.slice 275,1,24,[.slice none 0 0]⟩ .leaf) 404 ⟨.other,1,8,[.nilFunc]⟩ (.node (.node .leaf 413 ⟨.other,1,8,[.nilFunc]⟩ .leaf) 419 ⟨.slice 109,1,24,[.slice none 0 0]⟩ .leaf))))))
def Ca:Cs:=Ads.find
theorem Aug:Ads.toList.map (fun p=>Gp Go.Proofs.Tryz.prog p.1)=Ads.toList.map (fun p=>some p.2):=by kernel_rfl
theorem Aji:Ct Go.Proofs.Tryz.prog Ca:=Tr.ok Aug
theorem Uo:Go.Proofs.Tryz.prog.follows .mixedOrders=true:=by kernel_rfl
end Go.Ab
namespace Go.Ab.Fn
abbrev Zb:FuncId:=4
abbrev Uy:FuncId:=8
abbrev Kk:FuncId:=10
abbrev Uz:FuncId:=11
abbrev U1:FuncId:=13
abbrev U2:FuncId:=14
abbrev U3:FuncId:=15
abbrev Sh:FuncId:=16
abbrev Jw:FuncId:=17
abbrev Si:FuncId:=18
abbrev Sj:FuncId:=19
abbrev Py:FuncId:=22
abbrev Pz:FuncId:=24
abbrev Oa:FuncId:=25
abbrev M6:FuncId:=26
abbrev M7:FuncId:=27
abbrev Zc:FuncId:=30
abbrev U4:FuncId:=31
abbrev Kl:FuncId:=32
abbrev U5:FuncId:=33
abbrev Zd:FuncId:=34
abbrev Jx:FuncId:=35
abbrev P0:FuncId:=36
abbrev Ob:FuncId:=37
abbrev F1:FuncId:=38
abbrev Oc:FuncId:=39
abbrev Od:FuncId:=40
abbrev Jy:FuncId:=41
abbrev Iq:FuncId:=42
abbrev H9:FuncId:=43
abbrev Ir:FuncId:=44
abbrev Sk:FuncId:=45
abbrev Ze:FuncId:=46
abbrev U6:FuncId:=47
abbrev Hh:FuncId:=48
abbrev Lf:FuncId:=49
abbrev M8:FuncId:=50
abbrev Sl:FuncId:=51
abbrev U7:FuncId:=52
abbrev Sn:FuncId:=53
abbrev So:FuncId:=54
abbrev Adt:FuncId:=57
abbrev Lg:FuncId:=62
abbrev M9:FuncId:=63
abbrev Ma:FuncId:=64
abbrev Sp:FuncId:=65
abbrev P1:FuncId:=66
abbrev Sq:FuncId:=67
abbrev Km:FuncId:=68
abbrev U8:FuncId:=69
abbrev Kn:FuncId:=70
abbrev Na:FuncId:=71
abbrev P3:FuncId:=72
abbrev Zf:FuncId:=73
abbrev U9:FuncId:=74
abbrev Va:FuncId:=75
abbrev Oe:FuncId:=76
abbrev Vb:FuncId:=77
abbrev Vc:FuncId:=78
abbrev Nb:FuncId:=79
abbrev Nc:FuncId:=80
abbrev Nd:FuncId:=81
abbrev Of:FuncId:=82
abbrev Vd:FuncId:=83
abbrev Lh:FuncId:=84
abbrev Sr:FuncId:=85
abbrev Ss:FuncId:=86
abbrev Ve:FuncId:=87
abbrev Su:FuncId:=88
abbrev Vf:FuncId:=89
abbrev Vg:FuncId:=90
abbrev Sv:FuncId:=91
abbrev Vh:FuncId:=92
abbrev P4:FuncId:=93
abbrev Vi:FuncId:=94
abbrev Vj:FuncId:=95
abbrev Vk:FuncId:=96
abbrev Vl:FuncId:=101
abbrev Vm:FuncId:=102
abbrev Sw:FuncId:=105
abbrev Vn:FuncId:=106
abbrev P5:FuncId:=107
abbrev Vo:FuncId:=108
abbrev Sx:FuncId:=109
abbrev Sy:FuncId:=110
abbrev Sz:FuncId:=111
abbrev En:FuncId:=112
abbrev Zg:FuncId:=113
abbrev Mb:FuncId:=114
abbrev Zh:FuncId:=115
abbrev Vp:FuncId:=116
abbrev Adu:FuncId:=117
abbrev Adv:FuncId:=118
abbrev Adw:FuncId:=119
abbrev Adx:FuncId:=120
abbrev Ady:FuncId:=121
abbrev Adz:FuncId:=122
abbrev Li:FuncId:=123
abbrev Nf:FuncId:=124
abbrev Mc:FuncId:=125
abbrev S0:FuncId:=126
abbrev Hi:FuncId:=127
abbrev Jz:FuncId:=128
abbrev G8:FuncId:=129
abbrev Ng:FuncId:=130
abbrev J0:FuncId:=131
abbrev S3:FuncId:=132
abbrev Md:FuncId:=133
abbrev Vq:FuncId:=134
abbrev P6:FuncId:=135
abbrev J1:FuncId:=136
abbrev Zi:FuncId:=137
abbrev Vr:FuncId:=138
abbrev Me:FuncId:=139
abbrev Og:FuncId:=140
abbrev Zj:FuncId:=141
abbrev Vs:FuncId:=142
abbrev Ko:FuncId:=143
abbrev Vt:FuncId:=144
abbrev P7:FuncId:=145
abbrev Vu:FuncId:=146
abbrev S4:FuncId:=147
abbrev Nh:FuncId:=148
abbrev Zk:FuncId:=149
abbrev Ni:FuncId:=150
abbrev Gc:FuncId:=151
abbrev S5:FuncId:=153
abbrev Mf:FuncId:=154
abbrev Zl:FuncId:=155
abbrev Oh:FuncId:=156
abbrev Oi:FuncId:=157
abbrev I3:FuncId:=159
abbrev Vv:FuncId:=160
abbrev Vx:FuncId:=161
abbrev Ad0:FuncId:=162
abbrev I4:FuncId:=163
abbrev P8:FuncId:=164
abbrev Oj:FuncId:=165
abbrev Nj:FuncId:=166
abbrev Mh:FuncId:=167
abbrev P9:FuncId:=168
abbrev Ok:FuncId:=169
abbrev Ad1:FuncId:=170
abbrev Ad2:FuncId:=171
abbrev Vy:FuncId:=178
abbrev Vz:FuncId:=179
abbrev Kp:FuncId:=180
abbrev Lj:FuncId:=181
abbrev V1:FuncId:=182
abbrev Qa:FuncId:=183
abbrev Qb:FuncId:=185
abbrev Lk:FuncId:=186
abbrev Nk:FuncId:=187
abbrev V2:FuncId:=188
abbrev Qc:FuncId:=189
abbrev S6:FuncId:=190
abbrev Zm:FuncId:=191
abbrev V3:FuncId:=192
abbrev Zn:FuncId:=201
abbrev Qd:FuncId:=202
abbrev V4:FuncId:=203
abbrev Zo:FuncId:=204
abbrev V5:FuncId:=205
abbrev V6:FuncId:=206
abbrev Qf:FuncId:=207
abbrev Zp:FuncId:=208
abbrev S7:FuncId:=209
abbrev Qg:FuncId:=210
abbrev Ll:FuncId:=211
abbrev V7:FuncId:=212
abbrev Ad3:FuncId:=213
abbrev Ad4:FuncId:=219
abbrev Nl:FuncId:=222
abbrev Qh:FuncId:=223
abbrev Ol:FuncId:=224
abbrev Om:FuncId:=225
abbrev S8:FuncId:=226
abbrev I5:FuncId:=227
abbrev On:FuncId:=228
abbrev Oo:FuncId:=229
abbrev S9:FuncId:=230
abbrev Ta:FuncId:=231
abbrev Lm:FuncId:=232
abbrev Qi:FuncId:=233
abbrev Zq:FuncId:=234
abbrev Zr:FuncId:=235
abbrev Zs:FuncId:=236
abbrev Tb:FuncId:=237
abbrev Qj:FuncId:=238
abbrev Ad5:FuncId:=239
abbrev Oq:FuncId:=250
abbrev Tc:FuncId:=252
abbrev Qk:FuncId:=254
abbrev V8:FuncId:=255
abbrev Ql:FuncId:=256
abbrev Zt:FuncId:=262
abbrev Zu:FuncId:=263
abbrev Zv:FuncId:=264
abbrev V9:FuncId:=275
abbrev Zw:FuncId:=277
abbrev Nm:FuncId:=278
abbrev Wa:FuncId:=279
abbrev Zx:FuncId:=280
abbrev Zy:FuncId:=281
abbrev Wb:FuncId:=282
abbrev Wc:FuncId:=283
abbrev Wd:FuncId:=284
abbrev We:FuncId:=285
abbrev Qm:FuncId:=289
abbrev Qo:FuncId:=290
abbrev Td:FuncId:=295
abbrev Qp:FuncId:=296
abbrev Te:FuncId:=297
abbrev Wf:FuncId:=298
abbrev Zz:FuncId:=304
abbrev Z0:FuncId:=314
abbrev Tf:FuncId:=316
abbrev Mi:FuncId:=317
abbrev Qq:FuncId:=318
abbrev Tg:FuncId:=319
abbrev Wg:FuncId:=320
abbrev Th:FuncId:=321
abbrev Qs:FuncId:=322
abbrev Wh:FuncId:=323
abbrev Ti:FuncId:=324
abbrev Wi:FuncId:=325
abbrev Ot:FuncId:=326
abbrev Wj:FuncId:=327
abbrev Wk:FuncId:=328
abbrev Qt:FuncId:=329
abbrev Qu:FuncId:=330
abbrev Ou:FuncId:=331
abbrev Qv:FuncId:=355
abbrev Wl:FuncId:=356
end Go.Ab.Fn
namespace Go.Ab
open Go
abbrev O (k:IntKind) (n:Int):AV:=.val (.int k n)
abbrev As (b:Bool):AV:=.val (.bool b)
abbrev Ez (s:ByteArray):AV:=.val (.string s)
abbrev Ao {α:Type} (sz:Nat) (f:α->AV) (l:List α):AV:=.sl sz (l.map f)
abbrev Kq {α:Type} (sz:Nat) (g:List α->List AV) (l:List α):AV:=.sl sz (g l)
structure Bf where
 Var:Int
 Coef:Int
def Dc (x:Bf):AV:=.agg [O .i64 x.Var,O .i64 x.Coef]
structure Ap where
 Const:Int
 Terms:(List Bf)
def C6 (x:Ap):AV:=.agg [O .i64 x.Const,.sl 2 (List.map Dc x.Terms)]
structure Gd where
 Kind:Int
 E:Ap
 F:Ap
 K:Int
def Mj (x:Gd):AV:=.agg [O .i64 x.Kind,O .i64 x.E.Const,.sl 2 (List.map Dc x.E.Terms),O .i64 x.F.Const,.sl 2 (List.map Dc x.F.Terms),O .i64 x.K]
structure Aj where
 Kind:Int
 Num:Int
 Args:(List Aj)
mutual
def Ad6:Aj->AV
 | ⟨x0,x1,x2⟩=>.agg [O .i64 x0,O .i64 x1,.sl 3 (Bm x2)]
def Bm:List Aj->List AV
 | []=>[]
 | x::xs=>Ad6 x::Bm xs
end
def Fv (x:Aj):AV:=.agg [O .i64 x.Kind,O .i64 x.Num,.sl 3 (Bm x.Args)]
theorem Auh (x:Aj):Ad6 x=Fv x:=by cases x; simp only [Ad6,Fv]
theorem I6:∀l:List Aj,Bm l=l.map Fv
 | []=>rfl
 | x::xs=>by simp only [Bm,List.map_cons,Auh,I6 xs]
structure Nn where
 Name:ByteArray
 Args:(List Aj)
def Z1 (x:Nn):AV:=.agg [Ez x.Name,.sl 3 (Bm x.Args)]
structure A8 where
 Name:ByteArray
 Vars:Int
 Cons:(List Nn)
def Cx (x:A8):AV:=.agg [Ez x.Name,O .i64 x.Vars,.sl 2 (List.map Z1 x.Cons)]
structure Bj where
 Data:(List A8)
 Vars:(List Aj)
 Res:Aj
def Gy (x:Bj):AV:=.agg [.sl 3 (List.map Cx x.Data),.sl 3 (Bm x.Vars),O .i64 x.Res.Kind,O .i64 x.Res.Num,.sl 3 (Bm x.Res.Args)]
structure Ak where
 Neg:Bool
 Num:(List Int)
 Den:(List Int)
def Ch (x:Ak):AV:=.agg [As x.Neg,.sl 1 (List.map (O .u32) x.Num),.sl 1 (List.map (O .u32) x.Den)]
structure Br where
 Num:Int
 Kids:(List Br)
mutual
def Ad7:Br->AV
 | ⟨x0,x1⟩=>.agg [O .i64 x0,.sl 2 (Kr x1)]
def Kr:List Br->List AV
 | []=>[]
 | x::xs=>Ad7 x::Kr xs
end
def Ge (x:Br):AV:=.agg [O .i64 x.Num,.sl 2 (Kr x.Kids)]
theorem Aui (x:Br):Ad7 x=Ge x:=by cases x; simp only [Ad7,Ge]
theorem Ks:∀l:List Br,Kr l=l.map Ge
 | []=>rfl
 | x::xs=>by simp only [Kr,List.map_cons,Aui,Ks xs]
structure Bx where
 Var:Int
 Index:Br
def D8 (x:Bx):AV:=.agg [O .i64 x.Var,O .i64 x.Index.Num,.sl 2 (Kr x.Index.Kids)]
structure A6 where
 Lin:Ap
 Deg:Int
def D9 (x:A6):AV:=.agg [O .i64 x.Lin.Const,.sl 2 (List.map Dc x.Lin.Terms),O .i64 x.Deg]
structure Ba where
 Factors:(List Bx)
 Atoms:(List A6)
def Gf (x:Ba):AV:=.agg [.sl 3 (List.map D8 x.Factors),.sl 3 (List.map D9 x.Atoms)]
structure C9 where
 Axiom:Gd
 Coef:Ak
 Passive:Ba
 First:(List Ak)
 Second:(List Ak)
def I7 (x:C9):AV:=.agg [O .i64 x.Axiom.Kind,O .i64 x.Axiom.E.Const,.sl 2 (List.map Dc x.Axiom.E.Terms),O .i64 x.Axiom.F.Const,.sl 2 (List.map Dc x.Axiom.F.Terms),O .i64 x.Axiom.K,As x.Coef.Neg,.sl 1 (List.map (O .u32) x.Coef.Num),.sl 1 (List.map (O .u32) x.Coef.Den),.sl 3 (List.map D8 x.Passive.Factors),.sl 3 (List.map D9 x.Passive.Atoms),.sl 3 (List.map Ch x.First),.sl 3 (List.map Ch x.Second)]
structure Ah where
 Coef:Ak
 Mono:Ba
def Bo (x:Ah):AV:=.agg [As x.Coef.Neg,.sl 1 (List.map (O .u32) x.Coef.Num),.sl 1 (List.map (O .u32) x.Coef.Den),.sl 3 (List.map D8 x.Mono.Factors),.sl 3 (List.map D9 x.Mono.Atoms)]
structure Ga where
 neg:Bool
 n:(List Int)
 d:(List Int)
def Ov (x:Ga):AV:=.agg [As x.neg,.sl 1 (List.map (O .u32) x.n),.sl 1 (List.map (O .u32) x.d)]
structure Ajj where
 Name:ByteArray
 Params:(List Int)
 Captured:(List Int)
 Result:Aj
 Body:Int
def Qw (x:Ajj):AV:=.agg [Ez x.Name,.sl 1 (List.map (O .i64) x.Params),.sl 1 (List.map (O .i64) x.Captured),O .i64 x.Result.Kind,O .i64 x.Result.Num,.sl 3 (Bm x.Result.Args),O .i64 x.Body]
structure Ajk where
 Op:Int
 Num:Int
 Vars:(List Int)
 Binds:(List (List Int))
 Kids:(List Int)
 Type_:Aj
def Qx (x:Ajk):AV:=.agg [O .i64 x.Op,O .i64 x.Num,.sl 1 (List.map (O .i64) x.Vars),.sl 1 (List.map (Ao 1 (O .i64)) x.Binds),.sl 1 (List.map (O .i64) x.Kids),O .i64 x.Type_.Kind,O .i64 x.Type_.Num,.sl 3 (Bm x.Type_.Args)]
structure Is where
 Data:(List A8)
 Codes:(List Ajj)
 Vars:(List Aj)
 Exprs:(List Ajk)
def Qy (x:Is):AV:=.agg [.sl 3 (List.map Cx x.Data),.sl 7 (List.map Qw x.Codes),.sl 3 (Bm x.Vars),.sl 8 (List.map Qx x.Exprs)]
structure Fw where
 data:(List A8)
 vars:Int
 left:Int
structure Bz where
 Index:Br
 Coef:Ak
def Dd (x:Bz):AV:=.agg [O .i64 x.Index.Num,.sl 2 (Kr x.Index.Kids),As x.Coef.Neg,.sl 1 (List.map (O .u32) x.Coef.Num),.sl 1 (List.map (O .u32) x.Coef.Den)]
structure Hu where
 Kind:Int
 Text:ByteArray
 Pos:Int
def Z2 (x:Hu):AV:=.agg [O .i64 x.Kind,Ez x.Text,O .i64 x.Pos]
end Go.Ab
