/- The types that the program uses; plain types for its data. -/
import Derived.Test.YtpedagkdpokpkaaGreatDoorWaAb2
import Derived.Test.YtpedagkdpokpkaaGreatDoorProg
import Derived.KernelRfl
namespace Go.Ab
open Go Go.Proofs
def Adt:Tr:=(.node (.node (.node (.node (.node (.node (.node .leaf 1 ⟨.other,1,8,[.nilFunc]⟩ .leaf) 2 ⟨.int .i64,1,8,[.int .i64 0]⟩ (.node .leaf 3 ⟨.int .i64,1,8,[.int .i64 0]⟩ .leaf)) 4 ⟨.bool,1,1,[.bool false]⟩ (.node (.node .leaf 5 ⟨.int .u8,1,1,[.int .u8 0]⟩ .leaf) 9 ⟨.string,1,16,[.string ⟨#[]⟩]⟩ .leaf)) 20 ⟨.other,1,16,[.nilIface]⟩ (.node (.node (.node .leaf 22 ⟨.slice 25,1,24,[.slice none 0 0]⟩ .leaf) 23 ⟨.slice 71,1,24,[.slice none 0 0]⟩ .leaf) 25 ⟨.struct [(0,1),(1,1)],2,32,[.int .i64 0,.slice none 0 0]⟩ (.node (.node .leaf 27 ⟨.struct [(0,1),(1,2),(3,2),(5,1)],6,80,[.int .i64 0,.int .i64 0,.slice none 0 0,.int .i64 0,.slice none 0 0,.int .i64 0]⟩ .leaf) 28 ⟨.slice 50,1,24,[.slice none 0 0]⟩ .leaf))) 34 ⟨.slice 221,1,24,[.slice none 0 0]⟩ (.node (.node (.node (.node .leaf 35 ⟨.slice 37,1,24,[.slice none 0 0]⟩ .leaf) 37 ⟨.struct [(0,1),(1,1),(2,1)],3,40,[.int .i64 0,.int .i64 0,.slice none 0 0]⟩ (.node .leaf 39 ⟨.struct [(0,1),(1,1),(2,3)],5,88,[.slice none 0 0,.slice none 0 0,.int .i64 0,.int .i64 0,.slice none 0 0]⟩ .leaf)) 40 ⟨.slice 75,1,24,[.slice none 0 0]⟩ (.node (.node .leaf 41 ⟨.slice 56,1,24,[.slice none 0 0]⟩ .leaf) 45 ⟨.int .i64,1,8,[.int .i64 0]⟩ .leaf)) 48 ⟨.slice 107,1,24,[.slice none 0 0]⟩ (.node (.node (.node .leaf 50 ⟨.struct [(0,1),(1,1),(2,1)],3,56,[.bool false,.slice none 0 0,.slice none 0 0]⟩ .leaf) 51 ⟨.slice 113,1,24,[.slice none 0 0]⟩ .leaf) 52 ⟨.slice 73,1,24,[.slice none 0 0]⟩ (.node (.node .leaf 54 ⟨.struct [(0,1),(1,1)],2,48,[.slice none 0 0,.slice none 0 0]⟩ .leaf) 56 ⟨.struct [(0,6),(6,3),(9,2),(11,1),(12,1)],13,232,[.int .i64 0,.int .i64 0,.slice none 0 0,.int .i64 0,.slice none 0 0,.int .i64 0,.bool false,.slice none 0 0,.slice none 0 0,.slice none 0 0,.slice none 0 0,.slice none 0 0,.slice none 0 0]⟩ .leaf)))) 71 ⟨.struct [(0,1),(1,1)],2,16,[.int .i64 0,.int .i64 0]⟩ (.node (.node (.node (.node (.node .leaf 73 ⟨.struct [(0,2),(2,1)],3,40,[.int .i64 0,.slice none 0 0,.int .i64 0]⟩ .leaf) 75 ⟨.struct [(0,3),(3,2)],5,104,[.bool false,.slice none 0 0,.slice none 0 0,.slice none 0 0,.slice none 0 0]⟩ (.node .leaf 79 ⟨.slice 3,1,24,[.slice none 0 0]⟩ .leaf)) 86 ⟨.other,1,8,[.pointer none]⟩ (.node (.node .leaf 89 ⟨.other,1,8,[.pointer none]⟩ .leaf) 106 ⟨.int .u64,1,8,[.int .u64 0]⟩ .leaf)) 107 ⟨.int .u32,1,4,[.int .u32 0]⟩ (.node (.node (.node .leaf 109 ⟨.slice 111,1,24,[.slice none 0 0]⟩ .leaf) 111 ⟨.struct [(0,1),(1,1)],2,32,[.int .i64 0,.slice none 0 0]⟩ .leaf) 113 ⟨.struct [(0,1),(1,2)],3,40,[.int .i64 0,.int .i64 0,.slice none 0 0]⟩ (.node (.node .leaf 117 ⟨.slice 107,1,24,[.slice none 0 0]⟩ .leaf) 119 ⟨.struct [(0,1),(1,1),(2,1)],3,56,[.bool false,.slice none 0 0,.slice none 0 0]⟩ .leaf))) 125 ⟨.other,1,8,[.nilFunc]⟩ (.node (.node (.node (.node .leaf 126 ⟨.slice 40,1,24,[.slice none 0 0]⟩ .leaf) 128 ⟨.slice 227,1,24,[.slice none 0 0]⟩ (.node .leaf 129 ⟨.slice 231,1,24,[.slice none 0 0]⟩ .leaf)) 131 ⟨.struct [(0,1),(1,1),(2,1),(3,1)],4,96,[.slice none 0 0,.slice none 0 0,.slice none 0 0,.slice none 0 0]⟩ (.node (.node .leaf 133 ⟨.map 9 3,1,8,[.map none]⟩ .leaf) 134 ⟨.map 9 275,1,8,[.map none]⟩ .leaf)) 136 ⟨.struct [(0,5),(5,1),(6,1)],7,104,[.slice none 0 0,.slice none 0 0,.int .i64 0,.int .i64 0,.slice none 0 0,.map none,.map none]⟩ (.node (.node (.node .leaf 138 ⟨.struct [(0,1),(1,1)],2,32,[.map none,.slice none 0 0]⟩ .leaf) 141 ⟨.other,1,8,[.nilFunc]⟩ .leaf) 144 ⟨.other,1,8,[.nilFunc]⟩ (.node (.node .leaf 148 ⟨.other,1,8,[.nilFunc]⟩ .leaf) 154 ⟨.other,1,8,[.nilFunc]⟩ .leaf))))) 169 ⟨.other,1,8,[.pointer none]⟩ (.node (.node (.node (.node (.node (.node .leaf 171 ⟨.struct [(0,1),(1,1),(2,1)],3,40,[.slice none 0 0,.int .i64 0,.int .i64 0]⟩ .leaf) 172 ⟨.other,1,8,[.nilFunc]⟩ (.node .leaf 175 ⟨.other,1,8,[.pointer none]⟩ .leaf)) 176 ⟨.slice 5,1,24,[.slice none 0 0]⟩ (.node (.node .leaf 178 ⟨.struct [(0,1),(1,1)],2,32,[.pointer none,.slice none 0 0]⟩ .leaf) 180 ⟨.other,1,16,[.nilIface]⟩ .leaf)) 191 ⟨.int .u64,1,8,[.int .u64 0]⟩ (.node (.node (.node .leaf 195 ⟨.other,1,8,[.nilFunc]⟩ .leaf) 196 ⟨.other,1,8,[.nilFunc]⟩ .leaf) 199 ⟨.other,1,8,[.nilFunc]⟩ (.node (.node .leaf 203 ⟨.other,1,8,[.nilFunc]⟩ .leaf) 204 ⟨.slice 23,1,24,[.slice none 0 0]⟩ .leaf))) 217 ⟨.map 9 4,1,8,[.map none]⟩ (.node (.node (.node (.node .leaf 219 ⟨.slice 223,1,24,[.slice none 0 0]⟩ .leaf) 221 ⟨.struct [(0,1),(1,1),(2,1)],3,48,[.string ⟨#[]⟩,.int .i64 0,.slice none 0 0]⟩ (.node .leaf 223 ⟨.struct [(0,1),(1,1)],2,40,[.string ⟨#[]⟩,.slice none 0 0]⟩ .leaf)) 227 ⟨.struct [(0,1),(1,1),(2,1),(3,3),(6,1)],7,112,[.string ⟨#[]⟩,.slice none 0 0,.slice none 0 0,.int .i64 0,.int .i64 0,.slice none 0 0,.int .i64 0]⟩ (.node (.node .leaf 228 ⟨.other,1,8,[.nilFunc]⟩ .leaf) 229 ⟨.slice 79,1,24,[.slice none 0 0]⟩ .leaf)) 231 ⟨.struct [(0,1),(1,1),(2,1),(3,1),(4,1),(5,3)],8,128,[.int .i64 0,.int .i64 0,.slice none 0 0,.slice none 0 0,.slice none 0 0,.int .i64 0,.int .i64 0,.slice none 0 0]⟩ (.node (.node (.node .leaf 232 ⟨.slice 4,1,24,[.slice none 0 0]⟩ .leaf) 233 ⟨.other,1,8,[.nilFunc]⟩ .leaf) 234 ⟨.other,1,8,[.nilFunc]⟩ (.node (.node .leaf 235 ⟨.other,1,8,[.pointer none]⟩ .leaf) 237 ⟨.struct [(0,4),(4,1)],5,120,[.slice none 0 0,.slice none 0 0,.slice none 0 0,.slice none 0 0,.slice none 0 0]⟩ .leaf)))) 244 ⟨.other,1,8,[.pointer none]⟩ (.node (.node (.node (.node (.node .leaf 249 ⟨.int .i64,1,8,[.int .i64 0]⟩ .leaf) 263 ⟨.other,1,8,[.nilFunc]⟩ (.node .leaf 265 ⟨.float .f64,1,8,[.float .f64 0]⟩ .leaf)) 275 ⟨.slice 279,1,24,[.slice none 0 0]⟩ (.node (.node .leaf 279 ⟨.struct [(0,2),(2,3)],5,88,[.int .i64 0,.slice none 0 0,.bool false,.slice none 0 0,.slice none 0 0]⟩ .leaf) 288 ⟨.slice 292,1,24,[.slice none 0 0]⟩ .leaf)) 292 ⟨.struct [(0,1),(1,1),(2,1)],3,32,[.int .i64 0,.string ⟨#[]⟩,.int .i64 0]⟩ (.node (.node (.node .leaf 303 ⟨.other,1,8,[.pointer none]⟩ .leaf) 308 ⟨.int .u64,1,8,[.int .u64 0]⟩ .leaf) 312 ⟨.other,1,8,[.pointer none]⟩ (.node (.node .leaf 329 ⟨.slice 51,1,24,[.slice none 0 0]⟩ .leaf) 331 ⟨.slice 52,1,24,[.slice none 0 0]⟩ .leaf))) 333 ⟨.other,1,8,[.nilFunc]⟩ (.node (.node (.node (.node .leaf 352 ⟨.other,1,8,[.pointer none]⟩ .leaf) 363 ⟨.other,1,8,[.pointer none]⟩ .leaf) 381 ⟨.other,1,8,[.nilFunc]⟩ (.node (.node .leaf 391 ⟨.other,1,8,[.nilFunc]⟩ .leaf) 395 ⟨.struct [(0,1),(1,3),(4,1),(5,1)],6,96,[.slice none 0 0,.int .i64 0,.int .i64 0,.slice none 0 0,.map none,.slice none 0 0]⟩ .leaf)) 396 ⟨.slice 399,1,24,[.slice none 0 0]⟩ (.node (.node (.node .leaf 399 ⟨.struct [(0,1),(1,3)],4,80,[.slice none 0 0,.bool false,.slice none 0 0,.slice none 0 0]⟩ .leaf) 402 ⟨.slice 275,1,24,[.slice none 0 0]⟩ .leaf) 404 ⟨.other,1,8,[.nilFunc]⟩ (.node (.node .leaf 413 ⟨.other,1,8,[.nilFunc]⟩ .leaf) 419 ⟨.slice 109,1,24,[.slice none 0 0]⟩ .leaf))))))
def Cg:Cw:=Adt.find
theorem Auh:Adt.toList.map (fun p=>Gu Go.Proofs.Tryz.prog p.1)=Adt.toList.map (fun p=>some p.2):=by kernel_rfl
theorem Ajm:Cx Go.Proofs.Tryz.prog Cg:=Tr.ok Auh
theorem Ut:Go.Proofs.Tryz.prog.follows .mixedOrders=true:=by kernel_rfl
end Go.Ab
namespace Go.Ab.Fn
abbrev Zc:FuncId:=6
abbrev U3:FuncId:=8
abbrev Kk:FuncId:=10
abbrev U4:FuncId:=11
abbrev U5:FuncId:=13
abbrev Sk:FuncId:=14
abbrev Sl:FuncId:=15
abbrev Adu:FuncId:=16
abbrev I4:FuncId:=17
abbrev Sn:FuncId:=19
abbrev Pz:FuncId:=20
abbrev P0:FuncId:=22
abbrev P1:FuncId:=24
abbrev N9:FuncId:=25
abbrev M5:FuncId:=26
abbrev M6:FuncId:=27
abbrev Zd:FuncId:=30
abbrev U6:FuncId:=31
abbrev Kl:FuncId:=32
abbrev Ze:FuncId:=33
abbrev Adv:FuncId:=34
abbrev Jz:FuncId:=35
abbrev P3:FuncId:=36
abbrev Oa:FuncId:=37
abbrev F7:FuncId:=38
abbrev Ob:FuncId:=39
abbrev Oc:FuncId:=40
abbrev I5:FuncId:=41
abbrev Hz:FuncId:=42
abbrev Hc:FuncId:=43
abbrev Ie:FuncId:=44
abbrev So:FuncId:=45
abbrev Zf:FuncId:=46
abbrev U7:FuncId:=47
abbrev Hm:FuncId:=48
abbrev Lg:FuncId:=49
abbrev M7:FuncId:=50
abbrev Sp:FuncId:=51
abbrev U8:FuncId:=52
abbrev Sq:FuncId:=53
abbrev Sr:FuncId:=54
abbrev Adw:FuncId:=57
abbrev Lh:FuncId:=62
abbrev M8:FuncId:=63
abbrev Md:FuncId:=64
abbrev U9:FuncId:=65
abbrev Ss:FuncId:=66
abbrev Su:FuncId:=67
abbrev Km:FuncId:=68
abbrev Va:FuncId:=69
abbrev Kn:FuncId:=70
abbrev M9:FuncId:=71
abbrev P4:FuncId:=72
abbrev Zg:FuncId:=73
abbrev Vb:FuncId:=74
abbrev Vc:FuncId:=75
abbrev Od:FuncId:=76
abbrev Vd:FuncId:=77
abbrev Ve:FuncId:=78
abbrev Na:FuncId:=79
abbrev Nb:FuncId:=80
abbrev Nc:FuncId:=81
abbrev Oe:FuncId:=82
abbrev Vf:FuncId:=83
abbrev Li:FuncId:=84
abbrev Sv:FuncId:=85
abbrev Sw:FuncId:=86
abbrev Vg:FuncId:=87
abbrev Sx:FuncId:=88
abbrev Vh:FuncId:=89
abbrev Vi:FuncId:=90
abbrev Sy:FuncId:=91
abbrev Vj:FuncId:=92
abbrev P5:FuncId:=93
abbrev Vk:FuncId:=94
abbrev Vl:FuncId:=95
abbrev Vm:FuncId:=96
abbrev Vn:FuncId:=101
abbrev Vo:FuncId:=102
abbrev Sz:FuncId:=105
abbrev Vp:FuncId:=106
abbrev P6:FuncId:=107
abbrev Vq:FuncId:=108
abbrev S0:FuncId:=109
abbrev S3:FuncId:=110
abbrev S4:FuncId:=111
abbrev Ep:FuncId:=112
abbrev Zh:FuncId:=113
abbrev Me:FuncId:=114
abbrev Zi:FuncId:=115
abbrev Vr:FuncId:=116
abbrev Adx:FuncId:=117
abbrev Ady:FuncId:=118
abbrev Adz:FuncId:=119
abbrev Ad0:FuncId:=120
abbrev Ad1:FuncId:=121
abbrev Ad2:FuncId:=122
abbrev Lj:FuncId:=123
abbrev Nd:FuncId:=124
abbrev Mf:FuncId:=125
abbrev S5:FuncId:=126
abbrev Hn:FuncId:=127
abbrev J0:FuncId:=128
abbrev He:FuncId:=129
abbrev Nf:FuncId:=130
abbrev J1:FuncId:=131
abbrev S6:FuncId:=132
abbrev Mh:FuncId:=133
abbrev Vs:FuncId:=134
abbrev P7:FuncId:=135
abbrev J2:FuncId:=136
abbrev Zj:FuncId:=137
abbrev Vt:FuncId:=138
abbrev Mi:FuncId:=139
abbrev Of:FuncId:=140
abbrev Zk:FuncId:=141
abbrev Vu:FuncId:=142
abbrev Ko:FuncId:=143
abbrev Vv:FuncId:=144
abbrev P8:FuncId:=145
abbrev Vx:FuncId:=146
abbrev S7:FuncId:=147
abbrev Ng:FuncId:=148
abbrev Zl:FuncId:=149
abbrev Nh:FuncId:=150
abbrev Gi:FuncId:=151
abbrev S8:FuncId:=153
abbrev Mj:FuncId:=154
abbrev Zm:FuncId:=155
abbrev Og:FuncId:=156
abbrev Oh:FuncId:=157
abbrev I6:FuncId:=159
abbrev Vy:FuncId:=160
abbrev Vz:FuncId:=161
abbrev Ad3:FuncId:=162
abbrev I7:FuncId:=163
abbrev P9:FuncId:=164
abbrev Oi:FuncId:=165
abbrev Ni:FuncId:=166
abbrev Mk:FuncId:=167
abbrev Qa:FuncId:=168
abbrev Oj:FuncId:=169
abbrev Ad4:FuncId:=170
abbrev Ad5:FuncId:=171
abbrev V1:FuncId:=178
abbrev V2:FuncId:=179
abbrev Kp:FuncId:=180
abbrev Lk:FuncId:=181
abbrev V3:FuncId:=182
abbrev Qb:FuncId:=183
abbrev Qc:FuncId:=185
abbrev Ll:FuncId:=186
abbrev Nj:FuncId:=187
abbrev V4:FuncId:=188
abbrev Qd:FuncId:=189
abbrev S9:FuncId:=190
abbrev Zn:FuncId:=191
abbrev V5:FuncId:=192
abbrev Zo:FuncId:=201
abbrev Qf:FuncId:=202
abbrev V6:FuncId:=203
abbrev Zp:FuncId:=204
abbrev V7:FuncId:=205
abbrev V8:FuncId:=206
abbrev Qg:FuncId:=207
abbrev Zq:FuncId:=208
abbrev Ta:FuncId:=209
abbrev Qh:FuncId:=210
abbrev Lm:FuncId:=211
abbrev V9:FuncId:=212
abbrev Ad6:FuncId:=213
abbrev Ad7:FuncId:=219
abbrev Nk:FuncId:=222
abbrev Qi:FuncId:=223
abbrev Ok:FuncId:=224
abbrev Ol:FuncId:=225
abbrev Tb:FuncId:=226
abbrev I8:FuncId:=227
abbrev Om:FuncId:=228
abbrev On:FuncId:=229
abbrev Tc:FuncId:=230
abbrev Td:FuncId:=231
abbrev Ln:FuncId:=232
abbrev Qj:FuncId:=233
abbrev Zr:FuncId:=234
abbrev Zs:FuncId:=235
abbrev Zt:FuncId:=236
abbrev Te:FuncId:=237
abbrev Qk:FuncId:=238
abbrev Ad8:FuncId:=239
abbrev Oo:FuncId:=250
abbrev Tf:FuncId:=252
abbrev Ql:FuncId:=254
abbrev Wa:FuncId:=255
abbrev Qm:FuncId:=256
abbrev Zu:FuncId:=262
abbrev Zv:FuncId:=263
abbrev Zw:FuncId:=264
abbrev Wb:FuncId:=275
abbrev Zx:FuncId:=277
abbrev Nl:FuncId:=278
abbrev Wc:FuncId:=279
abbrev Zy:FuncId:=280
abbrev Zz:FuncId:=281
abbrev Wd:FuncId:=282
abbrev We:FuncId:=283
abbrev Wf:FuncId:=284
abbrev Wg:FuncId:=285
abbrev Qo:FuncId:=289
abbrev Qp:FuncId:=290
abbrev Tg:FuncId:=295
abbrev Qq:FuncId:=296
abbrev Th:FuncId:=297
abbrev Wh:FuncId:=298
abbrev Z0:FuncId:=304
abbrev Z1:FuncId:=314
abbrev Ti:FuncId:=316
abbrev Ml:FuncId:=317
abbrev Qs:FuncId:=318
abbrev Tj:FuncId:=319
abbrev Wi:FuncId:=320
abbrev Tk:FuncId:=321
abbrev Qt:FuncId:=322
abbrev Wj:FuncId:=323
abbrev Tl:FuncId:=324
abbrev Wk:FuncId:=325
abbrev Oq:FuncId:=326
abbrev Wl:FuncId:=327
abbrev Wm:FuncId:=328
abbrev Qu:FuncId:=329
abbrev Qv:FuncId:=330
abbrev Ot:FuncId:=331
abbrev Qw:FuncId:=355
abbrev Wn:FuncId:=356
end Go.Ab.Fn
namespace Go.Ab
open Go
abbrev O (k:IntKind) (n:Int):AV:=.val (.int k n)
abbrev As (b:Bool):AV:=.val (.bool b)
abbrev E5 (s:ByteArray):AV:=.val (.string s)
abbrev Ao {α:Type} (sz:Nat) (f:α->AV) (l:List α):AV:=.sl sz (l.map f)
abbrev Kq {α:Type} (sz:Nat) (g:List α->List AV) (l:List α):AV:=.sl sz (g l)
structure Bf where
 Var:Int
 Coef:Int
def Dd (x:Bf):AV:=.agg [O .i64 x.Var,O .i64 x.Coef]
structure Ar where
 Const:Int
 Terms:(List Bf)
def De (x:Ar):AV:=.agg [O .i64 x.Const,.sl 2 (List.map Dd x.Terms)]
structure Gj where
 Kind:Int
 E:Ar
 F:Ar
 K:Int
def Mm (x:Gj):AV:=.agg [O .i64 x.Kind,O .i64 x.E.Const,.sl 2 (List.map Dd x.E.Terms),O .i64 x.F.Const,.sl 2 (List.map Dd x.F.Terms),O .i64 x.K]
structure Aj where
 Kind:Int
 Num:Int
 Args:(List Aj)
mutual
def Ad9:Aj->AV
 | ⟨x0,x1,x2⟩=>.agg [O .i64 x0,O .i64 x1,.sl 3 (Bo x2)]
def Bo:List Aj->List AV
 | []=>[]
 | x::xs=>Ad9 x::Bo xs
end
def Fx (x:Aj):AV:=.agg [O .i64 x.Kind,O .i64 x.Num,.sl 3 (Bo x.Args)]
theorem Aui (x:Aj):Ad9 x=Fx x:=by cases x; simp only [Ad9,Fx]
theorem I9:∀l:List Aj,Bo l=l.map Fx
 | []=>rfl
 | x::xs=>by simp only [Bo,List.map_cons,Aui,I9 xs]
structure Nm where
 Name:ByteArray
 Args:(List Aj)
def Z2 (x:Nm):AV:=.agg [E5 x.Name,.sl 3 (Bo x.Args)]
structure A9 where
 Name:ByteArray
 Vars:Int
 Cons:(List Nm)
def C2 (x:A9):AV:=.agg [E5 x.Name,O .i64 x.Vars,.sl 2 (List.map Z2 x.Cons)]
structure Bj where
 Data:(List A9)
 Vars:(List Aj)
 Res:Aj
def Gy (x:Bj):AV:=.agg [.sl 3 (List.map C2 x.Data),.sl 3 (Bo x.Vars),O .i64 x.Res.Kind,O .i64 x.Res.Num,.sl 3 (Bo x.Res.Args)]
structure Ak where
 Neg:Bool
 Num:(List Int)
 Den:(List Int)
def Cn (x:Ak):AV:=.agg [As x.Neg,.sl 1 (List.map (O .u32) x.Num),.sl 1 (List.map (O .u32) x.Den)]
structure Bs where
 Num:Int
 Kids:(List Bs)
mutual
def Aea:Bs->AV
 | ⟨x0,x1⟩=>.agg [O .i64 x0,.sl 2 (Kr x1)]
def Kr:List Bs->List AV
 | []=>[]
 | x::xs=>Aea x::Kr xs
end
def Gk (x:Bs):AV:=.agg [O .i64 x.Num,.sl 2 (Kr x.Kids)]
theorem Auj (x:Bs):Aea x=Gk x:=by cases x; simp only [Aea,Gk]
theorem Ks:∀l:List Bs,Kr l=l.map Gk
 | []=>rfl
 | x::xs=>by simp only [Kr,List.map_cons,Auj,Ks xs]
structure Bz where
 Var:Int
 Index:Bs
def Ec (x:Bz):AV:=.agg [O .i64 x.Var,O .i64 x.Index.Num,.sl 2 (Kr x.Index.Kids)]
structure A6 where
 Lin:Ar
 Deg:Int
def Ed (x:A6):AV:=.agg [O .i64 x.Lin.Const,.sl 2 (List.map Dd x.Lin.Terms),O .i64 x.Deg]
structure Ba where
 Factors:(List Bz)
 Atoms:(List A6)
def Gl (x:Ba):AV:=.agg [.sl 3 (List.map Ec x.Factors),.sl 3 (List.map Ed x.Atoms)]
structure D2 where
 Axiom:Gj
 Coef:Ak
 Passive:Ba
 First:(List Ak)
 Second:(List Ak)
def J3 (x:D2):AV:=.agg [O .i64 x.Axiom.Kind,O .i64 x.Axiom.E.Const,.sl 2 (List.map Dd x.Axiom.E.Terms),O .i64 x.Axiom.F.Const,.sl 2 (List.map Dd x.Axiom.F.Terms),O .i64 x.Axiom.K,As x.Coef.Neg,.sl 1 (List.map (O .u32) x.Coef.Num),.sl 1 (List.map (O .u32) x.Coef.Den),.sl 3 (List.map Ec x.Passive.Factors),.sl 3 (List.map Ed x.Passive.Atoms),.sl 3 (List.map Cn x.First),.sl 3 (List.map Cn x.Second)]
structure Ah where
 Coef:Ak
 Mono:Ba
def Bn (x:Ah):AV:=.agg [As x.Coef.Neg,.sl 1 (List.map (O .u32) x.Coef.Num),.sl 1 (List.map (O .u32) x.Coef.Den),.sl 3 (List.map Ec x.Mono.Factors),.sl 3 (List.map Ed x.Mono.Atoms)]
structure Gf where
 neg:Bool
 n:(List Int)
 d:(List Int)
def Ou (x:Gf):AV:=.agg [As x.neg,.sl 1 (List.map (O .u32) x.n),.sl 1 (List.map (O .u32) x.d)]
structure Ajn where
 Name:ByteArray
 Params:(List Int)
 Captured:(List Int)
 Result:Aj
 Body:Int
def Qx (x:Ajn):AV:=.agg [E5 x.Name,.sl 1 (List.map (O .i64) x.Params),.sl 1 (List.map (O .i64) x.Captured),O .i64 x.Result.Kind,O .i64 x.Result.Num,.sl 3 (Bo x.Result.Args),O .i64 x.Body]
structure Ajo where
 Op:Int
 Num:Int
 Vars:(List Int)
 Binds:(List (List Int))
 Kids:(List Int)
 Type_:Aj
def Qy (x:Ajo):AV:=.agg [O .i64 x.Op,O .i64 x.Num,.sl 1 (List.map (O .i64) x.Vars),.sl 1 (List.map (Ao 1 (O .i64)) x.Binds),.sl 1 (List.map (O .i64) x.Kids),O .i64 x.Type_.Kind,O .i64 x.Type_.Num,.sl 3 (Bo x.Type_.Args)]
structure Ir where
 Data:(List A9)
 Codes:(List Ajn)
 Vars:(List Aj)
 Exprs:(List Ajo)
def Qz (x:Ir):AV:=.agg [.sl 3 (List.map C2 x.Data),.sl 7 (List.map Qx x.Codes),.sl 3 (Bo x.Vars),.sl 8 (List.map Qy x.Exprs)]
structure Fy where
 data:(List A9)
 vars:Int
 left:Int
structure B4 where
 Index:Bs
 Coef:Ak
def Df (x:B4):AV:=.agg [O .i64 x.Index.Num,.sl 2 (Kr x.Index.Kids),As x.Coef.Neg,.sl 1 (List.map (O .u32) x.Coef.Num),.sl 1 (List.map (O .u32) x.Coef.Den)]
structure H3 where
 Kind:Int
 Text:ByteArray
 Pos:Int
def Z3 (x:H3):AV:=.agg [O .i64 x.Kind,E5 x.Text,O .i64 x.Pos]
end Go.Ab
