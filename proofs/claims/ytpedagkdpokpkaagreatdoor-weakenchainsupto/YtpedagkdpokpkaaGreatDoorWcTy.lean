/- The types that the program uses; plain types for its data. -/
import Derived.Test.YtpedagkdpokpkaaGreatDoorWcAb2
import Derived.Test.YtpedagkdpokpkaaGreatDoorProg
import Derived.KernelRfl
namespace Go.Ab
open Go Go.Proofs
def Adl:Tr:=(.node (.node (.node (.node (.node (.node (.node .leaf 1 ⟨.other,1,8,[.nilFunc]⟩ .leaf) 2 ⟨.int .i64,1,8,[.int .i64 0]⟩ (.node .leaf 3 ⟨.int .i64,1,8,[.int .i64 0]⟩ .leaf)) 4 ⟨.bool,1,1,[.bool false]⟩ (.node (.node .leaf 5 ⟨.int .u8,1,1,[.int .u8 0]⟩ .leaf) 9 ⟨.string,1,16,[.string ⟨#[]⟩]⟩ .leaf)) 20 ⟨.other,1,16,[.nilIface]⟩ (.node (.node (.node .leaf 22 ⟨.slice 25,1,24,[.slice none 0 0]⟩ .leaf) 23 ⟨.slice 71,1,24,[.slice none 0 0]⟩ .leaf) 25 ⟨.struct [(0,1),(1,1)],2,32,[.int .i64 0,.slice none 0 0]⟩ (.node (.node .leaf 27 ⟨.struct [(0,1),(1,2),(3,2),(5,1)],6,80,[.int .i64 0,.int .i64 0,.slice none 0 0,.int .i64 0,.slice none 0 0,.int .i64 0]⟩ .leaf) 28 ⟨.slice 50,1,24,[.slice none 0 0]⟩ .leaf))) 34 ⟨.slice 221,1,24,[.slice none 0 0]⟩ (.node (.node (.node (.node .leaf 35 ⟨.slice 37,1,24,[.slice none 0 0]⟩ .leaf) 37 ⟨.struct [(0,1),(1,1),(2,1)],3,40,[.int .i64 0,.int .i64 0,.slice none 0 0]⟩ (.node .leaf 39 ⟨.struct [(0,1),(1,1),(2,3)],5,88,[.slice none 0 0,.slice none 0 0,.int .i64 0,.int .i64 0,.slice none 0 0]⟩ .leaf)) 40 ⟨.slice 75,1,24,[.slice none 0 0]⟩ (.node (.node .leaf 41 ⟨.slice 56,1,24,[.slice none 0 0]⟩ .leaf) 45 ⟨.int .i64,1,8,[.int .i64 0]⟩ .leaf)) 48 ⟨.slice 107,1,24,[.slice none 0 0]⟩ (.node (.node (.node .leaf 50 ⟨.struct [(0,1),(1,1),(2,1)],3,56,[.bool false,.slice none 0 0,.slice none 0 0]⟩ .leaf) 51 ⟨.slice 113,1,24,[.slice none 0 0]⟩ .leaf) 52 ⟨.slice 73,1,24,[.slice none 0 0]⟩ (.node (.node .leaf 54 ⟨.struct [(0,1),(1,1)],2,48,[.slice none 0 0,.slice none 0 0]⟩ .leaf) 56 ⟨.struct [(0,6),(6,3),(9,2),(11,1),(12,1)],13,232,[.int .i64 0,.int .i64 0,.slice none 0 0,.int .i64 0,.slice none 0 0,.int .i64 0,.bool false,.slice none 0 0,.slice none 0 0,.slice none 0 0,.slice none 0 0,.slice none 0 0,.slice none 0 0]⟩ .leaf)))) 71 ⟨.struct [(0,1),(1,1)],2,16,[.int .i64 0,.int .i64 0]⟩ (.node (.node (.node (.node (.node .leaf 73 ⟨.struct [(0,2),(2,1)],3,40,[.int .i64 0,.slice none 0 0,.int .i64 0]⟩ .leaf) 75 ⟨.struct [(0,3),(3,2)],5,104,[.bool false,.slice none 0 0,.slice none 0 0,.slice none 0 0,.slice none 0 0]⟩ (.node .leaf 79 ⟨.slice 3,1,24,[.slice none 0 0]⟩ .leaf)) 86 ⟨.other,1,8,[.pointer none]⟩ (.node (.node .leaf 89 ⟨.other,1,8,[.pointer none]⟩ .leaf) 106 ⟨.int .u64,1,8,[.int .u64 0]⟩ .leaf)) 107 ⟨.int .u32,1,4,[.int .u32 0]⟩ (.node (.node (.node .leaf 109 ⟨.slice 111,1,24,[.slice none 0 0]⟩ .leaf) 111 ⟨.struct [(0,1),(1,1)],2,32,[.int .i64 0,.slice none 0 0]⟩ .leaf) 113 ⟨.struct [(0,1),(1,2)],3,40,[.int .i64 0,.int .i64 0,.slice none 0 0]⟩ (.node (.node .leaf 117 ⟨.slice 107,1,24,[.slice none 0 0]⟩ .leaf) 119 ⟨.struct [(0,1),(1,1),(2,1)],3,56,[.bool false,.slice none 0 0,.slice none 0 0]⟩ .leaf))) 125 ⟨.other,1,8,[.nilFunc]⟩ (.node (.node (.node (.node .leaf 126 ⟨.slice 40,1,24,[.slice none 0 0]⟩ .leaf) 128 ⟨.slice 227,1,24,[.slice none 0 0]⟩ (.node .leaf 129 ⟨.slice 231,1,24,[.slice none 0 0]⟩ .leaf)) 131 ⟨.struct [(0,1),(1,1),(2,1),(3,1)],4,96,[.slice none 0 0,.slice none 0 0,.slice none 0 0,.slice none 0 0]⟩ (.node (.node .leaf 133 ⟨.map 9 3,1,8,[.map none]⟩ .leaf) 134 ⟨.map 9 275,1,8,[.map none]⟩ .leaf)) 136 ⟨.struct [(0,5),(5,1),(6,1)],7,104,[.slice none 0 0,.slice none 0 0,.int .i64 0,.int .i64 0,.slice none 0 0,.map none,.map none]⟩ (.node (.node (.node .leaf 138 ⟨.struct [(0,1),(1,1)],2,32,[.map none,.slice none 0 0]⟩ .leaf) 141 ⟨.other,1,8,[.nilFunc]⟩ .leaf) 144 ⟨.other,1,8,[.nilFunc]⟩ (.node (.node .leaf 148 ⟨.other,1,8,[.nilFunc]⟩ .leaf) 154 ⟨.other,1,8,[.nilFunc]⟩ .leaf))))) 169 ⟨.other,1,8,[.pointer none]⟩ (.node (.node (.node (.node (.node (.node .leaf 171 ⟨.struct [(0,1),(1,1),(2,1)],3,40,[.slice none 0 0,.int .i64 0,.int .i64 0]⟩ .leaf) 172 ⟨.other,1,8,[.nilFunc]⟩ (.node .leaf 175 ⟨.other,1,8,[.pointer none]⟩ .leaf)) 176 ⟨.slice 5,1,24,[.slice none 0 0]⟩ (.node (.node .leaf 178 ⟨.struct [(0,1),(1,1)],2,32,[.pointer none,.slice none 0 0]⟩ .leaf) 180 ⟨.other,1,16,[.nilIface]⟩ .leaf)) 191 ⟨.int .u64,1,8,[.int .u64 0]⟩ (.node (.node (.node .leaf 195 ⟨.other,1,8,[.nilFunc]⟩ .leaf) 196 ⟨.other,1,8,[.nilFunc]⟩ .leaf) 199 ⟨.other,1,8,[.nilFunc]⟩ (.node (.node .leaf 203 ⟨.other,1,8,[.nilFunc]⟩ .leaf) 204 ⟨.slice 23,1,24,[.slice none 0 0]⟩ .leaf))) 217 ⟨.map 9 4,1,8,[.map none]⟩ (.node (.node (.node (.node .leaf 219 ⟨.slice 223,1,24,[.slice none 0 0]⟩ .leaf) 221 ⟨.struct [(0,1),(1,1),(2,1)],3,48,[.string ⟨#[]⟩,.int .i64 0,.slice none 0 0]⟩ (.node .leaf 223 ⟨.struct [(0,1),(1,1)],2,40,[.string ⟨#[]⟩,.slice none 0 0]⟩ .leaf)) 227 ⟨.struct [(0,1),(1,1),(2,1),(3,3),(6,1)],7,112,[.string ⟨#[]⟩,.slice none 0 0,.slice none 0 0,.int .i64 0,.int .i64 0,.slice none 0 0,.int .i64 0]⟩ (.node (.node .leaf 228 ⟨.other,1,8,[.nilFunc]⟩ .leaf) 229 ⟨.slice 79,1,24,[.slice none 0 0]⟩ .leaf)) 231 ⟨.struct [(0,1),(1,1),(2,1),(3,1),(4,1),(5,3)],8,128,[.int .i64 0,.int .i64 0,.slice none 0 0,.slice none 0 0,.slice none 0 0,.int .i64 0,.int .i64 0,.slice none 0 0]⟩ (.node (.node (.node .leaf 232 ⟨.slice 4,1,24,[.slice none 0 0]⟩ .leaf) 233 ⟨.other,1,8,[.nilFunc]⟩ .leaf) 234 ⟨.other,1,8,[.nilFunc]⟩ (.node (.node .leaf 235 ⟨.other,1,8,[.pointer none]⟩ .leaf) 237 ⟨.struct [(0,4),(4,1)],5,120,[.slice none 0 0,.slice none 0 0,.slice none 0 0,.slice none 0 0,.slice none 0 0]⟩ .leaf)))) 244 ⟨.other,1,8,[.pointer none]⟩ (.node (.node (.node (.node (.node .leaf 249 ⟨.int .i64,1,8,[.int .i64 0]⟩ .leaf) 263 ⟨.other,1,8,[.nilFunc]⟩ (.node .leaf 265 ⟨.float .f64,1,8,[.float .f64 0]⟩ .leaf)) 275 ⟨.slice 279,1,24,[.slice none 0 0]⟩ (.node (.node .leaf 279 ⟨.struct [(0,2),(2,3)],5,88,[.int .i64 0,.slice none 0 0,.bool false,.slice none 0 0,.slice none 0 0]⟩ .leaf) 288 ⟨.slice 292,1,24,[.slice none 0 0]⟩ .leaf)) 292 ⟨.struct [(0,1),(1,1),(2,1)],3,32,[.int .i64 0,.string ⟨#[]⟩,.int .i64 0]⟩ (.node (.node (.node .leaf 303 ⟨.other,1,8,[.pointer none]⟩ .leaf) 308 ⟨.int .u64,1,8,[.int .u64 0]⟩ .leaf) 312 ⟨.other,1,8,[.pointer none]⟩ (.node (.node .leaf 329 ⟨.slice 51,1,24,[.slice none 0 0]⟩ .leaf) 331 ⟨.slice 52,1,24,[.slice none 0 0]⟩ .leaf))) 333 ⟨.other,1,8,[.nilFunc]⟩ (.node (.node (.node (.node .leaf 352 ⟨.other,1,8,[.pointer none]⟩ .leaf) 363 ⟨.other,1,8,[.pointer none]⟩ .leaf) 381 ⟨.other,1,8,[.nilFunc]⟩ (.node (.node .leaf 391 ⟨.other,1,8,[.nilFunc]⟩ .leaf) 395 ⟨.struct [(0,1),(1,3),(4,1),(5,1)],6,96,[.slice none 0 0,.int .i64 0,.int .i64 0,.slice none 0 0,.map none,.slice none 0 0]⟩ .leaf)) 396 ⟨.slice 399,1,24,[.slice none 0 0]⟩ (.node (.node (.node .leaf 399 ⟨.struct [(0,1),(1,3)],4,80,[.slice none 0 0,.bool false,.slice none 0 0,.slice none 0 0]⟩ .leaf) 402 ⟨.slice 275,1,24,[.slice none 0 0]⟩ .leaf) 404 ⟨.other,1,8,[.nilFunc]⟩ (.node (.node .leaf 413 ⟨.other,1,8,[.nilFunc]⟩ .leaf) 419 ⟨.slice 109,1,24,[.slice none 0 0]⟩ .leaf))))))
def Cb:Cs:=Adl.find
theorem At9:Adl.toList.map (fun p=>Gp Go.Proofs.Tryz.prog p.1)=Adl.toList.map (fun p=>some p.2):=by kernel_rfl
theorem Ajg:Ct Go.Proofs.Tryz.prog Cb:=Tr.ok At9
theorem Ul:Go.Proofs.Tryz.prog.follows .mixedOrders=true:=by kernel_rfl
end Go.Ab
namespace Go.Ab.Fn
abbrev Y5:FuncId:=5
abbrev Uu:FuncId:=8
abbrev Kg:FuncId:=10
abbrev Uv:FuncId:=11
abbrev Uw:FuncId:=13
abbrev Ux:FuncId:=14
abbrev Sd:FuncId:=15
abbrev Adm:FuncId:=16
abbrev I0:FuncId:=17
abbrev Pt:FuncId:=19
abbrev Pu:FuncId:=22
abbrev Pv:FuncId:=24
abbrev N5:FuncId:=25
abbrev M1:FuncId:=26
abbrev M2:FuncId:=27
abbrev Y6:FuncId:=30
abbrev Uy:FuncId:=31
abbrev Kh:FuncId:=32
abbrev Y7:FuncId:=33
abbrev Adn:FuncId:=34
abbrev Ju:FuncId:=35
abbrev Px:FuncId:=36
abbrev N6:FuncId:=37
abbrev F1:FuncId:=38
abbrev N7:FuncId:=39
abbrev N8:FuncId:=40
abbrev Jv:FuncId:=41
abbrev Ij:FuncId:=42
abbrev H7:FuncId:=43
abbrev Ik:FuncId:=44
abbrev Se:FuncId:=45
abbrev Y8:FuncId:=46
abbrev Uz:FuncId:=47
abbrev Hg:FuncId:=48
abbrev Lb:FuncId:=49
abbrev M3:FuncId:=50
abbrev Sf:FuncId:=51
abbrev U1:FuncId:=52
abbrev Sg:FuncId:=53
abbrev Sh:FuncId:=54
abbrev Ado:FuncId:=57
abbrev Lc:FuncId:=62
abbrev M4:FuncId:=63
abbrev L8:FuncId:=64
abbrev U2:FuncId:=65
abbrev Si:FuncId:=66
abbrev Sj:FuncId:=67
abbrev Ki:FuncId:=68
abbrev U3:FuncId:=69
abbrev Kj:FuncId:=70
abbrev M5:FuncId:=71
abbrev Py:FuncId:=72
abbrev Y9:FuncId:=73
abbrev U4:FuncId:=74
abbrev U5:FuncId:=75
abbrev N9:FuncId:=76
abbrev U6:FuncId:=77
abbrev U7:FuncId:=78
abbrev M6:FuncId:=79
abbrev M7:FuncId:=80
abbrev M8:FuncId:=81
abbrev Oa:FuncId:=82
abbrev U8:FuncId:=83
abbrev Ld:FuncId:=84
abbrev Sk:FuncId:=85
abbrev Sl:FuncId:=86
abbrev U9:FuncId:=87
abbrev Sn:FuncId:=88
abbrev Va:FuncId:=89
abbrev Vb:FuncId:=90
abbrev So:FuncId:=91
abbrev Vc:FuncId:=92
abbrev Pz:FuncId:=93
abbrev Vd:FuncId:=94
abbrev Ve:FuncId:=95
abbrev Vf:FuncId:=96
abbrev Vg:FuncId:=101
abbrev Vh:FuncId:=102
abbrev Sp:FuncId:=105
abbrev Vi:FuncId:=106
abbrev P0:FuncId:=107
abbrev Vj:FuncId:=108
abbrev Sq:FuncId:=109
abbrev Sr:FuncId:=110
abbrev Ss:FuncId:=111
abbrev El:FuncId:=112
abbrev Za:FuncId:=113
abbrev L9:FuncId:=114
abbrev Zb:FuncId:=115
abbrev Vk:FuncId:=116
abbrev Adp:FuncId:=117
abbrev Adq:FuncId:=118
abbrev Adr:FuncId:=119
abbrev Ads:FuncId:=120
abbrev Adt:FuncId:=121
abbrev Adu:FuncId:=122
abbrev Lf:FuncId:=123
abbrev M9:FuncId:=124
abbrev Ma:FuncId:=125
abbrev Su:FuncId:=126
abbrev Hh:FuncId:=127
abbrev Jw:FuncId:=128
abbrev G8:FuncId:=129
abbrev Na:FuncId:=130
abbrev Jx:FuncId:=131
abbrev Sv:FuncId:=132
abbrev Mb:FuncId:=133
abbrev Vl:FuncId:=134
abbrev P1:FuncId:=135
abbrev Jy:FuncId:=136
abbrev Zc:FuncId:=137
abbrev Vm:FuncId:=138
abbrev Mc:FuncId:=139
abbrev Ob:FuncId:=140
abbrev Zd:FuncId:=141
abbrev Vn:FuncId:=142
abbrev Kk:FuncId:=143
abbrev Vo:FuncId:=144
abbrev P3:FuncId:=145
abbrev Vp:FuncId:=146
abbrev Sw:FuncId:=147
abbrev Nb:FuncId:=148
abbrev Ze:FuncId:=149
abbrev Nc:FuncId:=150
abbrev Gc:FuncId:=151
abbrev Sx:FuncId:=153
abbrev Md:FuncId:=154
abbrev Zf:FuncId:=155
abbrev Oc:FuncId:=156
abbrev Od:FuncId:=157
abbrev I1:FuncId:=159
abbrev Vq:FuncId:=160
abbrev Vr:FuncId:=161
abbrev Adv:FuncId:=162
abbrev I2:FuncId:=163
abbrev P4:FuncId:=164
abbrev Oe:FuncId:=165
abbrev Nd:FuncId:=166
abbrev Me:FuncId:=167
abbrev P5:FuncId:=168
abbrev Of:FuncId:=169
abbrev Adw:FuncId:=170
abbrev Adx:FuncId:=171
abbrev Vs:FuncId:=178
abbrev Vt:FuncId:=179
abbrev Kl:FuncId:=180
abbrev Lg:FuncId:=181
abbrev Vu:FuncId:=182
abbrev P6:FuncId:=183
abbrev P7:FuncId:=185
abbrev Lh:FuncId:=186
abbrev Nf:FuncId:=187
abbrev Vv:FuncId:=188
abbrev P8:FuncId:=189
abbrev Sy:FuncId:=190
abbrev Zg:FuncId:=191
abbrev Vx:FuncId:=192
abbrev Zh:FuncId:=201
abbrev P9:FuncId:=202
abbrev Vy:FuncId:=203
abbrev Zi:FuncId:=204
abbrev Vz:FuncId:=205
abbrev V1:FuncId:=206
abbrev Qa:FuncId:=207
abbrev Zj:FuncId:=208
abbrev Sz:FuncId:=209
abbrev Qb:FuncId:=210
abbrev Li:FuncId:=211
abbrev V2:FuncId:=212
abbrev Ady:FuncId:=213
abbrev Adz:FuncId:=219
abbrev Ng:FuncId:=222
abbrev Qc:FuncId:=223
abbrev Og:FuncId:=224
abbrev Oh:FuncId:=225
abbrev S0:FuncId:=226
abbrev I3:FuncId:=227
abbrev Oi:FuncId:=228
abbrev Oj:FuncId:=229
abbrev S3:FuncId:=230
abbrev S4:FuncId:=231
abbrev Lj:FuncId:=232
abbrev Qd:FuncId:=233
abbrev Zk:FuncId:=234
abbrev Zl:FuncId:=235
abbrev Zm:FuncId:=236
abbrev S5:FuncId:=237
abbrev Qf:FuncId:=238
abbrev Ad0:FuncId:=239
abbrev Ok:FuncId:=250
abbrev S6:FuncId:=252
abbrev Qg:FuncId:=254
abbrev V3:FuncId:=255
abbrev Qh:FuncId:=256
abbrev Zn:FuncId:=262
abbrev Zo:FuncId:=263
abbrev Zp:FuncId:=264
abbrev V4:FuncId:=275
abbrev Zq:FuncId:=277
abbrev Nh:FuncId:=278
abbrev V5:FuncId:=279
abbrev Zr:FuncId:=280
abbrev Zs:FuncId:=281
abbrev V6:FuncId:=282
abbrev V7:FuncId:=283
abbrev V8:FuncId:=284
abbrev V9:FuncId:=285
abbrev Qi:FuncId:=289
abbrev Qj:FuncId:=290
abbrev S7:FuncId:=295
abbrev Qk:FuncId:=296
abbrev S8:FuncId:=297
abbrev Wa:FuncId:=298
abbrev Zt:FuncId:=304
abbrev Zu:FuncId:=314
abbrev S9:FuncId:=316
abbrev Mf:FuncId:=317
abbrev Ql:FuncId:=318
abbrev Ta:FuncId:=319
abbrev Wb:FuncId:=320
abbrev Tb:FuncId:=321
abbrev Qm:FuncId:=322
abbrev Wc:FuncId:=323
abbrev Tc:FuncId:=324
abbrev Wd:FuncId:=325
abbrev Ol:FuncId:=326
abbrev We:FuncId:=327
abbrev Wf:FuncId:=328
abbrev Qo:FuncId:=329
abbrev Qp:FuncId:=330
abbrev Om:FuncId:=331
abbrev Qq:FuncId:=355
abbrev Wg:FuncId:=356
end Go.Ab.Fn
namespace Go.Ab
open Go
abbrev O (k:IntKind) (n:Int):AV:=.val (.int k n)
abbrev As (b:Bool):AV:=.val (.bool b)
abbrev Ez (s:ByteArray):AV:=.val (.string s)
abbrev Ao {α:Type} (sz:Nat) (f:α->AV) (l:List α):AV:=.sl sz (l.map f)
abbrev Km {α:Type} (sz:Nat) (g:List α->List AV) (l:List α):AV:=.sl sz (g l)
structure Be where
 Var:Int
 Coef:Int
def C9 (x:Be):AV:=.agg [O .i64 x.Var,O .i64 x.Coef]
structure Ar where
 Const:Int
 Terms:(List Be)
def Da (x:Ar):AV:=.agg [O .i64 x.Const,.sl 2 (List.map C9 x.Terms)]
structure Gd where
 Kind:Int
 E:Ar
 F:Ar
 K:Int
def Mh (x:Gd):AV:=.agg [O .i64 x.Kind,O .i64 x.E.Const,.sl 2 (List.map C9 x.E.Terms),O .i64 x.F.Const,.sl 2 (List.map C9 x.F.Terms),O .i64 x.K]
structure Aj where
 Kind:Int
 Num:Int
 Args:(List Aj)
mutual
def Ad1:Aj->AV
 | ⟨x0,x1,x2⟩=>.agg [O .i64 x0,O .i64 x1,.sl 3 (Bm x2)]
def Bm:List Aj->List AV
 | []=>[]
 | x::xs=>Ad1 x::Bm xs
end
def Ft (x:Aj):AV:=.agg [O .i64 x.Kind,O .i64 x.Num,.sl 3 (Bm x.Args)]
theorem Aua (x:Aj):Ad1 x=Ft x:=by cases x; simp only [Ad1,Ft]
theorem I4:∀l:List Aj,Bm l=l.map Ft
 | []=>rfl
 | x::xs=>by simp only [Bm,List.map_cons,Aua,I4 xs]
structure Ni where
 Name:ByteArray
 Args:(List Aj)
def Zv (x:Ni):AV:=.agg [Ez x.Name,.sl 3 (Bm x.Args)]
structure A7 where
 Name:ByteArray
 Vars:Int
 Cons:(List Ni)
def Cx (x:A7):AV:=.agg [Ez x.Name,O .i64 x.Vars,.sl 2 (List.map Zv x.Cons)]
structure Bj where
 Data:(List A7)
 Vars:(List Aj)
 Res:Aj
def Gx (x:Bj):AV:=.agg [.sl 3 (List.map Cx x.Data),.sl 3 (Bm x.Vars),O .i64 x.Res.Kind,O .i64 x.Res.Num,.sl 3 (Bm x.Res.Args)]
structure Ak where
 Neg:Bool
 Num:(List Int)
 Den:(List Int)
def Cj (x:Ak):AV:=.agg [As x.Neg,.sl 1 (List.map (O .u32) x.Num),.sl 1 (List.map (O .u32) x.Den)]
structure Br where
 Num:Int
 Kids:(List Br)
mutual
def Ad2:Br->AV
 | ⟨x0,x1⟩=>.agg [O .i64 x0,.sl 2 (Kn x1)]
def Kn:List Br->List AV
 | []=>[]
 | x::xs=>Ad2 x::Kn xs
end
def Ge (x:Br):AV:=.agg [O .i64 x.Num,.sl 2 (Kn x.Kids)]
theorem Aub (x:Br):Ad2 x=Ge x:=by cases x; simp only [Ad2,Ge]
theorem Ko:∀l:List Br,Kn l=l.map Ge
 | []=>rfl
 | x::xs=>by simp only [Kn,List.map_cons,Aub,Ko xs]
structure Bx where
 Var:Int
 Index:Br
def D8 (x:Bx):AV:=.agg [O .i64 x.Var,O .i64 x.Index.Num,.sl 2 (Kn x.Index.Kids)]
structure A5 where
 Lin:Ar
 Deg:Int
def D9 (x:A5):AV:=.agg [O .i64 x.Lin.Const,.sl 2 (List.map C9 x.Lin.Terms),O .i64 x.Deg]
structure A9 where
 Factors:(List Bx)
 Atoms:(List A5)
def Gf (x:A9):AV:=.agg [.sl 3 (List.map D8 x.Factors),.sl 3 (List.map D9 x.Atoms)]
structure Dy where
 Axiom:Gd
 Coef:Ak
 Passive:A9
 First:(List Ak)
 Second:(List Ak)
def Jz (x:Dy):AV:=.agg [O .i64 x.Axiom.Kind,O .i64 x.Axiom.E.Const,.sl 2 (List.map C9 x.Axiom.E.Terms),O .i64 x.Axiom.F.Const,.sl 2 (List.map C9 x.Axiom.F.Terms),O .i64 x.Axiom.K,As x.Coef.Neg,.sl 1 (List.map (O .u32) x.Coef.Num),.sl 1 (List.map (O .u32) x.Coef.Den),.sl 3 (List.map D8 x.Passive.Factors),.sl 3 (List.map D9 x.Passive.Atoms),.sl 3 (List.map Cj x.First),.sl 3 (List.map Cj x.Second)]
structure Ah where
 Coef:Ak
 Mono:A9
def Bn (x:Ah):AV:=.agg [As x.Coef.Neg,.sl 1 (List.map (O .u32) x.Coef.Num),.sl 1 (List.map (O .u32) x.Coef.Den),.sl 3 (List.map D8 x.Mono.Factors),.sl 3 (List.map D9 x.Mono.Atoms)]
structure F9 where
 neg:Bool
 n:(List Int)
 d:(List Int)
def On (x:F9):AV:=.agg [As x.neg,.sl 1 (List.map (O .u32) x.n),.sl 1 (List.map (O .u32) x.d)]
structure Ajh where
 Name:ByteArray
 Params:(List Int)
 Captured:(List Int)
 Result:Aj
 Body:Int
def Qs (x:Ajh):AV:=.agg [Ez x.Name,.sl 1 (List.map (O .i64) x.Params),.sl 1 (List.map (O .i64) x.Captured),O .i64 x.Result.Kind,O .i64 x.Result.Num,.sl 3 (Bm x.Result.Args),O .i64 x.Body]
structure Aji where
 Op:Int
 Num:Int
 Vars:(List Int)
 Binds:(List (List Int))
 Kids:(List Int)
 Type_:Aj
def Qt (x:Aji):AV:=.agg [O .i64 x.Op,O .i64 x.Num,.sl 1 (List.map (O .i64) x.Vars),.sl 1 (List.map (Ao 1 (O .i64)) x.Binds),.sl 1 (List.map (O .i64) x.Kids),O .i64 x.Type_.Kind,O .i64 x.Type_.Num,.sl 3 (Bm x.Type_.Args)]
structure Il where
 Data:(List A7)
 Codes:(List Ajh)
 Vars:(List Aj)
 Exprs:(List Aji)
def Qu (x:Il):AV:=.agg [.sl 3 (List.map Cx x.Data),.sl 7 (List.map Qs x.Codes),.sl 3 (Bm x.Vars),.sl 8 (List.map Qt x.Exprs)]
structure Fu where
 data:(List A7)
 vars:Int
 left:Int
structure Bz where
 Index:Br
 Coef:Ak
def Db (x:Bz):AV:=.agg [O .i64 x.Index.Num,.sl 2 (Kn x.Index.Kids),As x.Coef.Neg,.sl 1 (List.map (O .u32) x.Coef.Num),.sl 1 (List.map (O .u32) x.Coef.Den)]
structure Ht where
 Kind:Int
 Text:ByteArray
 Pos:Int
def Zw (x:Ht):AV:=.agg [O .i64 x.Kind,Ez x.Text,O .i64 x.Pos]
end Go.Ab
