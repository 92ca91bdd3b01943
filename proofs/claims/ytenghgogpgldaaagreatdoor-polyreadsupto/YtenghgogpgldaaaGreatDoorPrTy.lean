/- The types that the program uses; plain types for its data. -/
import Derived.Test.YtenghgogpgldaaaGreatDoorPrAb2
import Derived.Test.YtenghgogpgldaaaGreatDoorProg
import Derived.KernelRfl
namespace Go.Ab
open Go Go.Proofs
def Um:Tr:=(.node (.node (.node (.node (.node (.node (.node .leaf 1 ⟨.other,1,8,[.nilFunc]⟩ .leaf) 2 ⟨.int .i64,1,8,[.int .i64 0]⟩ (.node .leaf 3 ⟨.int .i64,1,8,[.int .i64 0]⟩ .leaf)) 4 ⟨.bool,1,1,[.bool false]⟩ (.node (.node .leaf 5 ⟨.int .u8,1,1,[.int .u8 0]⟩ .leaf) 9 ⟨.string,1,16,[.string ⟨#[]⟩]⟩ .leaf)) 20 ⟨.other,1,16,[.nilIface]⟩ (.node (.node (.node .leaf 22 ⟨.slice 177,1,24,[.slice none 0 0]⟩ .leaf) 23 ⟨.slice 25,1,24,[.slice none 0 0]⟩ (.node .leaf 25 ⟨.struct [(0,1),(1,1),(2,1)],3,40,[.int .i64 0,.int .i64 0,.slice none 0 0]⟩ .leaf)) 27 ⟨.struct [(0,1),(1,1),(2,3)],5,88,[.slice none 0 0,.slice none 0 0,.int .i64 0,.int .i64 0,.slice none 0 0]⟩ (.node (.node .leaf 28 ⟨.slice 84,1,24,[.slice none 0 0]⟩ .leaf) 32 ⟨.slice 133,1,24,[.slice none 0 0]⟩ .leaf))) 34 ⟨.struct [(0,1),(1,1),(2,1)],3,56,[.bool false,.slice none 0 0,.slice none 0 0]⟩ (.node (.node (.node (.node .leaf 36 ⟨.int .i64,1,8,[.int .i64 0]⟩ .leaf) 42 ⟨.slice 92,1,24,[.slice none 0 0]⟩ (.node .leaf 43 ⟨.slice 95,1,24,[.slice none 0 0]⟩ .leaf)) 45 ⟨.struct [(0,1),(1,1)],2,48,[.slice none 0 0,.slice none 0 0]⟩ (.node (.node .leaf 52 ⟨.slice 3,1,24,[.slice none 0 0]⟩ .leaf) 55 ⟨.slice 57,1,24,[.slice none 0 0]⟩ .leaf)) 57 ⟨.struct [(0,1),(1,1),(2,1)],3,40,[.int .i64 0,.int .i64 0,.slice none 0 0]⟩ (.node (.node (.node .leaf 64 ⟨.slice 28,1,24,[.slice none 0 0]⟩ .leaf) 66 ⟨.other,1,8,[.pointer none]⟩ (.node .leaf 69 ⟨.other,1,8,[.pointer none]⟩ .leaf)) 74 ⟨.map 9 3,1,8,[.map none]⟩ (.node (.node .leaf 76 ⟨.struct [(0,1),(1,1)],2,32,[.map none,.slice none 0 0]⟩ .leaf) 80 ⟨.slice 105,1,24,[.slice none 0 0]⟩ .leaf)))) 82 ⟨.struct [(0,1),(1,1)],2,32,[.int .i64 0,.slice none 0 0]⟩ (.node (.node (.node (.node (.node .leaf 84 ⟨.struct [(0,3),(3,2)],5,104,[.bool false,.slice none 0 0,.slice none 0 0,.slice none 0 0,.slice none 0 0]⟩ .leaf) 88 ⟨.slice 90,1,24,[.slice none 0 0]⟩ (.node .leaf 90 ⟨.struct [(0,1),(1,1)],2,32,[.int .i64 0,.slice none 0 0]⟩ .leaf)) 92 ⟨.struct [(0,1),(1,2)],3,40,[.int .i64 0,.int .i64 0,.slice none 0 0]⟩ (.node (.node .leaf 95 ⟨.struct [(0,2),(2,1)],3,40,[.int .i64 0,.slice none 0 0,.int .i64 0]⟩ .leaf) 99 ⟨.other,1,8,[.nilFunc]⟩ .leaf)) 101 ⟨.other,1,8,[.nilFunc]⟩ (.node (.node (.node .leaf 105 ⟨.struct [(0,1),(1,1)],2,16,[.int .i64 0,.int .i64 0]⟩ .leaf) 110 ⟨.other,1,8,[.nilFunc]⟩ (.node .leaf 112 ⟨.other,1,8,[.nilFunc]⟩ .leaf)) 120 ⟨.other,1,8,[.nilFunc]⟩ (.node (.node .leaf 122 ⟨.slice 239,1,24,[.slice none 0 0]⟩ .leaf) 123 ⟨.slice 243,1,24,[.slice none 0 0]⟩ .leaf))) 125 ⟨.struct [(0,1),(1,1),(2,1),(3,1)],4,96,[.slice none 0 0,.slice none 0 0,.slice none 0 0,.slice none 0 0]⟩ (.node (.node (.node (.node .leaf 127 ⟨.map 9 274,1,8,[.map none]⟩ .leaf) 129 ⟨.struct [(0,5),(5,1),(6,1)],7,104,[.slice none 0 0,.slice none 0 0,.int .i64 0,.int .i64 0,.slice none 0 0,.map none,.map none]⟩ (.node .leaf 131 ⟨.slice 133,1,24,[.slice none 0 0]⟩ .leaf)) 133 ⟨.int .u32,1,4,[.int .u32 0]⟩ (.node (.node .leaf 135 ⟨.struct [(0,1),(1,1),(2,1)],3,56,[.bool false,.slice none 0 0,.slice none 0 0]⟩ .leaf) 140 ⟨.int .u64,1,8,[.int .u64 0]⟩ .leaf)) 143 ⟨.other,1,8,[.nilFunc]⟩ (.node (.node (.node .leaf 148 ⟨.other,1,8,[.pointer none]⟩ .leaf) 152 ⟨.other,1,8,[.nilFunc]⟩ .leaf) 153 ⟨.other,1,8,[.nilFunc]⟩ (.node (.node .leaf 156 ⟨.other,1,8,[.nilFunc]⟩ .leaf) 164 ⟨.int .u64,1,8,[.int .u64 0]⟩ .leaf))))) 166 ⟨.other,1,8,[.nilFunc]⟩ (.node (.node (.node (.node (.node (.node .leaf 175 ⟨.slice 179,1,24,[.slice none 0 0]⟩ .leaf) 177 ⟨.struct [(0,1),(1,1),(2,1)],3,48,[.string ⟨#[]⟩,.int .i64 0,.slice none 0 0]⟩ (.node .leaf 179 ⟨.struct [(0,1),(1,1)],2,40,[.string ⟨#[]⟩,.slice none 0 0]⟩ .leaf)) 181 ⟨.other,1,8,[.pointer none]⟩ (.node (.node .leaf 183 ⟨.struct [(0,1),(1,1),(2,1)],3,40,[.slice none 0 0,.int .i64 0,.int .i64 0]⟩ .leaf) 184 ⟨.other,1,8,[.pointer none]⟩ .leaf)) 185 ⟨.slice 5,1,24,[.slice none 0 0]⟩ (.node (.node (.node .leaf 187 ⟨.struct [(0,1),(1,1)],2,32,[.pointer none,.slice none 0 0]⟩ .leaf) 189 ⟨.other,1,16,[.nilIface]⟩ (.node .leaf 205 ⟨.other,1,8,[.nilFunc]⟩ .leaf)) 212 ⟨.other,1,8,[.nilFunc]⟩ (.node (.node .leaf 217 ⟨.int .i64,1,8,[.int .i64 0]⟩ .leaf) 234 ⟨.map 9 4,1,8,[.map none]⟩ .leaf))) 239 ⟨.struct [(0,1),(1,1),(2,1),(3,3),(6,1)],7,112,[.string ⟨#[]⟩,.slice none 0 0,.slice none 0 0,.int .i64 0,.int .i64 0,.slice none 0 0,.int .i64 0]⟩ (.node (.node (.node (.node .leaf 240 ⟨.other,1,8,[.nilFunc]⟩ .leaf) 241 ⟨.slice 52,1,24,[.slice none 0 0]⟩ (.node .leaf 243 ⟨.struct [(0,1),(1,1),(2,1),(3,1),(4,1),(5,3)],8,128,[.int .i64 0,.int .i64 0,.slice none 0 0,.slice none 0 0,.slice none 0 0,.int .i64 0,.int .i64 0,.slice none 0 0]⟩ .leaf)) 244 ⟨.slice 4,1,24,[.slice none 0 0]⟩ (.node (.node .leaf 245 ⟨.other,1,8,[.nilFunc]⟩ .leaf) 246 ⟨.other,1,8,[.nilFunc]⟩ .leaf)) 247 ⟨.other,1,8,[.pointer none]⟩ (.node (.node (.node .leaf 249 ⟨.struct [(0,4),(4,1)],5,120,[.slice none 0 0,.slice none 0 0,.slice none 0 0,.slice none 0 0,.slice none 0 0]⟩ .leaf) 256 ⟨.other,1,8,[.pointer none]⟩ .leaf) 259 ⟨.slice 9,1,24,[.slice none 0 0]⟩ (.node (.node .leaf 274 ⟨.slice 278,1,24,[.slice none 0 0]⟩ .leaf) 278 ⟨.struct [(0,2),(2,3)],5,88,[.int .i64 0,.slice none 0 0,.bool false,.slice none 0 0,.slice none 0 0]⟩ .leaf)))) 283 ⟨.slice 34,1,24,[.slice none 0 0]⟩ (.node (.node (.node (.node (.node .leaf 292 ⟨.int .u64,1,8,[.int .u64 0]⟩ .leaf) 299 ⟨.other,1,8,[.nilFunc]⟩ (.node .leaf 304 ⟨.slice 306,1,24,[.slice none 0 0]⟩ .leaf)) 306 ⟨.struct [(0,1),(1,1),(2,1),(3,1)],4,80,[.int .i64 0,.slice none 0 0,.slice none 0 0,.slice none 0 0]⟩ (.node (.node .leaf 309 ⟨.slice 313,1,24,[.slice none 0 0]⟩ .leaf) 313 ⟨.struct [(0,1),(1,1),(2,1)],3,32,[.int .i64 0,.string ⟨#[]⟩,.int .i64 0]⟩ .leaf)) 323 ⟨.other,1,8,[.pointer none]⟩ (.node (.node (.node .leaf 332 ⟨.slice 335,1,24,[.slice none 0 0]⟩ .leaf) 335 ⟨.struct [(0,1),(1,1),(2,1)],3,32,[.int .i64 0,.string ⟨#[]⟩,.int .i64 0]⟩ (.node .leaf 336 ⟨.float .f64,1,8,[.float .f64 0]⟩ .leaf)) 346 ⟨.other,1,8,[.pointer none]⟩ (.node (.node .leaf 350 ⟨.slice 244,1,24,[.slice none 0 0]⟩ .leaf) 351 ⟨.other,1,8,[.nilFunc]⟩ .leaf))) 352 ⟨.other,1,8,[.nilFunc]⟩ (.node (.node (.node (.node .leaf 371 ⟨.other,1,8,[.pointer none]⟩ .leaf) 388 ⟨.other,1,8,[.nilFunc]⟩ (.node .leaf 397 ⟨.other,1,8,[.nilFunc]⟩ .leaf)) 399 ⟨.struct [(0,1),(1,3),(4,1),(5,1)],6,96,[.slice none 0 0,.int .i64 0,.int .i64 0,.slice none 0 0,.map none,.slice none 0 0]⟩ (.node (.node .leaf 400 ⟨.slice 403,1,24,[.slice none 0 0]⟩ .leaf) 403 ⟨.struct [(0,1),(1,3)],4,80,[.slice none 0 0,.bool false,.slice none 0 0,.slice none 0 0]⟩ .leaf)) 406 ⟨.slice 274,1,24,[.slice none 0 0]⟩ (.node (.node (.node .leaf 408 ⟨.other,1,8,[.nilFunc]⟩ .leaf) 410 ⟨.slice 42,1,24,[.slice none 0 0]⟩ .leaf) 412 ⟨.slice 43,1,24,[.slice none 0 0]⟩ (.node (.node .leaf 419 ⟨.other,1,8,[.nilFunc]⟩ .leaf) 426 ⟨.slice 88,1,24,[.slice none 0 0]⟩ .leaf))))))
def B5:Bt:=Um.find
theorem Agv:Um.toList.map (fun p=>Ec Go.Proofs.Tryz.prog p.1)=Um.toList.map (fun p=>some p.2):=by kernel_rfl
theorem Zz:Bu Go.Proofs.Tryz.prog B5:=Tr.ok Agv
theorem M0:Go.Proofs.Tryz.prog.follows .mixedOrders=true:=by kernel_rfl
end Go.Ab
namespace Go.Ab.Fn
abbrev Qf:FuncId:=5
abbrev Qg:FuncId:=10
abbrev Na:FuncId:=11
abbrev Nb:FuncId:=19
abbrev Lt:FuncId:=20
abbrev Lu:FuncId:=21
abbrev Nc:FuncId:=22
abbrev Nd:FuncId:=23
abbrev Nf:FuncId:=24
abbrev Ng:FuncId:=25
abbrev Nh:FuncId:=26
abbrev Ni:FuncId:=27
abbrev Nj:FuncId:=28
abbrev Lv:FuncId:=29
abbrev Nk:FuncId:=30
abbrev Nl:FuncId:=33
abbrev Nm:FuncId:=36
abbrev Qh:FuncId:=37
abbrev Qi:FuncId:=38
abbrev F3:FuncId:=40
abbrev Kg:FuncId:=43
abbrev Un:FuncId:=44
abbrev Uo:FuncId:=45
abbrev Qj:FuncId:=46
abbrev Nn:FuncId:=49
abbrev Qk:FuncId:=50
abbrev Lw:FuncId:=51
abbrev I9:FuncId:=52
abbrev Ij:FuncId:=53
abbrev Lx:FuncId:=54
abbrev Ja:FuncId:=55
abbrev Ql:FuncId:=56
abbrev No:FuncId:=57
abbrev Hg:FuncId:=58
abbrev Ly:FuncId:=59
abbrev Np:FuncId:=60
abbrev Lz:FuncId:=61
abbrev Kh:FuncId:=62
abbrev Qm:FuncId:=68
abbrev Nq:FuncId:=70
abbrev Ki:FuncId:=72
abbrev Up:FuncId:=77
abbrev L0:FuncId:=78
abbrev Uq:FuncId:=79
abbrev Ur:FuncId:=80
abbrev Kj:FuncId:=81
abbrev Ik:FuncId:=82
abbrev Hh:FuncId:=87
abbrev Il:FuncId:=88
abbrev L1:FuncId:=89
abbrev Qo:FuncId:=90
abbrev Us:FuncId:=91
abbrev Ut:FuncId:=92
abbrev Uu:FuncId:=93
abbrev Uv:FuncId:=94
abbrev Kk:FuncId:=97
abbrev Gv:FuncId:=98
abbrev Qp:FuncId:=99
abbrev Nr:FuncId:=100
abbrev Hz:FuncId:=101
abbrev Jb:FuncId:=102
abbrev Qq:FuncId:=103
abbrev Ns:FuncId:=104
abbrev Im:FuncId:=105
abbrev H3:FuncId:=106
abbrev Qs:FuncId:=107
abbrev Kl:FuncId:=108
abbrev Jc:FuncId:=109
abbrev Nt:FuncId:=110
abbrev H4:FuncId:=111
abbrev Nu:FuncId:=112
abbrev Jd:FuncId:=113
abbrev Je:FuncId:=114
abbrev Nv:FuncId:=115
abbrev Nw:FuncId:=116
abbrev L2:FuncId:=117
abbrev Nx:FuncId:=118
abbrev Uw:FuncId:=119
abbrev Qt:FuncId:=120
abbrev Ip:FuncId:=127
abbrev Ux:FuncId:=129
abbrev Uy:FuncId:=132
abbrev Uz:FuncId:=133
abbrev U1:FuncId:=134
abbrev U2:FuncId:=135
abbrev U3:FuncId:=136
abbrev U4:FuncId:=137
abbrev U5:FuncId:=138
abbrev Ny:FuncId:=139
abbrev Qu:FuncId:=140
abbrev Qv:FuncId:=141
abbrev U6:FuncId:=142
abbrev Gw:FuncId:=143
abbrev Nz:FuncId:=144
abbrev Gx:FuncId:=145
abbrev L3:FuncId:=146
abbrev H5:FuncId:=147
abbrev Iq:FuncId:=148
abbrev Qw:FuncId:=149
abbrev L5:FuncId:=155
abbrev N0:FuncId:=156
abbrev Km:FuncId:=157
abbrev Qx:FuncId:=158
abbrev U7:FuncId:=159
abbrev U8:FuncId:=160
abbrev U9:FuncId:=161
abbrev Qy:FuncId:=162
abbrev Va:FuncId:=163
abbrev Vb:FuncId:=164
abbrev Vc:FuncId:=165
abbrev Jf:FuncId:=167
abbrev N1:FuncId:=168
abbrev Qz:FuncId:=169
abbrev N2:FuncId:=170
abbrev N3:FuncId:=171
abbrev L6:FuncId:=172
abbrev N4:FuncId:=173
abbrev Kn:FuncId:=174
abbrev L7:FuncId:=175
abbrev L8:FuncId:=176
abbrev N5:FuncId:=177
abbrev Ko:FuncId:=178
abbrev F4:FuncId:=179
abbrev Vd:FuncId:=180
abbrev Ve:FuncId:=189
abbrev F5:FuncId:=198
abbrev Q0:FuncId:=199
abbrev Q1:FuncId:=200
abbrev Vf:FuncId:=201
abbrev Vg:FuncId:=202
abbrev Q2:FuncId:=209
abbrev Vh:FuncId:=210
abbrev Vi:FuncId:=211
abbrev N6:FuncId:=212
abbrev Vj:FuncId:=213
abbrev N7:FuncId:=214
abbrev N8:FuncId:=216
abbrev Jg:FuncId:=217
abbrev Kp:FuncId:=218
abbrev N9:FuncId:=219
abbrev Kq:FuncId:=220
abbrev Oa:FuncId:=232
abbrev Ob:FuncId:=233
abbrev Vk:FuncId:=234
abbrev Q3:FuncId:=235
abbrev Q4:FuncId:=236
abbrev L9:FuncId:=237
abbrev Q5:FuncId:=239
abbrev Q6:FuncId:=241
abbrev Q7:FuncId:=242
abbrev Ma:FuncId:=243
abbrev Q8:FuncId:=244
abbrev Q9:FuncId:=245
abbrev Vl:FuncId:=246
abbrev Oc:FuncId:=254
abbrev Vm:FuncId:=255
abbrev Ra:FuncId:=256
abbrev Od:FuncId:=265
abbrev Oe:FuncId:=266
abbrev Mb:FuncId:=267
abbrev Vn:FuncId:=270
abbrev Rb:FuncId:=271
abbrev Vo:FuncId:=273
abbrev Of:FuncId:=274
abbrev Vp:FuncId:=275
abbrev Og:FuncId:=286
abbrev Oh:FuncId:=288
abbrev Mc:FuncId:=290
abbrev Kr:FuncId:=291
abbrev Md:FuncId:=292
abbrev Oi:FuncId:=293
abbrev Vq:FuncId:=296
abbrev Vr:FuncId:=298
abbrev Vs:FuncId:=299
abbrev Vt:FuncId:=308
abbrev Vu:FuncId:=309
abbrev Rc:FuncId:=310
abbrev Oj:FuncId:=314
abbrev Re:FuncId:=315
abbrev Rf:FuncId:=328
abbrev Ks:FuncId:=329
abbrev Vv:FuncId:=337
abbrev Vx:FuncId:=338
abbrev Rg:FuncId:=339
abbrev Kt:FuncId:=340
abbrev Rh:FuncId:=346
abbrev Ok:FuncId:=347
abbrev Vy:FuncId:=348
abbrev Vz:FuncId:=349
abbrev V1:FuncId:=350
abbrev Ol:FuncId:=351
abbrev V3:FuncId:=352
abbrev V4:FuncId:=353
abbrev V5:FuncId:=362
abbrev V6:FuncId:=374
abbrev V7:FuncId:=375
abbrev V8:FuncId:=376
abbrev Om:FuncId:=382
abbrev On:FuncId:=391
end Go.Ab.Fn
namespace Go.Ab
open Go
abbrev O (k:IntKind) (n:Int):AV:=.val (.int k n)
abbrev Ao (b:Bool):AV:=.val (.bool b)
abbrev Dk (s:ByteArray):AV:=.val (.string s)
abbrev Ap {α:Type} (sz:Nat) (f:α->AV) (l:List α):AV:=.sl sz (l.map f)
abbrev F6 {α:Type} (sz:Nat) (g:List α->List AV) (l:List α):AV:=.sl sz (g l)
structure Ar where
 Kind:Int
 Num:Int
 Args:(List Ar)
mutual
def V9:Ar->AV
 | ⟨x0,x1,x2⟩=>.agg [O .i64 x0,O .i64 x1,.sl 3 (Bb x2)]
def Bb:List Ar->List AV
 | []=>[]
 | x::xs=>V9 x::Bb xs
end
def Et (x:Ar):AV:=.agg [O .i64 x.Kind,O .i64 x.Num,.sl 3 (Bb x.Args)]
theorem Agw (x:Ar):V9 x=Et x:=by cases x; simp only [V9,Et]
theorem Hi:∀l:List Ar,Bb l=l.map Et
 | []=>rfl
 | x::xs=>by simp only [Bb,List.map_cons,Agw,Hi xs]
structure Wa where
 Name:ByteArray
 Args:(List Ar)
def Agx (x:Wa):AV:=.agg [Dk x.Name,.sl 3 (Bb x.Args)]
structure Bk where
 Name:ByteArray
 Vars:Int
 Cons:(List Wa)
def B8 (x:Bk):AV:=.agg [Dk x.Name,O .i64 x.Vars,.sl 2 (List.map Agx x.Cons)]
structure Fg where
 Data:(List Bk)
 Vars:(List Ar)
 Res:Ar
def Ri (x:Fg):AV:=.agg [.sl 3 (List.map B8 x.Data),.sl 3 (Bb x.Vars),O .i64 x.Res.Kind,O .i64 x.Res.Num,.sl 3 (Bb x.Res.Args)]
structure A3 where
 Neg:Bool
 Num:(List Int)
 Den:(List Int)
def C1 (x:A3):AV:=.agg [Ao x.Neg,.sl 1 (List.map (O .u32) x.Num),.sl 1 (List.map (O .u32) x.Den)]
structure Bl where
 Num:Int
 Kids:(List Bl)
mutual
def Wb:Bl->AV
 | ⟨x0,x1⟩=>.agg [O .i64 x0,.sl 2 (F7 x1)]
def F7:List Bl->List AV
 | []=>[]
 | x::xs=>Wb x::F7 xs
end
def D6 (x:Bl):AV:=.agg [O .i64 x.Num,.sl 2 (F7 x.Kids)]
theorem Agy (x:Bl):Wb x=D6 x:=by cases x; simp only [Wb,D6]
theorem Gy:∀l:List Bl,F7 l=l.map D6
 | []=>rfl
 | x::xs=>by simp only [F7,List.map_cons,Agy,Gy xs]
structure Cl where
 Var:Int
 Index:Bl
def Dl (x:Cl):AV:=.agg [O .i64 x.Var,O .i64 x.Index.Num,.sl 2 (F7 x.Index.Kids)]
structure Ct where
 Var:Int
 Coef:Int
def Ek (x:Ct):AV:=.agg [O .i64 x.Var,O .i64 x.Coef]
structure Dc where
 Const:Int
 Terms:(List Ct)
def F8 (x:Dc):AV:=.agg [O .i64 x.Const,.sl 2 (List.map Ek x.Terms)]
structure B6 where
 Lin:Dc
 Deg:Int
def Df (x:B6):AV:=.agg [O .i64 x.Lin.Const,.sl 2 (List.map Ek x.Lin.Terms),O .i64 x.Deg]
structure Bh where
 Factors:(List Cl)
 Atoms:(List B6)
def Du (x:Bh):AV:=.agg [.sl 3 (List.map Dl x.Factors),.sl 3 (List.map Df x.Atoms)]
structure Me where
 Kind:Int
 Num:Int
 Kids:(List Me)
mutual
def Wc:Me->AV
 | ⟨x0,x1,x2⟩=>.agg [O .i64 x0,O .i64 x1,.sl 3 (Mf x2)]
def Mf:List Me->List AV
 | []=>[]
 | x::xs=>Wc x::Mf xs
end
def Rj (x:Me):AV:=.agg [O .i64 x.Kind,O .i64 x.Num,.sl 3 (Mf x.Kids)]
theorem Agz (x:Me):Wc x=Rj x:=by cases x; simp only [Wc,Rj]
theorem Hj:∀l:List Me,Mf l=l.map Rj
 | []=>rfl
 | x::xs=>by simp only [Mf,List.map_cons,Agz,Hj xs]
structure Aw where
 Coef:A3
 Mono:Bh
def Bx (x:Aw):AV:=.agg [Ao x.Coef.Neg,.sl 1 (List.map (O .u32) x.Coef.Num),.sl 1 (List.map (O .u32) x.Coef.Den),.sl 3 (List.map Dl x.Mono.Factors),.sl 3 (List.map Df x.Mono.Atoms)]
structure Z0 where
 Name:ByteArray
 Params:(List Int)
 Captured:(List Int)
 Result:Ar
 Body:Int
def Ku (x:Z0):AV:=.agg [Dk x.Name,.sl 1 (List.map (O .i64) x.Params),.sl 1 (List.map (O .i64) x.Captured),O .i64 x.Result.Kind,O .i64 x.Result.Num,.sl 3 (Bb x.Result.Args),O .i64 x.Body]
structure Z1 where
 Op:Int
 Num:Int
 Vars:(List Int)
 Binds:(List (List Int))
 Kids:(List Int)
 Type_:Ar
def Kv (x:Z1):AV:=.agg [O .i64 x.Op,O .i64 x.Num,.sl 1 (List.map (O .i64) x.Vars),.sl 1 (List.map (Ap 1 (O .i64)) x.Binds),.sl 1 (List.map (O .i64) x.Kids),O .i64 x.Type_.Kind,O .i64 x.Type_.Num,.sl 3 (Bb x.Type_.Args)]
structure Fq where
 Data:(List Bk)
 Codes:(List Z0)
 Vars:(List Ar)
 Exprs:(List Z1)
def Kw (x:Fq):AV:=.agg [.sl 3 (List.map B8 x.Data),.sl 7 (List.map Ku x.Codes),.sl 3 (Bb x.Vars),.sl 8 (List.map Kv x.Exprs)]
structure D7 where
 neg:Bool
 n:(List Int)
 d:(List Int)
def Jh (x:D7):AV:=.agg [Ao x.neg,.sl 1 (List.map (O .u32) x.n),.sl 1 (List.map (O .u32) x.d)]
structure Dv where
 data:(List Bk)
 vars:Int
 left:Int
structure C2 where
 Index:Bl
 Coef:A3
def Dd (x:C2):AV:=.agg [O .i64 x.Index.Num,.sl 2 (F7 x.Index.Kids),Ao x.Coef.Neg,.sl 1 (List.map (O .u32) x.Coef.Num),.sl 1 (List.map (O .u32) x.Coef.Den)]
structure Fh where
 Kind:Int
 Text:ByteArray
 Pos:Int
def Rk (x:Fh):AV:=.agg [O .i64 x.Kind,Dk x.Text,O .i64 x.Pos]
end Go.Ab
