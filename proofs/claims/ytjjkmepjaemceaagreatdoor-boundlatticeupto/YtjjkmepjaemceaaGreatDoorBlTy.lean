/- The types that the program uses; plain types for its data. -/
import Derived.Test.YtjjkmepjaemceaaGreatDoorBlAb2
import Derived.Test.YtjjkmepjaemceaaGreatDoorProg
import Derived.KernelRfl
namespace Go.Ab
open Go Go.Proofs
def Zp:Tr:=(.node (.node (.node (.node (.node (.node (.node .leaf 1 ⟨.other,1,8,[.nilFunc]⟩ .leaf) 2 ⟨.int .i64,1,8,[.int .i64 0]⟩ (.node .leaf 3 ⟨.int .i64,1,8,[.int .i64 0]⟩ .leaf)) 4 ⟨.bool,1,1,[.bool false]⟩ (.node (.node .leaf 5 ⟨.int .u8,1,1,[.int .u8 0]⟩ .leaf) 9 ⟨.string,1,16,[.string ⟨#[]⟩]⟩ .leaf)) 20 ⟨.other,1,16,[.nilIface]⟩ (.node (.node (.node .leaf 22 ⟨.slice 78,1,24,[.slice none 0 0]⟩ .leaf) 23 ⟨.slice 25,1,24,[.slice none 0 0]⟩ (.node .leaf 25 ⟨.struct [(0,1),(1,1),(2,1)],3,40,[.int .i64 0,.int .i64 0,.slice none 0 0]⟩ .leaf)) 27 ⟨.struct [(0,1),(1,1),(2,3)],5,88,[.slice none 0 0,.slice none 0 0,.int .i64 0,.int .i64 0,.slice none 0 0]⟩ (.node (.node .leaf 28 ⟨.slice 65,1,24,[.slice none 0 0]⟩ .leaf) 29 ⟨.slice 31,1,24,[.slice none 0 0]⟩ .leaf))) 31 ⟨.struct [(0,1),(1,1),(2,1)],3,40,[.int .i64 0,.int .i64 0,.slice none 0 0]⟩ (.node (.node (.node (.node .leaf 32 ⟨.slice 46,1,24,[.slice none 0 0]⟩ .leaf) 36 ⟨.int .i64,1,8,[.int .i64 0]⟩ (.node .leaf 39 ⟨.slice 129,1,24,[.slice none 0 0]⟩ .leaf)) 41 ⟨.struct [(0,1),(1,1),(2,1)],3,56,[.bool false,.slice none 0 0,.slice none 0 0]⟩ (.node (.node .leaf 46 ⟨.struct [(0,1),(1,1),(2,1)],3,24,[.int .i64 0,.int .i64 0,.int .i64 0]⟩ .leaf) 55 ⟨.slice 3,1,24,[.slice none 0 0]⟩ .leaf)) 60 ⟨.slice 88,1,24,[.slice none 0 0]⟩ (.node (.node (.node .leaf 61 ⟨.slice 118,1,24,[.slice none 0 0]⟩ .leaf) 63 ⟨.struct [(0,1),(1,1)],2,48,[.slice none 0 0,.slice none 0 0]⟩ .leaf) 65 ⟨.struct [(0,3),(3,2)],5,104,[.bool false,.slice none 0 0,.slice none 0 0,.slice none 0 0,.slice none 0 0]⟩ (.node (.node .leaf 67 ⟨.slice 41,1,24,[.slice none 0 0]⟩ .leaf) 76 ⟨.slice 125,1,24,[.slice none 0 0]⟩ .leaf)))) 78 ⟨.struct [(0,1),(1,1),(2,1)],3,48,[.string ⟨#[]⟩,.int .i64 0,.slice none 0 0]⟩ (.node (.node (.node (.node (.node .leaf 80 ⟨.map 83 2,1,8,[.map none]⟩ .leaf) 83 ⟨.struct [(0,1),(1,1)],2,16,[.int .i64 0,.int .i64 0]⟩ (.node .leaf 84 ⟨.slice 86,1,24,[.slice none 0 0]⟩ .leaf)) 86 ⟨.struct [(0,1),(1,1)],2,32,[.int .i64 0,.slice none 0 0]⟩ (.node (.node .leaf 88 ⟨.struct [(0,1),(1,2)],3,40,[.int .i64 0,.int .i64 0,.slice none 0 0]⟩ .leaf) 93 ⟨.other,1,8,[.nilFunc]⟩ .leaf)) 97 ⟨.other,1,8,[.pointer none]⟩ (.node (.node (.node .leaf 100 ⟨.other,1,8,[.pointer none]⟩ .leaf) 106 ⟨.map 9 3,1,8,[.map none]⟩ .leaf) 108 ⟨.struct [(0,1),(1,1)],2,32,[.map none,.slice none 0 0]⟩ (.node (.node .leaf 111 ⟨.other,1,8,[.nilFunc]⟩ .leaf) 114 ⟨.slice 120,1,24,[.slice none 0 0]⟩ .leaf))) 116 ⟨.struct [(0,1),(1,1)],2,32,[.int .i64 0,.slice none 0 0]⟩ (.node (.node (.node (.node .leaf 118 ⟨.struct [(0,2),(2,1)],3,40,[.int .i64 0,.slice none 0 0,.int .i64 0]⟩ .leaf) 120 ⟨.struct [(0,1),(1,1)],2,16,[.int .i64 0,.int .i64 0]⟩ (.node .leaf 125 ⟨.struct [(0,1),(1,1)],2,40,[.string ⟨#[]⟩,.slice none 0 0]⟩ .leaf)) 128 ⟨.int .u64,1,8,[.int .u64 0]⟩ (.node (.node .leaf 129 ⟨.int .u32,1,4,[.int .u32 0]⟩ .leaf) 136 ⟨.other,1,8,[.pointer none]⟩ .leaf)) 143 ⟨.slice 129,1,24,[.slice none 0 0]⟩ (.node (.node (.node .leaf 146 ⟨.struct [(0,1),(1,1),(2,1)],3,56,[.bool false,.slice none 0 0,.slice none 0 0]⟩ .leaf) 160 ⟨.slice 28,1,24,[.slice none 0 0]⟩ .leaf) 162 ⟨.slice 288,1,24,[.slice none 0 0]⟩ (.node (.node .leaf 163 ⟨.slice 292,1,24,[.slice none 0 0]⟩ .leaf) 165 ⟨.struct [(0,1),(1,1),(2,1),(3,1)],4,96,[.slice none 0 0,.slice none 0 0,.slice none 0 0,.slice none 0 0]⟩ .leaf))))) 166 ⟨.map 9 310,1,8,[.map none]⟩ (.node (.node (.node (.node (.node (.node .leaf 168 ⟨.struct [(0,5),(5,1),(6,1)],7,104,[.slice none 0 0,.slice none 0 0,.int .i64 0,.int .i64 0,.slice none 0 0,.map none,.map none]⟩ .leaf) 172 ⟨.other,1,8,[.nilFunc]⟩ (.node .leaf 175 ⟨.other,1,8,[.nilFunc]⟩ .leaf)) 177 ⟨.other,1,8,[.nilFunc]⟩ (.node (.node .leaf 188 ⟨.int .u64,1,8,[.int .u64 0]⟩ .leaf) 194 ⟨.other,1,8,[.nilFunc]⟩ .leaf)) 199 ⟨.slice 200,1,24,[.slice none 0 0]⟩ (.node (.node (.node .leaf 200 ⟨.slice 4,1,24,[.slice none 0 0]⟩ .leaf) 202 ⟨.other,1,8,[.nilFunc]⟩ .leaf) 203 ⟨.slice 9,1,24,[.slice none 0 0]⟩ (.node (.node .leaf 219 ⟨.other,1,8,[.nilFunc]⟩ .leaf) 221 ⟨.other,1,8,[.nilFunc]⟩ .leaf))) 224 ⟨.other,1,8,[.pointer none]⟩ (.node (.node (.node (.node .leaf 226 ⟨.struct [(0,1),(1,1),(2,1)],3,40,[.slice none 0 0,.int .i64 0,.int .i64 0]⟩ .leaf) 227 ⟨.other,1,8,[.nilFunc]⟩ (.node .leaf 229 ⟨.other,1,8,[.pointer none]⟩ .leaf)) 230 ⟨.slice 5,1,24,[.slice none 0 0]⟩ (.node (.node .leaf 232 ⟨.struct [(0,1),(1,1)],2,32,[.pointer none,.slice none 0 0]⟩ .leaf) 234 ⟨.other,1,16,[.nilIface]⟩ .leaf)) 252 ⟨.int .i64,1,8,[.int .i64 0]⟩ (.node (.node (.node .leaf 266 ⟨.other,1,8,[.nilFunc]⟩ .leaf) 269 ⟨.slice 273,1,24,[.slice none 0 0]⟩ .leaf) 273 ⟨.struct [(0,1),(1,1),(2,1)],3,32,[.int .i64 0,.string ⟨#[]⟩,.int .i64 0]⟩ (.node (.node .leaf 279 ⟨.other,1,8,[.nilFunc]⟩ .leaf) 283 ⟨.other,1,8,[.nilFunc]⟩ .leaf)))) 284 ⟨.map 9 4,1,8,[.map none]⟩ (.node (.node (.node (.node (.node .leaf 288 ⟨.struct [(0,1),(1,1),(2,1),(3,3),(6,1)],7,112,[.string ⟨#[]⟩,.slice none 0 0,.slice none 0 0,.int .i64 0,.int .i64 0,.slice none 0 0,.int .i64 0]⟩ .leaf) 289 ⟨.other,1,8,[.nilFunc]⟩ (.node .leaf 290 ⟨.slice 55,1,24,[.slice none 0 0]⟩ .leaf)) 292 ⟨.struct [(0,1),(1,1),(2,1),(3,1),(4,1),(5,3)],8,128,[.int .i64 0,.int .i64 0,.slice none 0 0,.slice none 0 0,.slice none 0 0,.int .i64 0,.int .i64 0,.slice none 0 0]⟩ (.node (.node .leaf 293 ⟨.other,1,8,[.nilFunc]⟩ .leaf) 294 ⟨.other,1,8,[.nilFunc]⟩ .leaf)) 295 ⟨.other,1,8,[.pointer none]⟩ (.node (.node (.node .leaf 297 ⟨.struct [(0,4),(4,1)],5,120,[.slice none 0 0,.slice none 0 0,.slice none 0 0,.slice none 0 0,.slice none 0 0]⟩ .leaf) 304 ⟨.other,1,8,[.pointer none]⟩ .leaf) 310 ⟨.slice 313,1,24,[.slice none 0 0]⟩ (.node (.node .leaf 313 ⟨.struct [(0,2),(2,3)],5,88,[.int .i64 0,.slice none 0 0,.bool false,.slice none 0 0,.slice none 0 0]⟩ .leaf) 316 ⟨.slice 318,1,24,[.slice none 0 0]⟩ .leaf))) 318 ⟨.struct [(0,1),(1,1),(2,1),(3,1)],4,80,[.int .i64 0,.slice none 0 0,.slice none 0 0,.slice none 0 0]⟩ (.node (.node (.node (.node .leaf 319 ⟨.int .u64,1,8,[.int .u64 0]⟩ .leaf) 324 ⟨.float .f64,1,8,[.float .f64 0]⟩ (.node .leaf 325 ⟨.other,1,8,[.nilFunc]⟩ .leaf)) 338 ⟨.slice 341,1,24,[.slice none 0 0]⟩ (.node (.node .leaf 341 ⟨.struct [(0,1),(1,1),(2,1)],3,32,[.int .i64 0,.string ⟨#[]⟩,.int .i64 0]⟩ .leaf) 351 ⟨.other,1,8,[.pointer none]⟩ .leaf)) 357 ⟨.slice 313,1,24,[.slice none 0 0]⟩ (.node (.node (.node .leaf 360 ⟨.other,1,8,[.pointer none]⟩ .leaf) 369 ⟨.other,1,8,[.nilFunc]⟩ .leaf) 376 ⟨.slice 379,1,24,[.slice none 0 0]⟩ (.node (.node .leaf 379 ⟨.struct [(0,1),(1,3)],4,80,[.slice none 0 0,.bool false,.slice none 0 0,.slice none 0 0]⟩ .leaf) 385 ⟨.other,1,8,[.nilFunc]⟩ .leaf))))))
def Ca:Cj:=Zp.find
theorem Anc:Zp.toList.map (fun p=>Fu Go.Proofs.Tryz.prog p.1)=Zp.toList.map (fun p=>some p.2):=by kernel_rfl
theorem Aer:Ck Go.Proofs.Tryz.prog Ca:=Tr.ok Anc
theorem Rp:Go.Proofs.Tryz.prog.follows .mixedOrders=true:=by kernel_rfl
end Go.Ab
namespace Go.Ab.Fn
abbrev Vm:FuncId:=4
abbrev Vn:FuncId:=7
abbrev Nn:FuncId:=8
abbrev Pn:FuncId:=14
abbrev Zq:FuncId:=15
abbrev Po:FuncId:=17
abbrev No:FuncId:=18
abbrev Pp:FuncId:=19
abbrev Pq:FuncId:=20
abbrev L0:FuncId:=21
abbrev Pr:FuncId:=22
abbrev Zr:FuncId:=29
abbrev L1:FuncId:=30
abbrev Vo:FuncId:=31
abbrev Zs:FuncId:=32
abbrev R0:FuncId:=33
abbrev L2:FuncId:=34
abbrev Kd:FuncId:=36
abbrev Zt:FuncId:=37
abbrev Hw:FuncId:=42
abbrev Vp:FuncId:=43
abbrev Np:FuncId:=45
abbrev Nq:FuncId:=46
abbrev R3:FuncId:=49
abbrev Nr:FuncId:=50
abbrev Ns:FuncId:=51
abbrev Vq:FuncId:=52
abbrev R4:FuncId:=53
abbrev R5:FuncId:=54
abbrev Vr:FuncId:=55
abbrev Ps:FuncId:=56
abbrev Pt:FuncId:=57
abbrev Pu:FuncId:=58
abbrev Ke:FuncId:=59
abbrev Pv:FuncId:=60
abbrev Kf:FuncId:=61
abbrev R6:FuncId:=62
abbrev R7:FuncId:=63
abbrev R8:FuncId:=64
abbrev Nt:FuncId:=65
abbrev Ic:FuncId:=67
abbrev L3:FuncId:=71
abbrev Ie:FuncId:=76
abbrev K2:FuncId:=77
abbrev Zu:FuncId:=78
abbrev Iu:FuncId:=79
abbrev R9:FuncId:=80
abbrev Sa:FuncId:=81
abbrev Sb:FuncId:=87
abbrev K4:FuncId:=88
abbrev Sc:FuncId:=93
abbrev L5:FuncId:=94
abbrev Zv:FuncId:=95
abbrev Iv:FuncId:=97
abbrev Jp:FuncId:=98
abbrev Vs:FuncId:=99
abbrev Kg:FuncId:=102
abbrev Iw:FuncId:=103
abbrev Sd:FuncId:=104
abbrev L6:FuncId:=105
abbrev L7:FuncId:=106
abbrev Se:FuncId:=107
abbrev Sf:FuncId:=108
abbrev Sg:FuncId:=109
abbrev Jq:FuncId:=110
abbrev L8:FuncId:=111
abbrev Nu:FuncId:=112
abbrev L9:FuncId:=113
abbrev Pw:FuncId:=114
abbrev K5:FuncId:=115
abbrev Sh:FuncId:=116
abbrev Si:FuncId:=117
abbrev Px:FuncId:=118
abbrev Py:FuncId:=119
abbrev Sj:FuncId:=120
abbrev Vt:FuncId:=121
abbrev Sk:FuncId:=122
abbrev Nv:FuncId:=123
abbrev Ma:FuncId:=124
abbrev K6:FuncId:=125
abbrev Sl:FuncId:=135
abbrev Pz:FuncId:=136
abbrev Sm:FuncId:=137
abbrev Nw:FuncId:=138
abbrev Nx:FuncId:=139
abbrev Zw:FuncId:=145
abbrev Ny:FuncId:=147
abbrev Nz:FuncId:=149
abbrev K7:FuncId:=150
abbrev P0:FuncId:=151
abbrev K8:FuncId:=152
abbrev Mb:FuncId:=153
abbrev K9:FuncId:=157
abbrev Vu:FuncId:=158
abbrev Sn:FuncId:=159
abbrev P1:FuncId:=160
abbrev Hx:FuncId:=161
abbrev So:FuncId:=162
abbrev P2:FuncId:=163
abbrev Mc:FuncId:=164
abbrev Hy:FuncId:=166
abbrev N0:FuncId:=167
abbrev P3:FuncId:=168
abbrev N1:FuncId:=169
abbrev N2:FuncId:=170
abbrev Ix:FuncId:=171
abbrev Vv:FuncId:=172
abbrev Sp:FuncId:=173
abbrev Kh:FuncId:=174
abbrev Md:FuncId:=175
abbrev Vx:FuncId:=176
abbrev Sq:FuncId:=177
abbrev Me:FuncId:=178
abbrev N3:FuncId:=179
abbrev P4:FuncId:=180
abbrev Sr:FuncId:=181
abbrev Zx:FuncId:=182
abbrev Zy:FuncId:=183
abbrev Zz:FuncId:=184
abbrev Z0:FuncId:=185
abbrev Z1:FuncId:=186
abbrev Z2:FuncId:=187
abbrev Jr:FuncId:=188
abbrev Ki:FuncId:=189
abbrev P5:FuncId:=190
abbrev Hi:FuncId:=191
abbrev Mf:FuncId:=192
abbrev F4:FuncId:=193
abbrev La:FuncId:=194
abbrev Iy:FuncId:=195
abbrev Ss:FuncId:=196
abbrev Su:FuncId:=197
abbrev Vy:FuncId:=198
abbrev P6:FuncId:=199
abbrev Sv:FuncId:=200
abbrev N4:FuncId:=201
abbrev Vz:FuncId:=218
abbrev Sw:FuncId:=219
abbrev Sx:FuncId:=220
abbrev N5:FuncId:=224
abbrev N6:FuncId:=225
abbrev Mh:FuncId:=226
abbrev V1:FuncId:=227
abbrev Mi:FuncId:=228
abbrev Z3:FuncId:=229
abbrev N7:FuncId:=230
abbrev Sy:FuncId:=231
abbrev N8:FuncId:=232
abbrev Sz:FuncId:=233
abbrev Z4:FuncId:=234
abbrev Mj:FuncId:=235
abbrev P7:FuncId:=236
abbrev S0:FuncId:=238
abbrev S3:FuncId:=239
abbrev V2:FuncId:=240
abbrev S4:FuncId:=241
abbrev S5:FuncId:=242
abbrev N9:FuncId:=243
abbrev Mk:FuncId:=244
abbrev Z5:FuncId:=245
abbrev Z6:FuncId:=246
abbrev S6:FuncId:=253
abbrev S7:FuncId:=254
abbrev S8:FuncId:=255
abbrev Kj:FuncId:=256
abbrev Oa:FuncId:=257
abbrev S9:FuncId:=258
abbrev Ob:FuncId:=259
abbrev Oc:FuncId:=261
abbrev Js:FuncId:=262
abbrev Ta:FuncId:=263
abbrev Od:FuncId:=271
abbrev Tb:FuncId:=282
abbrev P8:FuncId:=283
abbrev P9:FuncId:=284
abbrev V3:FuncId:=285
abbrev Tc:FuncId:=286
abbrev Td:FuncId:=287
abbrev Oe:FuncId:=288
abbrev Qa:FuncId:=289
abbrev Of:FuncId:=290
abbrev Qb:FuncId:=291
abbrev Te:FuncId:=292
abbrev Tf:FuncId:=293
abbrev V4:FuncId:=294
abbrev V5:FuncId:=295
abbrev Og:FuncId:=296
abbrev Z7:FuncId:=297
abbrev Oh:FuncId:=308
abbrev Qc:FuncId:=309
abbrev Ml:FuncId:=310
abbrev Qd:FuncId:=311
abbrev Tg:FuncId:=312
abbrev Qf:FuncId:=314
abbrev Th:FuncId:=324
abbrev Ti:FuncId:=325
abbrev Tj:FuncId:=326
abbrev V6:FuncId:=330
abbrev Qg:FuncId:=331
abbrev Oi:FuncId:=332
abbrev Oj:FuncId:=333
abbrev Qh:FuncId:=342
abbrev Ok:FuncId:=343
abbrev Tk:FuncId:=344
abbrev Qi:FuncId:=345
abbrev Tl:FuncId:=346
abbrev Mm:FuncId:=347
abbrev Tm:FuncId:=348
abbrev Tn:FuncId:=349
abbrev V7:FuncId:=352
end Go.Ab.Fn
namespace Go.Ab
open Go
abbrev O (k:IntKind) (n:Int):AV:=.val (.int k n)
abbrev Am (b:Bool):AV:=.val (.bool b)
abbrev C8 (s:ByteArray):AV:=.val (.string s)
abbrev Aw {α:Type} (sz:Nat) (f:α->AV) (l:List α):AV:=.sl sz (l.map f)
abbrev Fj {α:Type} (sz:Nat) (g:List α->List AV) (l:List α):AV:=.sl sz (g l)
structure Ah where
 Kind:Int
 Num:Int
 Args:(List Ah)
mutual
def Z8:Ah->AV
 | ⟨x0,x1,x2⟩=>.agg [O .i64 x0,O .i64 x1,.sl 3 (Bh x2)]
def Bh:List Ah->List AV
 | []=>[]
 | x::xs=>Z8 x::Bh xs
end
def C3 (x:Ah):AV:=.agg [O .i64 x.Kind,O .i64 x.Num,.sl 3 (Bh x.Args)]
theorem Ane (x:Ah):Z8 x=C3 x:=by cases x; simp only [Z8,C3]
theorem Hz:∀l:List Ah,Bh l=l.map C3
 | []=>rfl
 | x::xs=>by simp only [Bh,List.map_cons,Ane,Hz xs]
structure Ig where
 Name:ByteArray
 Args:(List Ah)
def V8 (x:Ig):AV:=.agg [C8 x.Name,.sl 3 (Bh x.Args)]
structure As where
 Name:ByteArray
 Vars:Int
 Cons:(List Ig)
def B7 (x:As):AV:=.agg [C8 x.Name,O .i64 x.Vars,.sl 2 (List.map V8 x.Cons)]
structure B0 where
 Data:(List As)
 Vars:(List Ah)
 Res:Ah
def E3 (x:B0):AV:=.agg [.sl 3 (List.map B7 x.Data),.sl 3 (Bh x.Vars),O .i64 x.Res.Kind,O .i64 x.Res.Num,.sl 3 (Bh x.Res.Args)]
structure Qj where
 Kind:Int
 Num:Int
 Kids:(List Qj)
mutual
def Z9:Qj->AV
 | ⟨x0,x1,x2⟩=>.agg [O .i64 x0,O .i64 x1,.sl 3 (Qk x2)]
def Qk:List Qj->List AV
 | []=>[]
 | x::xs=>Z9 x::Qk xs
end
def V9 (x:Qj):AV:=.agg [O .i64 x.Kind,O .i64 x.Num,.sl 3 (Qk x.Kids)]
theorem Anf (x:Qj):Z9 x=V9 x:=by cases x; simp only [Z9,V9]
theorem Jt:∀l:List Qj,Qk l=l.map V9
 | []=>rfl
 | x::xs=>by simp only [Qk,List.map_cons,Anf,Jt xs]
structure A3 where
 Neg:Bool
 Num:(List Int)
 Den:(List Int)
def Cy (x:A3):AV:=.agg [Am x.Neg,.sl 1 (List.map (O .u32) x.Num),.sl 1 (List.map (O .u32) x.Den)]
structure A6 where
 Num:Int
 Kids:(List A6)
mutual
def Aaa:A6->AV
 | ⟨x0,x1⟩=>.agg [O .i64 x0,.sl 2 (Gg x1)]
def Gg:List A6->List AV
 | []=>[]
 | x::xs=>Aaa x::Gg xs
end
def Ek (x:A6):AV:=.agg [O .i64 x.Num,.sl 2 (Gg x.Kids)]
theorem Ang (x:A6):Aaa x=Ek x:=by cases x; simp only [Aaa,Ek]
theorem Iz:∀l:List A6,Gg l=l.map Ek
 | []=>rfl
 | x::xs=>by simp only [Gg,List.map_cons,Ang,Iz xs]
structure Cw where
 Var:Int
 Index:A6
def G4 (x:Cw):AV:=.agg [O .i64 x.Var,O .i64 x.Index.Num,.sl 2 (Gg x.Index.Kids)]
structure Ds where
 Var:Int
 Coef:Int
def Gx (x:Ds):AV:=.agg [O .i64 x.Var,O .i64 x.Coef]
structure Di where
 Const:Int
 Terms:(List Ds)
def I0 (x:Di):AV:=.agg [O .i64 x.Const,.sl 2 (List.map Gx x.Terms)]
structure C4 where
 Lin:Di
 Deg:Int
def Hj (x:C4):AV:=.agg [O .i64 x.Lin.Const,.sl 2 (List.map Gx x.Lin.Terms),O .i64 x.Deg]
structure Bi where
 Factors:(List Cw)
 Atoms:(List C4)
def Gi (x:Bi):AV:=.agg [.sl 3 (List.map G4 x.Factors),.sl 3 (List.map Hj x.Atoms)]
structure Aj where
 Coef:A3
 Mono:Bi
def B1 (x:Aj):AV:=.agg [Am x.Coef.Neg,.sl 1 (List.map (O .u32) x.Coef.Num),.sl 1 (List.map (O .u32) x.Coef.Den),.sl 3 (List.map G4 x.Mono.Factors),.sl 3 (List.map Hj x.Mono.Atoms)]
structure Fk where
 neg:Bool
 n:(List Int)
 d:(List Int)
def Mn (x:Fk):AV:=.agg [Am x.neg,.sl 1 (List.map (O .u32) x.n),.sl 1 (List.map (O .u32) x.d)]
structure Aes where
 Name:ByteArray
 Params:(List Int)
 Captured:(List Int)
 Result:Ah
 Body:Int
def Ol (x:Aes):AV:=.agg [C8 x.Name,.sl 1 (List.map (O .i64) x.Params),.sl 1 (List.map (O .i64) x.Captured),O .i64 x.Result.Kind,O .i64 x.Result.Num,.sl 3 (Bh x.Result.Args),O .i64 x.Body]
structure Aet where
 Op:Int
 Num:Int
 Vars:(List Int)
 Binds:(List (List Int))
 Kids:(List Int)
 Type_:Ah
def Om (x:Aet):AV:=.agg [O .i64 x.Op,O .i64 x.Num,.sl 1 (List.map (O .i64) x.Vars),.sl 1 (List.map (Aw 1 (O .i64)) x.Binds),.sl 1 (List.map (O .i64) x.Kids),O .i64 x.Type_.Kind,O .i64 x.Type_.Num,.sl 3 (Bh x.Type_.Args)]
structure Hk where
 Data:(List As)
 Codes:(List Aes)
 Vars:(List Ah)
 Exprs:(List Aet)
def On (x:Hk):AV:=.agg [.sl 3 (List.map B7 x.Data),.sl 7 (List.map Ol x.Codes),.sl 3 (Bh x.Vars),.sl 8 (List.map Om x.Exprs)]
structure Et where
 data:(List As)
 vars:Int
 left:Int
structure Hm where
 Kind:Int
 Text:ByteArray
 Pos:Int
def Aab (x:Hm):AV:=.agg [O .i64 x.Kind,C8 x.Text,O .i64 x.Pos]
structure Dv where
 Index:A6
 Coef:A3
def El (x:Dv):AV:=.agg [O .i64 x.Index.Num,.sl 2 (Gg x.Index.Kids),Am x.Coef.Neg,.sl 1 (List.map (O .u32) x.Coef.Num),.sl 1 (List.map (O .u32) x.Coef.Den)]
structure Gy where
 Kind:Int
 Text:ByteArray
 Pos:Int
def Wa (x:Gy):AV:=.agg [O .i64 x.Kind,C8 x.Text,O .i64 x.Pos]
end Go.Ab
