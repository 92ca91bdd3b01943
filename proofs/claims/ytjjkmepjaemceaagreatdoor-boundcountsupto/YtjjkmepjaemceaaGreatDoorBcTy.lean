/- The types that the program uses; plain types for its data. -/
import Derived.Test.YtjjkmepjaemceaaGreatDoorBcAb2
import Derived.Test.YtjjkmepjaemceaaGreatDoorProg
import Derived.KernelRfl
namespace Go.Ab
open Go Go.Proofs
def Aav:Tr:=(.node (.node (.node (.node (.node (.node (.node .leaf 1 ⟨.other,1,8,[.nilFunc]⟩ .leaf) 2 ⟨.int .i64,1,8,[.int .i64 0]⟩ (.node .leaf 3 ⟨.int .i64,1,8,[.int .i64 0]⟩ .leaf)) 4 ⟨.bool,1,1,[.bool false]⟩ (.node (.node .leaf 5 ⟨.int .u8,1,1,[.int .u8 0]⟩ .leaf) 9 ⟨.string,1,16,[.string ⟨#[]⟩]⟩ .leaf)) 20 ⟨.other,1,16,[.nilIface]⟩ (.node (.node (.node .leaf 22 ⟨.slice 78,1,24,[.slice none 0 0]⟩ .leaf) 23 ⟨.slice 25,1,24,[.slice none 0 0]⟩ (.node .leaf 25 ⟨.struct [(0,1),(1,1),(2,1)],3,40,[.int .i64 0,.int .i64 0,.slice none 0 0]⟩ .leaf)) 27 ⟨.struct [(0,1),(1,1),(2,3)],5,88,[.slice none 0 0,.slice none 0 0,.int .i64 0,.int .i64 0,.slice none 0 0]⟩ (.node (.node .leaf 28 ⟨.slice 65,1,24,[.slice none 0 0]⟩ .leaf) 29 ⟨.slice 31,1,24,[.slice none 0 0]⟩ .leaf))) 31 ⟨.struct [(0,1),(1,1),(2,1)],3,40,[.int .i64 0,.int .i64 0,.slice none 0 0]⟩ (.node (.node (.node (.node .leaf 32 ⟨.slice 46,1,24,[.slice none 0 0]⟩ .leaf) 36 ⟨.int .i64,1,8,[.int .i64 0]⟩ (.node .leaf 39 ⟨.slice 129,1,24,[.slice none 0 0]⟩ .leaf)) 41 ⟨.struct [(0,1),(1,1),(2,1)],3,56,[.bool false,.slice none 0 0,.slice none 0 0]⟩ (.node (.node .leaf 46 ⟨.struct [(0,1),(1,1),(2,1)],3,24,[.int .i64 0,.int .i64 0,.int .i64 0]⟩ .leaf) 55 ⟨.slice 3,1,24,[.slice none 0 0]⟩ .leaf)) 60 ⟨.slice 88,1,24,[.slice none 0 0]⟩ (.node (.node (.node .leaf 61 ⟨.slice 118,1,24,[.slice none 0 0]⟩ .leaf) 63 ⟨.struct [(0,1),(1,1)],2,48,[.slice none 0 0,.slice none 0 0]⟩ .leaf) 65 ⟨.struct [(0,3),(3,2)],5,104,[.bool false,.slice none 0 0,.slice none 0 0,.slice none 0 0,.slice none 0 0]⟩ (.node (.node .leaf 67 ⟨.slice 41,1,24,[.slice none 0 0]⟩ .leaf) 76 ⟨.slice 125,1,24,[.slice none 0 0]⟩ .leaf)))) 78 ⟨.struct [(0,1),(1,1),(2,1)],3,48,[.string ⟨#[]⟩,.int .i64 0,.slice none 0 0]⟩ (.node (.node (.node (.node (.node .leaf 80 ⟨.map 83 2,1,8,[.map none]⟩ .leaf) 83 ⟨.struct [(0,1),(1,1)],2,16,[.int .i64 0,.int .i64 0]⟩ (.node .leaf 84 ⟨.slice 86,1,24,[.slice none 0 0]⟩ .leaf)) 86 ⟨.struct [(0,1),(1,1)],2,32,[.int .i64 0,.slice none 0 0]⟩ (.node (.node .leaf 88 ⟨.struct [(0,1),(1,2)],3,40,[.int .i64 0,.int .i64 0,.slice none 0 0]⟩ .leaf) 93 ⟨.other,1,8,[.nilFunc]⟩ .leaf)) 97 ⟨.other,1,8,[.pointer none]⟩ (.node (.node (.node .leaf 100 ⟨.other,1,8,[.pointer none]⟩ .leaf) 106 ⟨.map 9 3,1,8,[.map none]⟩ .leaf) 108 ⟨.struct [(0,1),(1,1)],2,32,[.map none,.slice none 0 0]⟩ (.node (.node .leaf 111 ⟨.other,1,8,[.nilFunc]⟩ .leaf) 114 ⟨.slice 120,1,24,[.slice none 0 0]⟩ .leaf))) 116 ⟨.struct [(0,1),(1,1)],2,32,[.int .i64 0,.slice none 0 0]⟩ (.node (.node (.node (.node .leaf 118 ⟨.struct [(0,2),(2,1)],3,40,[.int .i64 0,.slice none 0 0,.int .i64 0]⟩ .leaf) 120 ⟨.struct [(0,1),(1,1)],2,16,[.int .i64 0,.int .i64 0]⟩ (.node .leaf 125 ⟨.struct [(0,1),(1,1)],2,40,[.string ⟨#[]⟩,.slice none 0 0]⟩ .leaf)) 128 ⟨.int .u64,1,8,[.int .u64 0]⟩ (.node (.node .leaf 129 ⟨.int .u32,1,4,[.int .u32 0]⟩ .leaf) 136 ⟨.other,1,8,[.pointer none]⟩ .leaf)) 143 ⟨.slice 129,1,24,[.slice none 0 0]⟩ (.node (.node (.node .leaf 146 ⟨.struct [(0,1),(1,1),(2,1)],3,56,[.bool false,.slice none 0 0,.slice none 0 0]⟩ .leaf) 160 ⟨.slice 28,1,24,[.slice none 0 0]⟩ .leaf) 162 ⟨.slice 288,1,24,[.slice none 0 0]⟩ (.node (.node .leaf 163 ⟨.slice 292,1,24,[.slice none 0 0]⟩ .leaf) 165 ⟨.struct [(0,1),(1,1),(2,1),(3,1)],4,96,[.slice none 0 0,.slice none 0 0,.slice none 0 0,.slice none 0 0]⟩ .leaf))))) 166 ⟨.map 9 310,1,8,[.map none]⟩ (.node (.node (.node (.node (.node (.node .leaf 168 ⟨.struct [(0,5),(5,1),(6,1)],7,104,[.slice none 0 0,.slice none 0 0,.int .i64 0,.int .i64 0,.slice none 0 0,.map none,.map none]⟩ .leaf) 172 ⟨.other,1,8,[.nilFunc]⟩ (.node .leaf 175 ⟨.other,1,8,[.nilFunc]⟩ .leaf)) 177 ⟨.other,1,8,[.nilFunc]⟩ (.node (.node .leaf 188 ⟨.int .u64,1,8,[.int .u64 0]⟩ .leaf) 194 ⟨.other,1,8,[.nilFunc]⟩ .leaf)) 199 ⟨.slice 200,1,24,[.slice none 0 0]⟩ (.node (.node (.node .leaf 200 ⟨.slice 4,1,24,[.slice none 0 0]⟩ .leaf) 202 ⟨.other,1,8,[.nilFunc]⟩ .leaf) 203 ⟨.slice 9,1,24,[.slice none 0 0]⟩ (.node (.node .leaf 219 ⟨.other,1,8,[.nilFunc]⟩ .leaf) 221 ⟨.other,1,8,[.nilFunc]⟩ .leaf))) 224 ⟨.other,1,8,[.pointer none]⟩ (.node (.node (.node (.node .leaf 226 ⟨.struct [(0,1),(1,1),(2,1)],3,40,[.slice none 0 0,.int .i64 0,.int .i64 0]⟩ .leaf) 227 ⟨.other,1,8,[.nilFunc]⟩ (.node .leaf 229 ⟨.other,1,8,[.pointer none]⟩ .leaf)) 230 ⟨.slice 5,1,24,[.slice none 0 0]⟩ (.node (.node .leaf 232 ⟨.struct [(0,1),(1,1)],2,32,[.pointer none,.slice none 0 0]⟩ .leaf) 234 ⟨.other,1,16,[.nilIface]⟩ .leaf)) 252 ⟨.int .i64,1,8,[.int .i64 0]⟩ (.node (.node (.node .leaf 266 ⟨.other,1,8,[.nilFunc]⟩ .leaf) 269 ⟨.slice 273,1,24,[.slice none 0 0]⟩ .leaf) 273 ⟨.struct [(0,1),(1,1),(2,1)],3,32,[.int .i64 0,.string ⟨#[]⟩,.int .i64 0]⟩ (.node (.node .leaf 279 ⟨.other,1,8,[.nilFunc]⟩ .leaf) 283 ⟨.other,1,8,[.nilFunc]⟩ .leaf)))) 284 ⟨.map 9 4,1,8,[.map none]⟩ (.node (.node (.node (.node (.node .leaf 288 ⟨.struct [(0,1),(1,1),(2,1),(3,3),(6,1)],7,112,[.string ⟨#[]⟩,.slice none 0 0,.slice none 0 0,.int .i64 0,.int .i64 0,.slice none 0 0,.int .i64 0]⟩ .leaf) 289 ⟨.other,1,8,[.nilFunc]⟩ (.node .leaf 290 ⟨.slice 55,1,24,[.slice none 0 0]⟩ .leaf)) 292 ⟨.struct [(0,1),(1,1),(2,1),(3,1),(4,1),(5,3)],8,128,[.int .i64 0,.int .i64 0,.slice none 0 0,.slice none 0 0,.slice none 0 0,.int .i64 0,.int .i64 0,.slice none 0 0]⟩ (.node (.node .leaf 293 ⟨.other,1,8,[.nilFunc]⟩ .leaf) 294 ⟨.other,1,8,[.nilFunc]⟩ .leaf)) 295 ⟨.other,1,8,[.pointer none]⟩ (.node (.node (.node .leaf 297 ⟨.struct [(0,4),(4,1)],5,120,[.slice none 0 0,.slice none 0 0,.slice none 0 0,.slice none 0 0,.slice none 0 0]⟩ .leaf) 304 ⟨.other,1,8,[.pointer none]⟩ .leaf) 310 ⟨.slice 313,1,24,[.slice none 0 0]⟩ (.node (.node .leaf 313 ⟨.struct [(0,2),(2,3)],5,88,[.int .i64 0,.slice none 0 0,.bool false,.slice none 0 0,.slice none 0 0]⟩ .leaf) 316 ⟨.slice 318,1,24,[.slice none 0 0]⟩ .leaf))) 318 ⟨.struct [(0,1),(1,1),(2,1),(3,1)],4,80,[.int .i64 0,.slice none 0 0,.slice none 0 0,.slice none 0 0]⟩ (.node (.node (.node (.node .leaf 319 ⟨.int .u64,1,8,[.int .u64 0]⟩ .leaf) 324 ⟨.float .f64,1,8,[.float .f64 0]⟩ (.node .leaf 325 ⟨.other,1,8,[.nilFunc]⟩ .leaf)) 338 ⟨.slice 341,1,24,[.slice none 0 0]⟩ (.node (.node .leaf 341 ⟨.struct [(0,1),(1,1),(2,1)],3,32,[.int .i64 0,.string ⟨#[]⟩,.int .i64 0]⟩ .leaf) 351 ⟨.other,1,8,[.pointer none]⟩ .leaf)) 357 ⟨.slice 313,1,24,[.slice none 0 0]⟩ (.node (.node (.node .leaf 360 ⟨.other,1,8,[.pointer none]⟩ .leaf) 369 ⟨.other,1,8,[.nilFunc]⟩ .leaf) 376 ⟨.slice 379,1,24,[.slice none 0 0]⟩ (.node (.node .leaf 379 ⟨.struct [(0,1),(1,3)],4,80,[.slice none 0 0,.bool false,.slice none 0 0,.slice none 0 0]⟩ .leaf) 385 ⟨.other,1,8,[.nilFunc]⟩ .leaf))))))
def B4:De:=Aav.find
theorem An5:Aav.toList.map (fun p=>Gq Go.Proofs.Tryz.prog p.1)=Aav.toList.map (fun p=>some p.2):=by kernel_rfl
theorem B8:Dc Go.Proofs.Tryz.prog B4:=Tr.ok An5
theorem B5:Go.Proofs.Tryz.prog.follows .mixedOrders=true:=by kernel_rfl
theorem Bv {f:FuncId} {fn:Func} {c:Code} {args:List AV} {r:AV} (hf:Go.Proofs.Tryz.prog.funcs[f]? = some fn) (hb:fn.body=some c) (hname:(fn.name == "runtime.NumGoroutine")=false) (hok:Uc fn c args.length=true) (hfree:r.free=true) (hv:wc Go.Proofs.Tryz.prog {T:=B4,an:=(fun _=>.ask)} c (fun _ e H=>Ph B4 fn.results.toList (· = r) e H) (fun _ _ _ _=>False) (fun _ e H=>Ph B4 fn.results.toList (· = r) e H) 0 (Ub args) H0):Bb Go.Proofs.Tryz.prog f args r:=C2 (C:={T:=B4,an:=(fun _=>.ask)}) B8 B5 hf hb hname hok hfree hv
end Go.Ab
namespace Go.Ab.Fn
abbrev Ul:FuncId:=3
abbrev Um:FuncId:=7
abbrev Ru:FuncId:=8
abbrev Rv:FuncId:=9
abbrev Rw:FuncId:=10
abbrev Rx:FuncId:=11
abbrev Ry:FuncId:=12
abbrev Rz:FuncId:=13
abbrev Pl:FuncId:=14
abbrev Nk:FuncId:=15
abbrev Pm:FuncId:=16
abbrev Pn:FuncId:=17
abbrev W6:FuncId:=18
abbrev W7:FuncId:=19
abbrev W8:FuncId:=29
abbrev Gs:FuncId:=30
abbrev Un:FuncId:=31
abbrev W9:FuncId:=32
abbrev R0:FuncId:=33
abbrev Po:FuncId:=34
abbrev Lk:FuncId:=35
abbrev J7:FuncId:=36
abbrev Pp:FuncId:=37
abbrev Pq:FuncId:=38
abbrev R3:FuncId:=39
abbrev Nl:FuncId:=40
abbrev R4:FuncId:=41
abbrev G5:FuncId:=42
abbrev I3:FuncId:=43
abbrev Nm:FuncId:=44
abbrev Ll:FuncId:=45
abbrev Lm:FuncId:=46
abbrev Jm:FuncId:=47
abbrev J8:FuncId:=48
abbrev I4:FuncId:=49
abbrev J9:FuncId:=50
abbrev Nn:FuncId:=51
abbrev No:FuncId:=52
abbrev R5:FuncId:=53
abbrev R6:FuncId:=54
abbrev Xa:FuncId:=55
abbrev Xb:FuncId:=56
abbrev Uo:FuncId:=57
abbrev Xc:FuncId:=58
abbrev Ps:FuncId:=59
abbrev Pt:FuncId:=65
abbrev Ml:FuncId:=67
abbrev Mm:FuncId:=71
abbrev Hc:FuncId:=76
abbrev Jn:FuncId:=77
abbrev Xd:FuncId:=78
abbrev Ln:FuncId:=79
abbrev R7:FuncId:=80
abbrev R8:FuncId:=81
abbrev Up:FuncId:=82
abbrev I5:FuncId:=83
abbrev Ka:FuncId:=84
abbrev Uq:FuncId:=85
abbrev R9:FuncId:=86
abbrev Np:FuncId:=87
abbrev Jo:FuncId:=88
abbrev I6:FuncId:=89
abbrev I7:FuncId:=90
abbrev Pu:FuncId:=91
abbrev Ur:FuncId:=92
abbrev Nq:FuncId:=93
abbrev Lo:FuncId:=94
abbrev Sa:FuncId:=95
abbrev Sb:FuncId:=96
abbrev I8:FuncId:=97
abbrev Jp:FuncId:=98
abbrev Us:FuncId:=99
abbrev Sc:FuncId:=100
abbrev Ut:FuncId:=101
abbrev I9:FuncId:=102
abbrev H6:FuncId:=103
abbrev Sd:FuncId:=104
abbrev Mn:FuncId:=105
abbrev Mo:FuncId:=106
abbrev Pv:FuncId:=107
abbrev Se:FuncId:=108
abbrev Sf:FuncId:=109
abbrev Lp:FuncId:=110
abbrev Uu:FuncId:=111
abbrev Nr:FuncId:=112
abbrev Mp:FuncId:=113
abbrev Ns:FuncId:=114
abbrev Kb:FuncId:=115
abbrev Sg:FuncId:=116
abbrev Nt:FuncId:=123
abbrev Kc:FuncId:=124
abbrev Lq:FuncId:=125
abbrev Pw:FuncId:=133
abbrev Px:FuncId:=136
abbrev Sh:FuncId:=137
abbrev Nu:FuncId:=138
abbrev Lr:FuncId:=139
abbrev Py:FuncId:=140
abbrev Pz:FuncId:=141
abbrev Ls:FuncId:=142
abbrev Uv:FuncId:=143
abbrev Nv:FuncId:=144
abbrev P0:FuncId:=145
abbrev Lt:FuncId:=146
abbrev Mq:FuncId:=147
abbrev Lu:FuncId:=148
abbrev Nw:FuncId:=149
abbrev Lv:FuncId:=150
abbrev P1:FuncId:=151
abbrev Ja:FuncId:=152
abbrev Kd:FuncId:=153
abbrev Mr:FuncId:=154
abbrev Uw:FuncId:=155
abbrev Si:FuncId:=156
abbrev Lw:FuncId:=157
abbrev Ux:FuncId:=158
abbrev Ke:FuncId:=159
abbrev P2:FuncId:=160
abbrev H7:FuncId:=161
abbrev Sj:FuncId:=162
abbrev P3:FuncId:=163
abbrev Jq:FuncId:=164
abbrev P4:FuncId:=165
abbrev H8:FuncId:=166
abbrev Nx:FuncId:=167
abbrev P5:FuncId:=168
abbrev Ny:FuncId:=169
abbrev Nz:FuncId:=170
abbrev Jb:FuncId:=171
abbrev Uy:FuncId:=172
abbrev Sk:FuncId:=173
abbrev Kf:FuncId:=174
abbrev Kg:FuncId:=175
abbrev Uz:FuncId:=176
abbrev Sl:FuncId:=177
abbrev Ms:FuncId:=178
abbrev N0:FuncId:=179
abbrev Aaw:FuncId:=180
abbrev Sm:FuncId:=181
abbrev Xe:FuncId:=182
abbrev Xf:FuncId:=183
abbrev Xg:FuncId:=184
abbrev Xh:FuncId:=185
abbrev Xi:FuncId:=186
abbrev Xj:FuncId:=187
abbrev Ik:FuncId:=188
abbrev Kh:FuncId:=189
abbrev P6:FuncId:=190
abbrev U1:FuncId:=191
abbrev Sn:FuncId:=192
abbrev So:FuncId:=193
abbrev P7:FuncId:=199
abbrev P8:FuncId:=200
abbrev N1:FuncId:=201
abbrev Sp:FuncId:=219
abbrev Sq:FuncId:=220
abbrev N2:FuncId:=221
abbrev P9:FuncId:=222
abbrev N3:FuncId:=223
abbrev Ki:FuncId:=224
abbrev Kj:FuncId:=225
abbrev Jr:FuncId:=226
abbrev U2:FuncId:=227
abbrev Js:FuncId:=228
abbrev Qa:FuncId:=229
abbrev N4:FuncId:=230
abbrev Sr:FuncId:=231
abbrev N5:FuncId:=232
abbrev Lx:FuncId:=233
abbrev Qb:FuncId:=234
abbrev Ly:FuncId:=235
abbrev Qc:FuncId:=236
abbrev Ss:FuncId:=237
abbrev Su:FuncId:=238
abbrev Qd:FuncId:=239
abbrev U3:FuncId:=240
abbrev Sv:FuncId:=241
abbrev Sw:FuncId:=242
abbrev N6:FuncId:=243
abbrev Mt:FuncId:=244
abbrev Xk:FuncId:=245
abbrev Xl:FuncId:=246
abbrev Qf:FuncId:=253
abbrev Sx:FuncId:=254
abbrev Sy:FuncId:=255
abbrev Kk:FuncId:=256
abbrev Qg:FuncId:=257
abbrev Xm:FuncId:=258
abbrev Sz:FuncId:=282
abbrev Qh:FuncId:=283
abbrev Qi:FuncId:=284
abbrev U4:FuncId:=285
abbrev S0:FuncId:=286
abbrev S1:FuncId:=287
abbrev Lz:FuncId:=288
abbrev Qj:FuncId:=289
abbrev N7:FuncId:=290
abbrev Qk:FuncId:=291
abbrev S2:FuncId:=292
abbrev S3:FuncId:=293
abbrev U5:FuncId:=294
abbrev U6:FuncId:=295
abbrev L0:FuncId:=296
abbrev Xn:FuncId:=297
abbrev N8:FuncId:=308
abbrev Ql:FuncId:=309
abbrev Kl:FuncId:=310
abbrev Qm:FuncId:=311
abbrev S4:FuncId:=312
abbrev Qo:FuncId:=314
abbrev S5:FuncId:=324
abbrev S6:FuncId:=325
abbrev Qp:FuncId:=326
abbrev U7:FuncId:=330
abbrev Qq:FuncId:=331
abbrev Mu:FuncId:=332
abbrev Mv:FuncId:=333
abbrev Qs:FuncId:=342
abbrev N9:FuncId:=343
abbrev S7:FuncId:=344
abbrev Qt:FuncId:=345
abbrev S8:FuncId:=346
abbrev Mw:FuncId:=347
abbrev S9:FuncId:=348
abbrev Ta:FuncId:=349
abbrev U8:FuncId:=352
end Go.Ab.Fn
namespace Go.Ab
open Go
abbrev Af (k:IntKind) (n:Int):AV:=.val (.int k n)
abbrev Av (b:Bool):AV:=.val (.bool b)
abbrev Co (s:ByteArray):AV:=.val (.string s)
abbrev A2 {α:Type} (sz:Nat) (f:α->AV) (l:List α):AV:=.sl sz (l.map f)
abbrev Ck {α:Type} (sz:Nat) (g:List α->List AV) (l:List α):AV:=.sl sz (g l)
structure Ao where
 Kind:Int
 Num:Int
 Args:(List Ao)
mutual
def Aax:Ao->AV
 | ⟨x0,x1,x2⟩=>.agg [Af .i64 x0,Af .i64 x1,.sl 3 (Bi x2)]
def Bi:List Ao->List AV
 | []=>[]
 | x::xs=>Aax x::Bi xs
end
def Ba (x:Ao):AV:=.agg [Af .i64 x.Kind,Af .i64 x.Num,.sl 3 (Bi x.Args)]
theorem An6 (x:Ao):Aax x=Ba x:=by cases x; simp only [Aax,Ba]
theorem Bq:∀l:List Ao,Bi l=l.map Ba
 | []=>rfl
 | x::xs=>by simp only [Bi,List.map_cons,An6,Bq xs]
structure Jc where
 Name:ByteArray
 Args:(List Ao)
def Ej (x:Jc):AV:=.agg [Co x.Name,.sl 3 (Bi x.Args)]
structure A5 where
 Name:ByteArray
 Vars:Int
 Cons:(List Jc)
def Bf (x:A5):AV:=.agg [Co x.Name,Af .i64 x.Vars,.sl 2 (List.map Ej x.Cons)]
structure Cp where
 Data:(List A5)
 Vars:(List Ao)
 Res:Ao
def Fe (x:Cp):AV:=.agg [.sl 3 (List.map Bf x.Data),.sl 3 (Bi x.Vars),Af .i64 x.Res.Kind,Af .i64 x.Res.Num,.sl 3 (Bi x.Res.Args)]
structure Bl where
 Kind:Int
 Num:Int
 Kids:(List Bl)
mutual
def Aay:Bl->AV
 | ⟨x0,x1,x2⟩=>.agg [Af .i64 x0,Af .i64 x1,.sl 3 (Dv x2)]
def Dv:List Bl->List AV
 | []=>[]
 | x::xs=>Aay x::Dv xs
end
def Cj (x:Bl):AV:=.agg [Af .i64 x.Kind,Af .i64 x.Num,.sl 3 (Dv x.Kids)]
theorem An7 (x:Bl):Aay x=Cj x:=by cases x; simp only [Aay,Cj]
theorem Dn:∀l:List Bl,Dv l=l.map Cj
 | []=>rfl
 | x::xs=>by simp only [Dv,List.map_cons,An7,Dn xs]
structure A1 where
 Neg:Bool
 Num:(List Int)
 Den:(List Int)
def Bx (x:A1):AV:=.agg [Av x.Neg,.sl 1 (List.map (Af .u32) x.Num),.sl 1 (List.map (Af .u32) x.Den)]
structure Da where
 Var:Int
 Con:Int
 N:Int
def Db (x:Da):AV:=.agg [Af .i64 x.Var,Af .i64 x.Con,Af .i64 x.N]
structure Be where
 Num:Int
 Kids:(List Be)
mutual
def Aaz:Be->AV
 | ⟨x0,x1⟩=>.agg [Af .i64 x0,.sl 2 (Fs x1)]
def Fs:List Be->List AV
 | []=>[]
 | x::xs=>Aaz x::Fs xs
end
def Bw (x:Be):AV:=.agg [Af .i64 x.Num,.sl 2 (Fs x.Kids)]
theorem An8 (x:Be):Aaz x=Bw x:=by cases x; simp only [Aaz,Bw]
theorem Cu:∀l:List Be,Fs l=l.map Bw
 | []=>rfl
 | x::xs=>by simp only [Fs,List.map_cons,An8,Cu xs]
structure D1 where
 Var:Int
 Index:Be
def C4 (x:D1):AV:=.agg [Af .i64 x.Var,Af .i64 x.Index.Num,.sl 2 (Fs x.Index.Kids)]
structure Fv where
 Var:Int
 Coef:Int
def Dq (x:Fv):AV:=.agg [Af .i64 x.Var,Af .i64 x.Coef]
structure Ey where
 Const:Int
 Terms:(List Fv)
def Km (x:Ey):AV:=.agg [Af .i64 x.Const,.sl 2 (List.map Dq x.Terms)]
structure Ek where
 Lin:Ey
 Deg:Int
def Dk (x:Ek):AV:=.agg [Af .i64 x.Lin.Const,.sl 2 (List.map Dq x.Lin.Terms),Af .i64 x.Deg]
structure C8 where
 Factors:(List D1)
 Atoms:(List Ek)
def Hd (x:C8):AV:=.agg [.sl 3 (List.map C4 x.Factors),.sl 3 (List.map Dk x.Atoms)]
structure B2 where
 Coef:A1
 Mono:C8
def B7 (x:B2):AV:=.agg [Av x.Coef.Neg,.sl 1 (List.map (Af .u32) x.Coef.Num),.sl 1 (List.map (Af .u32) x.Coef.Den),.sl 3 (List.map C4 x.Mono.Factors),.sl 3 (List.map Dk x.Mono.Atoms)]
structure F5 where
 v:Int
 con:Int
structure Ea where
 neg:Bool
 n:(List Int)
 d:(List Int)
def He (x:Ea):AV:=.agg [Av x.neg,.sl 1 (List.map (Af .u32) x.n),.sl 1 (List.map (Af .u32) x.d)]
structure Afm where
 Name:ByteArray
 Params:(List Int)
 Captured:(List Int)
 Result:Ao
 Body:Int
def Il (x:Afm):AV:=.agg [Co x.Name,.sl 1 (List.map (Af .i64) x.Params),.sl 1 (List.map (Af .i64) x.Captured),Af .i64 x.Result.Kind,Af .i64 x.Result.Num,.sl 3 (Bi x.Result.Args),Af .i64 x.Body]
structure Afn where
 Op:Int
 Num:Int
 Vars:(List Int)
 Binds:(List (List Int))
 Kids:(List Int)
 Type_:Ao
def Jd (x:Afn):AV:=.agg [Af .i64 x.Op,Af .i64 x.Num,.sl 1 (List.map (Af .i64) x.Vars),.sl 1 (List.map (A2 1 (Af .i64)) x.Binds),.sl 1 (List.map (Af .i64) x.Kids),Af .i64 x.Type_.Kind,Af .i64 x.Type_.Num,.sl 3 (Bi x.Type_.Args)]
structure Hk where
 Data:(List A5)
 Codes:(List Afm)
 Vars:(List Ao)
 Exprs:(List Afn)
def Qu (x:Hk):AV:=.agg [.sl 3 (List.map Bf x.Data),.sl 7 (List.map Il x.Codes),.sl 3 (Bi x.Vars),.sl 8 (List.map Jd x.Exprs)]
structure D2 where
 data:(List A5)
 vars:Int
 left:Int
structure Fa where
 Kind:Int
 Text:ByteArray
 Pos:Int
def Gb (x:Fa):AV:=.agg [Af .i64 x.Kind,Co x.Text,Af .i64 x.Pos]
structure D8 where
 Index:Be
 Coef:A1
def El (x:D8):AV:=.agg [Af .i64 x.Index.Num,.sl 2 (Fs x.Index.Kids),Av x.Coef.Neg,.sl 1 (List.map (Af .u32) x.Coef.Num),.sl 1 (List.map (Af .u32) x.Coef.Den)]
structure Eu where
 Kind:Int
 Text:ByteArray
 Pos:Int
def Ft (x:Eu):AV:=.agg [Af .i64 x.Kind,Co x.Text,Af .i64 x.Pos]
end Go.Ab
