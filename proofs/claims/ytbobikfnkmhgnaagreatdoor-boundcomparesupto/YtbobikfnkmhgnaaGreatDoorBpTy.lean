/- The types that the program uses; plain types for its data. -/
import Derived.Test.YtbobikfnkmhgnaaGreatDoorBpAb2
import Derived.Test.YtbobikfnkmhgnaaGreatDoorProg
import Derived.KernelRfl
namespace Go.Ab
open Go Go.Proofs
def Ac5:Tr:=(.node (.node (.node (.node (.node (.node (.node .leaf 1 ⟨.other,1,8,[.nilFunc]⟩ .leaf) 2 ⟨.int .i64,1,8,[.int .i64 0]⟩ (.node .leaf 3 ⟨.int .i64,1,8,[.int .i64 0]⟩ .leaf)) 4 ⟨.bool,1,1,[.bool false]⟩ (.node (.node .leaf 5 ⟨.int .u8,1,1,[.int .u8 0]⟩ .leaf) 9 ⟨.string,1,16,[.string ⟨#[]⟩]⟩ .leaf)) 20 ⟨.other,1,16,[.nilIface]⟩ (.node (.node (.node .leaf 22 ⟨.slice 102,1,24,[.slice none 0 0]⟩ .leaf) 23 ⟨.slice 25,1,24,[.slice none 0 0]⟩ .leaf) 25 ⟨.struct [(0,1),(1,1),(2,1)],3,40,[.int .i64 0,.int .i64 0,.slice none 0 0]⟩ (.node (.node .leaf 27 ⟨.struct [(0,1),(1,1),(2,3)],5,88,[.slice none 0 0,.slice none 0 0,.int .i64 0,.int .i64 0,.slice none 0 0]⟩ .leaf) 28 ⟨.slice 61,1,24,[.slice none 0 0]⟩ .leaf))) 31 ⟨.int .i64,1,8,[.int .i64 0]⟩ (.node (.node (.node (.node .leaf 37 ⟨.slice 106,1,24,[.slice none 0 0]⟩ .leaf) 39 ⟨.struct [(0,1),(1,1),(2,1)],3,56,[.bool false,.slice none 0 0,.slice none 0 0]⟩ (.node .leaf 40 ⟨.slice 42,1,24,[.slice none 0 0]⟩ .leaf)) 42 ⟨.struct [(0,1),(1,1)],2,32,[.int .i64 0,.slice none 0 0]⟩ (.node (.node .leaf 43 ⟨.slice 156,1,24,[.slice none 0 0]⟩ .leaf) 45 ⟨.struct [(0,1),(1,1)],2,32,[.int .i64 0,.slice none 0 0]⟩ .leaf)) 56 ⟨.slice 85,1,24,[.slice none 0 0]⟩ (.node (.node (.node .leaf 57 ⟨.slice 91,1,24,[.slice none 0 0]⟩ .leaf) 59 ⟨.struct [(0,1),(1,1)],2,48,[.slice none 0 0,.slice none 0 0]⟩ .leaf) 61 ⟨.struct [(0,3),(3,2)],5,104,[.bool false,.slice none 0 0,.slice none 0 0,.slice none 0 0,.slice none 0 0]⟩ (.node (.node .leaf 63 ⟨.slice 39,1,24,[.slice none 0 0]⟩ .leaf) 72 ⟨.other,1,8,[.nilFunc]⟩ .leaf)))) 75 ⟨.slice 28,1,24,[.slice none 0 0]⟩ (.node (.node (.node (.node (.node .leaf 77 ⟨.other,1,8,[.pointer none]⟩ .leaf) 78 ⟨.other,1,8,[.pointer none]⟩ (.node .leaf 81 ⟨.other,1,8,[.nilFunc]⟩ .leaf)) 85 ⟨.struct [(0,1),(1,2)],3,40,[.int .i64 0,.int .i64 0,.slice none 0 0]⟩ (.node (.node .leaf 91 ⟨.struct [(0,2),(2,1)],3,40,[.int .i64 0,.slice none 0 0,.int .i64 0]⟩ .leaf) 99 ⟨.struct [(0,1),(1,1)],2,40,[.string ⟨#[]⟩,.slice none 0 0]⟩ .leaf)) 100 ⟨.slice 99,1,24,[.slice none 0 0]⟩ (.node (.node (.node .leaf 102 ⟨.struct [(0,1),(1,1),(2,1)],3,48,[.string ⟨#[]⟩,.int .i64 0,.slice none 0 0]⟩ .leaf) 105 ⟨.int .u64,1,8,[.int .u64 0]⟩ .leaf) 106 ⟨.int .u32,1,4,[.int .u32 0]⟩ (.node (.node .leaf 111 ⟨.other,1,8,[.pointer none]⟩ .leaf) 116 ⟨.slice 106,1,24,[.slice none 0 0]⟩ .leaf))) 118 ⟨.struct [(0,1),(1,1),(2,1)],3,56,[.bool false,.slice none 0 0,.slice none 0 0]⟩ (.node (.node (.node (.node .leaf 129 ⟨.other,1,8,[.nilFunc]⟩ .leaf) 133 ⟨.other,1,8,[.nilFunc]⟩ .leaf) 135 ⟨.slice 257,1,24,[.slice none 0 0]⟩ (.node (.node .leaf 136 ⟨.slice 261,1,24,[.slice none 0 0]⟩ .leaf) 138 ⟨.struct [(0,1),(1,1),(2,1),(3,1)],4,96,[.slice none 0 0,.slice none 0 0,.slice none 0 0,.slice none 0 0]⟩ .leaf)) 140 ⟨.map 9 3,1,8,[.map none]⟩ (.node (.node (.node .leaf 141 ⟨.map 9 150,1,8,[.map none]⟩ .leaf) 143 ⟨.struct [(0,5),(5,1),(6,1)],7,104,[.slice none 0 0,.slice none 0 0,.int .i64 0,.int .i64 0,.slice none 0 0,.map none,.map none]⟩ .leaf) 150 ⟨.slice 153,1,24,[.slice none 0 0]⟩ (.node (.node .leaf 153 ⟨.struct [(0,2),(2,3)],5,88,[.int .i64 0,.slice none 0 0,.bool false,.slice none 0 0,.slice none 0 0]⟩ .leaf) 156 ⟨.struct [(0,1),(1,1)],2,16,[.int .i64 0,.int .i64 0]⟩ .leaf))))) 158 ⟨.other,1,8,[.nilFunc]⟩ (.node (.node (.node (.node (.node (.node .leaf 172 ⟨.struct [(0,1),(1,1)],2,32,[.map none,.slice none 0 0]⟩ .leaf) 175 ⟨.other,1,8,[.nilFunc]⟩ (.node .leaf 182 ⟨.other,1,8,[.nilFunc]⟩ .leaf)) 184 ⟨.other,1,8,[.nilFunc]⟩ (.node (.node .leaf 193 ⟨.other,1,8,[.pointer none]⟩ .leaf) 195 ⟨.struct [(0,1),(1,1),(2,1)],3,40,[.slice none 0 0,.int .i64 0,.int .i64 0]⟩ .leaf)) 196 ⟨.other,1,8,[.pointer none]⟩ (.node (.node (.node .leaf 197 ⟨.slice 5,1,24,[.slice none 0 0]⟩ .leaf) 199 ⟨.struct [(0,1),(1,1)],2,32,[.pointer none,.slice none 0 0]⟩ .leaf) 201 ⟨.other,1,16,[.nilIface]⟩ (.node (.node .leaf 218 ⟨.slice 9,1,24,[.slice none 0 0]⟩ .leaf) 226 ⟨.slice 153,1,24,[.slice none 0 0]⟩ .leaf))) 246 ⟨.int .u64,1,8,[.int .u64 0]⟩ (.node (.node (.node (.node .leaf 247 ⟨.slice 3,1,24,[.slice none 0 0]⟩ .leaf) 251 ⟨.other,1,8,[.nilFunc]⟩ (.node .leaf 253 ⟨.map 9 4,1,8,[.map none]⟩ .leaf)) 257 ⟨.struct [(0,1),(1,1),(2,1),(3,3),(6,1)],7,112,[.string ⟨#[]⟩,.slice none 0 0,.slice none 0 0,.int .i64 0,.int .i64 0,.slice none 0 0,.int .i64 0]⟩ (.node (.node .leaf 258 ⟨.other,1,8,[.nilFunc]⟩ .leaf) 259 ⟨.slice 247,1,24,[.slice none 0 0]⟩ .leaf)) 261 ⟨.struct [(0,1),(1,1),(2,1),(3,1),(4,1),(5,3)],8,128,[.int .i64 0,.int .i64 0,.slice none 0 0,.slice none 0 0,.slice none 0 0,.int .i64 0,.int .i64 0,.slice none 0 0]⟩ (.node (.node (.node .leaf 262 ⟨.slice 4,1,24,[.slice none 0 0]⟩ .leaf) 263 ⟨.other,1,8,[.nilFunc]⟩ .leaf) 264 ⟨.other,1,8,[.nilFunc]⟩ (.node (.node .leaf 265 ⟨.other,1,8,[.pointer none]⟩ .leaf) 267 ⟨.struct [(0,4),(4,1)],5,120,[.slice none 0 0,.slice none 0 0,.slice none 0 0,.slice none 0 0,.slice none 0 0]⟩ .leaf)))) 271 ⟨.other,1,8,[.pointer none]⟩ (.node (.node (.node (.node (.node .leaf 280 ⟨.slice 284,1,24,[.slice none 0 0]⟩ .leaf) 284 ⟨.struct [(0,1),(1,1),(2,1)],3,32,[.int .i64 0,.string ⟨#[]⟩,.int .i64 0]⟩ (.node .leaf 287 ⟨.slice 290,1,24,[.slice none 0 0]⟩ .leaf)) 290 ⟨.struct [(0,1),(1,3)],4,80,[.slice none 0 0,.bool false,.slice none 0 0,.slice none 0 0]⟩ (.node (.node .leaf 295 ⟨.float .f64,1,8,[.float .f64 0]⟩ .leaf) 300 ⟨.int .i64,1,8,[.int .i64 0]⟩ .leaf)) 308 ⟨.slice 311,1,24,[.slice none 0 0]⟩ (.node (.node (.node .leaf 311 ⟨.struct [(0,1),(1,1),(2,1)],3,32,[.int .i64 0,.string ⟨#[]⟩,.int .i64 0]⟩ .leaf) 320 ⟨.other,1,8,[.pointer none]⟩ .leaf) 328 ⟨.other,1,8,[.pointer none]⟩ (.node (.node .leaf 341 ⟨.other,1,8,[.nilFunc]⟩ .leaf) 352 ⟨.int .u64,1,8,[.int .u64 0]⟩ .leaf))) 370 ⟨.other,1,8,[.nilFunc]⟩ (.node (.node (.node (.node .leaf 372 ⟨.struct [(0,1),(1,3),(4,1),(5,1)],6,96,[.slice none 0 0,.int .i64 0,.int .i64 0,.slice none 0 0,.map none,.slice none 0 0]⟩ .leaf) 373 ⟨.slice 376,1,24,[.slice none 0 0]⟩ .leaf) 376 ⟨.struct [(0,1),(1,3)],4,80,[.slice none 0 0,.bool false,.slice none 0 0,.slice none 0 0]⟩ (.node (.node .leaf 378 ⟨.slice 150,1,24,[.slice none 0 0]⟩ .leaf) 380 ⟨.other,1,8,[.nilFunc]⟩ .leaf)) 382 ⟨.slice 56,1,24,[.slice none 0 0]⟩ (.node (.node (.node .leaf 384 ⟨.slice 57,1,24,[.slice none 0 0]⟩ .leaf) 389 ⟨.other,1,8,[.pointer none]⟩ .leaf) 395 ⟨.other,1,8,[.nilFunc]⟩ (.node (.node .leaf 403 ⟨.other,1,8,[.nilFunc]⟩ .leaf) 407 ⟨.slice 40,1,24,[.slice none 0 0]⟩ .leaf))))))
def B8:Cp:=Ac5.find
theorem Ar3:Ac5.toList.map (fun p=>Gl Go.Proofs.Tryz.prog p.1)=Ac5.toList.map (fun p=>some p.2):=by kernel_rfl
theorem Aim:Cq Go.Proofs.Tryz.prog B8:=Tr.ok Ar3
theorem Ub:Go.Proofs.Tryz.prog.follows .mixedOrders=true:=by kernel_rfl
end Go.Ab
namespace Go.Ab.Fn
abbrev Yg:FuncId:=3
abbrev Yh:FuncId:=5
abbrev P1:FuncId:=6
abbrev P2:FuncId:=7
abbrev P3:FuncId:=8
abbrev Ny:FuncId:=9
abbrev R8:FuncId:=10
abbrev Nz:FuncId:=11
abbrev R9:FuncId:=12
abbrev P4:FuncId:=13
abbrev Yi:FuncId:=22
abbrev Ac6:FuncId:=26
abbrev Ft:FuncId:=27
abbrev Yj:FuncId:=28
abbrev Ac7:FuncId:=29
abbrev Ly:FuncId:=30
abbrev Uk:FuncId:=31
abbrev N0:FuncId:=32
abbrev Ka:FuncId:=33
abbrev Ul:FuncId:=34
abbrev Hz:FuncId:=35
abbrev La:FuncId:=36
abbrev Um:FuncId:=37
abbrev Gq:FuncId:=38
abbrev Un:FuncId:=39
abbrev Sa:FuncId:=40
abbrev Sb:FuncId:=41
abbrev P5:FuncId:=42
abbrev Sc:FuncId:=43
abbrev H8:FuncId:=44
abbrev Ms:FuncId:=48
abbrev P6:FuncId:=49
abbrev Lz:FuncId:=50
abbrev Sd:FuncId:=52
abbrev Kb:FuncId:=53
abbrev Lb:FuncId:=54
abbrev Mt:FuncId:=55
abbrev P7:FuncId:=56
abbrev Se:FuncId:=57
abbrev N1:FuncId:=58
abbrev N2:FuncId:=59
abbrev Mu:FuncId:=60
abbrev Yk:FuncId:=61
abbrev Yl:FuncId:=62
abbrev I9:FuncId:=63
abbrev Ja:FuncId:=64
abbrev H9:FuncId:=65
abbrev Lc:FuncId:=66
abbrev Ac8:FuncId:=67
abbrev Ac9:FuncId:=68
abbrev Ym:FuncId:=69
abbrev Ir:FuncId:=70
abbrev P8:FuncId:=71
abbrev Uo:FuncId:=72
abbrev Up:FuncId:=73
abbrev Yn:FuncId:=74
abbrev P9:FuncId:=75
abbrev Uq:FuncId:=76
abbrev Sf:FuncId:=77
abbrev Kc:FuncId:=78
abbrev Qa:FuncId:=79
abbrev Ur:FuncId:=80
abbrev Qb:FuncId:=81
abbrev Sg:FuncId:=82
abbrev Jb:FuncId:=83
abbrev Ld:FuncId:=84
abbrev N3:FuncId:=85
abbrev N4:FuncId:=86
abbrev Lf:FuncId:=87
abbrev N5:FuncId:=88
abbrev Us:FuncId:=89
abbrev Qc:FuncId:=90
abbrev N6:FuncId:=91
abbrev Jv:FuncId:=92
abbrev Sh:FuncId:=97
abbrev Mv:FuncId:=98
abbrev Ut:FuncId:=99
abbrev N7:FuncId:=100
abbrev N8:FuncId:=101
abbrev N9:FuncId:=102
abbrev Uu:FuncId:=104
abbrev Mw:FuncId:=105
abbrev Oa:FuncId:=106
abbrev Uv:FuncId:=108
abbrev Ia:FuncId:=109
abbrev Si:FuncId:=110
abbrev Uw:FuncId:=111
abbrev Yo:FuncId:=112
abbrev Sj:FuncId:=113
abbrev Ada:FuncId:=114
abbrev Adb:FuncId:=115
abbrev Ux:FuncId:=116
abbrev Uy:FuncId:=117
abbrev Yp:FuncId:=118
abbrev Ob:FuncId:=119
abbrev Kd:FuncId:=120
abbrev Sk:FuncId:=121
abbrev Uz:FuncId:=122
abbrev Qd:FuncId:=123
abbrev Adc:FuncId:=124
abbrev Add:FuncId:=125
abbrev U1:FuncId:=126
abbrev U2:FuncId:=127
abbrev Qf:FuncId:=128
abbrev U3:FuncId:=129
abbrev Oc:FuncId:=130
abbrev Mx:FuncId:=131
abbrev My:FuncId:=132
abbrev Mz:FuncId:=133
abbrev U4:FuncId:=134
abbrev Sl:FuncId:=135
abbrev U5:FuncId:=136
abbrev U6:FuncId:=137
abbrev Ke:FuncId:=138
abbrev Yq:FuncId:=139
abbrev U7:FuncId:=140
abbrev L0:FuncId:=141
abbrev Od:FuncId:=142
abbrev Yr:FuncId:=143
abbrev U8:FuncId:=144
abbrev Oe:FuncId:=145
abbrev Qg:FuncId:=146
abbrev Sn:FuncId:=147
abbrev Jc:FuncId:=148
abbrev U9:FuncId:=149
abbrev M0:FuncId:=150
abbrev So:FuncId:=151
abbrev Va:FuncId:=152
abbrev Qh:FuncId:=153
abbrev Vb:FuncId:=155
abbrev Ade:FuncId:=156
abbrev Adf:FuncId:=157
abbrev Adg:FuncId:=158
abbrev Adh:FuncId:=159
abbrev Adi:FuncId:=160
abbrev Adj:FuncId:=161
abbrev Lg:FuncId:=162
abbrev L1:FuncId:=163
abbrev Sp:FuncId:=164
abbrev Is:FuncId:=165
abbrev G4:FuncId:=166
abbrev Qi:FuncId:=167
abbrev Kf:FuncId:=168
abbrev Qj:FuncId:=169
abbrev Qk:FuncId:=170
abbrev Ql:FuncId:=182
abbrev Of:FuncId:=183
abbrev Sq:FuncId:=184
abbrev M1:FuncId:=185
abbrev Og:FuncId:=186
abbrev Oh:FuncId:=187
abbrev Sr:FuncId:=188
abbrev Oi:FuncId:=190
abbrev Ss:FuncId:=191
abbrev Jd:FuncId:=192
abbrev Ys:FuncId:=193
abbrev Yt:FuncId:=194
abbrev Su:FuncId:=195
abbrev Yu:FuncId:=196
abbrev Yv:FuncId:=197
abbrev Yw:FuncId:=198
abbrev Vc:FuncId:=199
abbrev Oj:FuncId:=200
abbrev Ok:FuncId:=201
abbrev Je:FuncId:=202
abbrev Vd:FuncId:=203
abbrev Ve:FuncId:=204
abbrev Adk:FuncId:=205
abbrev Vf:FuncId:=206
abbrev M2:FuncId:=207
abbrev M3:FuncId:=208
abbrev Yx:FuncId:=209
abbrev Vg:FuncId:=210
abbrev Vh:FuncId:=211
abbrev Vi:FuncId:=212
abbrev Vj:FuncId:=213
abbrev Vk:FuncId:=214
abbrev Yy:FuncId:=215
abbrev Vl:FuncId:=216
abbrev Vm:FuncId:=217
abbrev Sv:FuncId:=218
abbrev Vn:FuncId:=219
abbrev Qm:FuncId:=220
abbrev Ol:FuncId:=221
abbrev Adl:FuncId:=222
abbrev Adm:FuncId:=223
abbrev Vo:FuncId:=230
abbrev Vp:FuncId:=231
abbrev Vq:FuncId:=232
abbrev Vr:FuncId:=233
abbrev Sw:FuncId:=235
abbrev Sx:FuncId:=236
abbrev Qo:FuncId:=237
abbrev Yz:FuncId:=244
abbrev Qp:FuncId:=245
abbrev Vs:FuncId:=246
abbrev Qq:FuncId:=250
abbrev Vt:FuncId:=251
abbrev Qs:FuncId:=252
abbrev Vu:FuncId:=253
abbrev Adn:FuncId:=254
abbrev Qt:FuncId:=255
abbrev Lh:FuncId:=256
abbrev Vv:FuncId:=257
abbrev Sy:FuncId:=258
abbrev Vx:FuncId:=259
abbrev Y0:FuncId:=268
abbrev Qu:FuncId:=269
abbrev Y1:FuncId:=270
abbrev Y2:FuncId:=271
abbrev Qv:FuncId:=272
abbrev Ado:FuncId:=273
abbrev Qw:FuncId:=286
abbrev Qx:FuncId:=287
abbrev Om:FuncId:=288
abbrev Vy:FuncId:=307
abbrev Sz:FuncId:=308
abbrev S0:FuncId:=309
abbrev Y3:FuncId:=310
abbrev Vz:FuncId:=311
abbrev V1:FuncId:=312
abbrev On:FuncId:=313
abbrev S3:FuncId:=314
abbrev S4:FuncId:=316
abbrev Qy:FuncId:=317
abbrev S5:FuncId:=318
abbrev V2:FuncId:=319
abbrev V3:FuncId:=325
abbrev V4:FuncId:=326
abbrev V5:FuncId:=327
abbrev Qz:FuncId:=353
abbrev S6:FuncId:=355
abbrev Q2:FuncId:=356
abbrev V6:FuncId:=357
abbrev S7:FuncId:=358
abbrev V7:FuncId:=359
abbrev Oo:FuncId:=360
abbrev V8:FuncId:=361
abbrev V9:FuncId:=362
end Go.Ab.Fn
namespace Go.Ab
open Go
abbrev O (k:IntKind) (n:Int):AV:=.val (.int k n)
abbrev An (b:Bool):AV:=.val (.bool b)
abbrev Du (s:ByteArray):AV:=.val (.string s)
abbrev Aw {α:Type} (sz:Nat) (f:α->AV) (l:List α):AV:=.sl sz (l.map f)
abbrev Gd {α:Type} (sz:Nat) (g:List α->List AV) (l:List α):AV:=.sl sz (g l)
structure Ai where
 Kind:Int
 Num:Int
 Args:(List Ai)
mutual
def Adp:Ai->AV
 | ⟨x0,x1,x2⟩=>.agg [O .i64 x0,O .i64 x1,.sl 3 (Bv x2)]
def Bv:List Ai->List AV
 | []=>[]
 | x::xs=>Adp x::Bv xs
end
def Dm (x:Ai):AV:=.agg [O .i64 x.Kind,O .i64 x.Num,.sl 3 (Bv x.Args)]
theorem Ar4 (x:Ai):Adp x=Dm x:=by cases x; simp only [Adp,Dm]
theorem Jf:∀l:List Ai,Bv l=l.map Dm
 | []=>rfl
 | x::xs=>by simp only [Bv,List.map_cons,Ar4,Jf xs]
structure Jw where
 Name:ByteArray
 Args:(List Ai)
def Y4 (x:Jw):AV:=.agg [Du x.Name,.sl 3 (Bv x.Args)]
structure Az where
 Name:ByteArray
 Vars:Int
 Cons:(List Jw)
def Cn (x:Az):AV:=.agg [Du x.Name,O .i64 x.Vars,.sl 2 (List.map Y4 x.Cons)]
structure Bh where
 Data:(List Az)
 Vars:(List Ai)
 Res:Ai
def Ev (x:Bh):AV:=.agg [.sl 3 (List.map Cn x.Data),.sl 3 (Bv x.Vars),O .i64 x.Res.Kind,O .i64 x.Res.Num,.sl 3 (Bv x.Res.Args)]
structure Aq where
 Neg:Bool
 Num:(List Int)
 Den:(List Int)
def Cr (x:Aq):AV:=.agg [An x.Neg,.sl 1 (List.map (O .u32) x.Num),.sl 1 (List.map (O .u32) x.Den)]
structure A9 where
 Num:Int
 Kids:(List A9)
mutual
def Adq:A9->AV
 | ⟨x0,x1⟩=>.agg [O .i64 x0,.sl 2 (G5 x1)]
def G5:List A9->List AV
 | []=>[]
 | x::xs=>Adq x::G5 xs
end
def Ez (x:A9):AV:=.agg [O .i64 x.Num,.sl 2 (G5 x.Kids)]
theorem Ar5 (x:A9):Adq x=Ez x:=by cases x; simp only [Adq,Ez]
theorem Kg:∀l:List A9,G5 l=l.map Ez
 | []=>rfl
 | x::xs=>by simp only [G5,List.map_cons,Ar5,Kg xs]
structure Bw where
 Var:Int
 Coef:Int
def Dn (x:Bw):AV:=.agg [O .i64 x.Var,O .i64 x.Coef]
structure Ce where
 Const:Int
 Terms:(List Bw)
def G6 (x:Ce):AV:=.agg [O .i64 x.Const,.sl 2 (List.map Dn x.Terms)]
structure Cj where
 Var:Int
 Index:A9
def E2 (x:Cj):AV:=.agg [O .i64 x.Var,O .i64 x.Index.Num,.sl 2 (G5 x.Index.Kids)]
structure B5 where
 Lin:Ce
 Deg:Int
def Ew (x:B5):AV:=.agg [O .i64 x.Lin.Const,.sl 2 (List.map Dn x.Lin.Terms),O .i64 x.Deg]
structure A8 where
 Factors:(List Cj)
 Atoms:(List B5)
def F5 (x:A8):AV:=.agg [.sl 3 (List.map E2 x.Factors),.sl 3 (List.map Ew x.Atoms)]
structure Ag where
 Coef:Aq
 Mono:A8
def Bc (x:Ag):AV:=.agg [An x.Coef.Neg,.sl 1 (List.map (O .u32) x.Coef.Num),.sl 1 (List.map (O .u32) x.Coef.Den),.sl 3 (List.map E2 x.Mono.Factors),.sl 3 (List.map Ew x.Mono.Atoms)]
structure Ge where
 neg:Bool
 n:(List Int)
 d:(List Int)
def Oq (x:Ge):AV:=.agg [An x.neg,.sl 1 (List.map (O .u32) x.n),.sl 1 (List.map (O .u32) x.d)]
structure Ain where
 Name:ByteArray
 Params:(List Int)
 Captured:(List Int)
 Result:Ai
 Body:Int
def Q3 (x:Ain):AV:=.agg [Du x.Name,.sl 1 (List.map (O .i64) x.Params),.sl 1 (List.map (O .i64) x.Captured),O .i64 x.Result.Kind,O .i64 x.Result.Num,.sl 3 (Bv x.Result.Args),O .i64 x.Body]
structure Aio where
 Op:Int
 Num:Int
 Vars:(List Int)
 Binds:(List (List Int))
 Kids:(List Int)
 Type_:Ai
def Q4 (x:Aio):AV:=.agg [O .i64 x.Op,O .i64 x.Num,.sl 1 (List.map (O .i64) x.Vars),.sl 1 (List.map (Aw 1 (O .i64)) x.Binds),.sl 1 (List.map (O .i64) x.Kids),O .i64 x.Type_.Kind,O .i64 x.Type_.Num,.sl 3 (Bv x.Type_.Args)]
structure It where
 Data:(List Az)
 Codes:(List Ain)
 Vars:(List Ai)
 Exprs:(List Aio)
def Q5 (x:It):AV:=.agg [.sl 3 (List.map Cn x.Data),.sl 7 (List.map Q3 x.Codes),.sl 3 (Bv x.Vars),.sl 8 (List.map Q4 x.Exprs)]
structure Eh where
 Index:A9
 Coef:Aq
def Ff (x:Eh):AV:=.agg [O .i64 x.Index.Num,.sl 2 (G5 x.Index.Kids),An x.Coef.Neg,.sl 1 (List.map (O .u32) x.Coef.Num),.sl 1 (List.map (O .u32) x.Coef.Den)]
structure Fo where
 data:(List Az)
 vars:Int
 left:Int
structure Iu where
 Kind:Int
 Text:ByteArray
 Pos:Int
def Adr (x:Iu):AV:=.agg [O .i64 x.Kind,Du x.Text,O .i64 x.Pos]
structure H3 where
 Kind:Int
 Text:ByteArray
 Pos:Int
def Y5 (x:H3):AV:=.agg [O .i64 x.Kind,Du x.Text,O .i64 x.Pos]
end Go.Ab
