/- The types that the program uses; plain types for its data. -/
import Derived.Test.YtidkdnlhdbbbjaaGreatDoorAsAb2
import Derived.Test.YtidkdnlhdbbbjaaGreatDoorProg
import Derived.KernelRfl
namespace Go.Ab
open Go Go.Proofs
def Abp:Tr:=(.node (.node (.node (.node (.node (.node (.node .leaf 1 ⟨.other,1,8,[.nilFunc]⟩ .leaf) 2 ⟨.int .i64,1,8,[.int .i64 0]⟩ (.node .leaf 3 ⟨.int .i64,1,8,[.int .i64 0]⟩ .leaf)) 4 ⟨.bool,1,1,[.bool false]⟩ (.node (.node .leaf 5 ⟨.int .u8,1,1,[.int .u8 0]⟩ .leaf) 9 ⟨.string,1,16,[.string ⟨#[]⟩]⟩ .leaf)) 20 ⟨.other,1,16,[.nilIface]⟩ (.node (.node (.node .leaf 22 ⟨.slice 86,1,24,[.slice none 0 0]⟩ .leaf) 24 ⟨.struct [(0,1),(1,1)],2,32,[.int .i64 0,.slice none 0 0]⟩ (.node .leaf 26 ⟨.slice 219,1,24,[.slice none 0 0]⟩ .leaf)) 27 ⟨.slice 29,1,24,[.slice none 0 0]⟩ (.node (.node .leaf 29 ⟨.struct [(0,1),(1,1),(2,1)],3,40,[.int .i64 0,.int .i64 0,.slice none 0 0]⟩ .leaf) 31 ⟨.struct [(0,1),(1,1),(2,3)],5,88,[.slice none 0 0,.slice none 0 0,.int .i64 0,.int .i64 0,.slice none 0 0]⟩ .leaf))) 34 ⟨.struct [(0,1),(1,2),(3,2),(5,1)],6,80,[.int .i64 0,.int .i64 0,.slice none 0 0,.int .i64 0,.slice none 0 0,.int .i64 0]⟩ (.node (.node (.node (.node .leaf 35 ⟨.slice 34,1,24,[.slice none 0 0]⟩ .leaf) 36 ⟨.slice 72,1,24,[.slice none 0 0]⟩ (.node .leaf 37 ⟨.int .i64,1,8,[.int .i64 0]⟩ .leaf)) 46 ⟨.slice 53,1,24,[.slice none 0 0]⟩ (.node (.node .leaf 48 ⟨.slice 24,1,24,[.slice none 0 0]⟩ .leaf) 52 ⟨.slice 55,1,24,[.slice none 0 0]⟩ .leaf)) 53 ⟨.int .i8,1,1,[.int .i8 0]⟩ (.node (.node (.node .leaf 55 ⟨.struct [(0,1),(1,1),(2,1)],3,40,[.int .i64 0,.int .i64 0,.slice none 0 0]⟩ .leaf) 56 ⟨.slice 141,1,24,[.slice none 0 0]⟩ (.node .leaf 58 ⟨.struct [(0,1),(1,1),(2,1)],3,56,[.bool false,.slice none 0 0,.slice none 0 0]⟩ .leaf)) 67 ⟨.slice 97,1,24,[.slice none 0 0]⟩ (.node (.node .leaf 68 ⟨.slice 101,1,24,[.slice none 0 0]⟩ .leaf) 70 ⟨.struct [(0,1),(1,1)],2,48,[.slice none 0 0,.slice none 0 0]⟩ .leaf)))) 72 ⟨.struct [(0,3),(3,2)],5,104,[.bool false,.slice none 0 0,.slice none 0 0,.slice none 0 0,.slice none 0 0]⟩ (.node (.node (.node (.node (.node .leaf 74 ⟨.other,1,8,[.pointer none]⟩ .leaf) 77 ⟨.other,1,8,[.pointer none]⟩ (.node .leaf 86 ⟨.struct [(0,1),(1,1)],2,16,[.int .i64 0,.int .i64 0]⟩ .leaf)) 87 ⟨.other,1,8,[.nilFunc]⟩ (.node (.node .leaf 88 ⟨.slice 3,1,24,[.slice none 0 0]⟩ .leaf) 93 ⟨.slice 95,1,24,[.slice none 0 0]⟩ .leaf)) 95 ⟨.struct [(0,1),(1,1)],2,32,[.int .i64 0,.slice none 0 0]⟩ (.node (.node (.node .leaf 97 ⟨.struct [(0,1),(1,2)],3,40,[.int .i64 0,.int .i64 0,.slice none 0 0]⟩ .leaf) 99 ⟨.other,1,8,[.nilFunc]⟩ (.node .leaf 101 ⟨.struct [(0,2),(2,1)],3,40,[.int .i64 0,.slice none 0 0,.int .i64 0]⟩ .leaf)) 107 ⟨.other,1,8,[.nilFunc]⟩ (.node (.node .leaf 109 ⟨.slice 36,1,24,[.slice none 0 0]⟩ .leaf) 111 ⟨.slice 225,1,24,[.slice none 0 0]⟩ .leaf))) 112 ⟨.slice 229,1,24,[.slice none 0 0]⟩ (.node (.node (.node (.node .leaf 114 ⟨.struct [(0,1),(1,1),(2,1),(3,1)],4,96,[.slice none 0 0,.slice none 0 0,.slice none 0 0,.slice none 0 0]⟩ .leaf) 116 ⟨.map 9 3,1,8,[.map none]⟩ (.node .leaf 117 ⟨.map 9 286,1,8,[.map none]⟩ .leaf)) 119 ⟨.struct [(0,5),(5,1),(6,1)],7,104,[.slice none 0 0,.slice none 0 0,.int .i64 0,.int .i64 0,.slice none 0 0,.map none,.map none]⟩ (.node (.node .leaf 122 ⟨.struct [(0,1),(1,1)],2,32,[.map none,.slice none 0 0]⟩ .leaf) 126 ⟨.other,1,8,[.nilFunc]⟩ .leaf)) 129 ⟨.other,1,8,[.nilFunc]⟩ (.node (.node (.node .leaf 138 ⟨.other,1,8,[.pointer none]⟩ .leaf) 139 ⟨.slice 141,1,24,[.slice none 0 0]⟩ (.node .leaf 141 ⟨.int .u32,1,4,[.int .u32 0]⟩ .leaf)) 143 ⟨.struct [(0,1),(1,1),(2,1)],3,56,[.bool false,.slice none 0 0,.slice none 0 0]⟩ (.node (.node .leaf 156 ⟨.other,1,8,[.pointer none]⟩ .leaf) 158 ⟨.struct [(0,1),(1,1),(2,1)],3,40,[.slice none 0 0,.int .i64 0,.int .i64 0]⟩ .leaf))))) 159 ⟨.other,1,8,[.nilFunc]⟩ (.node (.node (.node (.node (.node (.node .leaf 162 ⟨.other,1,8,[.pointer none]⟩ .leaf) 163 ⟨.slice 5,1,24,[.slice none 0 0]⟩ (.node .leaf 165 ⟨.struct [(0,1),(1,1)],2,32,[.pointer none,.slice none 0 0]⟩ .leaf)) 167 ⟨.other,1,16,[.nilIface]⟩ (.node (.node .leaf 177 ⟨.int .u64,1,8,[.int .u64 0]⟩ .leaf) 181 ⟨.other,1,8,[.nilFunc]⟩ .leaf)) 183 ⟨.other,1,8,[.nilFunc]⟩ (.node (.node (.node .leaf 186 ⟨.other,1,8,[.nilFunc]⟩ .leaf) 187 ⟨.slice 22,1,24,[.slice none 0 0]⟩ (.node .leaf 191 ⟨.other,1,8,[.nilFunc]⟩ .leaf)) 196 ⟨.int .u64,1,8,[.int .u64 0]⟩ (.node (.node .leaf 210 ⟨.other,1,8,[.nilFunc]⟩ .leaf) 215 ⟨.map 9 4,1,8,[.map none]⟩ .leaf))) 217 ⟨.slice 221,1,24,[.slice none 0 0]⟩ (.node (.node (.node (.node .leaf 219 ⟨.struct [(0,1),(1,1),(2,1)],3,48,[.string ⟨#[]⟩,.int .i64 0,.slice none 0 0]⟩ .leaf) 221 ⟨.struct [(0,1),(1,1)],2,40,[.string ⟨#[]⟩,.slice none 0 0]⟩ (.node .leaf 225 ⟨.struct [(0,1),(1,1),(2,1),(3,3),(6,1)],7,112,[.string ⟨#[]⟩,.slice none 0 0,.slice none 0 0,.int .i64 0,.int .i64 0,.slice none 0 0,.int .i64 0]⟩ .leaf)) 226 ⟨.other,1,8,[.nilFunc]⟩ (.node (.node .leaf 227 ⟨.slice 88,1,24,[.slice none 0 0]⟩ .leaf) 229 ⟨.struct [(0,1),(1,1),(2,1),(3,1),(4,1),(5,3)],8,128,[.int .i64 0,.int .i64 0,.slice none 0 0,.slice none 0 0,.slice none 0 0,.int .i64 0,.int .i64 0,.slice none 0 0]⟩ .leaf)) 230 ⟨.slice 4,1,24,[.slice none 0 0]⟩ (.node (.node (.node .leaf 231 ⟨.other,1,8,[.nilFunc]⟩ .leaf) 232 ⟨.other,1,8,[.nilFunc]⟩ (.node .leaf 233 ⟨.other,1,8,[.pointer none]⟩ .leaf)) 235 ⟨.struct [(0,4),(4,1)],5,120,[.slice none 0 0,.slice none 0 0,.slice none 0 0,.slice none 0 0,.slice none 0 0]⟩ (.node (.node .leaf 242 ⟨.other,1,8,[.pointer none]⟩ .leaf) 244 ⟨.int .i64,1,8,[.int .i64 0]⟩ .leaf)))) 265 ⟨.other,1,8,[.nilFunc]⟩ (.node (.node (.node (.node (.node .leaf 273 ⟨.slice 275,1,24,[.slice none 0 0]⟩ .leaf) 275 ⟨.struct [(0,1),(1,1),(2,1),(3,1)],4,80,[.int .i64 0,.slice none 0 0,.slice none 0 0,.slice none 0 0]⟩ (.node .leaf 277 ⟨.slice 58,1,24,[.slice none 0 0]⟩ .leaf)) 286 ⟨.slice 290,1,24,[.slice none 0 0]⟩ (.node (.node .leaf 290 ⟨.struct [(0,2),(2,3)],5,88,[.int .i64 0,.slice none 0 0,.bool false,.slice none 0 0,.slice none 0 0]⟩ .leaf) 299 ⟨.slice 303,1,24,[.slice none 0 0]⟩ .leaf)) 303 ⟨.struct [(0,1),(1,1),(2,1)],3,32,[.int .i64 0,.string ⟨#[]⟩,.int .i64 0]⟩ (.node (.node (.node .leaf 313 ⟨.other,1,8,[.pointer none]⟩ .leaf) 316 ⟨.int .u64,1,8,[.int .u64 0]⟩ (.node .leaf 335 ⟨.slice 230,1,24,[.slice none 0 0]⟩ .leaf)) 336 ⟨.other,1,8,[.nilFunc]⟩ (.node (.node .leaf 337 ⟨.float .f64,1,8,[.float .f64 0]⟩ .leaf) 344 ⟨.slice 67,1,24,[.slice none 0 0]⟩ .leaf))) 346 ⟨.slice 68,1,24,[.slice none 0 0]⟩ (.node (.node (.node (.node .leaf 348 ⟨.other,1,8,[.nilFunc]⟩ .leaf) 359 ⟨.other,1,8,[.pointer none]⟩ (.node .leaf 369 ⟨.other,1,8,[.pointer none]⟩ .leaf)) 383 ⟨.other,1,8,[.nilFunc]⟩ (.node (.node .leaf 391 ⟨.other,1,8,[.nilFunc]⟩ .leaf) 393 ⟨.struct [(0,1),(1,3),(4,1),(5,1)],6,96,[.slice none 0 0,.int .i64 0,.int .i64 0,.slice none 0 0,.map none,.slice none 0 0]⟩ .leaf)) 394 ⟨.slice 397,1,24,[.slice none 0 0]⟩ (.node (.node (.node .leaf 397 ⟨.struct [(0,1),(1,3)],4,80,[.slice none 0 0,.bool false,.slice none 0 0,.slice none 0 0]⟩ .leaf) 400 ⟨.slice 286,1,24,[.slice none 0 0]⟩ .leaf) 402 ⟨.other,1,8,[.nilFunc]⟩ (.node (.node .leaf 409 ⟨.other,1,8,[.nilFunc]⟩ .leaf) 415 ⟨.slice 93,1,24,[.slice none 0 0]⟩ .leaf))))))
def Cb:Ch:=Abp.find
theorem Aq5:Abp.toList.map (fun p=>Gc Go.Proofs.Tryz.prog p.1)=Abp.toList.map (fun p=>some p.2):=by kernel_rfl
theorem Ag6:Ci Go.Proofs.Tryz.prog Cb:=Tr.ok Aq5
theorem Sy:Go.Proofs.Tryz.prog.follows .mixedOrders=true:=by kernel_rfl
end Go.Ab
namespace Go.Ab.Fn
abbrev Xa:FuncId:=4
abbrev Xb:FuncId:=7
abbrev Abq:FuncId:=8
abbrev Kh:FuncId:=9
abbrev Xc:FuncId:=10
abbrev My:FuncId:=11
abbrev Qk:FuncId:=12
abbrev Jw:FuncId:=14
abbrev Abr:FuncId:=15
abbrev Ql:FuncId:=18
abbrev Abs:FuncId:=19
abbrev Oa:FuncId:=20
abbrev Qm:FuncId:=21
abbrev Xd:FuncId:=22
abbrev Ta:FuncId:=23
abbrev Tb:FuncId:=24
abbrev Tc:FuncId:=25
abbrev Je:FuncId:=26
abbrev H6:FuncId:=27
abbrev He:FuncId:=28
abbrev Im:FuncId:=29
abbrev Ho:FuncId:=30
abbrev H7:FuncId:=31
abbrev Ki:FuncId:=32
abbrev Xe:FuncId:=33
abbrev Mz:FuncId:=37
abbrev Fy:FuncId:=38
abbrev G0:FuncId:=40
abbrev Lw:FuncId:=41
abbrev Ob:FuncId:=43
abbrev Jf:FuncId:=44
abbrev M0:FuncId:=45
abbrev Qo:FuncId:=46
abbrev Oc:FuncId:=47
abbrev M1:FuncId:=48
abbrev Td:FuncId:=49
abbrev Xf:FuncId:=50
abbrev Te:FuncId:=51
abbrev M2:FuncId:=52
abbrev Tf:FuncId:=53
abbrev Tg:FuncId:=54
abbrev Hf:FuncId:=55
abbrev Lx:FuncId:=56
abbrev Ly:FuncId:=57
abbrev M3:FuncId:=58
abbrev Th:FuncId:=59
abbrev Qp:FuncId:=60
abbrev Ti:FuncId:=61
abbrev Qq:FuncId:=62
abbrev Tj:FuncId:=63
abbrev Tk:FuncId:=64
abbrev Tl:FuncId:=65
abbrev Od:FuncId:=71
abbrev Lz:FuncId:=72
abbrev K6:FuncId:=75
abbrev L0:FuncId:=76
abbrev Xg:FuncId:=77
abbrev Oe:FuncId:=79
abbrev K7:FuncId:=80
abbrev Of:FuncId:=81
abbrev Og:FuncId:=82
abbrev Tm:FuncId:=83
abbrev Oh:FuncId:=84
abbrev Qs:FuncId:=85
abbrev Tn:FuncId:=86
abbrev Oi:FuncId:=87
abbrev Oj:FuncId:=88
abbrev To:FuncId:=89
abbrev Tp:FuncId:=90
abbrev Abt:FuncId:=91
abbrev Abu:FuncId:=92
abbrev Abv:FuncId:=93
abbrev Abw:FuncId:=94
abbrev Abx:FuncId:=95
abbrev Aby:FuncId:=96
abbrev Kj:FuncId:=97
abbrev L1:FuncId:=98
abbrev K8:FuncId:=99
abbrev Qt:FuncId:=100
abbrev H8:FuncId:=101
abbrev L2:FuncId:=102
abbrev Gp:FuncId:=103
abbrev L3:FuncId:=104
abbrev Jx:FuncId:=105
abbrev Tq:FuncId:=106
abbrev Ts:FuncId:=107
abbrev Qu:FuncId:=108
abbrev Jg:FuncId:=109
abbrev Xh:FuncId:=110
abbrev Tt:FuncId:=111
abbrev K9:FuncId:=112
abbrev M4:FuncId:=113
abbrev Xi:FuncId:=114
abbrev Tu:FuncId:=115
abbrev Jy:FuncId:=116
abbrev Tv:FuncId:=117
abbrev Qv:FuncId:=118
abbrev L5:FuncId:=119
abbrev Xj:FuncId:=120
abbrev L6:FuncId:=127
abbrev Xk:FuncId:=128
abbrev Abz:FuncId:=130
abbrev Qw:FuncId:=132
abbrev Ip:FuncId:=133
abbrev Tw:FuncId:=134
abbrev Ok:FuncId:=135
abbrev Qx:FuncId:=136
abbrev Qy:FuncId:=137
abbrev Tx:FuncId:=138
abbrev Ol:FuncId:=139
abbrev Xl:FuncId:=140
abbrev Qz:FuncId:=141
abbrev Om:FuncId:=142
abbrev Q2:FuncId:=143
abbrev Q3:FuncId:=144
abbrev M5:FuncId:=145
abbrev La:FuncId:=146
abbrev Ty:FuncId:=147
abbrev M6:FuncId:=148
abbrev M7:FuncId:=149
abbrev On:FuncId:=150
abbrev M8:FuncId:=151
abbrev Ab0:FuncId:=152
abbrev Ab1:FuncId:=153
abbrev Tz:FuncId:=160
abbrev T0:FuncId:=161
abbrev M9:FuncId:=162
abbrev Lb:FuncId:=163
abbrev T1:FuncId:=164
abbrev Oo:FuncId:=165
abbrev Oq:FuncId:=167
abbrev Kk:FuncId:=168
abbrev T2:FuncId:=169
abbrev Xm:FuncId:=178
abbrev T3:FuncId:=179
abbrev T5:FuncId:=180
abbrev Xn:FuncId:=181
abbrev T6:FuncId:=182
abbrev T7:FuncId:=183
abbrev Ot:FuncId:=184
abbrev T8:FuncId:=185
abbrev Ou:FuncId:=198
abbrev Ov:FuncId:=199
abbrev Na:FuncId:=200
abbrev Ow:FuncId:=201
abbrev T9:FuncId:=202
abbrev Ox:FuncId:=203
abbrev Oy:FuncId:=206
abbrev Q4:FuncId:=207
abbrev Iq:FuncId:=209
abbrev Ua:FuncId:=210
abbrev Oz:FuncId:=211
abbrev Ub:FuncId:=212
abbrev Xo:FuncId:=213
abbrev Uc:FuncId:=214
abbrev Q5:FuncId:=215
abbrev Ud:FuncId:=216
abbrev O0:FuncId:=218
abbrev Q6:FuncId:=220
abbrev Q7:FuncId:=221
abbrev Q8:FuncId:=222
abbrev Kl:FuncId:=223
abbrev O1:FuncId:=224
abbrev Xp:FuncId:=225
abbrev Xq:FuncId:=226
abbrev Xr:FuncId:=227
abbrev O2:FuncId:=228
abbrev Ab2:FuncId:=229
abbrev Nb:FuncId:=240
abbrev Q9:FuncId:=242
abbrev Xs:FuncId:=249
abbrev Xt:FuncId:=250
abbrev Ra:FuncId:=261
abbrev O3:FuncId:=262
abbrev Rb:FuncId:=263
abbrev Ue:FuncId:=264
abbrev Xu:FuncId:=268
abbrev Xv:FuncId:=270
abbrev Uf:FuncId:=271
abbrev Xw:FuncId:=272
abbrev Xx:FuncId:=273
abbrev Ug:FuncId:=274
abbrev Uh:FuncId:=275
abbrev Ui:FuncId:=276
abbrev O4:FuncId:=280
abbrev O5:FuncId:=281
abbrev Xy:FuncId:=291
abbrev Xz:FuncId:=300
abbrev Lc:FuncId:=302
abbrev O6:FuncId:=303
abbrev Re:FuncId:=304
abbrev Uj:FuncId:=305
abbrev Rf:FuncId:=306
abbrev O7:FuncId:=307
abbrev Uk:FuncId:=308
abbrev Rg:FuncId:=309
abbrev Ul:FuncId:=310
abbrev Nc:FuncId:=311
abbrev Um:FuncId:=312
abbrev Un:FuncId:=313
abbrev Uo:FuncId:=334
end Go.Ab.Fn
namespace Go.Ab
open Go
abbrev O (k:IntKind) (n:Int):AV:=.val (.int k n)
abbrev Av (b:Bool):AV:=.val (.bool b)
abbrev Ep (s:ByteArray):AV:=.val (.string s)
abbrev Ar {α:Type} (sz:Nat) (f:α->AV) (l:List α):AV:=.sl sz (l.map f)
abbrev Ir {α:Type} (sz:Nat) (g:List α->List AV) (l:List α):AV:=.sl sz (g l)
structure Ba where
 Var:Int
 Coef:Int
def Db (x:Ba):AV:=.agg [O .i64 x.Var,O .i64 x.Coef]
structure Bf where
 Const:Int
 Terms:(List Ba)
def Fh (x:Bf):AV:=.agg [O .i64 x.Const,.sl 2 (List.map Db x.Terms)]
structure Ai where
 Kind:Int
 Num:Int
 Args:(List Ai)
mutual
def Ab3:Ai->AV
 | ⟨x0,x1,x2⟩=>.agg [O .i64 x0,O .i64 x1,.sl 3 (Bn x2)]
def Bn:List Ai->List AV
 | []=>[]
 | x::xs=>Ab3 x::Bn xs
end
def Fd (x:Ai):AV:=.agg [O .i64 x.Kind,O .i64 x.Num,.sl 3 (Bn x.Args)]
theorem Aq6 (x:Ai):Ab3 x=Fd x:=by cases x; simp only [Ab3,Fd]
theorem Is:∀l:List Ai,Bn l=l.map Fd
 | []=>rfl
 | x::xs=>by simp only [Bn,List.map_cons,Aq6,Is xs]
structure L7 where
 Name:ByteArray
 Args:(List Ai)
def X0 (x:L7):AV:=.agg [Ep x.Name,.sl 3 (Bn x.Args)]
structure A3 where
 Name:ByteArray
 Vars:Int
 Cons:(List L7)
def Cu (x:A3):AV:=.agg [Ep x.Name,O .i64 x.Vars,.sl 2 (List.map X0 x.Cons)]
structure Bw where
 Data:(List A3)
 Vars:(List Ai)
 Res:Ai
def Hg (x:Bw):AV:=.agg [.sl 3 (List.map Cu x.Data),.sl 3 (Bn x.Vars),O .i64 x.Res.Kind,O .i64 x.Res.Num,.sl 3 (Bn x.Res.Args)]
structure F9 where
 Kind:Int
 E:Bf
 F:Bf
 K:Int
def Rh (x:F9):AV:=.agg [O .i64 x.Kind,O .i64 x.E.Const,.sl 2 (List.map Db x.E.Terms),O .i64 x.F.Const,.sl 2 (List.map Db x.F.Terms),O .i64 x.K]
structure Ri where
 Kind:Int
 Num:Int
 Kids:(List Ri)
mutual
def Ab4:Ri->AV
 | ⟨x0,x1,x2⟩=>.agg [O .i64 x0,O .i64 x1,.sl 3 (Rj x2)]
def Rj:List Ri->List AV
 | []=>[]
 | x::xs=>Ab4 x::Rj xs
end
def X1 (x:Ri):AV:=.agg [O .i64 x.Kind,O .i64 x.Num,.sl 3 (Rj x.Kids)]
theorem Aq7 (x:Ri):Ab4 x=X1 x:=by cases x; simp only [Ab4,X1]
theorem Km:∀l:List Ri,Rj l=l.map X1
 | []=>rfl
 | x::xs=>by simp only [Rj,List.map_cons,Aq7,Km xs]
structure Ap where
 Neg:Bool
 Num:(List Int)
 Den:(List Int)
def Cn (x:Ap):AV:=.agg [Av x.Neg,.sl 1 (List.map (O .u32) x.Num),.sl 1 (List.map (O .u32) x.Den)]
structure Bp where
 Num:Int
 Kids:(List Bp)
mutual
def Ab5:Bp->AV
 | ⟨x0,x1⟩=>.agg [O .i64 x0,.sl 2 (It x1)]
def It:List Bp->List AV
 | []=>[]
 | x::xs=>Ab5 x::It xs
end
def Hq (x:Bp):AV:=.agg [O .i64 x.Num,.sl 2 (It x.Kids)]
theorem Aq8 (x:Bp):Ab5 x=Hq x:=by cases x; simp only [Ab5,Hq]
theorem Kn:∀l:List Bp,It l=l.map Hq
 | []=>rfl
 | x::xs=>by simp only [It,List.map_cons,Aq8,Kn xs]
structure B8 where
 Var:Int
 Index:Bp
def Ey (x:B8):AV:=.agg [O .i64 x.Var,O .i64 x.Index.Num,.sl 2 (It x.Index.Kids)]
structure A6 where
 Lin:Bf
 Deg:Int
def Ed (x:A6):AV:=.agg [O .i64 x.Lin.Const,.sl 2 (List.map Db x.Lin.Terms),O .i64 x.Deg]
structure Bd where
 Factors:(List B8)
 Atoms:(List A6)
def Gq (x:Bd):AV:=.agg [.sl 3 (List.map Ey x.Factors),.sl 3 (List.map Ed x.Atoms)]
structure Aj where
 Coef:Ap
 Mono:Bd
def B4 (x:Aj):AV:=.agg [Av x.Coef.Neg,.sl 1 (List.map (O .u32) x.Coef.Num),.sl 1 (List.map (O .u32) x.Coef.Den),.sl 3 (List.map Ey x.Mono.Factors),.sl 3 (List.map Ed x.Mono.Atoms)]
structure Ag7 where
 Name:ByteArray
 Params:(List Int)
 Captured:(List Int)
 Result:Ai
 Body:Int
def O8 (x:Ag7):AV:=.agg [Ep x.Name,.sl 1 (List.map (O .i64) x.Params),.sl 1 (List.map (O .i64) x.Captured),O .i64 x.Result.Kind,O .i64 x.Result.Num,.sl 3 (Bn x.Result.Args),O .i64 x.Body]
structure Ag8 where
 Op:Int
 Num:Int
 Vars:(List Int)
 Binds:(List (List Int))
 Kids:(List Int)
 Type_:Ai
def O9 (x:Ag8):AV:=.agg [O .i64 x.Op,O .i64 x.Num,.sl 1 (List.map (O .i64) x.Vars),.sl 1 (List.map (Ar 1 (O .i64)) x.Binds),.sl 1 (List.map (O .i64) x.Kids),O .i64 x.Type_.Kind,O .i64 x.Type_.Num,.sl 3 (Bn x.Type_.Args)]
structure H9 where
 Data:(List A3)
 Codes:(List Ag7)
 Vars:(List Ai)
 Exprs:(List Ag8)
def Pa (x:H9):AV:=.agg [.sl 3 (List.map Cu x.Data),.sl 7 (List.map O8 x.Codes),.sl 3 (Bn x.Vars),.sl 8 (List.map O9 x.Exprs)]
structure F5 where
 neg:Bool
 n:(List Int)
 d:(List Int)
def Nd (x:F5):AV:=.agg [Av x.neg,.sl 1 (List.map (O .u32) x.n),.sl 1 (List.map (O .u32) x.d)]
structure Fe where
 data:(List A3)
 vars:Int
 left:Int
structure Dd where
 Index:Bp
 Coef:Ap
def Ee (x:Dd):AV:=.agg [O .i64 x.Index.Num,.sl 2 (It x.Index.Kids),Av x.Coef.Neg,.sl 1 (List.map (O .u32) x.Coef.Num),.sl 1 (List.map (O .u32) x.Coef.Den)]
structure Hh where
 Kind:Int
 Text:ByteArray
 Pos:Int
def X2 (x:Hh):AV:=.agg [O .i64 x.Kind,Ep x.Text,O .i64 x.Pos]
end Go.Ab
