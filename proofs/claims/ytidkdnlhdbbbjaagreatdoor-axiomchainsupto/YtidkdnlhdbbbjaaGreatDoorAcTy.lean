/- The types that the program uses; plain types for its data. -/
import Derived.Test.YtidkdnlhdbbbjaaGreatDoorAcAb2
import Derived.Test.YtidkdnlhdbbbjaaGreatDoorProg
import Derived.KernelRfl
namespace Go.Ab
open Go Go.Proofs
def Abg:Tr:=(.node (.node (.node (.node (.node (.node (.node .leaf 1 ⟨.other,1,8,[.nilFunc]⟩ .leaf) 2 ⟨.int .i64,1,8,[.int .i64 0]⟩ (.node .leaf 3 ⟨.int .i64,1,8,[.int .i64 0]⟩ .leaf)) 4 ⟨.bool,1,1,[.bool false]⟩ (.node (.node .leaf 5 ⟨.int .u8,1,1,[.int .u8 0]⟩ .leaf) 9 ⟨.string,1,16,[.string ⟨#[]⟩]⟩ .leaf)) 20 ⟨.other,1,16,[.nilIface]⟩ (.node (.node (.node .leaf 22 ⟨.slice 86,1,24,[.slice none 0 0]⟩ .leaf) 24 ⟨.struct [(0,1),(1,1)],2,32,[.int .i64 0,.slice none 0 0]⟩ (.node .leaf 26 ⟨.slice 219,1,24,[.slice none 0 0]⟩ .leaf)) 27 ⟨.slice 29,1,24,[.slice none 0 0]⟩ (.node (.node .leaf 29 ⟨.struct [(0,1),(1,1),(2,1)],3,40,[.int .i64 0,.int .i64 0,.slice none 0 0]⟩ .leaf) 31 ⟨.struct [(0,1),(1,1),(2,3)],5,88,[.slice none 0 0,.slice none 0 0,.int .i64 0,.int .i64 0,.slice none 0 0]⟩ .leaf))) 34 ⟨.struct [(0,1),(1,2),(3,2),(5,1)],6,80,[.int .i64 0,.int .i64 0,.slice none 0 0,.int .i64 0,.slice none 0 0,.int .i64 0]⟩ (.node (.node (.node (.node .leaf 35 ⟨.slice 34,1,24,[.slice none 0 0]⟩ .leaf) 36 ⟨.slice 72,1,24,[.slice none 0 0]⟩ (.node .leaf 37 ⟨.int .i64,1,8,[.int .i64 0]⟩ .leaf)) 46 ⟨.slice 53,1,24,[.slice none 0 0]⟩ (.node (.node .leaf 48 ⟨.slice 24,1,24,[.slice none 0 0]⟩ .leaf) 52 ⟨.slice 55,1,24,[.slice none 0 0]⟩ .leaf)) 53 ⟨.int .i8,1,1,[.int .i8 0]⟩ (.node (.node (.node .leaf 55 ⟨.struct [(0,1),(1,1),(2,1)],3,40,[.int .i64 0,.int .i64 0,.slice none 0 0]⟩ .leaf) 56 ⟨.slice 141,1,24,[.slice none 0 0]⟩ (.node .leaf 58 ⟨.struct [(0,1),(1,1),(2,1)],3,56,[.bool false,.slice none 0 0,.slice none 0 0]⟩ .leaf)) 67 ⟨.slice 97,1,24,[.slice none 0 0]⟩ (.node (.node .leaf 68 ⟨.slice 101,1,24,[.slice none 0 0]⟩ .leaf) 70 ⟨.struct [(0,1),(1,1)],2,48,[.slice none 0 0,.slice none 0 0]⟩ .leaf)))) 72 ⟨.struct [(0,3),(3,2)],5,104,[.bool false,.slice none 0 0,.slice none 0 0,.slice none 0 0,.slice none 0 0]⟩ (.node (.node (.node (.node (.node .leaf 74 ⟨.other,1,8,[.pointer none]⟩ .leaf) 77 ⟨.other,1,8,[.pointer none]⟩ (.node .leaf 86 ⟨.struct [(0,1),(1,1)],2,16,[.int .i64 0,.int .i64 0]⟩ .leaf)) 87 ⟨.other,1,8,[.nilFunc]⟩ (.node (.node .leaf 88 ⟨.slice 3,1,24,[.slice none 0 0]⟩ .leaf) 93 ⟨.slice 95,1,24,[.slice none 0 0]⟩ .leaf)) 95 ⟨.struct [(0,1),(1,1)],2,32,[.int .i64 0,.slice none 0 0]⟩ (.node (.node (.node .leaf 97 ⟨.struct [(0,1),(1,2)],3,40,[.int .i64 0,.int .i64 0,.slice none 0 0]⟩ .leaf) 99 ⟨.other,1,8,[.nilFunc]⟩ (.node .leaf 101 ⟨.struct [(0,2),(2,1)],3,40,[.int .i64 0,.slice none 0 0,.int .i64 0]⟩ .leaf)) 107 ⟨.other,1,8,[.nilFunc]⟩ (.node (.node .leaf 109 ⟨.slice 36,1,24,[.slice none 0 0]⟩ .leaf) 111 ⟨.slice 225,1,24,[.slice none 0 0]⟩ .leaf))) 112 ⟨.slice 229,1,24,[.slice none 0 0]⟩ (.node (.node (.node (.node .leaf 114 ⟨.struct [(0,1),(1,1),(2,1),(3,1)],4,96,[.slice none 0 0,.slice none 0 0,.slice none 0 0,.slice none 0 0]⟩ .leaf) 116 ⟨.map 9 3,1,8,[.map none]⟩ (.node .leaf 117 ⟨.map 9 286,1,8,[.map none]⟩ .leaf)) 119 ⟨.struct [(0,5),(5,1),(6,1)],7,104,[.slice none 0 0,.slice none 0 0,.int .i64 0,.int .i64 0,.slice none 0 0,.map none,.map none]⟩ (.node (.node .leaf 122 ⟨.struct [(0,1),(1,1)],2,32,[.map none,.slice none 0 0]⟩ .leaf) 126 ⟨.other,1,8,[.nilFunc]⟩ .leaf)) 129 ⟨.other,1,8,[.nilFunc]⟩ (.node (.node (.node .leaf 138 ⟨.other,1,8,[.pointer none]⟩ .leaf) 139 ⟨.slice 141,1,24,[.slice none 0 0]⟩ (.node .leaf 141 ⟨.int .u32,1,4,[.int .u32 0]⟩ .leaf)) 143 ⟨.struct [(0,1),(1,1),(2,1)],3,56,[.bool false,.slice none 0 0,.slice none 0 0]⟩ (.node (.node .leaf 156 ⟨.other,1,8,[.pointer none]⟩ .leaf) 158 ⟨.struct [(0,1),(1,1),(2,1)],3,40,[.slice none 0 0,.int .i64 0,.int .i64 0]⟩ .leaf))))) 159 ⟨.other,1,8,[.nilFunc]⟩ (.node (.node (.node (.node (.node (.node .leaf 162 ⟨.other,1,8,[.pointer none]⟩ .leaf) 163 ⟨.slice 5,1,24,[.slice none 0 0]⟩ (.node .leaf 165 ⟨.struct [(0,1),(1,1)],2,32,[.pointer none,.slice none 0 0]⟩ .leaf)) 167 ⟨.other,1,16,[.nilIface]⟩ (.node (.node .leaf 177 ⟨.int .u64,1,8,[.int .u64 0]⟩ .leaf) 181 ⟨.other,1,8,[.nilFunc]⟩ .leaf)) 183 ⟨.other,1,8,[.nilFunc]⟩ (.node (.node (.node .leaf 186 ⟨.other,1,8,[.nilFunc]⟩ .leaf) 187 ⟨.slice 22,1,24,[.slice none 0 0]⟩ (.node .leaf 191 ⟨.other,1,8,[.nilFunc]⟩ .leaf)) 196 ⟨.int .u64,1,8,[.int .u64 0]⟩ (.node (.node .leaf 210 ⟨.other,1,8,[.nilFunc]⟩ .leaf) 215 ⟨.map 9 4,1,8,[.map none]⟩ .leaf))) 217 ⟨.slice 221,1,24,[.slice none 0 0]⟩ (.node (.node (.node (.node .leaf 219 ⟨.struct [(0,1),(1,1),(2,1)],3,48,[.string ⟨#[]⟩,.int .i64 0,.slice none 0 0]⟩ .leaf) 221 ⟨.struct [(0,1),(1,1)],2,40,[.string ⟨#[]⟩,.slice none 0 0]⟩ (.node .leaf 225 ⟨.struct [(0,1),(1,1),(2,1),(3,3),(6,1)],7,112,[.string ⟨#[]⟩,.slice none 0 0,.slice none 0 0,.int .i64 0,.int .i64 0,.slice none 0 0,.int .i64 0]⟩ .leaf)) 226 ⟨.other,1,8,[.nilFunc]⟩ (.node (.node .leaf 227 ⟨.slice 88,1,24,[.slice none 0 0]⟩ .leaf) 229 ⟨.struct [(0,1),(1,1),(2,1),(3,1),(4,1),(5,3)],8,128,[.int .i64 0,.int .i64 0,.slice none 0 0,.slice none 0 0,.slice none 0 0,.int .i64 0,.int .i64 0,.slice none 0 0]⟩ .leaf)) 230 ⟨.slice 4,1,24,[.slice none 0 0]⟩ (.node (.node (.node .leaf 231 ⟨.other,1,8,[.nilFunc]⟩ .leaf) 232 ⟨.other,1,8,[.nilFunc]⟩ (.node .leaf 233 ⟨.other,1,8,[.pointer none]⟩ .leaf)) 235 ⟨.struct [(0,4),(4,1)],5,120,[.slice none 0 0,.slice none 0 0,.slice none 0 0,.slice none 0 0,.slice none 0 0]⟩ (.node (.node .leaf 242 ⟨.other,1,8,[.pointer none]⟩ .leaf) 244 ⟨.int .i64,1,8,[.int .i64 0]⟩ .leaf)))) 265 ⟨.other,1,8,[.nilFunc]⟩ (.node (.node (.node (.node (.node .leaf 273 ⟨.slice 275,1,24,[.slice none 0 0]⟩ .leaf) 275 ⟨.struct [(0,1),(1,1),(2,1),(3,1)],4,80,[.int .i64 0,.slice none 0 0,.slice none 0 0,.slice none 0 0]⟩ (.node .leaf 277 ⟨.slice 58,1,24,[.slice none 0 0]⟩ .leaf)) 286 ⟨.slice 290,1,24,[.slice none 0 0]⟩ (.node (.node .leaf 290 ⟨.struct [(0,2),(2,3)],5,88,[.int .i64 0,.slice none 0 0,.bool false,.slice none 0 0,.slice none 0 0]⟩ .leaf) 299 ⟨.slice 303,1,24,[.slice none 0 0]⟩ .leaf)) 303 ⟨.struct [(0,1),(1,1),(2,1)],3,32,[.int .i64 0,.string ⟨#[]⟩,.int .i64 0]⟩ (.node (.node (.node .leaf 313 ⟨.other,1,8,[.pointer none]⟩ .leaf) 316 ⟨.int .u64,1,8,[.int .u64 0]⟩ (.node .leaf 335 ⟨.slice 230,1,24,[.slice none 0 0]⟩ .leaf)) 336 ⟨.other,1,8,[.nilFunc]⟩ (.node (.node .leaf 337 ⟨.float .f64,1,8,[.float .f64 0]⟩ .leaf) 344 ⟨.slice 67,1,24,[.slice none 0 0]⟩ .leaf))) 346 ⟨.slice 68,1,24,[.slice none 0 0]⟩ (.node (.node (.node (.node .leaf 348 ⟨.other,1,8,[.nilFunc]⟩ .leaf) 359 ⟨.other,1,8,[.pointer none]⟩ (.node .leaf 369 ⟨.other,1,8,[.pointer none]⟩ .leaf)) 383 ⟨.other,1,8,[.nilFunc]⟩ (.node (.node .leaf 391 ⟨.other,1,8,[.nilFunc]⟩ .leaf) 393 ⟨.struct [(0,1),(1,3),(4,1),(5,1)],6,96,[.slice none 0 0,.int .i64 0,.int .i64 0,.slice none 0 0,.map none,.slice none 0 0]⟩ .leaf)) 394 ⟨.slice 397,1,24,[.slice none 0 0]⟩ (.node (.node (.node .leaf 397 ⟨.struct [(0,1),(1,3)],4,80,[.slice none 0 0,.bool false,.slice none 0 0,.slice none 0 0]⟩ .leaf) 400 ⟨.slice 286,1,24,[.slice none 0 0]⟩ .leaf) 402 ⟨.other,1,8,[.nilFunc]⟩ (.node (.node .leaf 409 ⟨.other,1,8,[.nilFunc]⟩ .leaf) 415 ⟨.slice 93,1,24,[.slice none 0 0]⟩ .leaf))))))
def Ca:Cg:=Abg.find
theorem Ap7:Abg.toList.map (fun p=>Ga Go.Proofs.Tryz.prog p.1)=Abg.toList.map (fun p=>some p.2):=by kernel_rfl
theorem Agn:Ch Go.Proofs.Tryz.prog Ca:=Tr.ok Ap7
theorem So:Go.Proofs.Tryz.prog.follows .mixedOrders=true:=by kernel_rfl
end Go.Ab
namespace Go.Ab.Fn
abbrev W1:FuncId:=5
abbrev W2:FuncId:=7
abbrev Abh:FuncId:=8
abbrev Mu:FuncId:=9
abbrev W3:FuncId:=10
abbrev Qa:FuncId:=11
abbrev Qb:FuncId:=12
abbrev Lo:FuncId:=14
abbrev Abi:FuncId:=15
abbrev Qc:FuncId:=18
abbrev Abj:FuncId:=19
abbrev Qd:FuncId:=20
abbrev Qf:FuncId:=21
abbrev W4:FuncId:=22
abbrev Abk:FuncId:=23
abbrev Sz:FuncId:=24
abbrev S0:FuncId:=25
abbrev I9:FuncId:=26
abbrev Ka:FuncId:=27
abbrev H5:FuncId:=28
abbrev Jp:FuncId:=29
abbrev Hm:FuncId:=30
abbrev Lp:FuncId:=31
abbrev Lq:FuncId:=32
abbrev W5:FuncId:=33
abbrev Mv:FuncId:=37
abbrev Fx:FuncId:=38
abbrev Gz:FuncId:=40
abbrev Lr:FuncId:=41
abbrev N1:FuncId:=43
abbrev Lt:FuncId:=44
abbrev N2:FuncId:=45
abbrev Abl:FuncId:=46
abbrev N3:FuncId:=47
abbrev Mw:FuncId:=48
abbrev S3:FuncId:=49
abbrev W6:FuncId:=50
abbrev S4:FuncId:=51
abbrev Mx:FuncId:=52
abbrev S5:FuncId:=53
abbrev S6:FuncId:=54
abbrev Hc:FuncId:=55
abbrev Lu:FuncId:=56
abbrev Lv:FuncId:=57
abbrev My:FuncId:=58
abbrev S7:FuncId:=59
abbrev Qg:FuncId:=60
abbrev S8:FuncId:=61
abbrev Qh:FuncId:=62
abbrev S9:FuncId:=63
abbrev Ta:FuncId:=64
abbrev Tb:FuncId:=65
abbrev N4:FuncId:=71
abbrev Lw:FuncId:=72
abbrev Kx:FuncId:=75
abbrev Lx:FuncId:=76
abbrev W7:FuncId:=77
abbrev N5:FuncId:=79
abbrev Ky:FuncId:=80
abbrev N6:FuncId:=81
abbrev Tc:FuncId:=82
abbrev Td:FuncId:=83
abbrev Abm:FuncId:=84
abbrev Qi:FuncId:=85
abbrev Te:FuncId:=86
abbrev N7:FuncId:=87
abbrev N8:FuncId:=88
abbrev Tf:FuncId:=89
abbrev Tg:FuncId:=90
abbrev Abn:FuncId:=91
abbrev Abo:FuncId:=92
abbrev Abp:FuncId:=93
abbrev Abq:FuncId:=94
abbrev Abr:FuncId:=95
abbrev Abs:FuncId:=96
abbrev Kb:FuncId:=97
abbrev Ly:FuncId:=98
abbrev Kz:FuncId:=99
abbrev Qj:FuncId:=100
abbrev H6:FuncId:=101
abbrev Lz:FuncId:=102
abbrev Gl:FuncId:=103
abbrev L0:FuncId:=104
abbrev Jq:FuncId:=105
abbrev Th:FuncId:=106
abbrev Ti:FuncId:=107
abbrev Qk:FuncId:=108
abbrev Ja:FuncId:=109
abbrev W8:FuncId:=110
abbrev Tj:FuncId:=111
abbrev K0:FuncId:=112
abbrev Mz:FuncId:=113
abbrev W9:FuncId:=114
abbrev Tk:FuncId:=115
abbrev Jr:FuncId:=116
abbrev Tl:FuncId:=117
abbrev Ql:FuncId:=118
abbrev L1:FuncId:=119
abbrev Xa:FuncId:=120
abbrev L2:FuncId:=127
abbrev Xb:FuncId:=128
abbrev Abt:FuncId:=130
abbrev Qm:FuncId:=132
abbrev Ik:FuncId:=133
abbrev Tm:FuncId:=134
abbrev N9:FuncId:=135
abbrev Qo:FuncId:=136
abbrev Qp:FuncId:=137
abbrev Tn:FuncId:=138
abbrev Oa:FuncId:=139
abbrev Xc:FuncId:=140
abbrev Qq:FuncId:=141
abbrev Ob:FuncId:=142
abbrev Qs:FuncId:=143
abbrev Xd:FuncId:=144
abbrev Oc:FuncId:=145
abbrev K1:FuncId:=146
abbrev To:FuncId:=147
abbrev M0:FuncId:=148
abbrev M1:FuncId:=149
abbrev Od:FuncId:=150
abbrev M2:FuncId:=151
abbrev Abu:FuncId:=152
abbrev Abv:FuncId:=153
abbrev Tp:FuncId:=160
abbrev Tq:FuncId:=161
abbrev Qt:FuncId:=162
abbrev K2:FuncId:=163
abbrev Ts:FuncId:=164
abbrev Oe:FuncId:=165
abbrev Of:FuncId:=167
abbrev Kc:FuncId:=168
abbrev Tt:FuncId:=169
abbrev Xe:FuncId:=178
abbrev Tu:FuncId:=179
abbrev Tv:FuncId:=180
abbrev Xf:FuncId:=181
abbrev Tw:FuncId:=182
abbrev Tx:FuncId:=183
abbrev Og:FuncId:=184
abbrev Ty:FuncId:=185
abbrev Oh:FuncId:=198
abbrev Oi:FuncId:=199
abbrev M3:FuncId:=200
abbrev Oj:FuncId:=201
abbrev Tz:FuncId:=202
abbrev Ok:FuncId:=203
abbrev Ol:FuncId:=206
abbrev Qu:FuncId:=207
abbrev Il:FuncId:=209
abbrev T0:FuncId:=210
abbrev Om:FuncId:=211
abbrev T1:FuncId:=212
abbrev Xg:FuncId:=213
abbrev T2:FuncId:=214
abbrev Qv:FuncId:=215
abbrev T3:FuncId:=216
abbrev On:FuncId:=218
abbrev Qw:FuncId:=220
abbrev Qx:FuncId:=221
abbrev Qy:FuncId:=222
abbrev Kd:FuncId:=223
abbrev Oo:FuncId:=224
abbrev Xh:FuncId:=225
abbrev Xi:FuncId:=226
abbrev Xj:FuncId:=227
abbrev Oq:FuncId:=228
abbrev Abw:FuncId:=229
abbrev M4:FuncId:=240
abbrev Qz:FuncId:=242
abbrev Xk:FuncId:=249
abbrev Xl:FuncId:=250
abbrev Q2:FuncId:=261
abbrev Ot:FuncId:=262
abbrev Q3:FuncId:=263
abbrev T5:FuncId:=264
abbrev Xm:FuncId:=268
abbrev Xn:FuncId:=270
abbrev T6:FuncId:=271
abbrev Xo:FuncId:=272
abbrev Xp:FuncId:=273
abbrev T7:FuncId:=274
abbrev T8:FuncId:=275
abbrev T9:FuncId:=276
abbrev Ou:FuncId:=280
abbrev Ov:FuncId:=281
abbrev Xq:FuncId:=291
abbrev Xr:FuncId:=300
abbrev K4:FuncId:=302
abbrev Ow:FuncId:=303
abbrev Q4:FuncId:=304
abbrev Ua:FuncId:=305
abbrev Q5:FuncId:=306
abbrev Ox:FuncId:=307
abbrev Ub:FuncId:=308
abbrev Q6:FuncId:=309
abbrev Uc:FuncId:=310
abbrev M5:FuncId:=311
abbrev Ud:FuncId:=312
abbrev Ue:FuncId:=313
abbrev Uf:FuncId:=334
end Go.Ab.Fn
namespace Go.Ab
open Go
abbrev O (k:IntKind) (n:Int):AV:=.val (.int k n)
abbrev Au (b:Bool):AV:=.val (.bool b)
abbrev Eo (s:ByteArray):AV:=.val (.string s)
abbrev Ar {α:Type} (sz:Nat) (f:α->AV) (l:List α):AV:=.sl sz (l.map f)
abbrev Im {α:Type} (sz:Nat) (g:List α->List AV) (l:List α):AV:=.sl sz (g l)
structure Bc where
 Var:Int
 Coef:Int
def Db (x:Bc):AV:=.agg [O .i64 x.Var,O .i64 x.Coef]
structure Bn where
 Const:Int
 Terms:(List Bc)
def Fb (x:Bn):AV:=.agg [O .i64 x.Const,.sl 2 (List.map Db x.Terms)]
structure Ai where
 Kind:Int
 Num:Int
 Args:(List Ai)
mutual
def Abx:Ai->AV
 | ⟨x0,x1,x2⟩=>.agg [O .i64 x0,O .i64 x1,.sl 3 (Bl x2)]
def Bl:List Ai->List AV
 | []=>[]
 | x::xs=>Abx x::Bl xs
end
def Fc (x:Ai):AV:=.agg [O .i64 x.Kind,O .i64 x.Num,.sl 3 (Bl x.Args)]
theorem Ap8 (x:Ai):Abx x=Fc x:=by cases x; simp only [Abx,Fc]
theorem Ip:∀l:List Ai,Bl l=l.map Fc
 | []=>rfl
 | x::xs=>by simp only [Bl,List.map_cons,Ap8,Ip xs]
structure L3 where
 Name:ByteArray
 Args:(List Ai)
def Xs (x:L3):AV:=.agg [Eo x.Name,.sl 3 (Bl x.Args)]
structure A4 where
 Name:ByteArray
 Vars:Int
 Cons:(List L3)
def Ct (x:A4):AV:=.agg [Eo x.Name,O .i64 x.Vars,.sl 2 (List.map Xs x.Cons)]
structure Ci where
 Data:(List A4)
 Vars:(List Ai)
 Res:Ai
def He (x:Ci):AV:=.agg [.sl 3 (List.map Ct x.Data),.sl 3 (Bl x.Vars),O .i64 x.Res.Kind,O .i64 x.Res.Num,.sl 3 (Bl x.Res.Args)]
structure Gd where
 Kind:Int
 E:Bn
 F:Bn
 K:Int
def Q7 (x:Gd):AV:=.agg [O .i64 x.Kind,O .i64 x.E.Const,.sl 2 (List.map Db x.E.Terms),O .i64 x.F.Const,.sl 2 (List.map Db x.F.Terms),O .i64 x.K]
structure Q8 where
 Kind:Int
 Num:Int
 Kids:(List Q8)
mutual
def Aby:Q8->AV
 | ⟨x0,x1,x2⟩=>.agg [O .i64 x0,O .i64 x1,.sl 3 (Q9 x2)]
def Q9:List Q8->List AV
 | []=>[]
 | x::xs=>Aby x::Q9 xs
end
def Xt (x:Q8):AV:=.agg [O .i64 x.Kind,O .i64 x.Num,.sl 3 (Q9 x.Kids)]
theorem Ap9 (x:Q8):Aby x=Xt x:=by cases x; simp only [Aby,Xt]
theorem Ke:∀l:List Q8,Q9 l=l.map Xt
 | []=>rfl
 | x::xs=>by simp only [Q9,List.map_cons,Ap9,Ke xs]
structure Ap where
 Neg:Bool
 Num:(List Int)
 Den:(List Int)
def Cm (x:Ap):AV:=.agg [Au x.Neg,.sl 1 (List.map (O .u32) x.Num),.sl 1 (List.map (O .u32) x.Den)]
structure Bo where
 Num:Int
 Kids:(List Bo)
mutual
def Abz:Bo->AV
 | ⟨x0,x1⟩=>.agg [O .i64 x0,.sl 2 (Iq x1)]
def Iq:List Bo->List AV
 | []=>[]
 | x::xs=>Abz x::Iq xs
end
def Hn (x:Bo):AV:=.agg [O .i64 x.Num,.sl 2 (Iq x.Kids)]
theorem Aqa (x:Bo):Abz x=Hn x:=by cases x; simp only [Abz,Hn]
theorem Kf:∀l:List Bo,Iq l=l.map Hn
 | []=>rfl
 | x::xs=>by simp only [Iq,List.map_cons,Aqa,Kf xs]
structure B7 where
 Var:Int
 Index:Bo
def Ew (x:B7):AV:=.agg [O .i64 x.Var,O .i64 x.Index.Num,.sl 2 (Iq x.Index.Kids)]
structure A9 where
 Lin:Bn
 Deg:Int
def Ee (x:A9):AV:=.agg [O .i64 x.Lin.Const,.sl 2 (List.map Db x.Lin.Terms),O .i64 x.Deg]
structure Bh where
 Factors:(List B7)
 Atoms:(List A9)
def Gm (x:Bh):AV:=.agg [.sl 3 (List.map Ew x.Factors),.sl 3 (List.map Ee x.Atoms)]
structure Aj where
 Coef:Ap
 Mono:Bh
def B4 (x:Aj):AV:=.agg [Au x.Coef.Neg,.sl 1 (List.map (O .u32) x.Coef.Num),.sl 1 (List.map (O .u32) x.Coef.Den),.sl 3 (List.map Ew x.Mono.Factors),.sl 3 (List.map Ee x.Mono.Atoms)]
structure Ago where
 Name:ByteArray
 Params:(List Int)
 Captured:(List Int)
 Result:Ai
 Body:Int
def Oy (x:Ago):AV:=.agg [Eo x.Name,.sl 1 (List.map (O .i64) x.Params),.sl 1 (List.map (O .i64) x.Captured),O .i64 x.Result.Kind,O .i64 x.Result.Num,.sl 3 (Bl x.Result.Args),O .i64 x.Body]
structure Agp where
 Op:Int
 Num:Int
 Vars:(List Int)
 Binds:(List (List Int))
 Kids:(List Int)
 Type_:Ai
def Oz (x:Agp):AV:=.agg [O .i64 x.Op,O .i64 x.Num,.sl 1 (List.map (O .i64) x.Vars),.sl 1 (List.map (Ar 1 (O .i64)) x.Binds),.sl 1 (List.map (O .i64) x.Kids),O .i64 x.Type_.Kind,O .i64 x.Type_.Num,.sl 3 (Bl x.Type_.Args)]
structure H7 where
 Data:(List A4)
 Codes:(List Ago)
 Vars:(List Ai)
 Exprs:(List Agp)
def O0 (x:H7):AV:=.agg [.sl 3 (List.map Ct x.Data),.sl 7 (List.map Oy x.Codes),.sl 3 (Bl x.Vars),.sl 8 (List.map Oz x.Exprs)]
structure F3 where
 neg:Bool
 n:(List Int)
 d:(List Int)
def M6 (x:F3):AV:=.agg [Au x.neg,.sl 1 (List.map (O .u32) x.n),.sl 1 (List.map (O .u32) x.d)]
structure Fd where
 data:(List A4)
 vars:Int
 left:Int
structure Dh where
 Index:Bo
 Coef:Ap
def Ef (x:Dh):AV:=.agg [O .i64 x.Index.Num,.sl 2 (Iq x.Index.Kids),Au x.Coef.Neg,.sl 1 (List.map (O .u32) x.Coef.Num),.sl 1 (List.map (O .u32) x.Coef.Den)]
structure Hf where
 Kind:Int
 Text:ByteArray
 Pos:Int
def Xu (x:Hf):AV:=.agg [O .i64 x.Kind,Eo x.Text,O .i64 x.Pos]
end Go.Ab
