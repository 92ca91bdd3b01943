/- The types that the program uses; plain types for its data. -/
import Derived.Test.YtidkdnlhdbbbjaaGreatDoorAzAb2
import Derived.Test.YtidkdnlhdbbbjaaGreatDoorProg
import Derived.KernelRfl
namespace Go.Ab
open Go Go.Proofs
def Aav:Tr:=(.node (.node (.node (.node (.node (.node (.node .leaf 1 ⟨.other,1,8,[.nilFunc]⟩ .leaf) 2 ⟨.int .i64,1,8,[.int .i64 0]⟩ (.node .leaf 3 ⟨.int .i64,1,8,[.int .i64 0]⟩ .leaf)) 4 ⟨.bool,1,1,[.bool false]⟩ (.node (.node .leaf 5 ⟨.int .u8,1,1,[.int .u8 0]⟩ .leaf) 9 ⟨.string,1,16,[.string ⟨#[]⟩]⟩ .leaf)) 20 ⟨.other,1,16,[.nilIface]⟩ (.node (.node (.node .leaf 22 ⟨.slice 86,1,24,[.slice none 0 0]⟩ .leaf) 24 ⟨.struct [(0,1),(1,1)],2,32,[.int .i64 0,.slice none 0 0]⟩ (.node .leaf 26 ⟨.slice 219,1,24,[.slice none 0 0]⟩ .leaf)) 27 ⟨.slice 29,1,24,[.slice none 0 0]⟩ (.node (.node .leaf 29 ⟨.struct [(0,1),(1,1),(2,1)],3,40,[.int .i64 0,.int .i64 0,.slice none 0 0]⟩ .leaf) 31 ⟨.struct [(0,1),(1,1),(2,3)],5,88,[.slice none 0 0,.slice none 0 0,.int .i64 0,.int .i64 0,.slice none 0 0]⟩ .leaf))) 34 ⟨.struct [(0,1),(1,2),(3,2),(5,1)],6,80,[.int .i64 0,.int .i64 0,.slice none 0 0,.int .i64 0,.slice none 0 0,.int .i64 0]⟩ (.node (.node (.node (.node .leaf 35 ⟨.slice 34,1,24,[.slice none 0 0]⟩ .leaf) 36 ⟨.slice 72,1,24,[.slice none 0 0]⟩ (.node .leaf 37 ⟨.int .i64,1,8,[.int .i64 0]⟩ .leaf)) 46 ⟨.slice 53,1,24,[.slice none 0 0]⟩ (.node (.node .leaf 48 ⟨.slice 24,1,24,[.slice none 0 0]⟩ .leaf) 52 ⟨.slice 55,1,24,[.slice none 0 0]⟩ .leaf)) 53 ⟨.int .i8,1,1,[.int .i8 0]⟩ (.node (.node (.node .leaf 55 ⟨.struct [(0,1),(1,1),(2,1)],3,40,[.int .i64 0,.int .i64 0,.slice none 0 0]⟩ .leaf) 56 ⟨.slice 141,1,24,[.slice none 0 0]⟩ (.node .leaf 58 ⟨.struct [(0,1),(1,1),(2,1)],3,56,[.bool false,.slice none 0 0,.slice none 0 0]⟩ .leaf)) 67 ⟨.slice 97,1,24,[.slice none 0 0]⟩ (.node (.node .leaf 68 ⟨.slice 101,1,24,[.slice none 0 0]⟩ .leaf) 70 ⟨.struct [(0,1),(1,1)],2,48,[.slice none 0 0,.slice none 0 0]⟩ .leaf)))) 72 ⟨.struct [(0,3),(3,2)],5,104,[.bool false,.slice none 0 0,.slice none 0 0,.slice none 0 0,.slice none 0 0]⟩ (.node (.node (.node (.node (.node .leaf 74 ⟨.other,1,8,[.pointer none]⟩ .leaf) 77 ⟨.other,1,8,[.pointer none]⟩ (.node .leaf 86 ⟨.struct [(0,1),(1,1)],2,16,[.int .i64 0,.int .i64 0]⟩ .leaf)) 87 ⟨.other,1,8,[.nilFunc]⟩ (.node (.node .leaf 88 ⟨.slice 3,1,24,[.slice none 0 0]⟩ .leaf) 93 ⟨.slice 95,1,24,[.slice none 0 0]⟩ .leaf)) 95 ⟨.struct [(0,1),(1,1)],2,32,[.int .i64 0,.slice none 0 0]⟩ (.node (.node (.node .leaf 97 ⟨.struct [(0,1),(1,2)],3,40,[.int .i64 0,.int .i64 0,.slice none 0 0]⟩ .leaf) 99 ⟨.other,1,8,[.nilFunc]⟩ (.node .leaf 101 ⟨.struct [(0,2),(2,1)],3,40,[.int .i64 0,.slice none 0 0,.int .i64 0]⟩ .leaf)) 107 ⟨.other,1,8,[.nilFunc]⟩ (.node (.node .leaf 109 ⟨.slice 36,1,24,[.slice none 0 0]⟩ .leaf) 111 ⟨.slice 225,1,24,[.slice none 0 0]⟩ .leaf))) 112 ⟨.slice 229,1,24,[.slice none 0 0]⟩ (.node (.node (.node (.node .leaf 114 ⟨.struct [(0,1),(1,1),(2,1),(3,1)],4,96,[.slice none 0 0,.slice none 0 0,.slice none 0 0,.slice none 0 0]⟩ .leaf) 116 ⟨.map 9 3,1,8,[.map none]⟩ (.node .leaf 117 ⟨.map 9 286,1,8,[.map none]⟩ .leaf)) 119 ⟨.struct [(0,5),(5,1),(6,1)],7,104,[.slice none 0 0,.slice none 0 0,.int .i64 0,.int .i64 0,.slice none 0 0,.map none,.map none]⟩ (.node (.node .leaf 122 ⟨.struct [(0,1),(1,1)],2,32,[.map none,.slice none 0 0]⟩ .leaf) 126 ⟨.other,1,8,[.nilFunc]⟩ .leaf)) 129 ⟨.other,1,8,[.nilFunc]⟩ (.node (.node (.node .leaf 138 ⟨.other,1,8,[.pointer none]⟩ .leaf) 139 ⟨.slice 141,1,24,[.slice none 0 0]⟩ (.node .leaf 141 ⟨.int .u32,1,4,[.int .u32 0]⟩ .leaf)) 143 ⟨.struct [(0,1),(1,1),(2,1)],3,56,[.bool false,.slice none 0 0,.slice none 0 0]⟩ (.node (.node .leaf 156 ⟨.other,1,8,[.pointer none]⟩ .leaf) 158 ⟨.struct [(0,1),(1,1),(2,1)],3,40,[.slice none 0 0,.int .i64 0,.int .i64 0]⟩ .leaf))))) 159 ⟨.other,1,8,[.nilFunc]⟩ (.node (.node (.node (.node (.node (.node .leaf 162 ⟨.other,1,8,[.pointer none]⟩ .leaf) 163 ⟨.slice 5,1,24,[.slice none 0 0]⟩ (.node .leaf 165 ⟨.struct [(0,1),(1,1)],2,32,[.pointer none,.slice none 0 0]⟩ .leaf)) 167 ⟨.other,1,16,[.nilIface]⟩ (.node (.node .leaf 177 ⟨.int .u64,1,8,[.int .u64 0]⟩ .leaf) 181 ⟨.other,1,8,[.nilFunc]⟩ .leaf)) 183 ⟨.other,1,8,[.nilFunc]⟩ (.node (.node (.node .leaf 186 ⟨.other,1,8,[.nilFunc]⟩ .leaf) 187 ⟨.slice 22,1,24,[.slice none 0 0]⟩ (.node .leaf 191 ⟨.other,1,8,[.nilFunc]⟩ .leaf)) 196 ⟨.int .u64,1,8,[.int .u64 0]⟩ (.node (.node .leaf 210 ⟨.other,1,8,[.nilFunc]⟩ .leaf) 215 ⟨.map 9 4,1,8,[.map none]⟩ .leaf))) 217 ⟨.slice 221,1,24,[.slice none 0 0]⟩ (.node (.node (.node (.node .leaf 219 ⟨.struct [(0,1),(1,1),(2,1)],3,48,[.string ⟨#[]⟩,.int .i64 0,.slice none 0 0]⟩ .leaf) 221 ⟨.struct [(0,1),(1,1)],2,40,[.string ⟨#[]⟩,.slice none 0 0]⟩ (.node .leaf 225 ⟨.struct [(0,1),(1,1),(2,1),(3,3),(6,1)],7,112,[.string ⟨#[]⟩,.slice none 0 0,.slice none 0 0,.int .i64 0,.int .i64 0,.slice none 0 0,.int .i64 0]⟩ .leaf)) 226 ⟨.other,1,8,[.nilFunc]⟩ (.node (.node .leaf 227 ⟨.slice 88,1,24,[.slice none 0 0]⟩ .leaf) 229 ⟨.struct [(0,1),(1,1),(2,1),(3,1),(4,1),(5,3)],8,128,[.int .i64 0,.int .i64 0,.slice none 0 0,.slice none 0 0,.slice none 0 0,.int .i64 0,.int .i64 0,.slice none 0 0]⟩ .leaf)) 230 ⟨.slice 4,1,24,[.slice none 0 0]⟩ (.node (.node (.node .leaf 231 ⟨.other,1,8,[.nilFunc]⟩ .leaf) 232 ⟨.other,1,8,[.nilFunc]⟩ (.node .leaf 233 ⟨.other,1,8,[.pointer none]⟩ .leaf)) 235 ⟨.struct [(0,4),(4,1)],5,120,[.slice none 0 0,.slice none 0 0,.slice none 0 0,.slice none 0 0,.slice none 0 0]⟩ (.node (.node .leaf 242 ⟨.other,1,8,[.pointer none]⟩ .leaf) 244 ⟨.int .i64,1,8,[.int .i64 0]⟩ .leaf)))) 265 ⟨.other,1,8,[.nilFunc]⟩ (.node (.node (.node (.node (.node .leaf 273 ⟨.slice 275,1,24,[.slice none 0 0]⟩ .leaf) 275 ⟨.struct [(0,1),(1,1),(2,1),(3,1)],4,80,[.int .i64 0,.slice none 0 0,.slice none 0 0,.slice none 0 0]⟩ (.node .leaf 277 ⟨.slice 58,1,24,[.slice none 0 0]⟩ .leaf)) 286 ⟨.slice 290,1,24,[.slice none 0 0]⟩ (.node (.node .leaf 290 ⟨.struct [(0,2),(2,3)],5,88,[.int .i64 0,.slice none 0 0,.bool false,.slice none 0 0,.slice none 0 0]⟩ .leaf) 299 ⟨.slice 303,1,24,[.slice none 0 0]⟩ .leaf)) 303 ⟨.struct [(0,1),(1,1),(2,1)],3,32,[.int .i64 0,.string ⟨#[]⟩,.int .i64 0]⟩ (.node (.node (.node .leaf 313 ⟨.other,1,8,[.pointer none]⟩ .leaf) 316 ⟨.int .u64,1,8,[.int .u64 0]⟩ (.node .leaf 335 ⟨.slice 230,1,24,[.slice none 0 0]⟩ .leaf)) 336 ⟨.other,1,8,[.nilFunc]⟩ (.node (.node .leaf 337 ⟨.float .f64,1,8,[.float .f64 0]⟩ .leaf) 344 ⟨.slice 67,1,24,[.slice none 0 0]⟩ .leaf))) 346 ⟨.slice 68,1,24,[.slice none 0 0]⟩ (.node (.node (.node (.node .leaf 348 ⟨.other,1,8,[.nilFunc]⟩ .leaf) 359 ⟨.other,1,8,[.pointer none]⟩ (.node .leaf 369 ⟨.other,1,8,[.pointer none]⟩ .leaf)) 383 ⟨.other,1,8,[.nilFunc]⟩ (.node (.node .leaf 391 ⟨.other,1,8,[.nilFunc]⟩ .leaf) 393 ⟨.struct [(0,1),(1,3),(4,1),(5,1)],6,96,[.slice none 0 0,.int .i64 0,.int .i64 0,.slice none 0 0,.map none,.slice none 0 0]⟩ .leaf)) 394 ⟨.slice 397,1,24,[.slice none 0 0]⟩ (.node (.node (.node .leaf 397 ⟨.struct [(0,1),(1,3)],4,80,[.slice none 0 0,.bool false,.slice none 0 0,.slice none 0 0]⟩ .leaf) 400 ⟨.slice 286,1,24,[.slice none 0 0]⟩ .leaf) 402 ⟨.other,1,8,[.nilFunc]⟩ (.node (.node .leaf 409 ⟨.other,1,8,[.nilFunc]⟩ .leaf) 415 ⟨.slice 93,1,24,[.slice none 0 0]⟩ .leaf))))))
def Cl:Ca:=Aav.find
theorem Ap0:Aav.toList.map (fun p=>F2 Go.Proofs.Tryz.prog p.1)=Aav.toList.map (fun p=>some p.2):=by kernel_rfl
theorem Af9:Cb Go.Proofs.Tryz.prog Cl:=Tr.ok Ap0
theorem R5:Go.Proofs.Tryz.prog.follows .mixedOrders=true:=by kernel_rfl
end Go.Ab
namespace Go.Ab.Fn
abbrev Wf:FuncId:=3
abbrev Wg:FuncId:=7
abbrev Sg:FuncId:=8
abbrev J5:FuncId:=9
abbrev Ku:FuncId:=14
abbrev Aaw:FuncId:=15
abbrev Wh:FuncId:=18
abbrev Aax:FuncId:=19
abbrev Nt:FuncId:=20
abbrev Px:FuncId:=21
abbrev Wi:FuncId:=22
abbrev Sh:FuncId:=23
abbrev Jj:FuncId:=26
abbrev Iy:FuncId:=27
abbrev H9:FuncId:=28
abbrev Iz:FuncId:=29
abbrev He:FuncId:=30
abbrev J6:FuncId:=31
abbrev Li:FuncId:=32
abbrev Wj:FuncId:=33
abbrev Mk:FuncId:=37
abbrev Fq:FuncId:=38
abbrev Gn:FuncId:=40
abbrev Lj:FuncId:=41
abbrev Py:FuncId:=43
abbrev I0:FuncId:=44
abbrev Ml:FuncId:=45
abbrev Pz:FuncId:=46
abbrev Si:FuncId:=51
abbrev Mm:FuncId:=52
abbrev Sj:FuncId:=53
abbrev Sk:FuncId:=54
abbrev G1:FuncId:=55
abbrev Lk:FuncId:=56
abbrev Ll:FuncId:=57
abbrev Mn:FuncId:=58
abbrev Sl:FuncId:=59
abbrev P0:FuncId:=60
abbrev Sn:FuncId:=61
abbrev P1:FuncId:=62
abbrev So:FuncId:=63
abbrev Sp:FuncId:=64
abbrev Sq:FuncId:=65
abbrev Nu:FuncId:=71
abbrev Lm:FuncId:=72
abbrev Kv:FuncId:=75
abbrev Ln:FuncId:=76
abbrev Wk:FuncId:=77
abbrev Nv:FuncId:=79
abbrev Mo:FuncId:=80
abbrev Nw:FuncId:=81
abbrev Nx:FuncId:=82
abbrev Sr:FuncId:=83
abbrev Ny:FuncId:=84
abbrev Ss:FuncId:=88
abbrev Su:FuncId:=90
abbrev Aay:FuncId:=91
abbrev Aaz:FuncId:=92
abbrev Aa0:FuncId:=93
abbrev Aa1:FuncId:=94
abbrev Aa2:FuncId:=95
abbrev Aa3:FuncId:=96
abbrev J7:FuncId:=97
abbrev Lo:FuncId:=98
abbrev Kw:FuncId:=99
abbrev P2:FuncId:=100
abbrev Hu:FuncId:=101
abbrev Lp:FuncId:=102
abbrev Gc:FuncId:=103
abbrev Lq:FuncId:=104
abbrev Jk:FuncId:=105
abbrev Sv:FuncId:=106
abbrev Sw:FuncId:=107
abbrev P3:FuncId:=108
abbrev I1:FuncId:=109
abbrev Wl:FuncId:=110
abbrev Sx:FuncId:=111
abbrev Kx:FuncId:=112
abbrev Mp:FuncId:=113
abbrev Wm:FuncId:=114
abbrev Sy:FuncId:=115
abbrev Jl:FuncId:=116
abbrev Sz:FuncId:=117
abbrev P4:FuncId:=118
abbrev Lr:FuncId:=119
abbrev Wn:FuncId:=120
abbrev Lt:FuncId:=127
abbrev Wo:FuncId:=128
abbrev Aa4:FuncId:=130
abbrev P5:FuncId:=132
abbrev Ia:FuncId:=133
abbrev S0:FuncId:=134
abbrev Nz:FuncId:=135
abbrev P6:FuncId:=136
abbrev S3:FuncId:=137
abbrev Wp:FuncId:=138
abbrev P7:FuncId:=139
abbrev Wq:FuncId:=140
abbrev P8:FuncId:=141
abbrev N0:FuncId:=142
abbrev P9:FuncId:=143
abbrev Qa:FuncId:=144
abbrev Mq:FuncId:=145
abbrev Lu:FuncId:=146
abbrev Wr:FuncId:=147
abbrev N1:FuncId:=148
abbrev N2:FuncId:=149
abbrev N3:FuncId:=150
abbrev Mr:FuncId:=151
abbrev Aa5:FuncId:=152
abbrev Aa6:FuncId:=153
abbrev S4:FuncId:=160
abbrev S5:FuncId:=161
abbrev Ms:FuncId:=162
abbrev Ky:FuncId:=163
abbrev S6:FuncId:=164
abbrev N4:FuncId:=165
abbrev N5:FuncId:=167
abbrev J8:FuncId:=168
abbrev S7:FuncId:=169
abbrev Ws:FuncId:=178
abbrev S8:FuncId:=179
abbrev S9:FuncId:=180
abbrev Wt:FuncId:=181
abbrev Ta:FuncId:=182
abbrev Tb:FuncId:=183
abbrev N6:FuncId:=184
abbrev Tc:FuncId:=185
abbrev N7:FuncId:=198
abbrev N8:FuncId:=199
abbrev Mt:FuncId:=200
abbrev N9:FuncId:=201
abbrev Td:FuncId:=202
abbrev Oa:FuncId:=203
abbrev Ob:FuncId:=206
abbrev Qb:FuncId:=207
abbrev I2:FuncId:=209
abbrev Wu:FuncId:=210
abbrev Qc:FuncId:=211
abbrev Wv:FuncId:=212
abbrev Ww:FuncId:=213
abbrev Te:FuncId:=214
abbrev Qd:FuncId:=215
abbrev Tf:FuncId:=216
abbrev Oc:FuncId:=218
abbrev Qf:FuncId:=220
abbrev Qg:FuncId:=221
abbrev Qh:FuncId:=222
abbrev J9:FuncId:=223
abbrev Od:FuncId:=224
abbrev Wx:FuncId:=225
abbrev Wy:FuncId:=226
abbrev Wz:FuncId:=227
abbrev Oe:FuncId:=228
abbrev Aa7:FuncId:=229
abbrev Mu:FuncId:=240
abbrev Qi:FuncId:=242
abbrev W0:FuncId:=249
abbrev W1:FuncId:=250
abbrev Qj:FuncId:=261
abbrev Of:FuncId:=262
abbrev Qk:FuncId:=263
abbrev Tg:FuncId:=264
abbrev W2:FuncId:=268
abbrev W3:FuncId:=270
abbrev Th:FuncId:=271
abbrev W4:FuncId:=272
abbrev W5:FuncId:=273
abbrev Ti:FuncId:=274
abbrev Tj:FuncId:=275
abbrev Tk:FuncId:=276
abbrev Og:FuncId:=280
abbrev Oh:FuncId:=281
abbrev W6:FuncId:=291
abbrev W7:FuncId:=300
abbrev Kz:FuncId:=302
abbrev Oi:FuncId:=303
abbrev Ql:FuncId:=304
abbrev Tl:FuncId:=305
abbrev Qm:FuncId:=306
abbrev Oj:FuncId:=307
abbrev Tm:FuncId:=308
abbrev Qo:FuncId:=309
abbrev Tn:FuncId:=310
abbrev Mv:FuncId:=311
abbrev To:FuncId:=312
abbrev Tp:FuncId:=313
abbrev Tq:FuncId:=334
end Go.Ab.Fn
namespace Go.Ab
open Go
abbrev Aa (k:IntKind) (n:Int):O:=.val (.int k n)
abbrev Au (b:Bool):O:=.val (.bool b)
abbrev El (s:ByteArray):O:=.val (.string s)
abbrev Aw {α:Type} (sz:Nat) (f:α->O) (l:List α):O:=.sl sz (l.map f)
abbrev Jm {α:Type} (sz:Nat) (g:List α->List O) (l:List α):O:=.sl sz (g l)
structure Ba where
 Var:Int
 Coef:Int
def C5 (x:Ba):O:=.agg [Aa .i64 x.Var,Aa .i64 x.Coef]
structure Be where
 Const:Int
 Terms:(List Ba)
def Fr (x:Be):O:=.agg [Aa .i64 x.Const,.sl 2 (List.map C5 x.Terms)]
structure Ai where
 Kind:Int
 Num:Int
 Args:(List Ai)
mutual
def Aa8:Ai->O
 | ⟨x0,x1,x2⟩=>.agg [Aa .i64 x0,Aa .i64 x1,.sl 3 (Bm x2)]
def Bm:List Ai->List O
 | []=>[]
 | x::xs=>Aa8 x::Bm xs
end
def Gd (x:Ai):O:=.agg [Aa .i64 x.Kind,Aa .i64 x.Num,.sl 3 (Bm x.Args)]
theorem Ap1 (x:Ai):Aa8 x=Gd x:=by cases x; simp only [Aa8,Gd]
theorem Ka:∀l:List Ai,Bm l=l.map Gd
 | []=>rfl
 | x::xs=>by simp only [Bm,List.map_cons,Ap1,Ka xs]
structure Ok where
 Name:ByteArray
 Args:(List Ai)
def Ap2 (x:Ok):O:=.agg [El x.Name,.sl 3 (Bm x.Args)]
structure Ay where
 Name:ByteArray
 Vars:Int
 Cons:(List Ok)
def Cs (x:Ay):O:=.agg [El x.Name,Aa .i64 x.Vars,.sl 2 (List.map Ap2 x.Cons)]
structure Bx where
 Data:(List Ay)
 Vars:(List Ai)
 Res:Ai
def Jn (x:Bx):O:=.agg [.sl 3 (List.map Cs x.Data),.sl 3 (Bm x.Vars),Aa .i64 x.Res.Kind,Aa .i64 x.Res.Num,.sl 3 (Bm x.Res.Args)]
structure Em where
 Kind:Int
 E:Be
 F:Be
 K:Int
def Mw (x:Em):O:=.agg [Aa .i64 x.Kind,Aa .i64 x.E.Const,.sl 2 (List.map C5 x.E.Terms),Aa .i64 x.F.Const,.sl 2 (List.map C5 x.F.Terms),Aa .i64 x.K]
structure Qp where
 Kind:Int
 Num:Int
 Kids:(List Qp)
mutual
def Aa9:Qp->O
 | ⟨x0,x1,x2⟩=>.agg [Aa .i64 x0,Aa .i64 x1,.sl 3 (Qq x2)]
def Qq:List Qp->List O
 | []=>[]
 | x::xs=>Aa9 x::Qq xs
end
def W8 (x:Qp):O:=.agg [Aa .i64 x.Kind,Aa .i64 x.Num,.sl 3 (Qq x.Kids)]
theorem Ap3 (x:Qp):Aa9 x=W8 x:=by cases x; simp only [Aa9,W8]
theorem Kb:∀l:List Qp,Qq l=l.map W8
 | []=>rfl
 | x::xs=>by simp only [Qq,List.map_cons,Ap3,Kb xs]
structure Aq where
 Neg:Bool
 Num:(List Int)
 Den:(List Int)
def C6 (x:Aq):O:=.agg [Au x.Neg,.sl 1 (List.map (Aa .u32) x.Num),.sl 1 (List.map (Aa .u32) x.Den)]
structure Bq where
 Num:Int
 Kids:(List Bq)
mutual
def Aba:Bq->O
 | ⟨x0,x1⟩=>.agg [Aa .i64 x0,.sl 2 (Jo x1)]
def Jo:List Bq->List O
 | []=>[]
 | x::xs=>Aba x::Jo xs
end
def Ib (x:Bq):O:=.agg [Aa .i64 x.Num,.sl 2 (Jo x.Kids)]
theorem Ap4 (x:Bq):Aba x=Ib x:=by cases x; simp only [Aba,Ib]
theorem Kc:∀l:List Bq,Jo l=l.map Ib
 | []=>rfl
 | x::xs=>by simp only [Jo,List.map_cons,Ap4,Kc xs]
structure B4 where
 Var:Int
 Index:Bq
def Eo (x:B4):O:=.agg [Aa .i64 x.Var,Aa .i64 x.Index.Num,.sl 2 (Jo x.Index.Kids)]
structure A3 where
 Lin:Be
 Deg:Int
def D5 (x:A3):O:=.agg [Aa .i64 x.Lin.Const,.sl 2 (List.map C5 x.Lin.Terms),Aa .i64 x.Deg]
structure Bf where
 Factors:(List B4)
 Atoms:(List A3)
def G2 (x:Bf):O:=.agg [.sl 3 (List.map Eo x.Factors),.sl 3 (List.map D5 x.Atoms)]
structure Aj where
 Coef:Aq
 Mono:Bf
def B5 (x:Aj):O:=.agg [Au x.Coef.Neg,.sl 1 (List.map (Aa .u32) x.Coef.Num),.sl 1 (List.map (Aa .u32) x.Coef.Den),.sl 3 (List.map Eo x.Mono.Factors),.sl 3 (List.map D5 x.Mono.Atoms)]
structure Aga where
 Name:ByteArray
 Params:(List Int)
 Captured:(List Int)
 Result:Ai
 Body:Int
def Ol (x:Aga):O:=.agg [El x.Name,.sl 1 (List.map (Aa .i64) x.Params),.sl 1 (List.map (Aa .i64) x.Captured),Aa .i64 x.Result.Kind,Aa .i64 x.Result.Num,.sl 3 (Bm x.Result.Args),Aa .i64 x.Body]
structure Agb where
 Op:Int
 Num:Int
 Vars:(List Int)
 Binds:(List (List Int))
 Kids:(List Int)
 Type_:Ai
def Om (x:Agb):O:=.agg [Aa .i64 x.Op,Aa .i64 x.Num,.sl 1 (List.map (Aa .i64) x.Vars),.sl 1 (List.map (Aw 1 (Aa .i64)) x.Binds),.sl 1 (List.map (Aa .i64) x.Kids),Aa .i64 x.Type_.Kind,Aa .i64 x.Type_.Num,.sl 3 (Bm x.Type_.Args)]
structure Hv where
 Data:(List Ay)
 Codes:(List Aga)
 Vars:(List Ai)
 Exprs:(List Agb)
def On (x:Hv):O:=.agg [.sl 3 (List.map Cs x.Data),.sl 7 (List.map Ol x.Codes),.sl 3 (Bm x.Vars),.sl 8 (List.map Om x.Exprs)]
structure Fv where
 neg:Bool
 n:(List Int)
 d:(List Int)
def Mx (x:Fv):O:=.agg [Au x.neg,.sl 1 (List.map (Aa .u32) x.n),.sl 1 (List.map (Aa .u32) x.d)]
structure E4 where
 data:(List Ay)
 vars:Int
 left:Int
structure Db where
 Index:Bq
 Coef:Aq
def D6 (x:Db):O:=.agg [Aa .i64 x.Index.Num,.sl 2 (Jo x.Index.Kids),Au x.Coef.Neg,.sl 1 (List.map (Aa .u32) x.Coef.Num),.sl 1 (List.map (Aa .u32) x.Coef.Den)]
structure G3 where
 Kind:Int
 Text:ByteArray
 Pos:Int
def W9 (x:G3):O:=.agg [Aa .i64 x.Kind,El x.Text,Aa .i64 x.Pos]
end Go.Ab
