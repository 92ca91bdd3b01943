/- The types that the program uses; plain types for its data. -/
import Derived.Test.YthjgkpbilpojpaaGreatDoorBzAb2
import Derived.Test.YthjgkpbilpojpaaGreatDoorProg
import Derived.KernelRfl
namespace Go.Ab
open Go Go.Proofs
def Aaz:Tr:=(.node (.node (.node (.node (.node (.node (.node .leaf 1 ⟨.other,1,8,[.nilFunc]⟩ .leaf) 2 ⟨.int .i64,1,8,[.int .i64 0]⟩ (.node .leaf 3 ⟨.int .i64,1,8,[.int .i64 0]⟩ .leaf)) 4 ⟨.bool,1,1,[.bool false]⟩ (.node (.node .leaf 5 ⟨.int .u8,1,1,[.int .u8 0]⟩ .leaf) 9 ⟨.string,1,16,[.string ⟨#[]⟩]⟩ .leaf)) 20 ⟨.other,1,16,[.nilIface]⟩ (.node (.node (.node .leaf 22 ⟨.slice 36,1,24,[.slice none 0 0]⟩ .leaf) 24 ⟨.slice 65,1,24,[.slice none 0 0]⟩ .leaf) 25 ⟨.slice 27,1,24,[.slice none 0 0]⟩ (.node (.node .leaf 27 ⟨.struct [(0,1),(1,1),(2,1)],3,40,[.int .i64 0,.int .i64 0,.slice none 0 0]⟩ .leaf) 29 ⟨.struct [(0,1),(1,1),(2,3)],5,88,[.slice none 0 0,.slice none 0 0,.int .i64 0,.int .i64 0,.slice none 0 0]⟩ .leaf))) 31 ⟨.slice 42,1,24,[.slice none 0 0]⟩ (.node (.node (.node (.node .leaf 32 ⟨.slice 105,1,24,[.slice none 0 0]⟩ .leaf) 34 ⟨.struct [(0,1),(1,1),(2,1)],3,56,[.bool false,.slice none 0 0,.slice none 0 0]⟩ (.node .leaf 36 ⟨.int .i8,1,1,[.int .i8 0]⟩ .leaf)) 37 ⟨.slice 72,1,24,[.slice none 0 0]⟩ (.node (.node .leaf 38 ⟨.slice 84,1,24,[.slice none 0 0]⟩ .leaf) 40 ⟨.struct [(0,1),(1,1)],2,48,[.slice none 0 0,.slice none 0 0]⟩ .leaf)) 42 ⟨.struct [(0,3),(3,2)],5,104,[.bool false,.slice none 0 0,.slice none 0 0,.slice none 0 0,.slice none 0 0]⟩ (.node (.node (.node .leaf 44 ⟨.int .i64,1,8,[.int .i64 0]⟩ .leaf) 47 ⟨.slice 34,1,24,[.slice none 0 0]⟩ .leaf) 53 ⟨.struct [(0,1),(1,1),(2,1)],3,24,[.int .i64 0,.int .i64 0,.int .i64 0]⟩ (.node (.node .leaf 54 ⟨.slice 53,1,24,[.slice none 0 0]⟩ .leaf) 62 ⟨.struct [(0,1),(1,1)],2,40,[.string ⟨#[]⟩,.slice none 0 0]⟩ .leaf)))) 63 ⟨.slice 62,1,24,[.slice none 0 0]⟩ (.node (.node (.node (.node (.node .leaf 65 ⟨.struct [(0,1),(1,1),(2,1)],3,48,[.string ⟨#[]⟩,.int .i64 0,.slice none 0 0]⟩ .leaf) 67 ⟨.slice 69,1,24,[.slice none 0 0]⟩ (.node .leaf 69 ⟨.struct [(0,1),(1,1)],2,32,[.int .i64 0,.slice none 0 0]⟩ .leaf)) 72 ⟨.struct [(0,1),(1,2)],3,40,[.int .i64 0,.int .i64 0,.slice none 0 0]⟩ (.node (.node .leaf 73 ⟨.other,1,8,[.pointer none]⟩ .leaf) 78 ⟨.other,1,8,[.pointer none]⟩ .leaf)) 80 ⟨.slice 126,1,24,[.slice none 0 0]⟩ (.node (.node (.node .leaf 82 ⟨.struct [(0,1),(1,1)],2,32,[.int .i64 0,.slice none 0 0]⟩ .leaf) 84 ⟨.struct [(0,2),(2,1)],3,40,[.int .i64 0,.slice none 0 0,.int .i64 0]⟩ .leaf) 94 ⟨.map 97 2,1,8,[.map none]⟩ (.node (.node .leaf 97 ⟨.struct [(0,1),(1,1)],2,16,[.int .i64 0,.int .i64 0]⟩ .leaf) 99 ⟨.other,1,8,[.nilFunc]⟩ .leaf))) 104 ⟨.int .u64,1,8,[.int .u64 0]⟩ (.node (.node (.node (.node .leaf 105 ⟨.int .u32,1,4,[.int .u32 0]⟩ .leaf) 108 ⟨.slice 31,1,24,[.slice none 0 0]⟩ .leaf) 110 ⟨.slice 226,1,24,[.slice none 0 0]⟩ (.node (.node .leaf 111 ⟨.slice 230,1,24,[.slice none 0 0]⟩ .leaf) 113 ⟨.struct [(0,1),(1,1),(2,1),(3,1)],4,96,[.slice none 0 0,.slice none 0 0,.slice none 0 0,.slice none 0 0]⟩ .leaf)) 115 ⟨.map 9 3,1,8,[.map none]⟩ (.node (.node (.node .leaf 116 ⟨.map 9 132,1,8,[.map none]⟩ .leaf) 118 ⟨.struct [(0,5),(5,1),(6,1)],7,104,[.slice none 0 0,.slice none 0 0,.int .i64 0,.int .i64 0,.slice none 0 0,.map none,.map none]⟩ .leaf) 120 ⟨.other,1,8,[.nilFunc]⟩ (.node (.node .leaf 124 ⟨.struct [(0,1),(1,1)],2,32,[.map none,.slice none 0 0]⟩ .leaf) 126 ⟨.struct [(0,1),(1,1)],2,16,[.int .i64 0,.int .i64 0]⟩ .leaf))))) 131 ⟨.other,1,8,[.nilFunc]⟩ (.node (.node (.node (.node (.node (.node .leaf 132 ⟨.slice 136,1,24,[.slice none 0 0]⟩ .leaf) 136 ⟨.struct [(0,2),(2,3)],5,88,[.int .i64 0,.slice none 0 0,.bool false,.slice none 0 0,.slice none 0 0]⟩ (.node .leaf 142 ⟨.other,1,8,[.nilFunc]⟩ .leaf)) 149 ⟨.other,1,8,[.nilFunc]⟩ (.node (.node .leaf 154 ⟨.slice 105,1,24,[.slice none 0 0]⟩ .leaf) 157 ⟨.struct [(0,1),(1,1),(2,1)],3,56,[.bool false,.slice none 0 0,.slice none 0 0]⟩ .leaf)) 169 ⟨.other,1,8,[.pointer none]⟩ (.node (.node (.node .leaf 171 ⟨.struct [(0,1),(1,1),(2,1)],3,40,[.slice none 0 0,.int .i64 0,.int .i64 0]⟩ .leaf) 172 ⟨.other,1,8,[.nilFunc]⟩ .leaf) 178 ⟨.other,1,8,[.nilFunc]⟩ (.node (.node .leaf 182 ⟨.other,1,8,[.nilFunc]⟩ .leaf) 184 ⟨.other,1,8,[.pointer none]⟩ .leaf))) 185 ⟨.slice 5,1,24,[.slice none 0 0]⟩ (.node (.node (.node (.node .leaf 187 ⟨.struct [(0,1),(1,1)],2,32,[.pointer none,.slice none 0 0]⟩ .leaf) 189 ⟨.other,1,16,[.nilIface]⟩ (.node .leaf 205 ⟨.int .u64,1,8,[.int .u64 0]⟩ .leaf)) 207 ⟨.other,1,8,[.nilFunc]⟩ (.node (.node .leaf 220 ⟨.map 9 4,1,8,[.map none]⟩ .leaf) 224 ⟨.slice 3,1,24,[.slice none 0 0]⟩ .leaf)) 226 ⟨.struct [(0,1),(1,1),(2,1),(3,3),(6,1)],7,112,[.string ⟨#[]⟩,.slice none 0 0,.slice none 0 0,.int .i64 0,.int .i64 0,.slice none 0 0,.int .i64 0]⟩ (.node (.node (.node .leaf 227 ⟨.other,1,8,[.nilFunc]⟩ .leaf) 228 ⟨.slice 224,1,24,[.slice none 0 0]⟩ .leaf) 230 ⟨.struct [(0,1),(1,1),(2,1),(3,1),(4,1),(5,3)],8,128,[.int .i64 0,.int .i64 0,.slice none 0 0,.slice none 0 0,.slice none 0 0,.int .i64 0,.int .i64 0,.slice none 0 0]⟩ (.node (.node .leaf 231 ⟨.slice 4,1,24,[.slice none 0 0]⟩ .leaf) 232 ⟨.other,1,8,[.nilFunc]⟩ .leaf)))) 233 ⟨.other,1,8,[.nilFunc]⟩ (.node (.node (.node (.node (.node .leaf 234 ⟨.other,1,8,[.pointer none]⟩ .leaf) 236 ⟨.struct [(0,4),(4,1)],5,120,[.slice none 0 0,.slice none 0 0,.slice none 0 0,.slice none 0 0,.slice none 0 0]⟩ (.node .leaf 244 ⟨.other,1,8,[.pointer none]⟩ .leaf)) 247 ⟨.other,1,8,[.pointer none]⟩ (.node (.node .leaf 263 ⟨.int .i64,1,8,[.int .i64 0]⟩ .leaf) 277 ⟨.float .f64,1,8,[.float .f64 0]⟩ .leaf)) 278 ⟨.slice 282,1,24,[.slice none 0 0]⟩ (.node (.node (.node .leaf 282 ⟨.struct [(0,1),(1,1),(2,1)],3,32,[.int .i64 0,.string ⟨#[]⟩,.int .i64 0]⟩ .leaf) 298 ⟨.other,1,8,[.pointer none]⟩ .leaf) 304 ⟨.other,1,8,[.nilFunc]⟩ (.node (.node .leaf 306 ⟨.struct [(0,1),(1,3),(4,1),(5,1)],6,96,[.slice none 0 0,.int .i64 0,.int .i64 0,.slice none 0 0,.map none,.slice none 0 0]⟩ .leaf) 307 ⟨.slice 310,1,24,[.slice none 0 0]⟩ .leaf))) 310 ⟨.struct [(0,1),(1,3)],4,80,[.slice none 0 0,.bool false,.slice none 0 0,.slice none 0 0]⟩ (.node (.node (.node (.node .leaf 313 ⟨.slice 132,1,24,[.slice none 0 0]⟩ .leaf) 315 ⟨.other,1,8,[.nilFunc]⟩ .leaf) 317 ⟨.slice 37,1,24,[.slice none 0 0]⟩ (.node (.node .leaf 319 ⟨.slice 38,1,24,[.slice none 0 0]⟩ .leaf) 322 ⟨.int .u64,1,8,[.int .u64 0]⟩ .leaf)) 326 ⟨.other,1,8,[.pointer none]⟩ (.node (.node (.node .leaf 334 ⟨.other,1,8,[.nilFunc]⟩ .leaf) 349 ⟨.other,1,8,[.nilFunc]⟩ .leaf) 357 ⟨.other,1,8,[.pointer none]⟩ (.node (.node .leaf 363 ⟨.other,1,8,[.nilFunc]⟩ .leaf) 365 ⟨.slice 67,1,24,[.slice none 0 0]⟩ .leaf))))))
def Ce:Cj:=Aaz.find
theorem Apy:Aaz.toList.map (fun p=>F2 Go.Proofs.Tryz.prog p.1)=Aaz.toList.map (fun p=>some p.2):=by kernel_rfl
theorem Agd:Ck Go.Proofs.Tryz.prog Ce:=Tr.ok Apy
theorem Sf:Go.Proofs.Tryz.prog.follows .mixedOrders=true:=by kernel_rfl
end Go.Ab
namespace Go.Ab.Fn
abbrev Wn:FuncId:=3
abbrev Wo:FuncId:=4
abbrev Sq:FuncId:=5
abbrev P2:FuncId:=6
abbrev Kb:FuncId:=7
abbrev Sr:FuncId:=8
abbrev P3:FuncId:=9
abbrev Ss:FuncId:=10
abbrev Su:FuncId:=11
abbrev P4:FuncId:=12
abbrev H5:FuncId:=13
abbrev Aa0:FuncId:=14
abbrev Aa1:FuncId:=15
abbrev P5:FuncId:=16
abbrev Aa2:FuncId:=17
abbrev Lr:FuncId:=18
abbrev P6:FuncId:=19
abbrev Mr:FuncId:=20
abbrev Sv:FuncId:=21
abbrev Wp:FuncId:=22
abbrev N8:FuncId:=23
abbrev P7:FuncId:=24
abbrev P8:FuncId:=25
abbrev P9:FuncId:=26
abbrev Gj:FuncId:=27
abbrev Eo:FuncId:=28
abbrev Iy:FuncId:=29
abbrev Kc:FuncId:=30
abbrev Gk:FuncId:=31
abbrev Iz:FuncId:=32
abbrev Ms:FuncId:=33
abbrev Qa:FuncId:=34
abbrev Sw:FuncId:=35
abbrev I0:FuncId:=36
abbrev Lt:FuncId:=37
abbrev Aa3:FuncId:=38
abbrev Aa4:FuncId:=39
abbrev Wq:FuncId:=40
abbrev Aa5:FuncId:=41
abbrev K2:FuncId:=42
abbrev Jq:FuncId:=43
abbrev Qb:FuncId:=44
abbrev Lu:FuncId:=45
abbrev Sx:FuncId:=46
abbrev N9:FuncId:=47
abbrev Kd:FuncId:=48
abbrev Qc:FuncId:=49
abbrev Qd:FuncId:=50
abbrev Wr:FuncId:=51
abbrev Aa6:FuncId:=52
abbrev Gl:FuncId:=53
abbrev Qf:FuncId:=54
abbrev Qg:FuncId:=55
abbrev Qh:FuncId:=56
abbrev Qi:FuncId:=57
abbrev H6:FuncId:=58
abbrev Mt:FuncId:=59
abbrev Qj:FuncId:=60
abbrev Qk:FuncId:=61
abbrev Ql:FuncId:=62
abbrev Jr:FuncId:=63
abbrev Ke:FuncId:=64
abbrev Oa:FuncId:=65
abbrev Sy:FuncId:=66
abbrev Lv:FuncId:=67
abbrev Lw:FuncId:=68
abbrev K4:FuncId:=69
abbrev Sz:FuncId:=70
abbrev Js:FuncId:=71
abbrev Aa7:FuncId:=72
abbrev Aa8:FuncId:=73
abbrev Ob:FuncId:=74
abbrev Lx:FuncId:=75
abbrev Jt:FuncId:=76
abbrev Kf:FuncId:=77
abbrev Ws:FuncId:=78
abbrev Oc:FuncId:=79
abbrev Od:FuncId:=80
abbrev S0:FuncId:=81
abbrev Qm:FuncId:=82
abbrev S3:FuncId:=83
abbrev Oe:FuncId:=84
abbrev Wt:FuncId:=85
abbrev Of:FuncId:=86
abbrev Mu:FuncId:=87
abbrev H7:FuncId:=88
abbrev S4:FuncId:=89
abbrev Aa9:FuncId:=90
abbrev Aba:FuncId:=91
abbrev Abb:FuncId:=92
abbrev Abc:FuncId:=93
abbrev Abd:FuncId:=94
abbrev Abe:FuncId:=95
abbrev Kg:FuncId:=96
abbrev K5:FuncId:=97
abbrev Qo:FuncId:=98
abbrev I1:FuncId:=99
abbrev Mv:FuncId:=100
abbrev Kh:FuncId:=101
abbrev Wu:FuncId:=102
abbrev Qp:FuncId:=103
abbrev S5:FuncId:=104
abbrev Wv:FuncId:=105
abbrev S6:FuncId:=106
abbrev I2:FuncId:=107
abbrev Mw:FuncId:=108
abbrev Ww:FuncId:=109
abbrev Gv:FuncId:=110
abbrev I3:FuncId:=111
abbrev S7:FuncId:=113
abbrev Wx:FuncId:=114
abbrev Wy:FuncId:=115
abbrev S8:FuncId:=116
abbrev K6:FuncId:=117
abbrev S9:FuncId:=118
abbrev Ta:FuncId:=119
abbrev Gm:FuncId:=120
abbrev Ly:FuncId:=121
abbrev Tb:FuncId:=122
abbrev Qq:FuncId:=123
abbrev Wz:FuncId:=124
abbrev Tc:FuncId:=125
abbrev Mx:FuncId:=126
abbrev W0:FuncId:=127
abbrev Td:FuncId:=128
abbrev Te:FuncId:=129
abbrev Abf:FuncId:=130
abbrev Tf:FuncId:=131
abbrev Lz:FuncId:=132
abbrev W1:FuncId:=133
abbrev Qs:FuncId:=134
abbrev H8:FuncId:=135
abbrev Tg:FuncId:=136
abbrev Qt:FuncId:=137
abbrev Th:FuncId:=138
abbrev My:FuncId:=139
abbrev Mz:FuncId:=140
abbrev Ti:FuncId:=141
abbrev Tj:FuncId:=142
abbrev Tk:FuncId:=143
abbrev Og:FuncId:=144
abbrev M0:FuncId:=145
abbrev Abg:FuncId:=146
abbrev Abh:FuncId:=147
abbrev Tl:FuncId:=154
abbrev Oh:FuncId:=155
abbrev Oi:FuncId:=156
abbrev Oj:FuncId:=157
abbrev W2:FuncId:=158
abbrev Abi:FuncId:=159
abbrev Tm:FuncId:=160
abbrev Qu:FuncId:=161
abbrev W3:FuncId:=162
abbrev Tn:FuncId:=164
abbrev W4:FuncId:=172
abbrev W5:FuncId:=173
abbrev W6:FuncId:=174
abbrev W7:FuncId:=176
abbrev K7:FuncId:=177
abbrev Ok:FuncId:=178
abbrev Qv:FuncId:=179
abbrev To:FuncId:=180
abbrev Ol:FuncId:=182
abbrev Ki:FuncId:=183
abbrev Tp:FuncId:=184
abbrev W8:FuncId:=193
abbrev Tq:FuncId:=194
abbrev Om:FuncId:=195
abbrev Ts:FuncId:=196
abbrev Abj:FuncId:=197
abbrev On:FuncId:=198
abbrev Tt:FuncId:=199
abbrev Oo:FuncId:=200
abbrev W9:FuncId:=201
abbrev Oq:FuncId:=202
abbrev Ot:FuncId:=203
abbrev Abk:FuncId:=204
abbrev Qw:FuncId:=215
abbrev Qx:FuncId:=216
abbrev Abl:FuncId:=217
abbrev Xa:FuncId:=239
abbrev Xb:FuncId:=240
abbrev Tu:FuncId:=242
abbrev Qy:FuncId:=249
abbrev Ou:FuncId:=250
abbrev Qz:FuncId:=251
abbrev Tv:FuncId:=252
abbrev Tw:FuncId:=253
abbrev Tx:FuncId:=254
abbrev Ty:FuncId:=255
abbrev Ov:FuncId:=259
abbrev Ow:FuncId:=260
abbrev M1:FuncId:=261
abbrev Q2:FuncId:=280
abbrev Ox:FuncId:=281
abbrev Tz:FuncId:=282
abbrev Q3:FuncId:=283
abbrev T0:FuncId:=284
abbrev M2:FuncId:=285
abbrev T1:FuncId:=286
abbrev T2:FuncId:=287
end Go.Ab.Fn
namespace Go.Ab
open Go
abbrev O (k:IntKind) (n:Int):AV:=.val (.int k n)
abbrev Ar (b:Bool):AV:=.val (.bool b)
abbrev Ek (s:ByteArray):AV:=.val (.string s)
abbrev As {α:Type} (sz:Nat) (f:α->AV) (l:List α):AV:=.sl sz (l.map f)
abbrev Hq {α:Type} (sz:Nat) (g:List α->List AV) (l:List α):AV:=.sl sz (g l)
structure Aj where
 Kind:Int
 Num:Int
 Args:(List Aj)
mutual
def Abm:Aj->AV
 | ⟨x0,x1,x2⟩=>.agg [O .i64 x0,O .i64 x1,.sl 3 (Bl x2)]
def Bl:List Aj->List AV
 | []=>[]
 | x::xs=>Abm x::Bl xs
end
def Fp (x:Aj):AV:=.agg [O .i64 x.Kind,O .i64 x.Num,.sl 3 (Bl x.Args)]
theorem Apz (x:Aj):Abm x=Fp x:=by cases x; simp only [Abm,Fp]
theorem Kj:∀l:List Aj,Bl l=l.map Fp
 | []=>rfl
 | x::xs=>by simp only [Bl,List.map_cons,Apz,Kj xs]
structure Kk where
 Name:ByteArray
 Args:(List Aj)
def Ap0 (x:Kk):AV:=.agg [Ek x.Name,.sl 3 (Bl x.Args)]
structure Az where
 Name:ByteArray
 Vars:Int
 Cons:(List Kk)
def Co (x:Az):AV:=.agg [Ek x.Name,O .i64 x.Vars,.sl 2 (List.map Ap0 x.Cons)]
structure Cw where
 Data:(List Az)
 Vars:(List Aj)
 Res:Aj
def H9 (x:Cw):AV:=.agg [.sl 3 (List.map Co x.Data),.sl 3 (Bl x.Vars),O .i64 x.Res.Kind,O .i64 x.Res.Num,.sl 3 (Bl x.Res.Args)]
structure Ak where
 Neg:Bool
 Num:(List Int)
 Den:(List Int)
def B0 (x:Ak):AV:=.agg [Ar x.Neg,.sl 1 (List.map (O .u32) x.Num),.sl 1 (List.map (O .u32) x.Den)]
structure Be where
 Num:Int
 Kids:(List Be)
mutual
def Abn:Be->AV
 | ⟨x0,x1⟩=>.agg [O .i64 x0,.sl 2 (Hr x1)]
def Hr:List Be->List AV
 | []=>[]
 | x::xs=>Abn x::Hr xs
end
def F7 (x:Be):AV:=.agg [O .i64 x.Num,.sl 2 (Hr x.Kids)]
theorem Ap1 (x:Be):Abn x=F7 x:=by cases x; simp only [Abn,F7]
theorem Kl:∀l:List Be,Hr l=l.map F7
 | []=>rfl
 | x::xs=>by simp only [Hr,List.map_cons,Ap1,Kl xs]
structure Bq where
 Var:Int
 Index:Be
def Dh (x:Bq):AV:=.agg [O .i64 x.Var,O .i64 x.Index.Num,.sl 2 (Hr x.Index.Kids)]
structure B6 where
 Var:Int
 Coef:Int
def Dw (x:B6):AV:=.agg [O .i64 x.Var,O .i64 x.Coef]
structure Ct where
 Const:Int
 Terms:(List B6)
def K8 (x:Ct):AV:=.agg [O .i64 x.Const,.sl 2 (List.map Dw x.Terms)]
structure Bb where
 Lin:Ct
 Deg:Int
def Dn (x:Bb):AV:=.agg [O .i64 x.Lin.Const,.sl 2 (List.map Dw x.Lin.Terms),O .i64 x.Deg]
structure Bc where
 Factors:(List Bq)
 Atoms:(List Bb)
def Gn (x:Bc):AV:=.agg [.sl 3 (List.map Dh x.Factors),.sl 3 (List.map Dn x.Atoms)]
structure Ai where
 Coef:Ak
 Mono:Bc
def Bt (x:Ai):AV:=.agg [Ar x.Coef.Neg,.sl 1 (List.map (O .u32) x.Coef.Num),.sl 1 (List.map (O .u32) x.Coef.Den),.sl 3 (List.map Dh x.Mono.Factors),.sl 3 (List.map Dn x.Mono.Atoms)]
structure Oy where
 Var:Int
 Con:Int
 N:Int
def Ap2 (x:Oy):AV:=.agg [O .i64 x.Var,O .i64 x.Con,O .i64 x.N]
structure Fs where
 v:Int
 con:Int
structure Age where
 Name:ByteArray
 Params:(List Int)
 Captured:(List Int)
 Result:Aj
 Body:Int
def Oz (x:Age):AV:=.agg [Ek x.Name,.sl 1 (List.map (O .i64) x.Params),.sl 1 (List.map (O .i64) x.Captured),O .i64 x.Result.Kind,O .i64 x.Result.Num,.sl 3 (Bl x.Result.Args),O .i64 x.Body]
structure Agf where
 Op:Int
 Num:Int
 Vars:(List Int)
 Binds:(List (List Int))
 Kids:(List Int)
 Type_:Aj
def O0 (x:Agf):AV:=.agg [O .i64 x.Op,O .i64 x.Num,.sl 1 (List.map (O .i64) x.Vars),.sl 1 (List.map (As 1 (O .i64)) x.Binds),.sl 1 (List.map (O .i64) x.Kids),O .i64 x.Type_.Kind,O .i64 x.Type_.Num,.sl 3 (Bl x.Type_.Args)]
structure Hs where
 Data:(List Az)
 Codes:(List Age)
 Vars:(List Aj)
 Exprs:(List Agf)
def O1 (x:Hs):AV:=.agg [.sl 3 (List.map Co x.Data),.sl 7 (List.map Oz x.Codes),.sl 3 (Bl x.Vars),.sl 8 (List.map O0 x.Exprs)]
structure B7 where
 Index:Be
 Coef:Ak
def C6 (x:B7):AV:=.agg [O .i64 x.Index.Num,.sl 2 (Hr x.Index.Kids),Ar x.Coef.Neg,.sl 1 (List.map (O .u32) x.Coef.Num),.sl 1 (List.map (O .u32) x.Coef.Den)]
structure Ft where
 neg:Bool
 n:(List Int)
 d:(List Int)
def M3 (x:Ft):AV:=.agg [Ar x.neg,.sl 1 (List.map (O .u32) x.n),.sl 1 (List.map (O .u32) x.d)]
structure E8 where
 data:(List Az)
 vars:Int
 left:Int
structure G4 where
 Kind:Int
 Text:ByteArray
 Pos:Int
def Xc (x:G4):AV:=.agg [O .i64 x.Kind,Ek x.Text,O .i64 x.Pos]
end Go.Ab
