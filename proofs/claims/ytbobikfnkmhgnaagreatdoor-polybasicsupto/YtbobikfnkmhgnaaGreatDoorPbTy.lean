/- The types that the program uses; plain types for its data. -/
import Derived.Test.YtbobikfnkmhgnaaGreatDoorPbAb2
import Derived.Test.YtbobikfnkmhgnaaGreatDoorProg
import Derived.KernelRfl
namespace Go.Ab
open Go Go.Proofs
def Ad4:Tr:=(.node (.node (.node (.node (.node (.node (.node .leaf 1 ⟨.other,1,8,[.nilFunc]⟩ .leaf) 2 ⟨.int .i64,1,8,[.int .i64 0]⟩ (.node .leaf 3 ⟨.int .i64,1,8,[.int .i64 0]⟩ .leaf)) 4 ⟨.bool,1,1,[.bool false]⟩ (.node (.node .leaf 5 ⟨.int .u8,1,1,[.int .u8 0]⟩ .leaf) 9 ⟨.string,1,16,[.string ⟨#[]⟩]⟩ .leaf)) 20 ⟨.other,1,16,[.nilIface]⟩ (.node (.node (.node .leaf 22 ⟨.slice 102,1,24,[.slice none 0 0]⟩ .leaf) 23 ⟨.slice 25,1,24,[.slice none 0 0]⟩ .leaf) 25 ⟨.struct [(0,1),(1,1),(2,1)],3,40,[.int .i64 0,.int .i64 0,.slice none 0 0]⟩ (.node (.node .leaf 27 ⟨.struct [(0,1),(1,1),(2,3)],5,88,[.slice none 0 0,.slice none 0 0,.int .i64 0,.int .i64 0,.slice none 0 0]⟩ .leaf) 28 ⟨.slice 61,1,24,[.slice none 0 0]⟩ .leaf))) 31 ⟨.int .i64,1,8,[.int .i64 0]⟩ (.node (.node (.node (.node .leaf 37 ⟨.slice 106,1,24,[.slice none 0 0]⟩ .leaf) 39 ⟨.struct [(0,1),(1,1),(2,1)],3,56,[.bool false,.slice none 0 0,.slice none 0 0]⟩ (.node .leaf 40 ⟨.slice 42,1,24,[.slice none 0 0]⟩ .leaf)) 42 ⟨.struct [(0,1),(1,1)],2,32,[.int .i64 0,.slice none 0 0]⟩ (.node (.node .leaf 43 ⟨.slice 156,1,24,[.slice none 0 0]⟩ .leaf) 45 ⟨.struct [(0,1),(1,1)],2,32,[.int .i64 0,.slice none 0 0]⟩ .leaf)) 56 ⟨.slice 85,1,24,[.slice none 0 0]⟩ (.node (.node (.node .leaf 57 ⟨.slice 91,1,24,[.slice none 0 0]⟩ .leaf) 59 ⟨.struct [(0,1),(1,1)],2,48,[.slice none 0 0,.slice none 0 0]⟩ .leaf) 61 ⟨.struct [(0,3),(3,2)],5,104,[.bool false,.slice none 0 0,.slice none 0 0,.slice none 0 0,.slice none 0 0]⟩ (.node (.node .leaf 63 ⟨.slice 39,1,24,[.slice none 0 0]⟩ .leaf) 72 ⟨.other,1,8,[.nilFunc]⟩ .leaf)))) 75 ⟨.slice 28,1,24,[.slice none 0 0]⟩ (.node (.node (.node (.node (.node .leaf 77 ⟨.other,1,8,[.pointer none]⟩ .leaf) 78 ⟨.other,1,8,[.pointer none]⟩ (.node .leaf 81 ⟨.other,1,8,[.nilFunc]⟩ .leaf)) 85 ⟨.struct [(0,1),(1,2)],3,40,[.int .i64 0,.int .i64 0,.slice none 0 0]⟩ (.node (.node .leaf 91 ⟨.struct [(0,2),(2,1)],3,40,[.int .i64 0,.slice none 0 0,.int .i64 0]⟩ .leaf) 99 ⟨.struct [(0,1),(1,1)],2,40,[.string ⟨#[]⟩,.slice none 0 0]⟩ .leaf)) 100 ⟨.slice 99,1,24,[.slice none 0 0]⟩ (.node (.node (.node .leaf 102 ⟨.struct [(0,1),(1,1),(2,1)],3,48,[.string ⟨#[]⟩,.int .i64 0,.slice none 0 0]⟩ .leaf) 105 ⟨.int .u64,1,8,[.int .u64 0]⟩ .leaf) 106 ⟨.int .u32,1,4,[.int .u32 0]⟩ (.node (.node .leaf 111 ⟨.other,1,8,[.pointer none]⟩ .leaf) 116 ⟨.slice 106,1,24,[.slice none 0 0]⟩ .leaf))) 118 ⟨.struct [(0,1),(1,1),(2,1)],3,56,[.bool false,.slice none 0 0,.slice none 0 0]⟩ (.node (.node (.node (.node .leaf 129 ⟨.other,1,8,[.nilFunc]⟩ .leaf) 133 ⟨.other,1,8,[.nilFunc]⟩ .leaf) 135 ⟨.slice 257,1,24,[.slice none 0 0]⟩ (.node (.node .leaf 136 ⟨.slice 261,1,24,[.slice none 0 0]⟩ .leaf) 138 ⟨.struct [(0,1),(1,1),(2,1),(3,1)],4,96,[.slice none 0 0,.slice none 0 0,.slice none 0 0,.slice none 0 0]⟩ .leaf)) 140 ⟨.map 9 3,1,8,[.map none]⟩ (.node (.node (.node .leaf 141 ⟨.map 9 150,1,8,[.map none]⟩ .leaf) 143 ⟨.struct [(0,5),(5,1),(6,1)],7,104,[.slice none 0 0,.slice none 0 0,.int .i64 0,.int .i64 0,.slice none 0 0,.map none,.map none]⟩ .leaf) 150 ⟨.slice 153,1,24,[.slice none 0 0]⟩ (.node (.node .leaf 153 ⟨.struct [(0,2),(2,3)],5,88,[.int .i64 0,.slice none 0 0,.bool false,.slice none 0 0,.slice none 0 0]⟩ .leaf) 156 ⟨.struct [(0,1),(1,1)],2,16,[.int .i64 0,.int .i64 0]⟩ .leaf))))) 158 ⟨.other,1,8,[.nilFunc]⟩ (.node (.node (.node (.node (.node (.node .leaf 172 ⟨.struct [(0,1),(1,1)],2,32,[.map none,.slice none 0 0]⟩ .leaf) 175 ⟨.other,1,8,[.nilFunc]⟩ (.node .leaf 182 ⟨.other,1,8,[.nilFunc]⟩ .leaf)) 184 ⟨.other,1,8,[.nilFunc]⟩ (.node (.node .leaf 193 ⟨.other,1,8,[.pointer none]⟩ .leaf) 195 ⟨.struct [(0,1),(1,1),(2,1)],3,40,[.slice none 0 0,.int .i64 0,.int .i64 0]⟩ .leaf)) 196 ⟨.other,1,8,[.pointer none]⟩ (.node (.node (.node .leaf 197 ⟨.slice 5,1,24,[.slice none 0 0]⟩ .leaf) 199 ⟨.struct [(0,1),(1,1)],2,32,[.pointer none,.slice none 0 0]⟩ .leaf) 201 ⟨.other,1,16,[.nilIface]⟩ (.node (.node .leaf 218 ⟨.slice 9,1,24,[.slice none 0 0]⟩ .leaf) 226 ⟨.slice 153,1,24,[.slice none 0 0]⟩ .leaf))) 246 ⟨.int .u64,1,8,[.int .u64 0]⟩ (.node (.node (.node (.node .leaf 247 ⟨.slice 3,1,24,[.slice none 0 0]⟩ .leaf) 251 ⟨.other,1,8,[.nilFunc]⟩ (.node .leaf 253 ⟨.map 9 4,1,8,[.map none]⟩ .leaf)) 257 ⟨.struct [(0,1),(1,1),(2,1),(3,3),(6,1)],7,112,[.string ⟨#[]⟩,.slice none 0 0,.slice none 0 0,.int .i64 0,.int .i64 0,.slice none 0 0,.int .i64 0]⟩ (.node (.node .leaf 258 ⟨.other,1,8,[.nilFunc]⟩ .leaf) 259 ⟨.slice 247,1,24,[.slice none 0 0]⟩ .leaf)) 261 ⟨.struct [(0,1),(1,1),(2,1),(3,1),(4,1),(5,3)],8,128,[.int .i64 0,.int .i64 0,.slice none 0 0,.slice none 0 0,.slice none 0 0,.int .i64 0,.int .i64 0,.slice none 0 0]⟩ (.node (.node (.node .leaf 262 ⟨.slice 4,1,24,[.slice none 0 0]⟩ .leaf) 263 ⟨.other,1,8,[.nilFunc]⟩ .leaf) 264 ⟨.other,1,8,[.nilFunc]⟩ (.node (.node .leaf 265 ⟨.other,1,8,[.pointer none]⟩ .leaf) 267 ⟨.struct [(0,4),(4,1)],5,120,[.slice none 0 0,.slice none 0 0,.slice none 0 0,.slice none 0 0,.slice none 0 0]⟩ .leaf)))) 271 ⟨.other,1,8,[.pointer none]⟩ (.node (.node (.node (.node (.node .leaf 280 ⟨.slice 284,1,24,[.slice none 0 0]⟩ .leaf) 284 ⟨.struct [(0,1),(1,1),(2,1)],3,32,[.int .i64 0,.string ⟨#[]⟩,.int .i64 0]⟩ (.node .leaf 287 ⟨.slice 290,1,24,[.slice none 0 0]⟩ .leaf)) 290 ⟨.struct [(0,1),(1,3)],4,80,[.slice none 0 0,.bool false,.slice none 0 0,.slice none 0 0]⟩ (.node (.node .leaf 295 ⟨.float .f64,1,8,[.float .f64 0]⟩ .leaf) 300 ⟨.int .i64,1,8,[.int .i64 0]⟩ .leaf)) 308 ⟨.slice 311,1,24,[.slice none 0 0]⟩ (.node (.node (.node .leaf 311 ⟨.struct [(0,1),(1,1),(2,1)],3,32,[.int .i64 0,.string ⟨#[]⟩,.int .i64 0]⟩ .leaf) 320 ⟨.other,1,8,[.pointer none]⟩ .leaf) 328 ⟨.other,1,8,[.pointer none]⟩ (.node (.node .leaf 341 ⟨.other,1,8,[.nilFunc]⟩ .leaf) 352 ⟨.int .u64,1,8,[.int .u64 0]⟩ .leaf))) 370 ⟨.other,1,8,[.nilFunc]⟩ (.node (.node (.node (.node .leaf 372 ⟨.struct [(0,1),(1,3),(4,1),(5,1)],6,96,[.slice none 0 0,.int .i64 0,.int .i64 0,.slice none 0 0,.map none,.slice none 0 0]⟩ .leaf) 373 ⟨.slice 376,1,24,[.slice none 0 0]⟩ .leaf) 376 ⟨.struct [(0,1),(1,3)],4,80,[.slice none 0 0,.bool false,.slice none 0 0,.slice none 0 0]⟩ (.node (.node .leaf 378 ⟨.slice 150,1,24,[.slice none 0 0]⟩ .leaf) 380 ⟨.other,1,8,[.nilFunc]⟩ .leaf)) 382 ⟨.slice 56,1,24,[.slice none 0 0]⟩ (.node (.node (.node .leaf 384 ⟨.slice 57,1,24,[.slice none 0 0]⟩ .leaf) 389 ⟨.other,1,8,[.pointer none]⟩ .leaf) 395 ⟨.other,1,8,[.nilFunc]⟩ (.node (.node .leaf 403 ⟨.other,1,8,[.nilFunc]⟩ .leaf) 407 ⟨.slice 40,1,24,[.slice none 0 0]⟩ .leaf))))))
def Cf:Cs:=Ad4.find
theorem Atu:Ad4.toList.map (fun p=>Gq Go.Proofs.Tryz.prog p.1)=Ad4.toList.map (fun p=>some p.2):=by kernel_rfl
theorem Ajk:Ct Go.Proofs.Tryz.prog Cf:=Tr.ok Atu
theorem U8:Go.Proofs.Tryz.prog.follows .mixedOrders=true:=by kernel_rfl
end Go.Ab
namespace Go.Ab.Fn
abbrev Zk:FuncId:=4
abbrev Vg:FuncId:=14
abbrev N4:FuncId:=15
abbrev Sy:FuncId:=16
abbrev Sz:FuncId:=17
abbrev L5:FuncId:=18
abbrev L6:FuncId:=19
abbrev I9:FuncId:=20
abbrev Kg:FuncId:=21
abbrev Ja:FuncId:=22
abbrev P4:FuncId:=23
abbrev N5:FuncId:=24
abbrev Zl:FuncId:=25
abbrev Hn:FuncId:=27
abbrev Ad5:FuncId:=33
abbrev Ho:FuncId:=35
abbrev Mu:FuncId:=38
abbrev Mv:FuncId:=44
abbrev Vh:FuncId:=45
abbrev Vi:FuncId:=46
abbrev P5:FuncId:=47
abbrev L7:FuncId:=48
abbrev Mw:FuncId:=49
abbrev J1:FuncId:=50
abbrev P6:FuncId:=51
abbrev S0:FuncId:=52
abbrev P7:FuncId:=53
abbrev P8:FuncId:=54
abbrev P9:FuncId:=55
abbrev Mx:FuncId:=56
abbrev Qa:FuncId:=57
abbrev Vj:FuncId:=58
abbrev Vk:FuncId:=59
abbrev N6:FuncId:=60
abbrev S3:FuncId:=61
abbrev Vl:FuncId:=62
abbrev Li:FuncId:=63
abbrev My:FuncId:=64
abbrev Ii:FuncId:=65
abbrev Lj:FuncId:=66
abbrev Fz:FuncId:=70
abbrev Vm:FuncId:=71
abbrev S4:FuncId:=74
abbrev N7:FuncId:=75
abbrev N8:FuncId:=77
abbrev L8:FuncId:=78
abbrev Vn:FuncId:=79
abbrev Jb:FuncId:=83
abbrev N9:FuncId:=84
abbrev Qb:FuncId:=86
abbrev Mz:FuncId:=87
abbrev Qc:FuncId:=90
abbrev Oa:FuncId:=91
abbrev M0:FuncId:=92
abbrev Vo:FuncId:=93
abbrev Vp:FuncId:=94
abbrev Vq:FuncId:=95
abbrev S5:FuncId:=96
abbrev Vr:FuncId:=97
abbrev Ob:FuncId:=98
abbrev Vs:FuncId:=99
abbrev J2:FuncId:=100
abbrev Oc:FuncId:=101
abbrev Lk:FuncId:=102
abbrev Qd:FuncId:=103
abbrev Vt:FuncId:=104
abbrev M1:FuncId:=105
abbrev Od:FuncId:=106
abbrev S6:FuncId:=108
abbrev Kh:FuncId:=109
abbrev S7:FuncId:=110
abbrev Vu:FuncId:=111
abbrev Zm:FuncId:=112
abbrev S8:FuncId:=113
abbrev S9:FuncId:=114
abbrev Ad6:FuncId:=115
abbrev Ta:FuncId:=116
abbrev Qf:FuncId:=117
abbrev Vv:FuncId:=118
abbrev M2:FuncId:=119
abbrev Oe:FuncId:=120
abbrev Tb:FuncId:=121
abbrev Vx:FuncId:=122
abbrev Qg:FuncId:=123
abbrev Qh:FuncId:=126
abbrev Tc:FuncId:=127
abbrev Vy:FuncId:=129
abbrev M3:FuncId:=130
abbrev H7:FuncId:=131
abbrev M4:FuncId:=132
abbrev M5:FuncId:=133
abbrev Vz:FuncId:=134
abbrev Td:FuncId:=135
abbrev Ki:FuncId:=138
abbrev Zn:FuncId:=139
abbrev V1:FuncId:=140
abbrev L9:FuncId:=141
abbrev Of:FuncId:=142
abbrev Zo:FuncId:=143
abbrev V2:FuncId:=144
abbrev Kj:FuncId:=145
abbrev Zp:FuncId:=147
abbrev Jc:FuncId:=148
abbrev Te:FuncId:=151
abbrev V3:FuncId:=152
abbrev Qi:FuncId:=153
abbrev Og:FuncId:=154
abbrev V4:FuncId:=155
abbrev Ad7:FuncId:=156
abbrev Ad8:FuncId:=157
abbrev Ad9:FuncId:=158
abbrev Aea:FuncId:=159
abbrev Aeb:FuncId:=160
abbrev Aec:FuncId:=161
abbrev Ll:FuncId:=162
abbrev Ma:FuncId:=163
abbrev Tf:FuncId:=164
abbrev Hq:FuncId:=165
abbrev Hc:FuncId:=166
abbrev Qj:FuncId:=167
abbrev J3:FuncId:=168
abbrev Qk:FuncId:=169
abbrev Ql:FuncId:=170
abbrev Qm:FuncId:=171
abbrev Oh:FuncId:=172
abbrev Oi:FuncId:=173
abbrev V5:FuncId:=174
abbrev Lm:FuncId:=175
abbrev V6:FuncId:=176
abbrev Qo:FuncId:=177
abbrev Tg:FuncId:=178
abbrev Th:FuncId:=179
abbrev Ln:FuncId:=180
abbrev Qp:FuncId:=181
abbrev Qq:FuncId:=182
abbrev Oj:FuncId:=183
abbrev Ti:FuncId:=184
abbrev M6:FuncId:=185
abbrev Ok:FuncId:=186
abbrev Ol:FuncId:=187
abbrev Tj:FuncId:=188
abbrev Om:FuncId:=190
abbrev Tk:FuncId:=191
abbrev Jd:FuncId:=192
abbrev Zq:FuncId:=193
abbrev Qs:FuncId:=194
abbrev Tl:FuncId:=195
abbrev Tm:FuncId:=196
abbrev Tn:FuncId:=197
abbrev Zr:FuncId:=198
abbrev V7:FuncId:=199
abbrev On:FuncId:=200
abbrev Oo:FuncId:=201
abbrev Je:FuncId:=202
abbrev V8:FuncId:=203
abbrev V9:FuncId:=204
abbrev M7:FuncId:=207
abbrev M8:FuncId:=208
abbrev Zs:FuncId:=209
abbrev Wa:FuncId:=210
abbrev Wb:FuncId:=211
abbrev Wc:FuncId:=212
abbrev Wd:FuncId:=213
abbrev We:FuncId:=214
abbrev Zt:FuncId:=215
abbrev Wf:FuncId:=216
abbrev Wg:FuncId:=217
abbrev Qt:FuncId:=220
abbrev Oq:FuncId:=221
abbrev Aed:FuncId:=222
abbrev Aee:FuncId:=223
abbrev Wh:FuncId:=230
abbrev Wi:FuncId:=231
abbrev Wj:FuncId:=232
abbrev Wk:FuncId:=233
abbrev To:FuncId:=235
abbrev Wl:FuncId:=236
abbrev Tp:FuncId:=237
abbrev Wm:FuncId:=238
abbrev Wn:FuncId:=240
abbrev Zu:FuncId:=241
abbrev M9:FuncId:=242
abbrev Wo:FuncId:=243
abbrev Zv:FuncId:=244
abbrev Qu:FuncId:=245
abbrev Wp:FuncId:=246
abbrev Qv:FuncId:=250
abbrev Wq:FuncId:=251
abbrev Qw:FuncId:=252
abbrev Qx:FuncId:=255
abbrev Lo:FuncId:=256
abbrev Wr:FuncId:=257
abbrev Tq:FuncId:=258
abbrev Ws:FuncId:=259
abbrev Zw:FuncId:=268
abbrev Qy:FuncId:=269
abbrev Zx:FuncId:=270
abbrev Zy:FuncId:=271
abbrev Qz:FuncId:=272
abbrev Aef:FuncId:=273
abbrev Q2:FuncId:=286
abbrev Q3:FuncId:=287
abbrev Ot:FuncId:=288
abbrev Zz:FuncId:=289
abbrev Z0:FuncId:=298
abbrev Z1:FuncId:=299
abbrev Z2:FuncId:=300
abbrev Ts:FuncId:=302
abbrev Mb:FuncId:=303
abbrev Q4:FuncId:=304
abbrev Tt:FuncId:=305
abbrev Wt:FuncId:=306
abbrev Wu:FuncId:=307
abbrev Tu:FuncId:=308
abbrev Tv:FuncId:=309
abbrev Z3:FuncId:=310
abbrev Wv:FuncId:=311
abbrev Ww:FuncId:=312
abbrev Ou:FuncId:=313
abbrev Tw:FuncId:=314
abbrev Tx:FuncId:=316
abbrev Q5:FuncId:=317
abbrev Ty:FuncId:=318
abbrev Wx:FuncId:=319
abbrev Wy:FuncId:=325
abbrev Wz:FuncId:=326
abbrev W0:FuncId:=327
abbrev Z4:FuncId:=348
abbrev Z5:FuncId:=349
abbrev Q6:FuncId:=351
abbrev W1:FuncId:=352
abbrev Q7:FuncId:=353
abbrev Tz:FuncId:=355
abbrev Q8:FuncId:=356
abbrev W2:FuncId:=357
abbrev T0:FuncId:=358
abbrev W3:FuncId:=359
abbrev Ov:FuncId:=360
abbrev W4:FuncId:=361
abbrev W5:FuncId:=362
end Go.Ab.Fn
namespace Go.Ab
open Go
abbrev O (k:IntKind) (n:Int):AV:=.val (.int k n)
abbrev Ao (b:Bool):AV:=.val (.bool b)
abbrev Dl (s:ByteArray):AV:=.val (.string s)
abbrev Au {α:Type} (sz:Nat) (f:α->AV) (l:List α):AV:=.sl sz (l.map f)
abbrev Gj {α:Type} (sz:Nat) (g:List α->List AV) (l:List α):AV:=.sl sz (g l)
structure Ah where
 Kind:Int
 Num:Int
 Args:(List Ah)
mutual
def Aeg:Ah->AV
 | ⟨x0,x1,x2⟩=>.agg [O .i64 x0,O .i64 x1,.sl 3 (Bl x2)]
def Bl:List Ah->List AV
 | []=>[]
 | x::xs=>Aeg x::Bl xs
end
def Dw (x:Ah):AV:=.agg [O .i64 x.Kind,O .i64 x.Num,.sl 3 (Bl x.Args)]
theorem Atv (x:Ah):Aeg x=Dw x:=by cases x; simp only [Aeg,Dw]
theorem Jf:∀l:List Ah,Bl l=l.map Dw
 | []=>rfl
 | x::xs=>by simp only [Bl,List.map_cons,Atv,Jf xs]
structure Lp where
 Name:ByteArray
 Args:(List Ah)
def Z6 (x:Lp):AV:=.agg [Dl x.Name,.sl 3 (Bl x.Args)]
structure Az where
 Name:ByteArray
 Vars:Int
 Cons:(List Lp)
def Cn (x:Az):AV:=.agg [Dl x.Name,O .i64 x.Vars,.sl 2 (List.map Z6 x.Cons)]
structure Ce where
 Data:(List Az)
 Vars:(List Ah)
 Res:Ah
def Ij (x:Ce):AV:=.agg [.sl 3 (List.map Cn x.Data),.sl 3 (Bl x.Vars),O .i64 x.Res.Kind,O .i64 x.Res.Num,.sl 3 (Bl x.Res.Args)]
structure Aq where
 Neg:Bool
 Num:(List Int)
 Den:(List Int)
def B9 (x:Aq):AV:=.agg [Ao x.Neg,.sl 1 (List.map (O .u32) x.Num),.sl 1 (List.map (O .u32) x.Den)]
structure A9 where
 Num:Int
 Kids:(List A9)
mutual
def Aeh:A9->AV
 | ⟨x0,x1⟩=>.agg [O .i64 x0,.sl 2 (Hr x1)]
def Hr:List A9->List AV
 | []=>[]
 | x::xs=>Aeh x::Hr xs
end
def Ev (x:A9):AV:=.agg [O .i64 x.Num,.sl 2 (Hr x.Kids)]
theorem Atw (x:A9):Aeh x=Ev x:=by cases x; simp only [Aeh,Ev]
theorem Kk:∀l:List A9,Hr l=l.map Ev
 | []=>rfl
 | x::xs=>by simp only [Hr,List.map_cons,Atw,Kk xs]
structure Dk where
 Var:Int
 Coef:Int
def G2 (x:Dk):AV:=.agg [O .i64 x.Var,O .i64 x.Coef]
structure Ca where
 Const:Int
 Terms:(List Dk)
def Gk (x:Ca):AV:=.agg [O .i64 x.Const,.sl 2 (List.map G2 x.Terms)]
structure Bh where
 Var:Int
 Index:A9
def De (x:Bh):AV:=.agg [O .i64 x.Var,O .i64 x.Index.Num,.sl 2 (Hr x.Index.Kids)]
structure Ba where
 Lin:Ca
 Deg:Int
def Dc (x:Ba):AV:=.agg [O .i64 x.Lin.Const,.sl 2 (List.map G2 x.Lin.Terms),O .i64 x.Deg]
structure A8 where
 Factors:(List Bh)
 Atoms:(List Ba)
def F0 (x:A8):AV:=.agg [.sl 3 (List.map De x.Factors),.sl 3 (List.map Dc x.Atoms)]
structure Aj where
 Coef:Aq
 Mono:A8
def Bv (x:Aj):AV:=.agg [Ao x.Coef.Neg,.sl 1 (List.map (O .u32) x.Coef.Num),.sl 1 (List.map (O .u32) x.Coef.Den),.sl 3 (List.map De x.Mono.Factors),.sl 3 (List.map Dc x.Mono.Atoms)]
structure Ge where
 neg:Bool
 n:(List Int)
 d:(List Int)
def Ow (x:Ge):AV:=.agg [Ao x.neg,.sl 1 (List.map (O .u32) x.n),.sl 1 (List.map (O .u32) x.d)]
structure Ajl where
 Name:ByteArray
 Params:(List Int)
 Captured:(List Int)
 Result:Ah
 Body:Int
def Q9 (x:Ajl):AV:=.agg [Dl x.Name,.sl 1 (List.map (O .i64) x.Params),.sl 1 (List.map (O .i64) x.Captured),O .i64 x.Result.Kind,O .i64 x.Result.Num,.sl 3 (Bl x.Result.Args),O .i64 x.Body]
structure Ajm where
 Op:Int
 Num:Int
 Vars:(List Int)
 Binds:(List (List Int))
 Kids:(List Int)
 Type_:Ah
def Ra (x:Ajm):AV:=.agg [O .i64 x.Op,O .i64 x.Num,.sl 1 (List.map (O .i64) x.Vars),.sl 1 (List.map (Au 1 (O .i64)) x.Binds),.sl 1 (List.map (O .i64) x.Kids),O .i64 x.Type_.Kind,O .i64 x.Type_.Num,.sl 3 (Bl x.Type_.Args)]
structure Ix where
 Data:(List Az)
 Codes:(List Ajl)
 Vars:(List Ah)
 Exprs:(List Ajm)
def Rb (x:Ix):AV:=.agg [.sl 3 (List.map Cn x.Data),.sl 7 (List.map Q9 x.Codes),.sl 3 (Bl x.Vars),.sl 8 (List.map Ra x.Exprs)]
structure Co where
 Index:A9
 Coef:Aq
def Df (x:Co):AV:=.agg [O .i64 x.Index.Num,.sl 2 (Hr x.Index.Kids),Ao x.Coef.Neg,.sl 1 (List.map (O .u32) x.Coef.Num),.sl 1 (List.map (O .u32) x.Coef.Den)]
structure Fw where
 data:(List Az)
 vars:Int
 left:Int
structure Iy where
 Kind:Int
 Text:ByteArray
 Pos:Int
def Aei (x:Iy):AV:=.agg [O .i64 x.Kind,Dl x.Text,O .i64 x.Pos]
structure H8 where
 Kind:Int
 Text:ByteArray
 Pos:Int
def Z7 (x:H8):AV:=.agg [O .i64 x.Kind,Dl x.Text,O .i64 x.Pos]
end Go.Ab
