/- The types that the program uses; plain types for its data. -/
import Derived.Test.YtpgmgplnkdhlbaaGreatDoorPtAb2
import Derived.Test.YtpgmgplnkdhlbaaGreatDoorProg
import Derived.KernelRfl
namespace Go.Ab
open Go Go.Proofs
def Aay:Tr:=(.node (.node (.node (.node (.node (.node (.node .leaf 1 ⟨.other,1,8,[.nilFunc]⟩ .leaf) 2 ⟨.int .i64,1,8,[.int .i64 0]⟩ (.node .leaf 3 ⟨.int .i64,1,8,[.int .i64 0]⟩ .leaf)) 4 ⟨.bool,1,1,[.bool false]⟩ (.node (.node .leaf 5 ⟨.int .u8,1,1,[.int .u8 0]⟩ .leaf) 9 ⟨.string,1,16,[.string ⟨#[]⟩]⟩ .leaf)) 20 ⟨.other,1,16,[.nilIface]⟩ (.node (.node (.node .leaf 22 ⟨.slice 123,1,24,[.slice none 0 0]⟩ .leaf) 23 ⟨.slice 25,1,24,[.slice none 0 0]⟩ .leaf) 25 ⟨.struct [(0,1),(1,1),(2,1)],3,40,[.int .i64 0,.int .i64 0,.slice none 0 0]⟩ (.node (.node .leaf 27 ⟨.struct [(0,1),(1,1),(2,3)],5,88,[.slice none 0 0,.slice none 0 0,.int .i64 0,.int .i64 0,.slice none 0 0]⟩ .leaf) 28 ⟨.slice 51,1,24,[.slice none 0 0]⟩ .leaf))) 33 ⟨.slice 28,1,24,[.slice none 0 0]⟩ (.node (.node (.node (.node .leaf 36 ⟨.other,1,8,[.pointer none]⟩ .leaf) 39 ⟨.other,1,8,[.pointer none]⟩ .leaf) 40 ⟨.slice 5,1,24,[.slice none 0 0]⟩ (.node (.node .leaf 42 ⟨.struct [(0,1),(1,1)],2,32,[.pointer none,.slice none 0 0]⟩ .leaf) 43 ⟨.slice 119,1,24,[.slice none 0 0]⟩ .leaf)) 45 ⟨.struct [(0,1),(1,1),(2,1)],3,56,[.bool false,.slice none 0 0,.slice none 0 0]⟩ (.node (.node (.node .leaf 46 ⟨.slice 65,1,24,[.slice none 0 0]⟩ .leaf) 47 ⟨.slice 75,1,24,[.slice none 0 0]⟩ .leaf) 49 ⟨.struct [(0,1),(1,1)],2,48,[.slice none 0 0,.slice none 0 0]⟩ (.node (.node .leaf 51 ⟨.struct [(0,3),(3,2)],5,104,[.bool false,.slice none 0 0,.slice none 0 0,.slice none 0 0,.slice none 0 0]⟩ .leaf) 54 ⟨.other,1,16,[.nilIface]⟩ .leaf)))) 61 ⟨.slice 63,1,24,[.slice none 0 0]⟩ (.node (.node (.node (.node (.node .leaf 63 ⟨.struct [(0,1),(1,1)],2,32,[.int .i64 0,.slice none 0 0]⟩ .leaf) 65 ⟨.struct [(0,1),(1,2)],3,40,[.int .i64 0,.int .i64 0,.slice none 0 0]⟩ (.node .leaf 71 ⟨.slice 113,1,24,[.slice none 0 0]⟩ .leaf)) 73 ⟨.struct [(0,1),(1,1)],2,32,[.int .i64 0,.slice none 0 0]⟩ (.node (.node .leaf 75 ⟨.struct [(0,2),(2,1)],3,40,[.int .i64 0,.slice none 0 0,.int .i64 0]⟩ .leaf) 77 ⟨.int .i64,1,8,[.int .i64 0]⟩ .leaf)) 86 ⟨.other,1,8,[.nilFunc]⟩ (.node (.node (.node .leaf 88 ⟨.slice 170,1,24,[.slice none 0 0]⟩ .leaf) 89 ⟨.slice 174,1,24,[.slice none 0 0]⟩ .leaf) 91 ⟨.struct [(0,1),(1,1),(2,1),(3,1)],4,96,[.slice none 0 0,.slice none 0 0,.slice none 0 0,.slice none 0 0]⟩ (.node (.node .leaf 93 ⟨.map 9 3,1,8,[.map none]⟩ .leaf) 94 ⟨.map 9 214,1,8,[.map none]⟩ .leaf))) 96 ⟨.struct [(0,5),(5,1),(6,1)],7,104,[.slice none 0 0,.slice none 0 0,.int .i64 0,.int .i64 0,.slice none 0 0,.map none,.map none]⟩ (.node (.node (.node (.node .leaf 98 ⟨.slice 119,1,24,[.slice none 0 0]⟩ .leaf) 100 ⟨.struct [(0,1),(1,1),(2,1)],3,56,[.bool false,.slice none 0 0,.slice none 0 0]⟩ .leaf) 103 ⟨.slice 9,1,24,[.slice none 0 0]⟩ (.node (.node .leaf 107 ⟨.other,1,8,[.pointer none]⟩ .leaf) 113 ⟨.struct [(0,1),(1,1)],2,16,[.int .i64 0,.int .i64 0]⟩ .leaf)) 118 ⟨.int .u64,1,8,[.int .u64 0]⟩ (.node (.node (.node .leaf 119 ⟨.int .u32,1,4,[.int .u32 0]⟩ .leaf) 121 ⟨.slice 125,1,24,[.slice none 0 0]⟩ .leaf) 123 ⟨.struct [(0,1),(1,1),(2,1)],3,48,[.string ⟨#[]⟩,.int .i64 0,.slice none 0 0]⟩ (.node (.node .leaf 125 ⟨.struct [(0,1),(1,1)],2,40,[.string ⟨#[]⟩,.slice none 0 0]⟩ .leaf) 127 ⟨.other,1,8,[.pointer none]⟩ .leaf))))) 128 ⟨.other,1,8,[.pointer none]⟩ (.node (.node (.node (.node (.node (.node .leaf 130 ⟨.struct [(0,1),(1,1),(2,1)],3,40,[.slice none 0 0,.int .i64 0,.int .i64 0]⟩ .leaf) 133 ⟨.other,1,8,[.pointer none]⟩ (.node .leaf 155 ⟨.other,1,8,[.nilFunc]⟩ .leaf)) 157 ⟨.other,1,8,[.nilFunc]⟩ (.node (.node .leaf 159 ⟨.other,1,8,[.pointer none]⟩ .leaf) 164 ⟨.map 9 4,1,8,[.map none]⟩ .leaf)) 168 ⟨.slice 3,1,24,[.slice none 0 0]⟩ (.node (.node (.node .leaf 170 ⟨.struct [(0,1),(1,1),(2,1),(3,3),(6,1)],7,112,[.string ⟨#[]⟩,.slice none 0 0,.slice none 0 0,.int .i64 0,.int .i64 0,.slice none 0 0,.int .i64 0]⟩ .leaf) 171 ⟨.other,1,8,[.nilFunc]⟩ .leaf) 172 ⟨.slice 168,1,24,[.slice none 0 0]⟩ (.node (.node .leaf 174 ⟨.struct [(0,1),(1,1),(2,1),(3,1),(4,1),(5,3)],8,128,[.int .i64 0,.int .i64 0,.slice none 0 0,.slice none 0 0,.slice none 0 0,.int .i64 0,.int .i64 0,.slice none 0 0]⟩ .leaf) 175 ⟨.slice 4,1,24,[.slice none 0 0]⟩ .leaf))) 176 ⟨.other,1,8,[.nilFunc]⟩ (.node (.node (.node (.node .leaf 177 ⟨.other,1,8,[.nilFunc]⟩ .leaf) 178 ⟨.other,1,8,[.pointer none]⟩ .leaf) 180 ⟨.struct [(0,4),(4,1)],5,120,[.slice none 0 0,.slice none 0 0,.slice none 0 0,.slice none 0 0,.slice none 0 0]⟩ (.node (.node .leaf 188 ⟨.other,1,8,[.nilFunc]⟩ .leaf) 189 ⟨.other,1,8,[.nilFunc]⟩ .leaf)) 191 ⟨.other,1,8,[.nilFunc]⟩ (.node (.node (.node .leaf 214 ⟨.slice 218,1,24,[.slice none 0 0]⟩ .leaf) 218 ⟨.struct [(0,2),(2,3)],5,88,[.int .i64 0,.slice none 0 0,.bool false,.slice none 0 0,.slice none 0 0]⟩ .leaf) 223 ⟨.slice 45,1,24,[.slice none 0 0]⟩ (.node (.node .leaf 227 ⟨.struct [(0,1),(1,1)],2,32,[.map none,.slice none 0 0]⟩ .leaf) 230 ⟨.other,1,8,[.nilFunc]⟩ .leaf)))) 232 ⟨.other,1,8,[.nilFunc]⟩ (.node (.node (.node (.node (.node .leaf 234 ⟨.slice 238,1,24,[.slice none 0 0]⟩ .leaf) 238 ⟨.struct [(0,1),(1,1),(2,1)],3,32,[.int .i64 0,.string ⟨#[]⟩,.int .i64 0]⟩ .leaf) 252 ⟨.other,1,8,[.nilFunc]⟩ (.node (.node .leaf 266 ⟨.int .u64,1,8,[.int .u64 0]⟩ .leaf) 271 ⟨.slice 274,1,24,[.slice none 0 0]⟩ .leaf)) 274 ⟨.struct [(0,1),(1,1),(2,1)],3,32,[.int .i64 0,.string ⟨#[]⟩,.int .i64 0]⟩ (.node (.node (.node .leaf 276 ⟨.float .f64,1,8,[.float .f64 0]⟩ .leaf) 292 ⟨.other,1,8,[.nilFunc]⟩ .leaf) 317 ⟨.other,1,8,[.pointer none]⟩ (.node (.node .leaf 332 ⟨.int .i64,1,8,[.int .i64 0]⟩ .leaf) 344 ⟨.other,1,8,[.nilFunc]⟩ .leaf))) 349 ⟨.other,1,8,[.nilFunc]⟩ (.node (.node (.node (.node .leaf 351 ⟨.struct [(0,1),(1,3),(4,1),(5,1)],6,96,[.slice none 0 0,.int .i64 0,.int .i64 0,.slice none 0 0,.map none,.slice none 0 0]⟩ .leaf) 352 ⟨.slice 355,1,24,[.slice none 0 0]⟩ .leaf) 355 ⟨.struct [(0,1),(1,3)],4,80,[.slice none 0 0,.bool false,.slice none 0 0,.slice none 0 0]⟩ (.node (.node .leaf 358 ⟨.slice 214,1,24,[.slice none 0 0]⟩ .leaf) 360 ⟨.other,1,8,[.nilFunc]⟩ .leaf)) 362 ⟨.slice 46,1,24,[.slice none 0 0]⟩ (.node (.node (.node .leaf 364 ⟨.slice 47,1,24,[.slice none 0 0]⟩ .leaf) 368 ⟨.int .u64,1,8,[.int .u64 0]⟩ .leaf) 379 ⟨.other,1,8,[.nilFunc]⟩ (.node (.node .leaf 383 ⟨.other,1,8,[.pointer none]⟩ .leaf) 386 ⟨.slice 61,1,24,[.slice none 0 0]⟩ .leaf))))))
def Ci:Cg:=Aay.find
theorem Aqy:Aay.toList.map (fun p=>F7 Go.Proofs.Tryz.prog p.1)=Aay.toList.map (fun p=>some p.2):=by kernel_rfl
theorem Ag2:Ch Go.Proofs.Tryz.prog Ci:=Tr.ok Aqy
theorem Sc:Go.Proofs.Tryz.prog.follows .mixedOrders=true:=by kernel_rfl
end Go.Ab
namespace Go.Ab.Fn
abbrev Wk:FuncId:=3
abbrev Sj:FuncId:=4
abbrev N5:FuncId:=5
abbrev N6:FuncId:=6
abbrev Wl:FuncId:=7
abbrev Sk:FuncId:=8
abbrev Sl:FuncId:=9
abbrev Mh:FuncId:=10
abbrev G7:FuncId:=11
abbrev Fu:FuncId:=12
abbrev Jb:FuncId:=13
abbrev Hm:FuncId:=14
abbrev Sm:FuncId:=15
abbrev Qa:FuncId:=16
abbrev Qb:FuncId:=17
abbrev Qc:FuncId:=18
abbrev Ld:FuncId:=19
abbrev Lf:FuncId:=20
abbrev Ih:FuncId:=21
abbrev N7:FuncId:=22
abbrev Lg:FuncId:=23
abbrev Aaz:FuncId:=24
abbrev Aa0:FuncId:=25
abbrev Aa1:FuncId:=26
abbrev Aa2:FuncId:=27
abbrev Sn:FuncId:=28
abbrev So:FuncId:=29
abbrev Sp:FuncId:=30
abbrev Sq:FuncId:=31
abbrev Qd:FuncId:=32
abbrev Qf:FuncId:=33
abbrev Lh:FuncId:=34
abbrev Sr:FuncId:=35
abbrev Ii:FuncId:=36
abbrev N8:FuncId:=37
abbrev Ss:FuncId:=38
abbrev Qg:FuncId:=39
abbrev Qh:FuncId:=40
abbrev Li:FuncId:=41
abbrev Iz:FuncId:=42
abbrev Fg:FuncId:=43
abbrev Qi:FuncId:=44
abbrev N9:FuncId:=45
abbrev Gb:FuncId:=46
abbrev Qj:FuncId:=47
abbrev Mi:FuncId:=48
abbrev Su:FuncId:=49
abbrev Sv:FuncId:=50
abbrev Lj:FuncId:=51
abbrev Qk:FuncId:=52
abbrev Sw:FuncId:=53
abbrev Lk:FuncId:=54
abbrev Wm:FuncId:=55
abbrev Oa:FuncId:=56
abbrev Mj:FuncId:=57
abbrev Sx:FuncId:=58
abbrev Ll:FuncId:=59
abbrev Ob:FuncId:=60
abbrev Aa3:FuncId:=61
abbrev Wn:FuncId:=62
abbrev Lm:FuncId:=63
abbrev Sy:FuncId:=64
abbrev Wo:FuncId:=65
abbrev Mk:FuncId:=66
abbrev Sz:FuncId:=67
abbrev Aa4:FuncId:=68
abbrev Aa5:FuncId:=69
abbrev Aa6:FuncId:=70
abbrev Aa7:FuncId:=71
abbrev Aa8:FuncId:=72
abbrev Aa9:FuncId:=73
abbrev J4:FuncId:=74
abbrev Ml:FuncId:=75
abbrev Kt:FuncId:=76
abbrev Ql:FuncId:=77
abbrev Mm:FuncId:=78
abbrev Qm:FuncId:=79
abbrev Wp:FuncId:=81
abbrev S0:FuncId:=82
abbrev Oc:FuncId:=83
abbrev J5:FuncId:=84
abbrev J6:FuncId:=86
abbrev Mn:FuncId:=87
abbrev J7:FuncId:=88
abbrev Od:FuncId:=89
abbrev Qo:FuncId:=90
abbrev Qp:FuncId:=91
abbrev Ln:FuncId:=92
abbrev Qq:FuncId:=94
abbrev Ku:FuncId:=95
abbrev S3:FuncId:=96
abbrev S4:FuncId:=97
abbrev Qs:FuncId:=98
abbrev Qt:FuncId:=99
abbrev S5:FuncId:=100
abbrev Oe:FuncId:=101
abbrev S6:FuncId:=102
abbrev Mo:FuncId:=103
abbrev S7:FuncId:=104
abbrev Mp:FuncId:=105
abbrev Qu:FuncId:=106
abbrev S8:FuncId:=107
abbrev Wq:FuncId:=108
abbrev Qv:FuncId:=109
abbrev Of:FuncId:=110
abbrev Aba:FuncId:=111
abbrev Wr:FuncId:=112
abbrev Ws:FuncId:=113
abbrev Wt:FuncId:=114
abbrev Og:FuncId:=115
abbrev Oh:FuncId:=116
abbrev Mq:FuncId:=117
abbrev Abb:FuncId:=118
abbrev Abc:FuncId:=119
abbrev S9:FuncId:=126
abbrev Ta:FuncId:=127
abbrev Tb:FuncId:=128
abbrev Kv:FuncId:=129
abbrev J8:FuncId:=130
abbrev Jc:FuncId:=131
abbrev Wu:FuncId:=132
abbrev Tc:FuncId:=133
abbrev Kw:FuncId:=134
abbrev Mr:FuncId:=135
abbrev Wv:FuncId:=136
abbrev Td:FuncId:=137
abbrev Ij:FuncId:=138
abbrev Te:FuncId:=139
abbrev Ww:FuncId:=140
abbrev J9:FuncId:=141
abbrev Lo:FuncId:=143
abbrev Tf:FuncId:=144
abbrev Oi:FuncId:=145
abbrev Qw:FuncId:=146
abbrev Tg:FuncId:=147
abbrev Oj:FuncId:=149
abbrev Ms:FuncId:=150
abbrev Qx:FuncId:=151
abbrev Lp:FuncId:=152
abbrev Mt:FuncId:=153
abbrev Qy:FuncId:=154
abbrev Ok:FuncId:=155
abbrev Lq:FuncId:=156
abbrev Ol:FuncId:=157
abbrev Mu:FuncId:=158
abbrev Ik:FuncId:=159
abbrev Om:FuncId:=160
abbrev Th:FuncId:=161
abbrev Ti:FuncId:=162
abbrev On:FuncId:=163
abbrev Qz:FuncId:=164
abbrev Wx:FuncId:=165
abbrev Lr:FuncId:=166
abbrev Oo:FuncId:=167
abbrev Tj:FuncId:=168
abbrev Wy:FuncId:=169
abbrev Wz:FuncId:=170
abbrev W0:FuncId:=171
abbrev Abd:FuncId:=172
abbrev W1:FuncId:=174
abbrev W2:FuncId:=176
abbrev W3:FuncId:=177
abbrev Abe:FuncId:=178
abbrev Tk:FuncId:=179
abbrev W4:FuncId:=180
abbrev Abf:FuncId:=181
abbrev W5:FuncId:=182
abbrev Abg:FuncId:=183
abbrev Abh:FuncId:=184
abbrev Abi:FuncId:=185
abbrev W6:FuncId:=186
abbrev Oq:FuncId:=187
abbrev Ot:FuncId:=188
abbrev Abj:FuncId:=189
abbrev Ou:FuncId:=200
abbrev Mv:FuncId:=201
abbrev W7:FuncId:=202
abbrev Tl:FuncId:=203
abbrev Tm:FuncId:=204
abbrev Tn:FuncId:=205
abbrev To:FuncId:=206
abbrev W8:FuncId:=207
abbrev Mw:FuncId:=208
abbrev Q2:FuncId:=209
abbrev Axt:FuncId:=210
abbrev Axu:FuncId:=211
abbrev Axv:FuncId:=212
abbrev Q3:FuncId:=214
abbrev Ov:FuncId:=215
abbrev Q4:FuncId:=216
abbrev Tp:FuncId:=217
abbrev W9:FuncId:=218
abbrev Xa:FuncId:=223
abbrev Ow:FuncId:=224
abbrev Q5:FuncId:=225
abbrev Tq:FuncId:=226
abbrev Mx:FuncId:=227
abbrev My:FuncId:=228
abbrev Q6:FuncId:=229
abbrev Abk:FuncId:=230
abbrev Ls:FuncId:=232
abbrev Abl:FuncId:=233
abbrev Abm:FuncId:=234
abbrev Abn:FuncId:=235
abbrev Abo:FuncId:=236
abbrev Abp:FuncId:=237
abbrev Abq:FuncId:=238
abbrev Abr:FuncId:=239
abbrev Abs:FuncId:=240
abbrev Ts:FuncId:=241
abbrev Tt:FuncId:=242
abbrev Tu:FuncId:=243
abbrev Ox:FuncId:=247
abbrev Oy:FuncId:=248
abbrev Oz:FuncId:=249
abbrev Xb:FuncId:=250
abbrev Mz:FuncId:=251
abbrev O0:FuncId:=252
abbrev O1:FuncId:=253
abbrev M0:FuncId:=254
abbrev Abt:FuncId:=256
abbrev Tv:FuncId:=263
abbrev Q7:FuncId:=264
abbrev Q8:FuncId:=265
abbrev Xc:FuncId:=266
abbrev Tw:FuncId:=267
abbrev Tx:FuncId:=268
abbrev O2:FuncId:=269
abbrev Xd:FuncId:=270
abbrev Abu:FuncId:=279
abbrev Abv:FuncId:=280
abbrev Xe:FuncId:=281
abbrev Abw:FuncId:=283
abbrev Ty:FuncId:=284
abbrev Abx:FuncId:=285
abbrev Aby:FuncId:=286
abbrev Abz:FuncId:=287
abbrev Ab0:FuncId:=288
abbrev Xf:FuncId:=289
abbrev Ab1:FuncId:=290
abbrev Tz:FuncId:=299
abbrev Ab2:FuncId:=300
abbrev Q9:FuncId:=301
abbrev O3:FuncId:=302
abbrev T0:FuncId:=303
abbrev Ra:FuncId:=304
abbrev T1:FuncId:=305
abbrev M1:FuncId:=306
abbrev T2:FuncId:=307
abbrev T3:FuncId:=308
abbrev Rb:FuncId:=311
abbrev Ab3:FuncId:=326
abbrev Ab4:FuncId:=327
abbrev Xg:FuncId:=329
abbrev Ab5:FuncId:=330
end Go.Ab.Fn
namespace Go.Ab
open Go
abbrev O (k:IntKind) (n:Int):AV:=.val (.int k n)
abbrev Am (b:Bool):AV:=.val (.bool b)
abbrev Bk (s:ByteArray):AV:=.val (.string s)
abbrev Av {α:Type} (sz:Nat) (f:α->AV) (l:List α):AV:=.sl sz (l.map f)
abbrev Ep {α:Type} (sz:Nat) (g:List α->List AV) (l:List α):AV:=.sl sz (g l)
structure Af where
 Kind:Int
 Num:Int
 Args:(List Af)
mutual
def Ab6:Af->AV
 | ⟨x0,x1,x2⟩=>.agg [O .i64 x0,O .i64 x1,.sl 3 (Bd x2)]
def Bd:List Af->List AV
 | []=>[]
 | x::xs=>Ab6 x::Bd xs
end
def Cv (x:Af):AV:=.agg [O .i64 x.Kind,O .i64 x.Num,.sl 3 (Bd x.Args)]
theorem Aqz (x:Af):Ab6 x=Cv x:=by cases x; simp only [Ab6,Cv]
theorem Il:∀l:List Af,Bd l=l.map Cv
 | []=>rfl
 | x::xs=>by simp only [Bd,List.map_cons,Aqz,Il xs]
structure Ka where
 Name:ByteArray
 Args:(List Af)
def Xh (x:Ka):AV:=.agg [Bk x.Name,.sl 3 (Bd x.Args)]
structure Ao where
 Name:ByteArray
 Vars:Int
 Cons:(List Ka)
def Bt (x:Ao):AV:=.agg [Bk x.Name,O .i64 x.Vars,.sl 2 (List.map Xh x.Cons)]
structure Ck where
 Data:(List Ao)
 Vars:(List Af)
 Res:Af
def G8 (x:Ck):AV:=.agg [.sl 3 (List.map Bt x.Data),.sl 3 (Bd x.Vars),O .i64 x.Res.Kind,O .i64 x.Res.Num,.sl 3 (Bd x.Res.Args)]
structure A4 where
 Neg:Bool
 Num:(List Int)
 Den:(List Int)
def Cb (x:A4):AV:=.agg [Am x.Neg,.sl 1 (List.map (O .u32) x.Num),.sl 1 (List.map (O .u32) x.Den)]
structure Az where
 Num:Int
 Kids:(List Az)
mutual
def Ab7:Az->AV
 | ⟨x0,x1⟩=>.agg [O .i64 x0,.sl 2 (Gr x1)]
def Gr:List Az->List AV
 | []=>[]
 | x::xs=>Ab7 x::Gr xs
end
def D7 (x:Az):AV:=.agg [O .i64 x.Num,.sl 2 (Gr x.Kids)]
theorem Aq0 (x:Az):Ab7 x=D7 x:=by cases x; simp only [Ab7,D7]
theorem Jd:∀l:List Az,Gr l=l.map D7
 | []=>rfl
 | x::xs=>by simp only [Gr,List.map_cons,Aq0,Jd xs]
structure Cd where
 Var:Int
 Index:Az
def Ei (x:Cd):AV:=.agg [O .i64 x.Var,O .i64 x.Index.Num,.sl 2 (Gr x.Index.Kids)]
structure Dd where
 Var:Int
 Coef:Int
def Gf (x:Dd):AV:=.agg [O .i64 x.Var,O .i64 x.Coef]
structure C2 where
 Const:Int
 Terms:(List Dd)
def G9 (x:C2):AV:=.agg [O .i64 x.Const,.sl 2 (List.map Gf x.Terms)]
structure B1 where
 Lin:C2
 Deg:Int
def Dw (x:B1):AV:=.agg [O .i64 x.Lin.Const,.sl 2 (List.map Gf x.Lin.Terms),O .i64 x.Deg]
structure B8 where
 Factors:(List Cd)
 Atoms:(List B1)
def F0 (x:B8):AV:=.agg [.sl 3 (List.map Ei x.Factors),.sl 3 (List.map Dw x.Atoms)]
structure A6 where
 Coef:A4
 Mono:B8
def Cq (x:A6):AV:=.agg [Am x.Coef.Neg,.sl 1 (List.map (O .u32) x.Coef.Num),.sl 1 (List.map (O .u32) x.Coef.Den),.sl 3 (List.map Ei x.Mono.Factors),.sl 3 (List.map Dw x.Mono.Atoms)]
structure Ag3 where
 Name:ByteArray
 Params:(List Int)
 Captured:(List Int)
 Result:Af
 Body:Int
def O4 (x:Ag3):AV:=.agg [Bk x.Name,.sl 1 (List.map (O .i64) x.Params),.sl 1 (List.map (O .i64) x.Captured),O .i64 x.Result.Kind,O .i64 x.Result.Num,.sl 3 (Bd x.Result.Args),O .i64 x.Body]
structure Ag4 where
 Op:Int
 Num:Int
 Vars:(List Int)
 Binds:(List (List Int))
 Kids:(List Int)
 Type_:Af
def O5 (x:Ag4):AV:=.agg [O .i64 x.Op,O .i64 x.Num,.sl 1 (List.map (O .i64) x.Vars),.sl 1 (List.map (Av 1 (O .i64)) x.Binds),.sl 1 (List.map (O .i64) x.Kids),O .i64 x.Type_.Kind,O .i64 x.Type_.Num,.sl 3 (Bd x.Type_.Args)]
structure H6 where
 Data:(List Ao)
 Codes:(List Ag3)
 Vars:(List Af)
 Exprs:(List Ag4)
def O6 (x:H6):AV:=.agg [.sl 3 (List.map Bt x.Data),.sl 7 (List.map O4 x.Codes),.sl 3 (Bd x.Vars),.sl 8 (List.map O5 x.Exprs)]
structure Fv where
 neg:Bool
 n:(List Int)
 d:(List Int)
def M2 (x:Fv):AV:=.agg [Am x.neg,.sl 1 (List.map (O .u32) x.n),.sl 1 (List.map (O .u32) x.d)]
structure E7 where
 data:(List Ao)
 vars:Int
 left:Int
structure Dh where
 Index:Az
 Coef:A4
def D8 (x:Dh):AV:=.agg [O .i64 x.Index.Num,.sl 2 (Gr x.Index.Kids),Am x.Coef.Neg,.sl 1 (List.map (O .u32) x.Coef.Num),.sl 1 (List.map (O .u32) x.Coef.Den)]
structure Ha where
 Kind:Int
 Text:ByteArray
 Pos:Int
def Xi (x:Ha):AV:=.agg [O .i64 x.Kind,Bk x.Text,O .i64 x.Pos]
structure H7 where
 Kind:Int
 Text:ByteArray
 Pos:Int
def Ab8 (x:H7):AV:=.agg [O .i64 x.Kind,Bk x.Text,O .i64 x.Pos]
end Go.Ab
