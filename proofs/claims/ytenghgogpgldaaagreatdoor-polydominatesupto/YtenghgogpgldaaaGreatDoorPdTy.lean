/- The types that the program uses; plain types for its data. -/
import Derived.Test.YtenghgogpgldaaaGreatDoorPdAb2
import Derived.Test.YtenghgogpgldaaaGreatDoorProg
import Derived.KernelRfl
namespace Go.Ab
open Go Go.Proofs
def Aaa:Tr:=(.node (.node (.node (.node (.node (.node (.node .leaf 1 ⟨.other,1,8,[.nilFunc]⟩ .leaf) 2 ⟨.int .i64,1,8,[.int .i64 0]⟩ (.node .leaf 3 ⟨.int .i64,1,8,[.int .i64 0]⟩ .leaf)) 4 ⟨.bool,1,1,[.bool false]⟩ (.node (.node .leaf 5 ⟨.int .u8,1,1,[.int .u8 0]⟩ .leaf) 9 ⟨.string,1,16,[.string ⟨#[]⟩]⟩ .leaf)) 20 ⟨.other,1,16,[.nilIface]⟩ (.node (.node (.node .leaf 22 ⟨.slice 177,1,24,[.slice none 0 0]⟩ .leaf) 23 ⟨.slice 25,1,24,[.slice none 0 0]⟩ (.node .leaf 25 ⟨.struct [(0,1),(1,1),(2,1)],3,40,[.int .i64 0,.int .i64 0,.slice none 0 0]⟩ .leaf)) 27 ⟨.struct [(0,1),(1,1),(2,3)],5,88,[.slice none 0 0,.slice none 0 0,.int .i64 0,.int .i64 0,.slice none 0 0]⟩ (.node (.node .leaf 28 ⟨.slice 84,1,24,[.slice none 0 0]⟩ .leaf) 32 ⟨.slice 133,1,24,[.slice none 0 0]⟩ .leaf))) 34 ⟨.struct [(0,1),(1,1),(2,1)],3,56,[.bool false,.slice none 0 0,.slice none 0 0]⟩ (.node (.node (.node (.node .leaf 36 ⟨.int .i64,1,8,[.int .i64 0]⟩ .leaf) 42 ⟨.slice 92,1,24,[.slice none 0 0]⟩ (.node .leaf 43 ⟨.slice 95,1,24,[.slice none 0 0]⟩ .leaf)) 45 ⟨.struct [(0,1),(1,1)],2,48,[.slice none 0 0,.slice none 0 0]⟩ (.node (.node .leaf 52 ⟨.slice 3,1,24,[.slice none 0 0]⟩ .leaf) 55 ⟨.slice 57,1,24,[.slice none 0 0]⟩ .leaf)) 57 ⟨.struct [(0,1),(1,1),(2,1)],3,40,[.int .i64 0,.int .i64 0,.slice none 0 0]⟩ (.node (.node (.node .leaf 64 ⟨.slice 28,1,24,[.slice none 0 0]⟩ .leaf) 66 ⟨.other,1,8,[.pointer none]⟩ (.node .leaf 69 ⟨.other,1,8,[.pointer none]⟩ .leaf)) 74 ⟨.map 9 3,1,8,[.map none]⟩ (.node (.node .leaf 76 ⟨.struct [(0,1),(1,1)],2,32,[.map none,.slice none 0 0]⟩ .leaf) 80 ⟨.slice 105,1,24,[.slice none 0 0]⟩ .leaf)))) 82 ⟨.struct [(0,1),(1,1)],2,32,[.int .i64 0,.slice none 0 0]⟩ (.node (.node (.node (.node (.node .leaf 84 ⟨.struct [(0,3),(3,2)],5,104,[.bool false,.slice none 0 0,.slice none 0 0,.slice none 0 0,.slice none 0 0]⟩ .leaf) 88 ⟨.slice 90,1,24,[.slice none 0 0]⟩ (.node .leaf 90 ⟨.struct [(0,1),(1,1)],2,32,[.int .i64 0,.slice none 0 0]⟩ .leaf)) 92 ⟨.struct [(0,1),(1,2)],3,40,[.int .i64 0,.int .i64 0,.slice none 0 0]⟩ (.node (.node .leaf 95 ⟨.struct [(0,2),(2,1)],3,40,[.int .i64 0,.slice none 0 0,.int .i64 0]⟩ .leaf) 99 ⟨.other,1,8,[.nilFunc]⟩ .leaf)) 101 ⟨.other,1,8,[.nilFunc]⟩ (.node (.node (.node .leaf 105 ⟨.struct [(0,1),(1,1)],2,16,[.int .i64 0,.int .i64 0]⟩ .leaf) 110 ⟨.other,1,8,[.nilFunc]⟩ (.node .leaf 112 ⟨.other,1,8,[.nilFunc]⟩ .leaf)) 120 ⟨.other,1,8,[.nilFunc]⟩ (.node (.node .leaf 122 ⟨.slice 239,1,24,[.slice none 0 0]⟩ .leaf) 123 ⟨.slice 243,1,24,[.slice none 0 0]⟩ .leaf))) 125 ⟨.struct [(0,1),(1,1),(2,1),(3,1)],4,96,[.slice none 0 0,.slice none 0 0,.slice none 0 0,.slice none 0 0]⟩ (.node (.node (.node (.node .leaf 127 ⟨.map 9 274,1,8,[.map none]⟩ .leaf) 129 ⟨.struct [(0,5),(5,1),(6,1)],7,104,[.slice none 0 0,.slice none 0 0,.int .i64 0,.int .i64 0,.slice none 0 0,.map none,.map none]⟩ (.node .leaf 131 ⟨.slice 133,1,24,[.slice none 0 0]⟩ .leaf)) 133 ⟨.int .u32,1,4,[.int .u32 0]⟩ (.node (.node .leaf 135 ⟨.struct [(0,1),(1,1),(2,1)],3,56,[.bool false,.slice none 0 0,.slice none 0 0]⟩ .leaf) 140 ⟨.int .u64,1,8,[.int .u64 0]⟩ .leaf)) 143 ⟨.other,1,8,[.nilFunc]⟩ (.node (.node (.node .leaf 148 ⟨.other,1,8,[.pointer none]⟩ .leaf) 152 ⟨.other,1,8,[.nilFunc]⟩ .leaf) 153 ⟨.other,1,8,[.nilFunc]⟩ (.node (.node .leaf 156 ⟨.other,1,8,[.nilFunc]⟩ .leaf) 164 ⟨.int .u64,1,8,[.int .u64 0]⟩ .leaf))))) 166 ⟨.other,1,8,[.nilFunc]⟩ (.node (.node (.node (.node (.node (.node .leaf 175 ⟨.slice 179,1,24,[.slice none 0 0]⟩ .leaf) 177 ⟨.struct [(0,1),(1,1),(2,1)],3,48,[.string ⟨#[]⟩,.int .i64 0,.slice none 0 0]⟩ (.node .leaf 179 ⟨.struct [(0,1),(1,1)],2,40,[.string ⟨#[]⟩,.slice none 0 0]⟩ .leaf)) 181 ⟨.other,1,8,[.pointer none]⟩ (.node (.node .leaf 183 ⟨.struct [(0,1),(1,1),(2,1)],3,40,[.slice none 0 0,.int .i64 0,.int .i64 0]⟩ .leaf) 184 ⟨.other,1,8,[.pointer none]⟩ .leaf)) 185 ⟨.slice 5,1,24,[.slice none 0 0]⟩ (.node (.node (.node .leaf 187 ⟨.struct [(0,1),(1,1)],2,32,[.pointer none,.slice none 0 0]⟩ .leaf) 189 ⟨.other,1,16,[.nilIface]⟩ (.node .leaf 205 ⟨.other,1,8,[.nilFunc]⟩ .leaf)) 212 ⟨.other,1,8,[.nilFunc]⟩ (.node (.node .leaf 217 ⟨.int .i64,1,8,[.int .i64 0]⟩ .leaf) 234 ⟨.map 9 4,1,8,[.map none]⟩ .leaf))) 239 ⟨.struct [(0,1),(1,1),(2,1),(3,3),(6,1)],7,112,[.string ⟨#[]⟩,.slice none 0 0,.slice none 0 0,.int .i64 0,.int .i64 0,.slice none 0 0,.int .i64 0]⟩ (.node (.node (.node (.node .leaf 240 ⟨.other,1,8,[.nilFunc]⟩ .leaf) 241 ⟨.slice 52,1,24,[.slice none 0 0]⟩ (.node .leaf 243 ⟨.struct [(0,1),(1,1),(2,1),(3,1),(4,1),(5,3)],8,128,[.int .i64 0,.int .i64 0,.slice none 0 0,.slice none 0 0,.slice none 0 0,.int .i64 0,.int .i64 0,.slice none 0 0]⟩ .leaf)) 244 ⟨.slice 4,1,24,[.slice none 0 0]⟩ (.node (.node .leaf 245 ⟨.other,1,8,[.nilFunc]⟩ .leaf) 246 ⟨.other,1,8,[.nilFunc]⟩ .leaf)) 247 ⟨.other,1,8,[.pointer none]⟩ (.node (.node (.node .leaf 249 ⟨.struct [(0,4),(4,1)],5,120,[.slice none 0 0,.slice none 0 0,.slice none 0 0,.slice none 0 0,.slice none 0 0]⟩ .leaf) 256 ⟨.other,1,8,[.pointer none]⟩ .leaf) 259 ⟨.slice 9,1,24,[.slice none 0 0]⟩ (.node (.node .leaf 274 ⟨.slice 278,1,24,[.slice none 0 0]⟩ .leaf) 278 ⟨.struct [(0,2),(2,3)],5,88,[.int .i64 0,.slice none 0 0,.bool false,.slice none 0 0,.slice none 0 0]⟩ .leaf)))) 283 ⟨.slice 34,1,24,[.slice none 0 0]⟩ (.node (.node (.node (.node (.node .leaf 292 ⟨.int .u64,1,8,[.int .u64 0]⟩ .leaf) 299 ⟨.other,1,8,[.nilFunc]⟩ (.node .leaf 304 ⟨.slice 306,1,24,[.slice none 0 0]⟩ .leaf)) 306 ⟨.struct [(0,1),(1,1),(2,1),(3,1)],4,80,[.int .i64 0,.slice none 0 0,.slice none 0 0,.slice none 0 0]⟩ (.node (.node .leaf 309 ⟨.slice 313,1,24,[.slice none 0 0]⟩ .leaf) 313 ⟨.struct [(0,1),(1,1),(2,1)],3,32,[.int .i64 0,.string ⟨#[]⟩,.int .i64 0]⟩ .leaf)) 323 ⟨.other,1,8,[.pointer none]⟩ (.node (.node (.node .leaf 332 ⟨.slice 335,1,24,[.slice none 0 0]⟩ .leaf) 335 ⟨.struct [(0,1),(1,1),(2,1)],3,32,[.int .i64 0,.string ⟨#[]⟩,.int .i64 0]⟩ (.node .leaf 336 ⟨.float .f64,1,8,[.float .f64 0]⟩ .leaf)) 346 ⟨.other,1,8,[.pointer none]⟩ (.node (.node .leaf 350 ⟨.slice 244,1,24,[.slice none 0 0]⟩ .leaf) 351 ⟨.other,1,8,[.nilFunc]⟩ .leaf))) 352 ⟨.other,1,8,[.nilFunc]⟩ (.node (.node (.node (.node .leaf 371 ⟨.other,1,8,[.pointer none]⟩ .leaf) 388 ⟨.other,1,8,[.nilFunc]⟩ (.node .leaf 397 ⟨.other,1,8,[.nilFunc]⟩ .leaf)) 399 ⟨.struct [(0,1),(1,3),(4,1),(5,1)],6,96,[.slice none 0 0,.int .i64 0,.int .i64 0,.slice none 0 0,.map none,.slice none 0 0]⟩ (.node (.node .leaf 400 ⟨.slice 403,1,24,[.slice none 0 0]⟩ .leaf) 403 ⟨.struct [(0,1),(1,3)],4,80,[.slice none 0 0,.bool false,.slice none 0 0,.slice none 0 0]⟩ .leaf)) 406 ⟨.slice 274,1,24,[.slice none 0 0]⟩ (.node (.node (.node .leaf 408 ⟨.other,1,8,[.nilFunc]⟩ .leaf) 410 ⟨.slice 42,1,24,[.slice none 0 0]⟩ .leaf) 412 ⟨.slice 43,1,24,[.slice none 0 0]⟩ (.node (.node .leaf 419 ⟨.other,1,8,[.nilFunc]⟩ .leaf) 426 ⟨.slice 88,1,24,[.slice none 0 0]⟩ .leaf))))))
def Cb:B8:=Aaa.find
theorem Aoq:Aaa.toList.map (fun p=>Fs Go.Proofs.Tryz.prog p.1)=Aaa.toList.map (fun p=>some p.2):=by kernel_rfl
theorem Afo:B9 Go.Proofs.Tryz.prog Cb:=Tr.ok Aoq
theorem Rw:Go.Proofs.Tryz.prog.follows .mixedOrders=true:=by kernel_rfl
end Go.Ab
namespace Go.Ab.Fn
abbrev Vy:FuncId:=3
abbrev R7:FuncId:=7
abbrev Nu:FuncId:=8
abbrev R8:FuncId:=9
abbrev Vz:FuncId:=10
abbrev R9:FuncId:=11
abbrev Sa:FuncId:=19
abbrev Sb:FuncId:=20
abbrev Aab:FuncId:=21
abbrev Sc:FuncId:=24
abbrev Sd:FuncId:=25
abbrev K7:FuncId:=33
abbrev Se:FuncId:=35
abbrev K8:FuncId:=36
abbrev P1:FuncId:=37
abbrev K9:FuncId:=38
abbrev Sf:FuncId:=39
abbrev Hv:FuncId:=40
abbrev P2:FuncId:=41
abbrev Sg:FuncId:=42
abbrev Nv:FuncId:=43
abbrev Aac:FuncId:=44
abbrev Aad:FuncId:=45
abbrev V1:FuncId:=46
abbrev Sh:FuncId:=49
abbrev V2:FuncId:=50
abbrev V3:FuncId:=51
abbrev L9:FuncId:=52
abbrev Nw:FuncId:=53
abbrev Jv:FuncId:=54
abbrev Nx:FuncId:=55
abbrev V4:FuncId:=56
abbrev Si:FuncId:=57
abbrev Ik:FuncId:=58
abbrev Ma:FuncId:=68
abbrev Kh:FuncId:=70
abbrev Iy:FuncId:=72
abbrev Sj:FuncId:=74
abbrev Sk:FuncId:=75
abbrev P3:FuncId:=76
abbrev Sl:FuncId:=77
abbrev Mb:FuncId:=78
abbrev Sm:FuncId:=79
abbrev Sn:FuncId:=80
abbrev Ny:FuncId:=81
abbrev La:FuncId:=82
abbrev So:FuncId:=83
abbrev Sp:FuncId:=84
abbrev P4:FuncId:=85
abbrev Nz:FuncId:=86
abbrev Iz:FuncId:=87
abbrev Lb:FuncId:=88
abbrev Lc:FuncId:=89
abbrev N0:FuncId:=90
abbrev Aae:FuncId:=91
abbrev Aaf:FuncId:=92
abbrev Aag:FuncId:=93
abbrev Aah:FuncId:=94
abbrev N1:FuncId:=97
abbrev I0:FuncId:=98
abbrev V5:FuncId:=99
abbrev Sq:FuncId:=100
abbrev Ki:FuncId:=101
abbrev Mc:FuncId:=102
abbrev V6:FuncId:=103
abbrev Sr:FuncId:=104
abbrev Jw:FuncId:=105
abbrev Kj:FuncId:=106
abbrev V7:FuncId:=107
abbrev N2:FuncId:=108
abbrev Md:FuncId:=109
abbrev Ld:FuncId:=110
abbrev I1:FuncId:=111
abbrev Ss:FuncId:=112
abbrev Me:FuncId:=113
abbrev Mf:FuncId:=114
abbrev V8:FuncId:=115
abbrev Su:FuncId:=116
abbrev Aai:FuncId:=120
abbrev Lf:FuncId:=127
abbrev Aaj:FuncId:=129
abbrev Mh:FuncId:=131
abbrev Sv:FuncId:=132
abbrev Aak:FuncId:=133
abbrev Aal:FuncId:=134
abbrev Aam:FuncId:=135
abbrev Aan:FuncId:=136
abbrev Aao:FuncId:=137
abbrev Aap:FuncId:=138
abbrev Jx:FuncId:=139
abbrev Mi:FuncId:=140
abbrev Kk:FuncId:=141
abbrev P5:FuncId:=142
abbrev Hj:FuncId:=143
abbrev Mj:FuncId:=144
abbrev F8:FuncId:=145
abbrev Lg:FuncId:=146
abbrev I2:FuncId:=147
abbrev Lh:FuncId:=148
abbrev V9:FuncId:=149
abbrev Sw:FuncId:=150
abbrev Li:FuncId:=151
abbrev Sx:FuncId:=152
abbrev Sy:FuncId:=153
abbrev Sz:FuncId:=154
abbrev P6:FuncId:=155
abbrev S0:FuncId:=156
abbrev N3:FuncId:=157
abbrev P7:FuncId:=158
abbrev S3:FuncId:=159
abbrev Wa:FuncId:=160
abbrev P8:FuncId:=161
abbrev N4:FuncId:=162
abbrev Aaq:FuncId:=163
abbrev Aar:FuncId:=164
abbrev Aas:FuncId:=165
abbrev S4:FuncId:=167
abbrev S5:FuncId:=168
abbrev Wb:FuncId:=169
abbrev S6:FuncId:=170
abbrev S7:FuncId:=171
abbrev P9:FuncId:=172
abbrev S8:FuncId:=173
abbrev N5:FuncId:=174
abbrev Qa:FuncId:=175
abbrev Qb:FuncId:=176
abbrev S9:FuncId:=177
abbrev N6:FuncId:=178
abbrev Hw:FuncId:=179
abbrev Aat:FuncId:=189
abbrev Hx:FuncId:=198
abbrev N7:FuncId:=199
abbrev Mk:FuncId:=200
abbrev Aau:FuncId:=201
abbrev Aav:FuncId:=202
abbrev Ta:FuncId:=209
abbrev Tb:FuncId:=210
abbrev Tc:FuncId:=211
abbrev Kl:FuncId:=212
abbrev Td:FuncId:=213
abbrev N8:FuncId:=214
abbrev N9:FuncId:=216
abbrev Jy:FuncId:=217
abbrev Oa:FuncId:=218
abbrev Te:FuncId:=219
abbrev Ob:FuncId:=220
abbrev Oc:FuncId:=221
abbrev Ml:FuncId:=222
abbrev Qc:FuncId:=223
abbrev Lj:FuncId:=224
abbrev Mm:FuncId:=225
abbrev Od:FuncId:=226
abbrev Qd:FuncId:=227
abbrev Oe:FuncId:=228
abbrev Of:FuncId:=229
abbrev Og:FuncId:=230
abbrev Wc:FuncId:=231
abbrev Tf:FuncId:=232
abbrev Tg:FuncId:=233
abbrev Wd:FuncId:=234
abbrev We:FuncId:=235
abbrev Wf:FuncId:=236
abbrev Qf:FuncId:=237
abbrev Wg:FuncId:=239
abbrev Wh:FuncId:=241
abbrev Wi:FuncId:=242
abbrev Qg:FuncId:=243
abbrev Wj:FuncId:=244
abbrev Wk:FuncId:=245
abbrev Aaw:FuncId:=246
abbrev Th:FuncId:=254
abbrev Aax:FuncId:=255
abbrev Wl:FuncId:=256
abbrev Oh:FuncId:=265
abbrev Oi:FuncId:=266
abbrev Mn:FuncId:=267
abbrev Aay:FuncId:=270
abbrev Qh:FuncId:=271
abbrev Wm:FuncId:=273
abbrev Oj:FuncId:=274
abbrev Aaz:FuncId:=275
abbrev Mo:FuncId:=286
abbrev Qi:FuncId:=288
abbrev Qj:FuncId:=290
abbrev Ok:FuncId:=291
abbrev Qk:FuncId:=292
abbrev Ti:FuncId:=293
abbrev Wn:FuncId:=294
abbrev Mp:FuncId:=295
abbrev Aa0:FuncId:=296
abbrev Aa1:FuncId:=298
abbrev Aa2:FuncId:=299
abbrev Tj:FuncId:=308
abbrev Tk:FuncId:=309
abbrev Tl:FuncId:=310
abbrev Ol:FuncId:=314
abbrev Om:FuncId:=315
abbrev Tm:FuncId:=320
abbrev Ql:FuncId:=321
abbrev Qm:FuncId:=322
abbrev Wo:FuncId:=323
abbrev Tn:FuncId:=324
abbrev To:FuncId:=325
abbrev Mq:FuncId:=326
abbrev Qo:FuncId:=327
abbrev Wp:FuncId:=328
abbrev On:FuncId:=329
abbrev Aa3:FuncId:=337
abbrev Aa4:FuncId:=338
abbrev Wq:FuncId:=339
abbrev Oo:FuncId:=340
abbrev Qp:FuncId:=346
abbrev Oq:FuncId:=347
abbrev Tp:FuncId:=348
abbrev Qq:FuncId:=349
abbrev Tq:FuncId:=350
abbrev Mr:FuncId:=351
abbrev Ts:FuncId:=352
abbrev Tt:FuncId:=353
abbrev Ot:FuncId:=360
abbrev Tu:FuncId:=361
abbrev Aa5:FuncId:=362
abbrev Aa6:FuncId:=374
abbrev Aa7:FuncId:=375
abbrev Aa8:FuncId:=376
abbrev Ms:FuncId:=380
abbrev Qs:FuncId:=381
abbrev Tv:FuncId:=382
abbrev Tw:FuncId:=391
abbrev Ou:FuncId:=392
end Go.Ab.Fn
namespace Go.Ab
open Go
abbrev O (k:IntKind) (n:Int):AV:=.val (.int k n)
abbrev Al (b:Bool):AV:=.val (.bool b)
abbrev C7 (s:ByteArray):AV:=.val (.string s)
abbrev Ar {α:Type} (sz:Nat) (f:α->AV) (l:List α):AV:=.sl sz (l.map f)
abbrev F0 {α:Type} (sz:Nat) (g:List α->List AV) (l:List α):AV:=.sl sz (g l)
structure Ah where
 Kind:Int
 Num:Int
 Args:(List Ah)
mutual
def Aa9:Ah->AV
 | ⟨x0,x1,x2⟩=>.agg [O .i64 x0,O .i64 x1,.sl 3 (Bd x2)]
def Bd:List Ah->List AV
 | []=>[]
 | x::xs=>Aa9 x::Bd xs
end
def C8 (x:Ah):AV:=.agg [O .i64 x.Kind,O .i64 x.Num,.sl 3 (Bd x.Args)]
theorem Aor (x:Ah):Aa9 x=C8 x:=by cases x; simp only [Aa9,C8]
theorem Hy:∀l:List Ah,Bd l=l.map C8
 | []=>rfl
 | x::xs=>by simp only [Bd,List.map_cons,Aor,Hy xs]
structure Jz where
 Name:ByteArray
 Args:(List Ah)
def Wr (x:Jz):AV:=.agg [C7 x.Name,.sl 3 (Bd x.Args)]
structure Ax where
 Name:ByteArray
 Vars:Int
 Cons:(List Jz)
def B7 (x:Ax):AV:=.agg [C7 x.Name,O .i64 x.Vars,.sl 2 (List.map Wr x.Cons)]
structure Cm where
 Data:(List Ax)
 Vars:(List Ah)
 Res:Ah
def Gx (x:Cm):AV:=.agg [.sl 3 (List.map B7 x.Data),.sl 3 (Bd x.Vars),O .i64 x.Res.Kind,O .i64 x.Res.Num,.sl 3 (Bd x.Res.Args)]
structure A5 where
 Neg:Bool
 Num:(List Int)
 Den:(List Int)
def C9 (x:A5):AV:=.agg [Al x.Neg,.sl 1 (List.map (O .u32) x.Num),.sl 1 (List.map (O .u32) x.Den)]
structure A6 where
 Num:Int
 Kids:(List A6)
mutual
def Aba:A6->AV
 | ⟨x0,x1⟩=>.agg [O .i64 x0,.sl 2 (G4 x1)]
def G4:List A6->List AV
 | []=>[]
 | x::xs=>Aba x::G4 xs
end
def Ev (x:A6):AV:=.agg [O .i64 x.Num,.sl 2 (G4 x.Kids)]
theorem Aos (x:A6):Aba x=Ev x:=by cases x; simp only [Aba,Ev]
theorem I3:∀l:List A6,G4 l=l.map Ev
 | []=>rfl
 | x::xs=>by simp only [G4,List.map_cons,Aos,I3 xs]
structure Ch where
 Var:Int
 Index:A6
def Eg (x:Ch):AV:=.agg [O .i64 x.Var,O .i64 x.Index.Num,.sl 2 (G4 x.Index.Kids)]
structure Da where
 Var:Int
 Coef:Int
def F1 (x:Da):AV:=.agg [O .i64 x.Var,O .i64 x.Coef]
structure Cu where
 Const:Int
 Terms:(List Da)
def Gk (x:Cu):AV:=.agg [O .i64 x.Const,.sl 2 (List.map F1 x.Terms)]
structure B4 where
 Lin:Cu
 Deg:Int
def Ea (x:B4):AV:=.agg [O .i64 x.Lin.Const,.sl 2 (List.map F1 x.Lin.Terms),O .i64 x.Deg]
structure Bb where
 Factors:(List Ch)
 Atoms:(List B4)
def E3 (x:Bb):AV:=.agg [.sl 3 (List.map Eg x.Factors),.sl 3 (List.map Ea x.Atoms)]
structure Qt where
 Kind:Int
 Num:Int
 Kids:(List Qt)
mutual
def Abb:Qt->AV
 | ⟨x0,x1,x2⟩=>.agg [O .i64 x0,O .i64 x1,.sl 3 (Qu x2)]
def Qu:List Qt->List AV
 | []=>[]
 | x::xs=>Abb x::Qu xs
end
def Ws (x:Qt):AV:=.agg [O .i64 x.Kind,O .i64 x.Num,.sl 3 (Qu x.Kids)]
theorem Aot (x:Qt):Abb x=Ws x:=by cases x; simp only [Abb,Ws]
theorem J0:∀l:List Qt,Qu l=l.map Ws
 | []=>rfl
 | x::xs=>by simp only [Qu,List.map_cons,Aot,J0 xs]
structure Ak where
 Coef:A5
 Mono:Bb
def Bl (x:Ak):AV:=.agg [Al x.Coef.Neg,.sl 1 (List.map (O .u32) x.Coef.Num),.sl 1 (List.map (O .u32) x.Coef.Den),.sl 3 (List.map Eg x.Mono.Factors),.sl 3 (List.map Ea x.Mono.Atoms)]
structure Afp where
 Name:ByteArray
 Params:(List Int)
 Captured:(List Int)
 Result:Ah
 Body:Int
def Ov (x:Afp):AV:=.agg [C7 x.Name,.sl 1 (List.map (O .i64) x.Params),.sl 1 (List.map (O .i64) x.Captured),O .i64 x.Result.Kind,O .i64 x.Result.Num,.sl 3 (Bd x.Result.Args),O .i64 x.Body]
structure Afq where
 Op:Int
 Num:Int
 Vars:(List Int)
 Binds:(List (List Int))
 Kids:(List Int)
 Type_:Ah
def Ow (x:Afq):AV:=.agg [O .i64 x.Op,O .i64 x.Num,.sl 1 (List.map (O .i64) x.Vars),.sl 1 (List.map (Ar 1 (O .i64)) x.Binds),.sl 1 (List.map (O .i64) x.Kids),O .i64 x.Type_.Kind,O .i64 x.Type_.Num,.sl 3 (Bd x.Type_.Args)]
structure Hk where
 Data:(List Ax)
 Codes:(List Afp)
 Vars:(List Ah)
 Exprs:(List Afq)
def Ox (x:Hk):AV:=.agg [.sl 3 (List.map B7 x.Data),.sl 7 (List.map Ov x.Codes),.sl 3 (Bd x.Vars),.sl 8 (List.map Ow x.Exprs)]
structure Fg where
 neg:Bool
 n:(List Int)
 d:(List Int)
def Mt (x:Fg):AV:=.agg [Al x.neg,.sl 1 (List.map (O .u32) x.n),.sl 1 (List.map (O .u32) x.d)]
structure Ew where
 data:(List Ax)
 vars:Int
 left:Int
structure Dk where
 Index:A6
 Coef:A5
def Eb (x:Dk):AV:=.agg [O .i64 x.Index.Num,.sl 2 (G4 x.Index.Kids),Al x.Coef.Neg,.sl 1 (List.map (O .u32) x.Coef.Num),.sl 1 (List.map (O .u32) x.Coef.Den)]
structure Gy where
 Kind:Int
 Text:ByteArray
 Pos:Int
def Wt (x:Gy):AV:=.agg [O .i64 x.Kind,C7 x.Text,O .i64 x.Pos]
structure Hm where
 Kind:Int
 Text:ByteArray
 Pos:Int
def Abc (x:Hm):AV:=.agg [O .i64 x.Kind,C7 x.Text,O .i64 x.Pos]
end Go.Ab
