/- The types that the program uses; plain types for its data. -/
import Derived.Test.YtidkdnlhdbbbjaaGreatDoorAtAb2
import Derived.Test.YtidkdnlhdbbbjaaGreatDoorProg
import Derived.KernelRfl
namespace Go.Ab
open Go Go.Proofs
def Aey:Tr:=(.node (.node (.node (.node (.node (.node (.node .leaf 1 ⟨.other,1,8,[.nilFunc]⟩ .leaf) 2 ⟨.int .i64,1,8,[.int .i64 0]⟩ (.node .leaf 3 ⟨.int .i64,1,8,[.int .i64 0]⟩ .leaf)) 4 ⟨.bool,1,1,[.bool false]⟩ (.node (.node .leaf 5 ⟨.int .u8,1,1,[.int .u8 0]⟩ .leaf) 9 ⟨.string,1,16,[.string ⟨#[]⟩]⟩ .leaf)) 20 ⟨.other,1,16,[.nilIface]⟩ (.node (.node (.node .leaf 22 ⟨.slice 86,1,24,[.slice none 0 0]⟩ .leaf) 24 ⟨.struct [(0,1),(1,1)],2,32,[.int .i64 0,.slice none 0 0]⟩ (.node .leaf 26 ⟨.slice 219,1,24,[.slice none 0 0]⟩ .leaf)) 27 ⟨.slice 29,1,24,[.slice none 0 0]⟩ (.node (.node .leaf 29 ⟨.struct [(0,1),(1,1),(2,1)],3,40,[.int .i64 0,.int .i64 0,.slice none 0 0]⟩ .leaf) 31 ⟨.struct [(0,1),(1,1),(2,3)],5,88,[.slice none 0 0,.slice none 0 0,.int .i64 0,.int .i64 0,.slice none 0 0]⟩ .leaf))) 34 ⟨.struct [(0,1),(1,2),(3,2),(5,1)],6,80,[.int .i64 0,.int .i64 0,.slice none 0 0,.int .i64 0,.slice none 0 0,.int .i64 0]⟩ (.node (.node (.node (.node .leaf 35 ⟨.slice 34,1,24,[.slice none 0 0]⟩ .leaf) 36 ⟨.slice 72,1,24,[.slice none 0 0]⟩ (.node .leaf 37 ⟨.int .i64,1,8,[.int .i64 0]⟩ .leaf)) 46 ⟨.slice 53,1,24,[.slice none 0 0]⟩ (.node (.node .leaf 48 ⟨.slice 24,1,24,[.slice none 0 0]⟩ .leaf) 52 ⟨.slice 55,1,24,[.slice none 0 0]⟩ .leaf)) 53 ⟨.int .i8,1,1,[.int .i8 0]⟩ (.node (.node (.node .leaf 55 ⟨.struct [(0,1),(1,1),(2,1)],3,40,[.int .i64 0,.int .i64 0,.slice none 0 0]⟩ .leaf) 56 ⟨.slice 141,1,24,[.slice none 0 0]⟩ (.node .leaf 58 ⟨.struct [(0,1),(1,1),(2,1)],3,56,[.bool false,.slice none 0 0,.slice none 0 0]⟩ .leaf)) 67 ⟨.slice 97,1,24,[.slice none 0 0]⟩ (.node (.node .leaf 68 ⟨.slice 101,1,24,[.slice none 0 0]⟩ .leaf) 70 ⟨.struct [(0,1),(1,1)],2,48,[.slice none 0 0,.slice none 0 0]⟩ .leaf)))) 72 ⟨.struct [(0,3),(3,2)],5,104,[.bool false,.slice none 0 0,.slice none 0 0,.slice none 0 0,.slice none 0 0]⟩ (.node (.node (.node (.node (.node .leaf 74 ⟨.other,1,8,[.pointer none]⟩ .leaf) 77 ⟨.other,1,8,[.pointer none]⟩ (.node .leaf 86 ⟨.struct [(0,1),(1,1)],2,16,[.int .i64 0,.int .i64 0]⟩ .leaf)) 87 ⟨.other,1,8,[.nilFunc]⟩ (.node (.node .leaf 88 ⟨.slice 3,1,24,[.slice none 0 0]⟩ .leaf) 93 ⟨.slice 95,1,24,[.slice none 0 0]⟩ .leaf)) 95 ⟨.struct [(0,1),(1,1)],2,32,[.int .i64 0,.slice none 0 0]⟩ (.node (.node (.node .leaf 97 ⟨.struct [(0,1),(1,2)],3,40,[.int .i64 0,.int .i64 0,.slice none 0 0]⟩ .leaf) 99 ⟨.other,1,8,[.nilFunc]⟩ (.node .leaf 101 ⟨.struct [(0,2),(2,1)],3,40,[.int .i64 0,.slice none 0 0,.int .i64 0]⟩ .leaf)) 107 ⟨.other,1,8,[.nilFunc]⟩ (.node (.node .leaf 109 ⟨.slice 36,1,24,[.slice none 0 0]⟩ .leaf) 111 ⟨.slice 225,1,24,[.slice none 0 0]⟩ .leaf))) 112 ⟨.slice 229,1,24,[.slice none 0 0]⟩ (.node (.node (.node (.node .leaf 114 ⟨.struct [(0,1),(1,1),(2,1),(3,1)],4,96,[.slice none 0 0,.slice none 0 0,.slice none 0 0,.slice none 0 0]⟩ .leaf) 116 ⟨.map 9 3,1,8,[.map none]⟩ (.node .leaf 117 ⟨.map 9 286,1,8,[.map none]⟩ .leaf)) 119 ⟨.struct [(0,5),(5,1),(6,1)],7,104,[.slice none 0 0,.slice none 0 0,.int .i64 0,.int .i64 0,.slice none 0 0,.map none,.map none]⟩ (.node (.node .leaf 122 ⟨.struct [(0,1),(1,1)],2,32,[.map none,.slice none 0 0]⟩ .leaf) 126 ⟨.other,1,8,[.nilFunc]⟩ .leaf)) 129 ⟨.other,1,8,[.nilFunc]⟩ (.node (.node (.node .leaf 138 ⟨.other,1,8,[.pointer none]⟩ .leaf) 139 ⟨.slice 141,1,24,[.slice none 0 0]⟩ (.node .leaf 141 ⟨.int .u32,1,4,[.int .u32 0]⟩ .leaf)) 143 ⟨.struct [(0,1),(1,1),(2,1)],3,56,[.bool false,.slice none 0 0,.slice none 0 0]⟩ (.node (.node .leaf 156 ⟨.other,1,8,[.pointer none]⟩ .leaf) 158 ⟨.struct [(0,1),(1,1),(2,1)],3,40,[.slice none 0 0,.int .i64 0,.int .i64 0]⟩ .leaf))))) 159 ⟨.other,1,8,[.nilFunc]⟩ (.node (.node (.node (.node (.node (.node .leaf 162 ⟨.other,1,8,[.pointer none]⟩ .leaf) 163 ⟨.slice 5,1,24,[.slice none 0 0]⟩ (.node .leaf 165 ⟨.struct [(0,1),(1,1)],2,32,[.pointer none,.slice none 0 0]⟩ .leaf)) 167 ⟨.other,1,16,[.nilIface]⟩ (.node (.node .leaf 177 ⟨.int .u64,1,8,[.int .u64 0]⟩ .leaf) 181 ⟨.other,1,8,[.nilFunc]⟩ .leaf)) 183 ⟨.other,1,8,[.nilFunc]⟩ (.node (.node (.node .leaf 186 ⟨.other,1,8,[.nilFunc]⟩ .leaf) 187 ⟨.slice 22,1,24,[.slice none 0 0]⟩ (.node .leaf 191 ⟨.other,1,8,[.nilFunc]⟩ .leaf)) 196 ⟨.int .u64,1,8,[.int .u64 0]⟩ (.node (.node .leaf 210 ⟨.other,1,8,[.nilFunc]⟩ .leaf) 215 ⟨.map 9 4,1,8,[.map none]⟩ .leaf))) 217 ⟨.slice 221,1,24,[.slice none 0 0]⟩ (.node (.node (.node (.node .leaf 219 ⟨.struct [(0,1),(1,1),(2,1)],3,48,[.string ⟨#[]⟩,.int .i64 0,.slice none 0 0]⟩ .leaf) 221 ⟨.struct [(0,1),(1,1)],2,40,[.string ⟨#[]⟩,.slice none 0 0]⟩ (.node .leaf 225 ⟨.struct [(0,1),(1,1),(2,1),(3,3),(6,1)],7,112,[.string ⟨#[]⟩,.slice none 0 0,.slice none 0 0,.int .i64 0,.int .i64 0,.slice none 0 0,.int .i64 0]⟩ .leaf)) 226 ⟨.other,1,8,[.nilFunc]⟩ (.node (.node .leaf 227 ⟨.slice 88,1,24,[.slice none 0 0]⟩ .leaf) 229 ⟨.struct [(0,1),(1,1),(2,1),(3,1),(4,1),(5,3)],8,128,[.int .i64 0,.int .i64 0,.slice none 0 0,.slice none 0 0,.slice none 0 0,.int .i64 0,.int .i64 0,.slice none 0 0]⟩ .leaf)) 230 ⟨.slice 4,1,24,[.slice none 0 0]⟩ (.node (.node (.node .leaf 231 ⟨.other,1,8,[.nilFunc]⟩ .leaf) 232 ⟨.other,1,8,[.nilFunc]⟩ (.node .leaf 233 ⟨.other,1,8,[.pointer none]⟩ .leaf)) 235 ⟨.struct [(0,4),(4,1)],5,120,[.slice none 0 0,.slice none 0 0,.slice none 0 0,.slice none 0 0,.slice none 0 0]⟩ (.node (.node .leaf 242 ⟨.other,1,8,[.pointer none]⟩ .leaf) 244 ⟨.int .i64,1,8,[.int .i64 0]⟩ .leaf)))) 265 ⟨.other,1,8,[.nilFunc]⟩ (.node (.node (.node (.node (.node .leaf 273 ⟨.slice 275,1,24,[.slice none 0 0]⟩ .leaf) 275 ⟨.struct [(0,1),(1,1),(2,1),(3,1)],4,80,[.int .i64 0,.slice none 0 0,.slice none 0 0,.slice none 0 0]⟩ (.node .leaf 277 ⟨.slice 58,1,24,[.slice none 0 0]⟩ .leaf)) 286 ⟨.slice 290,1,24,[.slice none 0 0]⟩ (.node (.node .leaf 290 ⟨.struct [(0,2),(2,3)],5,88,[.int .i64 0,.slice none 0 0,.bool false,.slice none 0 0,.slice none 0 0]⟩ .leaf) 299 ⟨.slice 303,1,24,[.slice none 0 0]⟩ .leaf)) 303 ⟨.struct [(0,1),(1,1),(2,1)],3,32,[.int .i64 0,.string ⟨#[]⟩,.int .i64 0]⟩ (.node (.node (.node .leaf 313 ⟨.other,1,8,[.pointer none]⟩ .leaf) 316 ⟨.int .u64,1,8,[.int .u64 0]⟩ (.node .leaf 335 ⟨.slice 230,1,24,[.slice none 0 0]⟩ .leaf)) 336 ⟨.other,1,8,[.nilFunc]⟩ (.node (.node .leaf 337 ⟨.float .f64,1,8,[.float .f64 0]⟩ .leaf) 344 ⟨.slice 67,1,24,[.slice none 0 0]⟩ .leaf))) 346 ⟨.slice 68,1,24,[.slice none 0 0]⟩ (.node (.node (.node (.node .leaf 348 ⟨.other,1,8,[.nilFunc]⟩ .leaf) 359 ⟨.other,1,8,[.pointer none]⟩ (.node .leaf 369 ⟨.other,1,8,[.pointer none]⟩ .leaf)) 383 ⟨.other,1,8,[.nilFunc]⟩ (.node (.node .leaf 391 ⟨.other,1,8,[.nilFunc]⟩ .leaf) 393 ⟨.struct [(0,1),(1,3),(4,1),(5,1)],6,96,[.slice none 0 0,.int .i64 0,.int .i64 0,.slice none 0 0,.map none,.slice none 0 0]⟩ .leaf)) 394 ⟨.slice 397,1,24,[.slice none 0 0]⟩ (.node (.node (.node .leaf 397 ⟨.struct [(0,1),(1,3)],4,80,[.slice none 0 0,.bool false,.slice none 0 0,.slice none 0 0]⟩ .leaf) 400 ⟨.slice 286,1,24,[.slice none 0 0]⟩ .leaf) 402 ⟨.other,1,8,[.nilFunc]⟩ (.node (.node .leaf 409 ⟨.other,1,8,[.nilFunc]⟩ .leaf) 415 ⟨.slice 93,1,24,[.slice none 0 0]⟩ .leaf))))))
def Cb:Cs:=Aey.find
theorem Awa:Aey.toList.map (fun p=>G9 Go.Proofs.Tryz.prog p.1)=Aey.toList.map (fun p=>some p.2):=by kernel_rfl
theorem Ak1:Ct Go.Proofs.Tryz.prog Cb:=Tr.ok Awa
theorem Ve:Go.Proofs.Tryz.prog.follows .mixedOrders=true:=by kernel_rfl
end Go.Ab
namespace Go.Ab.Fn
abbrev Z4:FuncId:=6
abbrev Z5:FuncId:=7
abbrev Vn:FuncId:=8
abbrev Od:FuncId:=9
abbrev Z6:FuncId:=13
abbrev Lp:FuncId:=14
abbrev Vo:FuncId:=15
abbrev Qd:FuncId:=16
abbrev Qf:FuncId:=17
abbrev M9:FuncId:=18
abbrev Aez:FuncId:=19
abbrev Oe:FuncId:=20
abbrev S0:FuncId:=21
abbrev Z7:FuncId:=22
abbrev Vp:FuncId:=23
abbrev Ju:FuncId:=26
abbrev J9:FuncId:=27
abbrev Jv:FuncId:=28
abbrev Ka:FuncId:=29
abbrev I2:FuncId:=30
abbrev K2:FuncId:=31
abbrev Lq:FuncId:=32
abbrev S3:FuncId:=33
abbrev Kb:FuncId:=34
abbrev S4:FuncId:=35
abbrev Na:FuncId:=36
abbrev Lr:FuncId:=37
abbrev Dn:FuncId:=38
abbrev Qg:FuncId:=39
abbrev Eb:FuncId:=40
abbrev Hc:FuncId:=41
abbrev Of:FuncId:=42
abbrev Qh:FuncId:=43
abbrev Kc:FuncId:=44
abbrev Og:FuncId:=45
abbrev S5:FuncId:=46
abbrev Qi:FuncId:=51
abbrev Mk:FuncId:=52
abbrev Vq:FuncId:=53
abbrev Vr:FuncId:=54
abbrev He:FuncId:=55
abbrev Nb:FuncId:=56
abbrev Nc:FuncId:=57
abbrev Oh:FuncId:=58
abbrev Vs:FuncId:=59
abbrev S6:FuncId:=60
abbrev Vt:FuncId:=61
abbrev S7:FuncId:=62
abbrev Vu:FuncId:=63
abbrev Vv:FuncId:=64
abbrev S8:FuncId:=65
abbrev Vx:FuncId:=66
abbrev S9:FuncId:=67
abbrev Z8:FuncId:=68
abbrev Ml:FuncId:=69
abbrev Oi:FuncId:=70
abbrev Qj:FuncId:=71
abbrev Mm:FuncId:=72
abbrev Z9:FuncId:=73
abbrev Lt:FuncId:=74
abbrev K4:FuncId:=75
abbrev Nd:FuncId:=76
abbrev Ta:FuncId:=77
abbrev Qk:FuncId:=78
abbrev Nf:FuncId:=79
abbrev Ng:FuncId:=80
abbrev Ql:FuncId:=81
abbrev Qm:FuncId:=82
abbrev Vy:FuncId:=83
abbrev Qo:FuncId:=84
abbrev Vz:FuncId:=88
abbrev V1:FuncId:=90
abbrev Ae0:FuncId:=91
abbrev Ae1:FuncId:=92
abbrev Ae2:FuncId:=93
abbrev Ae3:FuncId:=94
abbrev Ae4:FuncId:=95
abbrev Ae5:FuncId:=96
abbrev Lu:FuncId:=97
abbrev Nh:FuncId:=98
abbrev Mn:FuncId:=99
abbrev Tb:FuncId:=100
abbrev Jf:FuncId:=101
abbrev Ni:FuncId:=102
abbrev Hv:FuncId:=103
abbrev Nj:FuncId:=104
abbrev K5:FuncId:=105
abbrev V2:FuncId:=106
abbrev V3:FuncId:=107
abbrev Qp:FuncId:=108
abbrev Ke:FuncId:=109
abbrev Aaa:FuncId:=110
abbrev V4:FuncId:=111
abbrev Mo:FuncId:=112
abbrev Oj:FuncId:=113
abbrev Aab:FuncId:=114
abbrev V5:FuncId:=115
abbrev K6:FuncId:=116
abbrev V6:FuncId:=117
abbrev Tc:FuncId:=118
abbrev Nk:FuncId:=119
abbrev Aac:FuncId:=120
abbrev Ae6:FuncId:=121
abbrev V7:FuncId:=122
abbrev V8:FuncId:=123
abbrev Ok:FuncId:=124
abbrev Aad:FuncId:=125
abbrev Td:FuncId:=126
abbrev Nl:FuncId:=127
abbrev Aae:FuncId:=128
abbrev V9:FuncId:=129
abbrev Wa:FuncId:=130
abbrev Te:FuncId:=131
abbrev Tf:FuncId:=132
abbrev Jw:FuncId:=133
abbrev Wb:FuncId:=134
abbrev Qq:FuncId:=135
abbrev Tg:FuncId:=136
abbrev Th:FuncId:=137
abbrev Wc:FuncId:=138
abbrev Qs:FuncId:=139
abbrev Aaf:FuncId:=140
abbrev Ti:FuncId:=141
abbrev Qt:FuncId:=142
abbrev Tj:FuncId:=143
abbrev Tk:FuncId:=144
abbrev Ol:FuncId:=145
abbrev Mp:FuncId:=146
abbrev Aag:FuncId:=147
abbrev Om:FuncId:=148
abbrev On:FuncId:=149
abbrev Qu:FuncId:=150
abbrev Oo:FuncId:=151
abbrev Ae7:FuncId:=152
abbrev Ae8:FuncId:=153
abbrev Wd:FuncId:=160
abbrev We:FuncId:=161
abbrev Oq:FuncId:=162
abbrev Mq:FuncId:=163
abbrev Wf:FuncId:=164
abbrev Qv:FuncId:=165
abbrev Qw:FuncId:=167
abbrev Lv:FuncId:=168
abbrev Wg:FuncId:=169
abbrev Aah:FuncId:=178
abbrev Qx:FuncId:=179
abbrev Wh:FuncId:=180
abbrev Aai:FuncId:=181
abbrev Wi:FuncId:=182
abbrev Wj:FuncId:=183
abbrev Qy:FuncId:=184
abbrev Wk:FuncId:=185
abbrev Ae9:FuncId:=186
abbrev Afa:FuncId:=192
abbrev Tl:FuncId:=195
abbrev Wl:FuncId:=196
abbrev Tm:FuncId:=197
abbrev Ot:FuncId:=198
abbrev Ou:FuncId:=199
abbrev Nm:FuncId:=200
abbrev Qz:FuncId:=201
abbrev Wm:FuncId:=202
abbrev Q2:FuncId:=203
abbrev Aaj:FuncId:=204
abbrev Ov:FuncId:=205
abbrev Q3:FuncId:=206
abbrev Nn:FuncId:=207
abbrev Wn:FuncId:=208
abbrev Jx:FuncId:=209
abbrev Wo:FuncId:=210
abbrev Q4:FuncId:=211
abbrev Wp:FuncId:=212
abbrev Aak:FuncId:=213
abbrev Wq:FuncId:=214
abbrev Tn:FuncId:=215
abbrev Wr:FuncId:=216
abbrev Q5:FuncId:=218
abbrev To:FuncId:=220
abbrev Tp:FuncId:=221
abbrev Tq:FuncId:=222
abbrev Lw:FuncId:=223
abbrev Q6:FuncId:=224
abbrev Aal:FuncId:=225
abbrev Aam:FuncId:=226
abbrev Aan:FuncId:=227
abbrev Q7:FuncId:=228
abbrev Afb:FuncId:=229
abbrev Ow:FuncId:=240
abbrev Ts:FuncId:=242
abbrev Aao:FuncId:=249
abbrev Aap:FuncId:=250
abbrev Tt:FuncId:=261
abbrev Q8:FuncId:=262
abbrev Tu:FuncId:=263
abbrev Ws:FuncId:=264
abbrev Ox:FuncId:=265
abbrev Tv:FuncId:=266
abbrev Q9:FuncId:=267
abbrev Aaq:FuncId:=268
abbrev Aar:FuncId:=270
abbrev Wt:FuncId:=271
abbrev Aas:FuncId:=272
abbrev Aat:FuncId:=273
abbrev Wu:FuncId:=274
abbrev Wv:FuncId:=275
abbrev Ww:FuncId:=276
abbrev Ra:FuncId:=280
abbrev Rb:FuncId:=281
abbrev Aau:FuncId:=291
abbrev Aav:FuncId:=300
abbrev Mr:FuncId:=302
abbrev Re:FuncId:=303
abbrev Tw:FuncId:=304
abbrev Wx:FuncId:=305
abbrev Tx:FuncId:=306
abbrev Rf:FuncId:=307
abbrev Wy:FuncId:=308
abbrev Ty:FuncId:=309
abbrev Wz:FuncId:=310
abbrev Oy:FuncId:=311
abbrev W0:FuncId:=312
abbrev W1:FuncId:=313
abbrev W2:FuncId:=334
end Go.Ab.Fn
namespace Go.Ab
open Go
abbrev O (k:IntKind) (n:Int):AV:=.val (.int k n)
abbrev Aq (b:Bool):AV:=.val (.bool b)
abbrev Fe (s:ByteArray):AV:=.val (.string s)
abbrev As {α:Type} (sz:Nat) (f:α->AV) (l:List α):AV:=.sl sz (l.map f)
abbrev Fz {α:Type} (sz:Nat) (g:List α->List AV) (l:List α):AV:=.sl sz (g l)
structure Bb where
 Var:Int
 Coef:Int
def Dd (x:Bb):AV:=.agg [O .i64 x.Var,O .i64 x.Coef]
structure Be where
 Const:Int
 Terms:(List Bb)
def Gm (x:Be):AV:=.agg [O .i64 x.Const,.sl 2 (List.map Dd x.Terms)]
structure Ah where
 Kind:Int
 Num:Int
 Args:(List Ah)
mutual
def Afc:Ah->AV
 | ⟨x0,x1,x2⟩=>.agg [O .i64 x0,O .i64 x1,.sl 3 (Bk x2)]
def Bk:List Ah->List AV
 | []=>[]
 | x::xs=>Afc x::Bk xs
end
def E4 (x:Ah):AV:=.agg [O .i64 x.Kind,O .i64 x.Num,.sl 3 (Bk x.Args)]
theorem Awb (x:Ah):Afc x=E4 x:=by cases x; simp only [Afc,E4]
theorem Lx:∀l:List Ah,Bk l=l.map E4
 | []=>rfl
 | x::xs=>by simp only [Bk,List.map_cons,Awb,Lx xs]
structure Rg where
 Name:ByteArray
 Args:(List Ah)
def Awc (x:Rg):AV:=.agg [Fe x.Name,.sl 3 (Bk x.Args)]
structure Ap where
 Name:ByteArray
 Vars:Int
 Cons:(List Rg)
def Cd (x:Ap):AV:=.agg [Fe x.Name,O .i64 x.Vars,.sl 2 (List.map Awc x.Cons)]
structure Bo where
 Data:(List Ap)
 Vars:(List Ah)
 Res:Ah
def Kf (x:Bo):AV:=.agg [.sl 3 (List.map Cd x.Data),.sl 3 (Bk x.Vars),O .i64 x.Res.Kind,O .i64 x.Res.Num,.sl 3 (Bk x.Res.Args)]
structure Gn where
 Kind:Int
 E:Be
 F:Be
 K:Int
def Ms (x:Gn):AV:=.agg [O .i64 x.Kind,O .i64 x.E.Const,.sl 2 (List.map Dd x.E.Terms),O .i64 x.F.Const,.sl 2 (List.map Dd x.F.Terms),O .i64 x.K]
structure Ay where
 Kind:Int
 Num:Int
 Kids:(List Ay)
mutual
def Afd:Ay->AV
 | ⟨x0,x1,x2⟩=>.agg [O .i64 x0,O .i64 x1,.sl 3 (Gw x2)]
def Gw:List Ay->List AV
 | []=>[]
 | x::xs=>Afd x::Gw xs
end
def H9 (x:Ay):AV:=.agg [O .i64 x.Kind,O .i64 x.Num,.sl 3 (Gw x.Kids)]
theorem Awd (x:Ay):Afd x=H9 x:=by cases x; simp only [Afd,H9]
theorem Kg:∀l:List Ay,Gw l=l.map H9
 | []=>rfl
 | x::xs=>by simp only [Gw,List.map_cons,Awd,Kg xs]
structure Ak where
 Neg:Bool
 Num:(List Int)
 Den:(List Int)
def Cr (x:Ak):AV:=.agg [Aq x.Neg,.sl 1 (List.map (O .u32) x.Num),.sl 1 (List.map (O .u32) x.Den)]
structure Bc where
 Num:Int
 Kids:(List Bc)
mutual
def Afe:Bc->AV
 | ⟨x0,x1⟩=>.agg [O .i64 x0,.sl 2 (I3 x1)]
def I3:List Bc->List AV
 | []=>[]
 | x::xs=>Afe x::I3 xs
end
def Hw (x:Bc):AV:=.agg [O .i64 x.Num,.sl 2 (I3 x.Kids)]
theorem Awe (x:Bc):Afe x=Hw x:=by cases x; simp only [Afe,Hw]
theorem Ly:∀l:List Bc,I3 l=l.map Hw
 | []=>rfl
 | x::xs=>by simp only [I3,List.map_cons,Awe,Ly xs]
structure Cg where
 Var:Int
 Index:Bc
def Fo (x:Cg):AV:=.agg [O .i64 x.Var,O .i64 x.Index.Num,.sl 2 (I3 x.Index.Kids)]
structure Ba where
 Lin:Be
 Deg:Int
def Ev (x:Ba):AV:=.agg [O .i64 x.Lin.Const,.sl 2 (List.map Dd x.Lin.Terms),O .i64 x.Deg]
structure A8 where
 Factors:(List Cg)
 Atoms:(List Ba)
def Ir (x:A8):AV:=.agg [.sl 3 (List.map Fo x.Factors),.sl 3 (List.map Ev x.Atoms)]
structure Aj where
 Coef:Ak
 Mono:A8
def Cj (x:Aj):AV:=.agg [Aq x.Coef.Neg,.sl 1 (List.map (O .u32) x.Coef.Num),.sl 1 (List.map (O .u32) x.Coef.Den),.sl 3 (List.map Fo x.Mono.Factors),.sl 3 (List.map Ev x.Mono.Atoms)]
structure Ak2 where
 Name:ByteArray
 Params:(List Int)
 Captured:(List Int)
 Result:Ah
 Body:Int
def Rh (x:Ak2):AV:=.agg [Fe x.Name,.sl 1 (List.map (O .i64) x.Params),.sl 1 (List.map (O .i64) x.Captured),O .i64 x.Result.Kind,O .i64 x.Result.Num,.sl 3 (Bk x.Result.Args),O .i64 x.Body]
structure Ak3 where
 Op:Int
 Num:Int
 Vars:(List Int)
 Binds:(List (List Int))
 Kids:(List Int)
 Type_:Ah
def Ri (x:Ak3):AV:=.agg [O .i64 x.Op,O .i64 x.Num,.sl 1 (List.map (O .i64) x.Vars),.sl 1 (List.map (As 1 (O .i64)) x.Binds),.sl 1 (List.map (O .i64) x.Kids),O .i64 x.Type_.Kind,O .i64 x.Type_.Num,.sl 3 (Bk x.Type_.Args)]
structure Jg where
 Data:(List Ap)
 Codes:(List Ak2)
 Vars:(List Ah)
 Exprs:(List Ak3)
def Rj (x:Jg):AV:=.agg [.sl 3 (List.map Cd x.Data),.sl 7 (List.map Rh x.Codes),.sl 3 (Bk x.Vars),.sl 8 (List.map Ri x.Exprs)]
structure Gp where
 neg:Bool
 n:(List Int)
 d:(List Int)
def Oz (x:Gp):AV:=.agg [Aq x.neg,.sl 1 (List.map (O .u32) x.n),.sl 1 (List.map (O .u32) x.d)]
structure F0 where
 data:(List Ap)
 vars:Int
 left:Int
structure W3 where
 con:Int
 kids:(List Bc)
 places:(List Int)
 types:(List Ah)
def Awf (x:W3):AV:=.agg [O .i64 x.con,.sl 2 (I3 x.kids),.sl 1 (List.map (O .i64) x.places),.sl 3 (Bk x.types)]
structure Dl where
 Index:Bc
 Coef:Ak
def Ew (x:Dl):AV:=.agg [O .i64 x.Index.Num,.sl 2 (I3 x.Index.Kids),Aq x.Coef.Neg,.sl 1 (List.map (O .u32) x.Coef.Num),.sl 1 (List.map (O .u32) x.Coef.Den)]
structure Is where
 Kind:Int
 Text:ByteArray
 Pos:Int
def Aaw (x:Is):AV:=.agg [O .i64 x.Kind,Fe x.Text,O .i64 x.Pos]
end Go.Ab
