/- Types and steps. -/
import Derived.Test.YtikjbngjfebkjaaGreatDoorLnAb2
import Derived.Test.YtikjbngjfebkjaaGreatDoorProg
import Derived.KernelRfl
namespace Go.Ab
open Go Go.Proofs Go.Proofs.Tryz
theorem κ {p:Prop} (h:p:=by kernel_rfl):p:=h
def Akt:Tr:=(.node (.node (.node (.node (.node (.node (.node .leaf 1 ⟨.other,1,8,[.nilFunc]⟩ .leaf) 2 ⟨.int .i64,1,8,[.int .i64 0]⟩ (.node .leaf 3 ⟨.int .i64,1,8,[.int .i64 0]⟩ .leaf)) 4 ⟨.bool,1,1,[.bool false]⟩ (.node (.node .leaf 5 ⟨.int .u8,1,1,[.int .u8 0]⟩ .leaf) 9 ⟨.string,1,16,[.string ⟨#[]⟩]⟩ .leaf)) 20 ⟨.other,1,16,[.nilIface]⟩ (.node (.node (.node .leaf 22 ⟨.slice 158,1,24,[.slice none 0 0]⟩ .leaf) 23 ⟨.slice 25,1,24,[.slice none 0 0]⟩ (.node .leaf 25 ⟨.struct [(0,1),(1,1),(2,1)],3,40,[.int .i64 0,.int .i64 0,.slice none 0 0]⟩ .leaf)) 27 ⟨.struct [(0,1),(1,1),(2,3)],5,88,[.slice none 0 0,.slice none 0 0,.int .i64 0,.int .i64 0,.slice none 0 0]⟩ (.node (.node .leaf 28 ⟨.slice 83,1,24,[.slice none 0 0]⟩ .leaf) 29 ⟨.slice 45,1,24,[.slice none 0 0]⟩ .leaf))) 31 ⟨.struct [(0,1),(1,1)],2,32,[.int .i64 0,.slice none 0 0]⟩ (.node (.node (.node (.node .leaf 32 ⟨.slice 34,1,24,[.slice none 0 0]⟩ .leaf) 34 ⟨.struct [(0,1),(1,1),(2,1)],3,40,[.int .i64 0,.int .i64 0,.slice none 0 0]⟩ (.node .leaf 36 ⟨.other,1,8,[.nilFunc]⟩ .leaf)) 38 ⟨.int .i64,1,8,[.int .i64 0]⟩ (.node (.node .leaf 42 ⟨.slice 3,1,24,[.slice none 0 0]⟩ .leaf) 43 ⟨.slice 2,1,24,[.slice none 0 0]⟩ .leaf)) 45 ⟨.struct [(0,1),(1,1)],2,16,[.int .i64 0,.int .i64 0]⟩ (.node (.node (.node .leaf 48 ⟨.slice 92,1,24,[.slice none 0 0]⟩ .leaf) 50 ⟨.struct [(0,1),(1,1),(2,1)],3,56,[.bool false,.slice none 0 0,.slice none 0 0]⟩ (.node .leaf 60 ⟨.slice 28,1,24,[.slice none 0 0]⟩ .leaf)) 64 ⟨.other,1,8,[.nilFunc]⟩ (.node (.node .leaf 66 ⟨.other,1,8,[.pointer none]⟩ .leaf) 69 ⟨.other,1,8,[.nilFunc]⟩ .leaf)))) 73 ⟨.other,1,8,[.nilFunc]⟩ (.node (.node (.node (.node (.node .leaf 74 ⟨.other,1,8,[.nilFunc]⟩ .leaf) 76 ⟨.slice 31,1,24,[.slice none 0 0]⟩ (.node .leaf 78 ⟨.slice 100,1,24,[.slice none 0 0]⟩ .leaf)) 79 ⟨.slice 103,1,24,[.slice none 0 0]⟩ (.node (.node .leaf 81 ⟨.struct [(0,1),(1,1)],2,48,[.slice none 0 0,.slice none 0 0]⟩ .leaf) 83 ⟨.struct [(0,3),(3,2)],5,104,[.bool false,.slice none 0 0,.slice none 0 0,.slice none 0 0,.slice none 0 0]⟩ .leaf)) 86 ⟨.other,1,8,[.nilFunc]⟩ (.node (.node (.node .leaf 91 ⟨.int .u64,1,8,[.int .u64 0]⟩ .leaf) 92 ⟨.int .u32,1,4,[.int .u32 0]⟩ (.node .leaf 93 ⟨.other,1,8,[.nilFunc]⟩ .leaf)) 96 ⟨.slice 98,1,24,[.slice none 0 0]⟩ (.node (.node .leaf 98 ⟨.struct [(0,1),(1,1)],2,32,[.int .i64 0,.slice none 0 0]⟩ .leaf) 100 ⟨.struct [(0,1),(1,2)],3,40,[.int .i64 0,.int .i64 0,.slice none 0 0]⟩ .leaf))) 103 ⟨.struct [(0,2),(2,1)],3,40,[.int .i64 0,.slice none 0 0,.int .i64 0]⟩ (.node (.node (.node (.node .leaf 109 ⟨.other,1,8,[.nilFunc]⟩ .leaf) 111 ⟨.other,1,8,[.pointer none]⟩ (.node .leaf 113 ⟨.slice 224,1,24,[.slice none 0 0]⟩ .leaf)) 114 ⟨.slice 228,1,24,[.slice none 0 0]⟩ (.node (.node .leaf 116 ⟨.struct [(0,1),(1,1),(2,1),(3,1)],4,96,[.slice none 0 0,.slice none 0 0,.slice none 0 0,.slice none 0 0]⟩ .leaf) 118 ⟨.map 9 3,1,8,[.map none]⟩ .leaf)) 119 ⟨.map 9 174,1,8,[.map none]⟩ (.node (.node (.node .leaf 121 ⟨.struct [(0,5),(5,1),(6,1)],7,104,[.slice none 0 0,.slice none 0 0,.int .i64 0,.int .i64 0,.slice none 0 0,.map none,.map none]⟩ .leaf) 125 ⟨.other,1,8,[.nilFunc]⟩ (.node .leaf 126 ⟨.other,1,8,[.nilFunc]⟩ .leaf)) 127 ⟨.other,1,8,[.pointer none]⟩ (.node (.node .leaf 129 ⟨.slice 81,1,24,[.slice none 0 0]⟩ .leaf) 143 ⟨.slice 92,1,24,[.slice none 0 0]⟩ .leaf))))) 146 ⟨.struct [(0,1),(1,1),(2,1)],3,56,[.bool false,.slice none 0 0,.slice none 0 0]⟩ (.node (.node (.node (.node (.node (.node .leaf 156 ⟨.slice 160,1,24,[.slice none 0 0]⟩ .leaf) 158 ⟨.struct [(0,1),(1,1),(2,1)],3,48,[.string ⟨#[]⟩,.int .i64 0,.slice none 0 0]⟩ (.node .leaf 160 ⟨.struct [(0,1),(1,1)],2,40,[.string ⟨#[]⟩,.slice none 0 0]⟩ .leaf)) 162 ⟨.other,1,8,[.pointer none]⟩ (.node (.node .leaf 164 ⟨.struct [(0,1),(1,1),(2,1)],3,40,[.slice none 0 0,.int .i64 0,.int .i64 0]⟩ .leaf) 168 ⟨.struct [(0,1),(1,1)],2,32,[.map none,.slice none 0 0]⟩ .leaf)) 173 ⟨.other,1,8,[.nilFunc]⟩ (.node (.node (.node .leaf 174 ⟨.slice 178,1,24,[.slice none 0 0]⟩ .leaf) 178 ⟨.struct [(0,2),(2,3)],5,88,[.int .i64 0,.slice none 0 0,.bool false,.slice none 0 0,.slice none 0 0]⟩ (.node .leaf 184 ⟨.other,1,8,[.nilFunc]⟩ .leaf)) 185 ⟨.slice 50,1,24,[.slice none 0 0]⟩ (.node (.node .leaf 191 ⟨.other,1,8,[.nilFunc]⟩ .leaf) 194 ⟨.other,1,8,[.nilFunc]⟩ .leaf))) 203 ⟨.int .u64,1,8,[.int .u64 0]⟩ (.node (.node (.node (.node .leaf 219 ⟨.map 9 4,1,8,[.map none]⟩ .leaf) 224 ⟨.struct [(0,1),(1,1),(2,1),(3,3),(6,1)],7,112,[.string ⟨#[]⟩,.slice none 0 0,.slice none 0 0,.int .i64 0,.int .i64 0,.slice none 0 0,.int .i64 0]⟩ (.node .leaf 225 ⟨.other,1,8,[.nilFunc]⟩ .leaf)) 226 ⟨.slice 42,1,24,[.slice none 0 0]⟩ (.node (.node .leaf 228 ⟨.struct [(0,1),(1,1),(2,1),(3,1),(4,1),(5,3)],8,128,[.int .i64 0,.int .i64 0,.slice none 0 0,.slice none 0 0,.slice none 0 0,.int .i64 0,.int .i64 0,.slice none 0 0]⟩ .leaf) 229 ⟨.slice 4,1,24,[.slice none 0 0]⟩ .leaf)) 230 ⟨.other,1,8,[.nilFunc]⟩ (.node (.node (.node .leaf 231 ⟨.other,1,8,[.pointer none]⟩ .leaf) 233 ⟨.struct [(0,4),(4,1)],5,120,[.slice none 0 0,.slice none 0 0,.slice none 0 0,.slice none 0 0,.slice none 0 0]⟩ (.node .leaf 240 ⟨.other,1,8,[.nilFunc]⟩ .leaf)) 242 ⟨.slice 78,1,24,[.slice none 0 0]⟩ (.node (.node .leaf 244 ⟨.slice 79,1,24,[.slice none 0 0]⟩ .leaf) 247 ⟨.other,1,8,[.pointer none]⟩ .leaf)))) 248 ⟨.slice 5,1,24,[.slice none 0 0]⟩ (.node (.node (.node (.node (.node .leaf 250 ⟨.struct [(0,1),(1,1)],2,32,[.pointer none,.slice none 0 0]⟩ .leaf) 252 ⟨.other,1,16,[.nilIface]⟩ (.node .leaf 262 ⟨.other,1,8,[.nilFunc]⟩ .leaf)) 276 ⟨.int .i64,1,8,[.int .i64 0]⟩ (.node (.node .leaf 287 ⟨.other,1,8,[.nilFunc]⟩ .leaf) 295 ⟨.slice 297,1,24,[.slice none 0 0]⟩ .leaf)) 297 ⟨.struct [(0,1),(1,1),(2,1),(3,1)],4,80,[.int .i64 0,.slice none 0 0,.slice none 0 0,.slice none 0 0]⟩ (.node (.node (.node .leaf 300 ⟨.slice 304,1,24,[.slice none 0 0]⟩ .leaf) 304 ⟨.struct [(0,1),(1,1),(2,1)],3,32,[.int .i64 0,.string ⟨#[]⟩,.int .i64 0]⟩ (.node .leaf 318 ⟨.other,1,8,[.pointer none]⟩ .leaf)) 321 ⟨.other,1,8,[.pointer none]⟩ (.node (.node .leaf 341 ⟨.float .f64,1,8,[.float .f64 0]⟩ .leaf) 342 ⟨.int .u64,1,8,[.int .u64 0]⟩ .leaf))) 354 ⟨.slice 229,1,24,[.slice none 0 0]⟩ (.node (.node (.node (.node .leaf 355 ⟨.other,1,8,[.nilFunc]⟩ .leaf) 356 ⟨.other,1,8,[.nilFunc]⟩ (.node .leaf 363 ⟨.other,1,8,[.pointer none]⟩ .leaf)) 369 ⟨.other,1,8,[.nilFunc]⟩ (.node (.node .leaf 371 ⟨.struct [(0,1),(1,3),(4,1),(5,1)],6,96,[.slice none 0 0,.int .i64 0,.int .i64 0,.slice none 0 0,.map none,.slice none 0 0]⟩ .leaf) 372 ⟨.slice 375,1,24,[.slice none 0 0]⟩ .leaf)) 375 ⟨.struct [(0,1),(1,3)],4,80,[.slice none 0 0,.bool false,.slice none 0 0,.slice none 0 0]⟩ (.node (.node (.node .leaf 378 ⟨.slice 174,1,24,[.slice none 0 0]⟩ .leaf) 380 ⟨.other,1,8,[.nilFunc]⟩ (.node .leaf 390 ⟨.other,1,8,[.pointer none]⟩ .leaf)) 396 ⟨.other,1,8,[.nilFunc]⟩ (.node (.node .leaf 401 ⟨.other,1,8,[.nilFunc]⟩ .leaf) 412 ⟨.slice 96,1,24,[.slice none 0 0]⟩ .leaf))))))
def Co:Dq:=Akt.find
theorem A3a:Akt.toList.map (λp=>Jf prog p.1)=Akt.toList.map (λp=>some p.2):=by kernel_rfl
theorem Aq7:Ds prog Co:=Tr.ok A3a
theorem Zg:prog.follows .mixedOrders=true:=by kernel_rfl
end Go.Ab
namespace Go.Ab.Fn
abbrev Ae7:FuncId:=3
abbrev Zr:FuncId:=4
abbrev Wu:FuncId:=5
abbrev Zs:FuncId:=6
abbrev Zt:FuncId:=7
abbrev Pc:FuncId:=8
abbrev T8:FuncId:=9
abbrev Zu:FuncId:=10
abbrev Zv:FuncId:=11
abbrev Zw:FuncId:=12
abbrev Ry:FuncId:=13
abbrev T9:FuncId:=14
abbrev Zx:FuncId:=15
abbrev Zy:FuncId:=16
abbrev Zz:FuncId:=17
abbrev Z0:FuncId:=18
abbrev Ua:FuncId:=19
abbrev Of:FuncId:=20
abbrev Rz:FuncId:=21
abbrev Nk:FuncId:=22
abbrev Ln:FuncId:=23
abbrev R0:FuncId:=24
abbrev Ae8:FuncId:=25
abbrev Z1:FuncId:=26
abbrev Ae9:FuncId:=27
abbrev Aku:FuncId:=28
abbrev Qj:FuncId:=29
abbrev Akv:FuncId:=30
abbrev Z2:FuncId:=31
abbrev R3:FuncId:=32
abbrev Ub:FuncId:=33
abbrev Nl:FuncId:=34
abbrev Z3:FuncId:=35
abbrev Pd:FuncId:=36
abbrev Og:FuncId:=37
abbrev Pe:FuncId:=38
abbrev Z4:FuncId:=39
abbrev R4:FuncId:=40
abbrev Ei:FuncId:=41
abbrev Wv:FuncId:=42
abbrev E6:FuncId:=43
abbrev Jj:FuncId:=44
abbrev Uc:FuncId:=45
abbrev Ww:FuncId:=46
abbrev Z5:FuncId:=47
abbrev Z6:FuncId:=48
abbrev Z7:FuncId:=49
abbrev Z8:FuncId:=50
abbrev Wx:FuncId:=51
abbrev R5:FuncId:=52
abbrev Ud:FuncId:=53
abbrev Pf:FuncId:=54
abbrev Z9:FuncId:=55
abbrev Wy:FuncId:=56
abbrev Aaa:FuncId:=57
abbrev Afa:FuncId:=58
abbrev Wz:FuncId:=59
abbrev W0:FuncId:=60
abbrev Oh:FuncId:=61
abbrev R6:FuncId:=62
abbrev Ue:FuncId:=63
abbrev R7:FuncId:=64
abbrev Uf:FuncId:=65
abbrev Ug:FuncId:=66
abbrev Akw:FuncId:=67
abbrev Nm:FuncId:=68
abbrev Nn:FuncId:=69
abbrev Aab:FuncId:=70
abbrev R8:FuncId:=71
abbrev W1:FuncId:=72
abbrev Uh:FuncId:=73
abbrev Afb:FuncId:=74
abbrev Pg:FuncId:=75
abbrev R9:FuncId:=76
abbrev Ui:FuncId:=77
abbrev Ph:FuncId:=78
abbrev W2:FuncId:=79
abbrev Oi:FuncId:=80
abbrev No:FuncId:=81
abbrev Qk:FuncId:=82
abbrev W3:FuncId:=83
abbrev I1:FuncId:=84
abbrev Uj:FuncId:=85
abbrev Ql:FuncId:=86
abbrev Aac:FuncId:=87
abbrev Sa:FuncId:=88
abbrev Aad:FuncId:=89
abbrev Akx:FuncId:=90
abbrev Aky:FuncId:=91
abbrev Akz:FuncId:=92
abbrev Ak0:FuncId:=93
abbrev Ak1:FuncId:=94
abbrev Ak2:FuncId:=95
abbrev Oj:FuncId:=96
abbrev Kg:FuncId:=97
abbrev Pi:FuncId:=98
abbrev W4:FuncId:=99
abbrev Sb:FuncId:=100
abbrev Afc:FuncId:=101
abbrev Afd:FuncId:=102
abbrev Afe:FuncId:=103
abbrev Aae:FuncId:=104
abbrev Aaf:FuncId:=105
abbrev W5:FuncId:=106
abbrev Sc:FuncId:=107
abbrev Ok:FuncId:=108
abbrev Uk:FuncId:=109
abbrev Aag:FuncId:=110
abbrev Aah:FuncId:=111
abbrev W6:FuncId:=112
abbrev Ol:FuncId:=113
abbrev Pj:FuncId:=114
abbrev W7:FuncId:=115
abbrev Aai:FuncId:=116
abbrev Qm:FuncId:=117
abbrev Qo:FuncId:=118
abbrev W8:FuncId:=119
abbrev Aaj:FuncId:=120
abbrev Aff:FuncId:=121
abbrev Aak:FuncId:=122
abbrev Aal:FuncId:=123
abbrev Aam:FuncId:=124
abbrev Aan:FuncId:=125
abbrev W9:FuncId:=126
abbrev Aao:FuncId:=127
abbrev Ul:FuncId:=128
abbrev Mb:FuncId:=129
abbrev Ak3:FuncId:=130
abbrev Sd:FuncId:=131
abbrev Aap:FuncId:=132
abbrev Aaq:FuncId:=133
abbrev Se:FuncId:=134
abbrev Afg:FuncId:=135
abbrev Xa:FuncId:=136
abbrev Qp:FuncId:=137
abbrev Afh:FuncId:=138
abbrev Mu:FuncId:=139
abbrev Aar:FuncId:=140
abbrev Xb:FuncId:=141
abbrev Xc:FuncId:=142
abbrev Mc:FuncId:=143
abbrev Aas:FuncId:=144
abbrev Um:FuncId:=145
abbrev Xd:FuncId:=146
abbrev Aat:FuncId:=147
abbrev Un:FuncId:=148
abbrev Uo:FuncId:=149
abbrev Sf:FuncId:=150
abbrev Ak4:FuncId:=151
abbrev Ak5:FuncId:=152
abbrev Aau:FuncId:=159
abbrev Aav:FuncId:=160
abbrev Aaw:FuncId:=161
abbrev Nq:FuncId:=162
abbrev Mv:FuncId:=163
abbrev Afi:FuncId:=164
abbrev Aax:FuncId:=165
abbrev Pk:FuncId:=166
abbrev Qq:FuncId:=167
abbrev Afj:FuncId:=168
abbrev Aay:FuncId:=169
abbrev Afk:FuncId:=170
abbrev Afl:FuncId:=171
abbrev Afm:FuncId:=172
abbrev Kh:FuncId:=173
abbrev Mw:FuncId:=174
abbrev Md:FuncId:=175
abbrev Mx:FuncId:=176
abbrev Afn:FuncId:=177
abbrev Afo:FuncId:=178
abbrev Aaz:FuncId:=179
abbrev Aa0:FuncId:=180
abbrev Aa1:FuncId:=181
abbrev Jk:FuncId:=182
abbrev Qs:FuncId:=183
abbrev Aa2:FuncId:=184
abbrev Aa3:FuncId:=185
abbrev Afp:FuncId:=186
abbrev Aa4:FuncId:=187
abbrev Afq:FuncId:=188
abbrev Up:FuncId:=189
abbrev Om:FuncId:=190
abbrev Aa5:FuncId:=191
abbrev Aa6:FuncId:=192
abbrev Ak6:FuncId:=193
abbrev Ak7:FuncId:=199
abbrev Afr:FuncId:=203
abbrev Xe:FuncId:=204
abbrev Aa7:FuncId:=205
abbrev Xf:FuncId:=206
abbrev Sg:FuncId:=207
abbrev Sh:FuncId:=208
abbrev Qt:FuncId:=209
abbrev Uq:FuncId:=210
abbrev Aa8:FuncId:=211
abbrev Ur:FuncId:=212
abbrev Us:FuncId:=213
abbrev Si:FuncId:=214
abbrev Ut:FuncId:=215
abbrev Pl:FuncId:=216
abbrev Aa9:FuncId:=217
abbrev Afs:FuncId:=218
abbrev Uu:FuncId:=219
abbrev Ak8:FuncId:=220
abbrev Sj:FuncId:=231
abbrev Uv:FuncId:=232
abbrev Aba:FuncId:=233
abbrev Aft:FuncId:=234
abbrev Abb:FuncId:=236
abbrev Pm:FuncId:=237
abbrev Uw:FuncId:=238
abbrev Qu:FuncId:=239
abbrev Xg:FuncId:=240
abbrev Sk:FuncId:=241
abbrev Ux:FuncId:=242
abbrev On:FuncId:=243
abbrev Nr:FuncId:=244
abbrev Afu:FuncId:=245
abbrev Afv:FuncId:=247
abbrev Pn:FuncId:=248
abbrev Uy:FuncId:=249
abbrev Uz:FuncId:=250
abbrev Abc:FuncId:=251
abbrev U1:FuncId:=253
abbrev Oo:FuncId:=254
abbrev Abd:FuncId:=255
abbrev Qv:FuncId:=263
abbrev Abe:FuncId:=264
abbrev Xh:FuncId:=270
abbrev U2:FuncId:=271
abbrev Xi:FuncId:=272
abbrev Abf:FuncId:=273
abbrev Sl:FuncId:=274
abbrev Xj:FuncId:=275
abbrev U3:FuncId:=276
abbrev Abg:FuncId:=277
abbrev Abh:FuncId:=278
abbrev Abi:FuncId:=279
abbrev U4:FuncId:=283
abbrev U5:FuncId:=284
abbrev Ns:FuncId:=287
abbrev Abj:FuncId:=288
abbrev Abk:FuncId:=289
abbrev Abl:FuncId:=290
abbrev Abm:FuncId:=291
abbrev Sn:FuncId:=292
abbrev Abn:FuncId:=293
abbrev Po:FuncId:=294
abbrev Me:FuncId:=295
abbrev Lo:FuncId:=296
abbrev Pp:FuncId:=297
abbrev Afw:FuncId:=298
abbrev Abo:FuncId:=300
abbrev Afx:FuncId:=305
abbrev Xk:FuncId:=314
abbrev U6:FuncId:=315
abbrev Abp:FuncId:=316
abbrev Xl:FuncId:=317
abbrev Abq:FuncId:=318
abbrev So:FuncId:=319
abbrev Abr:FuncId:=320
abbrev Abs:FuncId:=321
abbrev U7:FuncId:=325
abbrev Afy:FuncId:=326
abbrev Xm:FuncId:=327
abbrev Sp:FuncId:=328
abbrev Abt:FuncId:=329
abbrev Abu:FuncId:=330
abbrev Abv:FuncId:=331
abbrev Afz:FuncId:=332
abbrev Af0:FuncId:=342
abbrev Af1:FuncId:=343
end Go.Ab.Fn
namespace Go.Ab
open Go
abbrev O (k:IntKind) (n:Int):AV:=.val (.int k n)
abbrev Av (b:Bool):AV:=.val (.bool b)
abbrev G0 (s:ByteArray):AV:=.val (.string s)
abbrev Ay {α:Type} (sz:Nat) (f:α->AV) (l:List α):AV:=.sl sz (l.map f)
abbrev E9 {α:Type} (sz:Nat) (g:List α->List AV) (l:List α):AV:=.sl sz (g l)
structure Af where
 G:Int
 U:Int
 R:List Af
mutual
def Ak9:Af->AV
 | ⟨x0,x1,x2⟩=>.agg [O .i64 x0,O .i64 x1,.sl 3 (Bm x2)]
def Bm:List Af->List AV
 | []=>[]
 | x::xs=>Ak9 x::Bm xs
end
def Em (x:Af):AV:=.agg [O .i64 x.G,O .i64 x.U,.sl 3 (Bm x.R)]
theorem A3b (x:Af):Ak9 x=Em x:=by cases x;simp only[Ak9,Em]
theorem Lp:∀l:List Af,Bm l=l.map Em
 | []=>rfl
 | x::xs=>by simp only[Bm,List.map_cons,A3b,Lp xs]
structure Qw where
 S:ByteArray
 R:List Af
def Af2 (x:Qw):AV:=.agg [G0 x.S,.sl 3 (Bm x.R)]
structure Aj where
 S:ByteArray
 V:Int
 O:List Qw
def B8 (x:Aj):AV:=.agg [G0 x.S,O .i64 x.V,.sl 2 (List.map Af2 x.O)]
structure Ck where
 D:List Aj
 V:List Af
 E:Af
def Oq (x:Ck):AV:=.agg [.sl 3 (List.map B8 x.D),.sl 3 (Bm x.V),O .i64 x.E.G,O .i64 x.E.U,.sl 3 (Bm x.E.R)]
structure Bt where
 v:Int
 C:Int
def Fa (x:Bt):AV:=.agg [O .i64 x.v,O .i64 x.C]
structure Bg where
 Q:Int
 T:List Bt
def H4 (x:Bg):AV:=.agg [O .i64 x.Q,.sl 2 (List.map Fa x.T)]
structure Az where
 G:Int
 U:Int
 K:List Az
mutual
def Ala:Az->AV
 | ⟨x0,x1,x2⟩=>.agg [O .i64 x0,O .i64 x1,.sl 3 (G8 x2)]
def G8:List Az->List AV
 | []=>[]
 | x::xs=>Ala x::G8 xs
end
def Fq (x:Az):AV:=.agg [O .i64 x.G,O .i64 x.U,.sl 3 (G8 x.K)]
theorem A3c (x:Az):Ala x=Fq x:=by cases x;simp only[Ala,Fq]
theorem Jl:∀l:List Az,G8 l=l.map Fq
 | []=>rfl
 | x::xs=>by simp only[G8,List.map_cons,A3c,Jl xs]
structure Ao where
 N:Bool
 U:List Int
 B:List Int
def Cy (x:Ao):AV:=.agg [Av x.N,.sl 1 (List.map (O .u32) x.U),.sl 1 (List.map (O .u32) x.B)]
structure Ai where
 U:Int
 K:List Ai
mutual
def Alb:Ai->AV
 | ⟨x0,x1⟩=>.agg [O .i64 x0,.sl 2 (Ht x1)]
def Ht:List Ai->List AV
 | []=>[]
 | x::xs=>Alb x::Ht xs
end
def Fy (x:Ai):AV:=.agg [O .i64 x.U,.sl 2 (Ht x.K)]
theorem A3d (x:Ai):Alb x=Fy x:=by cases x;simp only[Alb,Fy]
theorem Lq:∀l:List Ai,Ht l=l.map Fy
 | []=>rfl
 | x::xs=>by simp only[Ht,List.map_cons,A3d,Lq xs]
structure Bi where
 v:Int
 I:Ai
def Gq (x:Bi):AV:=.agg [O .i64 x.v,O .i64 x.I.U,.sl 2 (Ht x.I.K)]
structure Bh where
 L:Bg
 P:Int
def Gb (x:Bh):AV:=.agg [O .i64 x.L.Q,.sl 2 (List.map Fa x.L.T),O .i64 x.P]
structure A7 where
 F:List Bi
 A:List Bh
def Im (x:A7):AV:=.agg [.sl 3 (List.map Gq x.F),.sl 3 (List.map Gb x.A)]
structure An where
 C:Ao
 M:A7
def Dv (x:An):AV:=.agg [Av x.C.N,.sl 1 (List.map (O .u32) x.C.U),.sl 1 (List.map (O .u32) x.C.B),.sl 3 (List.map Gq x.M.F),.sl 3 (List.map Gb x.M.A)]
structure Aq8 where
 S:ByteArray
 Params:List Int
 Captured:List Int
 Result:Af
 Body:Int
def U8 (x:Aq8):AV:=.agg [G0 x.S,.sl 1 (List.map (O .i64) x.Params),.sl 1 (List.map (O .i64) x.Captured),O .i64 x.Result.G,O .i64 x.Result.U,.sl 3 (Bm x.Result.R),O .i64 x.Body]
structure Aq9 where
 Op:Int
 U:Int
 V:List Int
 Binds:List (List Int)
 K:List Int
 Type_:Af
def U9 (x:Aq9):AV:=.agg [O .i64 x.Op,O .i64 x.U,.sl 1 (List.map (O .i64) x.V),.sl 1 (List.map (Ay 1 (O .i64)) x.Binds),.sl 1 (List.map (O .i64) x.K),O .i64 x.Type_.G,O .i64 x.Type_.U,.sl 3 (Bm x.Type_.R)]
structure Lr where
 D:List Aj
 Codes:List Aq8
 V:List Af
 Exprs:List Aq9
def Va (x:Lr):AV:=.agg [.sl 3 (List.map B8 x.D),.sl 7 (List.map U8 x.Codes),.sl 3 (Bm x.V),.sl 8 (List.map U9 x.Exprs)]
structure Iw where
 neg:Bool
 n:List Int
 d:List Int
def Sq (x:Iw):AV:=.agg [Av x.neg,.sl 1 (List.map (O .u32) x.n),.sl 1 (List.map (O .u32) x.d)]
structure H7 where
 data:List Aj
 vars:Int
 left:Int
structure Ax where
 I:Ai
 C:Ao
def B9 (x:Ax):AV:=.agg [O .i64 x.I.U,.sl 2 (Ht x.I.K),Av x.C.N,.sl 1 (List.map (O .u32) x.C.U),.sl 1 (List.map (O .u32) x.C.B)]
structure Abw where
 con:Int
 kids:List Ai
 places:List Int
 types:List Af
def A3e (x:Abw):AV:=.agg [O .i64 x.con,.sl 2 (Ht x.kids),.sl 1 (List.map (O .i64) x.places),.sl 3 (Bm x.types)]
structure Kw where
 G:Int
 Text:ByteArray
 Pos:Int
def Af3 (x:Kw):AV:=.agg [O .i64 x.G,G0 x.Text,O .i64 x.Pos]
structure Ix where
 list:List Ai
 coef:Ao
def Pq (x:Ix):AV:=.agg [.sl 2 (Ht x.list),Av x.coef.N,.sl 1 (List.map (O .u32) x.coef.U),.sl 1 (List.map (O .u32) x.coef.B)]
end Go.Ab
