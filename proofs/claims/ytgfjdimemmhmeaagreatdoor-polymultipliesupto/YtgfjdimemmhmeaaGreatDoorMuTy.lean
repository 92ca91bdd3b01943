/- Types and steps. -/
import Derived.Test.YtgfjdimemmhmeaaGreatDoorMuAb2
import Derived.Test.YtgfjdimemmhmeaaGreatDoorProg
import Derived.KernelRfl
namespace Go.Ab
open Go Go.Proofs Go.Proofs.Tryz
theorem κ{p:Prop}(h:p:=by kernel_rfl):p:=h
def Ama:Tr:=(.node (.node (.node (.node (.node (.node (.node .leaf 1 ⟨.other,1,8,[.nilFunc]⟩ .leaf) 2 ⟨.int .i64,1,8,[.int .i64 0]⟩ (.node .leaf 3 ⟨.int .i64,1,8,[.int .i64 0]⟩ .leaf)) 4 ⟨.bool,1,1,[.bool false]⟩ (.node (.node .leaf 5 ⟨.int .u8,1,1,[.int .u8 0]⟩ .leaf) 9 ⟨.string,1,16,[.string ⟨#[]⟩]⟩ .leaf)) 20 ⟨.other,1,16,[.nilIface]⟩ (.node (.node (.node .leaf 22 ⟨.slice 147,1,24,[.slice none 0 0]⟩ .leaf) 23 ⟨.slice 25,1,24,[.slice none 0 0]⟩ .leaf) 25 ⟨.struct [(0,1),(1,1),(2,1)],3,40,[.int .i64 0,.int .i64 0,.slice none 0 0]⟩ (.node (.node .leaf 27 ⟨.struct [(0,1),(1,1),(2,3)],5,88,[.slice none 0 0,.slice none 0 0,.int .i64 0,.int .i64 0,.slice none 0 0]⟩ .leaf) 28 ⟨.slice 53,1,24,[.slice none 0 0]⟩ .leaf))) 30 ⟨.int .i64,1,8,[.int .i64 0]⟩ (.node (.node (.node (.node .leaf 36 ⟨.slice 28,1,24,[.slice none 0 0]⟩ .leaf) 39 ⟨.other,1,8,[.pointer none]⟩ (.node .leaf 43 ⟨.other,1,8,[.pointer none]⟩ .leaf)) 45 ⟨.slice 143,1,24,[.slice none 0 0]⟩ (.node (.node .leaf 47 ⟨.struct [(0,1),(1,1),(2,1)],3,56,[.bool false,.slice none 0 0,.slice none 0 0]⟩ .leaf) 48 ⟨.slice 96,1,24,[.slice none 0 0]⟩ .leaf)) 49 ⟨.slice 108,1,24,[.slice none 0 0]⟩ (.node (.node (.node .leaf 51 ⟨.struct [(0,1),(1,1)],2,48,[.slice none 0 0,.slice none 0 0]⟩ .leaf) 53 ⟨.struct [(0,3),(3,2)],5,104,[.bool false,.slice none 0 0,.slice none 0 0,.slice none 0 0,.slice none 0 0]⟩ .leaf) 55 ⟨.other,1,8,[.nilFunc]⟩ (.node (.node .leaf 67 ⟨.slice 175,1,24,[.slice none 0 0]⟩ .leaf) 69 ⟨.struct [(0,1),(1,1)],2,32,[.int .i64 0,.slice none 0 0]⟩ .leaf)))) 75 ⟨.other,1,8,[.nilFunc]⟩ (.node (.node (.node (.node (.node .leaf 77 ⟨.slice 225,1,24,[.slice none 0 0]⟩ .leaf) 78 ⟨.slice 229,1,24,[.slice none 0 0]⟩ (.node .leaf 80 ⟨.struct [(0,1),(1,1),(2,1),(3,1)],4,96,[.slice none 0 0,.slice none 0 0,.slice none 0 0,.slice none 0 0]⟩ .leaf)) 82 ⟨.map 9 3,1,8,[.map none]⟩ (.node (.node .leaf 83 ⟨.map 9 99,1,8,[.map none]⟩ .leaf) 85 ⟨.struct [(0,5),(5,1),(6,1)],7,104,[.slice none 0 0,.slice none 0 0,.int .i64 0,.int .i64 0,.slice none 0 0,.map none,.map none]⟩ .leaf)) 89 ⟨.struct [(0,1),(1,1)],2,32,[.map none,.slice none 0 0]⟩ (.node (.node (.node .leaf 92 ⟨.slice 94,1,24,[.slice none 0 0]⟩ .leaf) 94 ⟨.struct [(0,1),(1,1)],2,32,[.int .i64 0,.slice none 0 0]⟩ .leaf) 96 ⟨.struct [(0,1),(1,2)],3,40,[.int .i64 0,.int .i64 0,.slice none 0 0]⟩ (.node (.node .leaf 98 ⟨.other,1,8,[.nilFunc]⟩ .leaf) 99 ⟨.slice 103,1,24,[.slice none 0 0]⟩ .leaf))) 103 ⟨.struct [(0,2),(2,3)],5,88,[.int .i64 0,.slice none 0 0,.bool false,.slice none 0 0,.slice none 0 0]⟩ (.node (.node (.node (.node .leaf 108 ⟨.struct [(0,2),(2,1)],3,40,[.int .i64 0,.slice none 0 0,.int .i64 0]⟩ .leaf) 111 ⟨.other,1,8,[.nilFunc]⟩ .leaf) 112 ⟨.slice 47,1,24,[.slice none 0 0]⟩ (.node (.node .leaf 115 ⟨.slice 143,1,24,[.slice none 0 0]⟩ .leaf) 117 ⟨.struct [(0,1),(1,1),(2,1)],3,56,[.bool false,.slice none 0 0,.slice none 0 0]⟩ .leaf)) 127 ⟨.other,1,8,[.nilFunc]⟩ (.node (.node (.node .leaf 142 ⟨.int .u64,1,8,[.int .u64 0]⟩ .leaf) 143 ⟨.int .u32,1,4,[.int .u32 0]⟩ .leaf) 145 ⟨.slice 149,1,24,[.slice none 0 0]⟩ (.node (.node .leaf 147 ⟨.struct [(0,1),(1,1),(2,1)],3,48,[.string ⟨#[]⟩,.int .i64 0,.slice none 0 0]⟩ .leaf) 149 ⟨.struct [(0,1),(1,1)],2,40,[.string ⟨#[]⟩,.slice none 0 0]⟩ .leaf))))) 151 ⟨.other,1,8,[.pointer none]⟩ (.node (.node (.node (.node (.node (.node .leaf 152 ⟨.other,1,8,[.pointer none]⟩ .leaf) 154 ⟨.struct [(0,1),(1,1),(2,1)],3,40,[.slice none 0 0,.int .i64 0,.int .i64 0]⟩ (.node .leaf 158 ⟨.other,1,8,[.pointer none]⟩ .leaf)) 159 ⟨.slice 5,1,24,[.slice none 0 0]⟩ (.node (.node .leaf 161 ⟨.struct [(0,1),(1,1)],2,32,[.pointer none,.slice none 0 0]⟩ .leaf) 163 ⟨.other,1,16,[.nilIface]⟩ .leaf)) 175 ⟨.struct [(0,1),(1,1)],2,16,[.int .i64 0,.int .i64 0]⟩ (.node (.node (.node .leaf 178 ⟨.other,1,8,[.nilFunc]⟩ .leaf) 186 ⟨.slice 48,1,24,[.slice none 0 0]⟩ .leaf) 188 ⟨.slice 49,1,24,[.slice none 0 0]⟩ (.node (.node .leaf 195 ⟨.int .u64,1,8,[.int .u64 0]⟩ .leaf) 197 ⟨.other,1,8,[.nilFunc]⟩ .leaf))) 215 ⟨.other,1,8,[.nilFunc]⟩ (.node (.node (.node (.node .leaf 217 ⟨.other,1,8,[.nilFunc]⟩ .leaf) 219 ⟨.map 9 4,1,8,[.map none]⟩ (.node .leaf 223 ⟨.slice 3,1,24,[.slice none 0 0]⟩ .leaf)) 225 ⟨.struct [(0,1),(1,1),(2,1),(3,3),(6,1)],7,112,[.string ⟨#[]⟩,.slice none 0 0,.slice none 0 0,.int .i64 0,.int .i64 0,.slice none 0 0,.int .i64 0]⟩ (.node (.node .leaf 226 ⟨.other,1,8,[.nilFunc]⟩ .leaf) 227 ⟨.slice 223,1,24,[.slice none 0 0]⟩ .leaf)) 229 ⟨.struct [(0,1),(1,1),(2,1),(3,1),(4,1),(5,3)],8,128,[.int .i64 0,.int .i64 0,.slice none 0 0,.slice none 0 0,.slice none 0 0,.int .i64 0,.int .i64 0,.slice none 0 0]⟩ (.node (.node (.node .leaf 230 ⟨.slice 4,1,24,[.slice none 0 0]⟩ .leaf) 231 ⟨.other,1,8,[.nilFunc]⟩ .leaf) 232 ⟨.other,1,8,[.nilFunc]⟩ (.node (.node .leaf 233 ⟨.other,1,8,[.pointer none]⟩ .leaf) 235 ⟨.struct [(0,4),(4,1)],5,120,[.slice none 0 0,.slice none 0 0,.slice none 0 0,.slice none 0 0,.slice none 0 0]⟩ .leaf)))) 241 ⟨.other,1,8,[.pointer none]⟩ (.node (.node (.node (.node (.node .leaf 245 ⟨.other,1,8,[.pointer none]⟩ .leaf) 262 ⟨.int .i64,1,8,[.int .i64 0]⟩ (.node .leaf 272 ⟨.slice 9,1,24,[.slice none 0 0]⟩ .leaf)) 276 ⟨.slice 103,1,24,[.slice none 0 0]⟩ (.node (.node .leaf 285 ⟨.slice 289,1,24,[.slice none 0 0]⟩ .leaf) 289 ⟨.struct [(0,1),(1,1),(2,1)],3,32,[.int .i64 0,.string ⟨#[]⟩,.int .i64 0]⟩ .leaf)) 300 ⟨.other,1,8,[.pointer none]⟩ (.node (.node (.node .leaf 308 ⟨.other,1,8,[.nilFunc]⟩ .leaf) 312 ⟨.struct [(0,1),(1,3),(4,1),(5,1)],6,96,[.slice none 0 0,.int .i64 0,.int .i64 0,.slice none 0 0,.map none,.slice none 0 0]⟩ .leaf) 313 ⟨.slice 316,1,24,[.slice none 0 0]⟩ (.node (.node .leaf 316 ⟨.struct [(0,1),(1,3)],4,80,[.slice none 0 0,.bool false,.slice none 0 0,.slice none 0 0]⟩ .leaf) 318 ⟨.slice 99,1,24,[.slice none 0 0]⟩ .leaf))) 320 ⟨.other,1,8,[.nilFunc]⟩ (.node (.node (.node (.node .leaf 330 ⟨.int .u64,1,8,[.int .u64 0]⟩ .leaf) 335 ⟨.slice 338,1,24,[.slice none 0 0]⟩ .leaf) 338 ⟨.struct [(0,1),(1,1),(2,1)],3,32,[.int .i64 0,.string ⟨#[]⟩,.int .i64 0]⟩ (.node (.node .leaf 342 ⟨.slice 345,1,24,[.slice none 0 0]⟩ .leaf) 345 ⟨.struct [(0,1),(1,3)],4,80,[.slice none 0 0,.bool false,.slice none 0 0,.slice none 0 0]⟩ .leaf)) 348 ⟨.float .f64,1,8,[.float .f64 0]⟩ (.node (.node (.node .leaf 349 ⟨.other,1,8,[.nilFunc]⟩ .leaf) 360 ⟨.other,1,8,[.nilFunc]⟩ .leaf) 368 ⟨.other,1,8,[.pointer none]⟩ (.node (.node .leaf 382 ⟨.other,1,8,[.nilFunc]⟩ .leaf) 383 ⟨.slice 92,1,24,[.slice none 0 0]⟩ .leaf))))))
def Cp:Dv:=Ama.find
theorem A4m:Ama.toList.map (λp=>Jw prog p.1)=Ama.toList.map (λp=>some p.2):=by kernel_rfl
theorem Ast:Dx prog Cp:=Tr.ok A4m
theorem Aa0:prog.follows .mixedOrders=true:=by kernel_rfl
end Go.Ab
namespace Go.Ab.Fn
abbrev Agd:FuncId:=3
abbrev Aa9:FuncId:=4
abbrev N6:FuncId:=5
abbrev Qa:FuncId:=6
abbrev Qb:FuncId:=7
abbrev Aba:FuncId:=8
abbrev Abb:FuncId:=9
abbrev Abc:FuncId:=10
abbrev Qc:FuncId:=11
abbrev Ye:FuncId:=12
abbrev Abd:FuncId:=13
abbrev S7:FuncId:=14
abbrev H5:FuncId:=15
abbrev S8:FuncId:=16
abbrev Vq:FuncId:=17
abbrev S9:FuncId:=18
abbrev Ta:FuncId:=19
abbrev Tb:FuncId:=20
abbrev Yf:FuncId:=21
abbrev J6:FuncId:=22
abbrev Ik:FuncId:=23
abbrev Yg:FuncId:=24
abbrev Yh:FuncId:=25
abbrev Abe:FuncId:=26
abbrev Amb:FuncId:=27
abbrev La:FuncId:=28
abbrev Amc:FuncId:=29
abbrev Abf:FuncId:=30
abbrev Abg:FuncId:=31
abbrev Abh:FuncId:=32
abbrev Abi:FuncId:=33
abbrev Yi:FuncId:=34
abbrev Yj:FuncId:=35
abbrev Rk:FuncId:=36
abbrev Abj:FuncId:=37
abbrev Qd:FuncId:=38
abbrev Kh:FuncId:=39
abbrev Abk:FuncId:=40
abbrev Abl:FuncId:=41
abbrev Yk:FuncId:=42
abbrev Tc:FuncId:=43
abbrev Pc:FuncId:=44
abbrev Vr:FuncId:=45
abbrev Abm:FuncId:=46
abbrev Abn:FuncId:=47
abbrev Yl:FuncId:=48
abbrev Pd:FuncId:=49
abbrev Qf:FuncId:=50
abbrev Ym:FuncId:=51
abbrev Qg:FuncId:=52
abbrev Rl:FuncId:=53
abbrev Rn:FuncId:=54
abbrev Age:FuncId:=55
abbrev Agf:FuncId:=56
abbrev Abo:FuncId:=57
abbrev N7:FuncId:=58
abbrev Ro:FuncId:=59
abbrev Rq:FuncId:=60
abbrev Td:FuncId:=61
abbrev Yn:FuncId:=62
abbrev Abp:FuncId:=63
abbrev Abq:FuncId:=64
abbrev Rr:FuncId:=65
abbrev Yo:FuncId:=66
abbrev Yp:FuncId:=67
abbrev Pe:FuncId:=68
abbrev Pf:FuncId:=69
abbrev My:FuncId:=70
abbrev Lu:FuncId:=71
abbrev Abr:FuncId:=72
abbrev Lv:FuncId:=73
abbrev Mz:FuncId:=74
abbrev Yq:FuncId:=75
abbrev Vs:FuncId:=76
abbrev Abs:FuncId:=77
abbrev Te:FuncId:=78
abbrev Vt:FuncId:=79
abbrev Amd:FuncId:=80
abbrev Pg:FuncId:=81
abbrev Abt:FuncId:=82
abbrev Agg:FuncId:=83
abbrev Tf:FuncId:=84
abbrev Abu:FuncId:=85
abbrev Ame:FuncId:=86
abbrev Amf:FuncId:=87
abbrev Amg:FuncId:=88
abbrev Amh:FuncId:=89
abbrev Ami:FuncId:=90
abbrev Amj:FuncId:=91
abbrev Ph:FuncId:=92
abbrev Kt:FuncId:=93
abbrev Qh:FuncId:=94
abbrev Yr:FuncId:=95
abbrev N8:FuncId:=96
abbrev Abv:FuncId:=97
abbrev Agh:FuncId:=98
abbrev Ku:FuncId:=99
abbrev Nn:FuncId:=100
abbrev M0:FuncId:=101
abbrev Pi:FuncId:=102
abbrev Hy:FuncId:=103
abbrev No:FuncId:=104
abbrev Agi:FuncId:=105
abbrev N9:FuncId:=106
abbrev Agj:FuncId:=107
abbrev Abw:FuncId:=108
abbrev Qi:FuncId:=109
abbrev Abx:FuncId:=110
abbrev Rs:FuncId:=111
abbrev Aby:FuncId:=112
abbrev Ys:FuncId:=113
abbrev M1:FuncId:=114
abbrev Agk:FuncId:=115
abbrev Agl:FuncId:=116
abbrev Agm:FuncId:=117
abbrev Jz:FuncId:=118
abbrev Rt:FuncId:=119
abbrev Agn:FuncId:=120
abbrev Abz:FuncId:=121
abbrev Yt:FuncId:=122
abbrev Ago:FuncId:=123
abbrev Ab0:FuncId:=124
abbrev Ru:FuncId:=125
abbrev Agp:FuncId:=126
abbrev Ab1:FuncId:=127
abbrev Ab2:FuncId:=128
abbrev Ab3:FuncId:=129
abbrev Rv:FuncId:=130
abbrev Ab4:FuncId:=131
abbrev Rw:FuncId:=132
abbrev Tg:FuncId:=133
abbrev Th:FuncId:=134
abbrev Ti:FuncId:=135
abbrev Lb:FuncId:=136
abbrev Yu:FuncId:=137
abbrev Agq:FuncId:=138
abbrev Yv:FuncId:=139
abbrev Vu:FuncId:=140
abbrev Me:FuncId:=141
abbrev Ab5:FuncId:=142
abbrev Tj:FuncId:=143
abbrev Tk:FuncId:=144
abbrev Rx:FuncId:=145
abbrev Yw:FuncId:=146
abbrev Yx:FuncId:=147
abbrev Ab6:FuncId:=148
abbrev Vv:FuncId:=149
abbrev M2:FuncId:=150
abbrev Yy:FuncId:=151
abbrev Yz:FuncId:=152
abbrev Ab7:FuncId:=153
abbrev Agr:FuncId:=154
abbrev Y0:FuncId:=155
abbrev Vx:FuncId:=156
abbrev Vy:FuncId:=157
abbrev Vz:FuncId:=158
abbrev Tl:FuncId:=159
abbrev Amk:FuncId:=160
abbrev Aml:FuncId:=161
abbrev Ab8:FuncId:=168
abbrev Ab9:FuncId:=169
abbrev Tn:FuncId:=170
abbrev Ags:FuncId:=171
abbrev Aca:FuncId:=173
abbrev Qj:FuncId:=174
abbrev V1:FuncId:=175
abbrev V2:FuncId:=176
abbrev Ry:FuncId:=177
abbrev Nq:FuncId:=178
abbrev Y1:FuncId:=179
abbrev To:FuncId:=180
abbrev V3:FuncId:=181
abbrev Pj:FuncId:=182
abbrev Oa:FuncId:=183
abbrev Agt:FuncId:=184
abbrev Acb:FuncId:=186
abbrev Agu:FuncId:=187
abbrev Y2:FuncId:=188
abbrev Qk:FuncId:=189
abbrev V4:FuncId:=190
abbrev V5:FuncId:=191
abbrev Acd:FuncId:=192
abbrev V6:FuncId:=193
abbrev Ace:FuncId:=194
abbrev V7:FuncId:=195
abbrev V8:FuncId:=197
abbrev Pk:FuncId:=198
abbrev Acf:FuncId:=199
abbrev V9:FuncId:=200
abbrev Y3:FuncId:=201
abbrev Acg:FuncId:=202
abbrev Agv:FuncId:=211
abbrev Ach:FuncId:=212
abbrev Rz:FuncId:=213
abbrev Agw:FuncId:=214
abbrev Wa:FuncId:=215
abbrev Tp:FuncId:=216
abbrev Y4:FuncId:=217
abbrev R0:FuncId:=218
abbrev Tq:FuncId:=219
abbrev Ts:FuncId:=220
abbrev Wb:FuncId:=221
abbrev Tt:FuncId:=222
abbrev Agx:FuncId:=223
abbrev Y5:FuncId:=224
abbrev Agy:FuncId:=225
abbrev Y6:FuncId:=226
abbrev Aci:FuncId:=227
abbrev Acj:FuncId:=228
abbrev Ack:FuncId:=229
abbrev Agz:FuncId:=230
abbrev Ag0:FuncId:=231
abbrev Tu:FuncId:=232
abbrev Wc:FuncId:=233
abbrev Amm:FuncId:=234
abbrev Wd:FuncId:=245
abbrev We:FuncId:=246
abbrev Ob:FuncId:=249
abbrev R3:FuncId:=250
abbrev Acl:FuncId:=251
abbrev Acm:FuncId:=252
abbrev Acn:FuncId:=253
abbrev Ag1:FuncId:=254
abbrev Wf:FuncId:=255
abbrev Tv:FuncId:=256
abbrev Aco:FuncId:=257
abbrev Tw:FuncId:=258
abbrev Acp:FuncId:=259
abbrev Ql:FuncId:=260
abbrev M3:FuncId:=261
abbrev Mf:FuncId:=262
abbrev Qm:FuncId:=263
abbrev Ag2:FuncId:=264
abbrev Wg:FuncId:=266
abbrev Acq:FuncId:=267
abbrev Y7:FuncId:=268
abbrev Wh:FuncId:=269
abbrev Y8:FuncId:=270
abbrev Acr:FuncId:=271
abbrev Ag3:FuncId:=278
abbrev Tx:FuncId:=279
abbrev Wi:FuncId:=280
abbrev R4:FuncId:=281
abbrev I6:FuncId:=282
abbrev Qo:FuncId:=283
abbrev Amn:FuncId:=284
abbrev Acs:FuncId:=285
abbrev Acu:FuncId:=286
abbrev Acv:FuncId:=287
abbrev Wj:FuncId:=288
abbrev Wk:FuncId:=293
abbrev Ag4:FuncId:=294
abbrev Ty:FuncId:=295
abbrev Y9:FuncId:=296
abbrev Za:FuncId:=297
abbrev Tz:FuncId:=298
abbrev Acw:FuncId:=299
abbrev Acx:FuncId:=300
abbrev Acy:FuncId:=301
abbrev Ag5:FuncId:=302
abbrev Acz:FuncId:=309
abbrev Zb:FuncId:=310
abbrev Zc:FuncId:=311
abbrev Ag6:FuncId:=312
abbrev Ac0:FuncId:=313
abbrev Ac1:FuncId:=314
abbrev Wl:FuncId:=315
abbrev Ac2:FuncId:=316
abbrev Pl:FuncId:=317
abbrev Amo:FuncId:=318
abbrev Zd:FuncId:=319
abbrev Wn:FuncId:=320
abbrev Ac3:FuncId:=321
abbrev Ze:FuncId:=322
abbrev Ac4:FuncId:=323
abbrev T0:FuncId:=324
abbrev Ac5:FuncId:=325
abbrev Ac6:FuncId:=326
abbrev Wo:FuncId:=327
abbrev Wp:FuncId:=328
abbrev T3:FuncId:=329
abbrev Ag7:FuncId:=332
abbrev Ag8:FuncId:=333
abbrev T5:FuncId:=345
abbrev Zf:FuncId:=346
abbrev Wq:FuncId:=352
end Go.Ab.Fn
namespace Go.Ab
open Go
abbrev O(k:IntKind)(n:Int):AV:=.val (.int k n)
abbrev eo:=O .i64
abbrev fo:=O .u32
abbrev io:=O .u64
abbrev jo:=O .u8
abbrev Ax(b:Bool):AV:=.val (.bool b)
abbrev Fg(s:Β):AV:=.val (.string s)
abbrev Az{α:Type}(sz:Nat)(f:α->AV)(l:Λ α):AV:=.sl sz (l.map f)
abbrev Gc{α:Type}(sz:Nat)(g:Λ α->Λ AV)(l:Λ α):AV:=.sl sz (g l)
structure Ah where
 G:Int
 U:Int
 R:List Ah
mutual
def Amp:Ah->AV
 |⟨x0,x1,x2⟩=>.agg [eo x0,eo x1,.sl 3 (Bt x2)]
def Bt:List Ah->List AV
 |[]=>[]
 |x::xs=>Amp x::Bt xs
end
def Eb(x:Ah):AV:=.agg [eo x.G,eo x.U,.sl 3 (Bt x.R)]
theorem A4n(x:Ah):Amp x=Eb x:=by cases x;simp only[Amp,Eb]
theorem Mg:∀l:Λ Ah,Bt l=l.map Eb
 |[]=>rfl
 |x::xs=>by simp only[Bt,List.map_cons,A4n,Mg xs]
structure Pm where
 S:Β
 R:List Ah
def Ag9(x:Pm):AV:=.agg [Fg x.S,.sl 3 (Bt x.R)]
structure Ao where
 S:Β
 V:Int
 O:List Pm
def Ce(x:Ao):AV:=.agg [Fg x.S,eo x.V,.sl 2 (List.map Ag9 x.O)]
structure Bh where
 D:List Ao
 V:List Ah
 E:Ah
def J7(x:Bh):AV:=.agg [.sl 3 (List.map Ce x.D),.sl 3 (Bt x.V),eo x.E.G,eo x.E.U,.sl 3 (Bt x.E.R)]
structure Ay where
 N:Bool
 U:List Int
 B:List Int
def C8(x:Ay):AV:=.agg [Ax x.N,.sl 1 (List.map fo x.U),.sl 1 (List.map fo x.B)]
structure Af where
 U:Int
 K:List Af
mutual
def Amq:Af->AV
 |⟨x0,x1⟩=>.agg [eo x0,.sl 2 (Gd x1)]
def Gd:List Af->List AV
 |[]=>[]
 |x::xs=>Amq x::Gd xs
end
def Eg(x:Af):AV:=.agg [eo x.U,.sl 2 (Gd x.K)]
theorem A4o(x:Af):Amq x=Eg x:=by cases x;simp only[Amq,Eg]
theorem Lc:∀l:Λ Af,Gd l=l.map Eg
 |[]=>rfl
 |x::xs=>by simp only[Gd,List.map_cons,A4o,Lc xs]
structure Bd where
 v:Int
 I:Af
def Ev(x:Bd):AV:=.agg [eo x.v,eo x.I.U,.sl 2 (Gd x.I.K)]
structure F3 where
 v:Int
 C:Int
def Ld(x:F3):AV:=.agg [eo x.v,eo x.C]
structure Bp where
 Q:Int
 T:List F3
def J8(x:Bp):AV:=.agg [eo x.Q,.sl 2 (List.map Ld x.T)]
structure Bf where
 L:Bp
 P:Int
def Em(x:Bf):AV:=.agg [eo x.L.Q,.sl 2 (List.map Ld x.L.T),eo x.P]
structure A4 where
 F:List Bd
 A:List Bf
def Ie(x:A4):AV:=.agg [.sl 3 (List.map Ev x.F),.sl 3 (List.map Em x.A)]
structure Aj where
 C:Ay
 M:A4
def Ci(x:Aj):AV:=.agg [Ax x.C.N,.sl 1 (List.map fo x.C.U),.sl 1 (List.map fo x.C.B),.sl 3 (List.map Ev x.M.F),.sl 3 (List.map Em x.M.A)]
structure Asu where
 S:Β
 Params:List Int
 Captured:List Int
 Result:Ah
 Body:Int
def Wr(x:Asu):AV:=.agg [Fg x.S,.sl 1 (List.map eo x.Params),.sl 1 (List.map eo x.Captured),eo x.Result.G,eo x.Result.U,.sl 3 (Bt x.Result.R),eo x.Body]
structure Asv where
 Op:Int
 U:Int
 V:List Int
 Binds:List (List Int)
 K:List Int
 Type_:Ah
def Ws(x:Asv):AV:=.agg [eo x.Op,eo x.U,.sl 1 (List.map eo x.V),.sl 1 (List.map (Az 1 eo) x.Binds),.sl 1 (List.map eo x.K),eo x.Type_.G,eo x.Type_.U,.sl 3 (Bt x.Type_.R)]
structure Mh where
 D:List Ao
 Codes:List Asu
 V:List Ah
 Exprs:List Asv
def Wt(x:Mh):AV:=.agg [.sl 3 (List.map Ce x.D),.sl 7 (List.map Wr x.Codes),.sl 3 (Bt x.V),.sl 8 (List.map Ws x.Exprs)]
structure Aq where
 I:Af
 C:Ay
def Bk(x:Aq):AV:=.agg [eo x.I.U,.sl 2 (Gd x.I.K),Ax x.C.N,.sl 1 (List.map fo x.C.U),.sl 1 (List.map fo x.C.B)]
structure Jf where
 neg:Bool
 n:List Int
 d:List Int
def T6(x:Jf):AV:=.agg [Ax x.neg,.sl 1 (List.map fo x.n),.sl 1 (List.map fo x.d)]
structure Il where
 data:List Ao
 vars:Int
 left:Int
structure Lf where
 G:Int
 Text:Β
 Pos:Int
def Aha(x:Lf):AV:=.agg [eo x.G,Fg x.Text,eo x.Pos]
structure I8 where
 list:List Af
 coef:Ay
def Qp(x:I8):AV:=.agg [.sl 2 (Gd x.list),Ax x.coef.N,.sl 1 (List.map fo x.coef.U),.sl 1 (List.map fo x.coef.B)]
structure Mi where
 G:Int
 Text:Β
 Pos:Int
def Amr(x:Mi):AV:=.agg [eo x.G,Fg x.Text,eo x.Pos]
structure Kv where
 kids:List Af
 coef:Ay
def Ahb(x:Kv):AV:=.agg [.sl 2 (Gd x.kids),Ax x.coef.N,.sl 1 (List.map fo x.coef.U),.sl 1 (List.map fo x.coef.B)]
abbrev Ad:=List Ao
abbrev Ae:=List Int
abbrev Ap:=List Aj
abbrev At:=List (Β×Int)
abbrev Aw:=List (Β×List Aq)
abbrev A0:=List (Af×Nat)
abbrev A1:=List Ah
abbrev A2:=List Af
abbrev A7:=List Bf
abbrev A9:=Option Int
abbrev Ba:=List Bd
abbrev Bj:=List (List Af×Nat)
abbrev Bn:=Option (List Int)
abbrev Bs:=List Aq
abbrev B1:=Option ((Int×List (Β×Int))⊕((Bool×List (Β×Int))⊕List (Β×Int)))
abbrev B2:=Option Nat
abbrev B3:=List Rat
abbrev B7:=Option Β
abbrev B9:=Option Ay
abbrev Ca:=List Nat
abbrev Cb:=Option ((Int×List (Β×Int)×List Aj)⊕(Int×List (Β×Int)×List Aj))
abbrev Cr:=List F3
abbrev Ct:=List Β
abbrev Cv:=Option ((Int×List Aj)⊕(Int×List Aj))
abbrev Cy:=List (Rat×A4)
abbrev Da:=List (Nat×Nat)
abbrev Db:=Option (List Aj×Int×List (Β×Int)×List (Β×List Aq))
abbrev De:=Option ((Nat×Int×List Aj)⊕(Nat×Int×List Aj))
abbrev Df:=Option (List Aq)
abbrev Di:=Option (List Aj)
abbrev Dn:=Option (List Aj×Int)
abbrev Do:=Option ((Nat×Int×List Aj)⊕(Nat×List Aj))
abbrev Ds:=List (A4×Nat)
abbrev D4:=List (List Aj)
abbrev D6:=Option (List Ay)
abbrev D8:=Option ((Int×Int)⊕(Int⊕Int))
abbrev Ei:=List Ay
abbrev Er:=List (Β×Bool)
abbrev Ez:=Option (Bool×List (Β×Int))
abbrev E3:=Option (Int×List (Β×Int))
abbrev E4:=Option (List Bf)
abbrev E8:=Option (Int×List Int)
abbrev Fw:=Option (List Ah×Bool)
abbrev Ga:=Option (List Bd)
abbrev Gf:=Option ((Nat×Int×List Aq)⊕(Nat×List Aq))
abbrev Hl:=Option (List (Β×Int)×List Aj)
abbrev Id:=List Bool
abbrev If:=Option (List Ah)
abbrev In:=Option (List Ay×Bool)
abbrev Io:=List (List Aq)
end Go.Ab
