/- The contracts of the functions, each by its walk (made by a program). -/
import Derived.Test.YtjjkmepjaemceaaGreatDoorBcW0
namespace Go.Ab
open Go Go.Proofs
set_option maxRecDepth 10000
theorem Ao5 {a0:(List A5)} {r:Bool} (h:Sm a0=some r):Bb Tryz.prog 181 [(A2 3 Bf) a0] (Av r):=by
 unfold Sm at h
 refine Bv Tryz.func181 rfl (by kernel_rfl) (by kernel_rfl) rfl ?_
 refine Z<|Ac<|O<|Aa<|Z<|Z<|Ac<|O<|O<|Ax (f:=Bf) (l:=a0) rfl<|O<|Aa<|Am h (fun b h=>?_) fun b h=>?_
 exact Z<|Ac<|O<|Aa<|Ak<|A3 h
 refine An<|Z<|Ac<|O<|O<|O<|O<|Aa<|Z<|Z<|Ac<|O<|O<|Ax (f:=Bf) (l:=a0) rfl<|O<|Aa<|Ay<|Bn h (fun (v31,q,y)=>[(2,(Av false)),(15,(Af .i64 v31))]) (fun (v31,q,y)=>[(0,.map (Ca Av q)),(1,.map (Ca Av y))]) (fun _=>True) (fun _=>rfl) ⟨rfl,rfl,Ae⟩ ⟨Ah,Ah,Ae⟩ Ae ?_
 rintro ⟨v31,q,y⟩ u1 K1 au M c hn1 _
 refine Z<|Ac<|O<|Aa<|Z<|Am M (fun b h=>?_) fun b h=>?_
 refine An<|Z<|Ay<|Z<|Ac<|O<|O<|Aa<|Z<|Z<|Cd h fun G L R=>Ce (fun (k:Bool)=>k=G) (fun k=>[(49,(Av k))]) (fun k=>[]) (fun _=>rfl) ?_ ?_
 intro K2 hK2
 refine Ac<|O<|O<|O<|A7 (f:=Bf) rfl L fun b7 D i34 ai h=>O<|O<|O<|Aq h fun v35 a6 h=>As.mk _ (Af4 (a0:=D.Name) a6) rfl<|O<|O<|A6 (s:=25) h (fun b h=>?_) fun b h=>?_
 refine Ad<|Ad<|Ad<|Ad<|Ad<|Ad<|Ad<|O<|O<|Ad<|Ad<|Ad<|Ad<|Ad<|Ad<|O<|O<|Ad<|Ad<|Ad<|Ad<|Ad<|Ad<|O ?_
 exact Aa<|hK2 true _ _ _ (Ai h) ⟨rfl,Ae⟩ ⟨Ah,Ah,Ae⟩
 refine Ag<|Ag<|Ag<|Ag<|A7 (f:=Bf) rfl h fun b6 aq i36 ah h=>Ag<|Ag<|Ag<|Aas (f:=Av) (l:=q) rfl (false:Bool) h (fun j_ b h=>?_) fun b h=>?_
 refine O<|O<|A6 (s:=34) h (fun b h=>?_) fun b h=>?_
 exact Ad<|Ad<|Ad<|Ad<|Ad<|Ad<|O<|O<|Ad<|Ad<|Ad<|Ad<|Ad<|Ad<|O<|Aa<|hK2 true _ _ _ (Ai h) ⟨rfl,Ae⟩ ⟨Ah,Ah,Ae⟩
 refine Ag<|Ag<|Ag<|A7 (f:=Bf) rfl h fun b5 v37 i37 ag h=>Ag<|Ag<|Ag<|O<|O<|A6 (s:=42) h (fun b h=>?_) fun b h=>?_
 exact Ad<|Ad<|Ad<|Ad<|Ad<|Ad<|O<|Aa<|hK2 true _ _ _ (Ai h) ⟨rfl,Ae⟩ ⟨Ah,Ah,Ae⟩
 exact Ag<|Ag<|Ag<|A7 (f:=Bf) rfl h fun b4 v38 i38 af h=>Ag<|Ag<|Ag<|O<|Aa<|hK2 (decide<|v38.Vars>(6:Int)) _ _ _ (Ai h) ⟨rfl,Ae⟩ ⟨Ah,Ah,Ae⟩
 refine O<|O<|Ag<|Ag<|Ag<|A7 (f:=Bf) rfl h fun b3 ap i39 ae h=>Ag<|Ag<|Ag<|O<|O<|A6 (s:=42) h (fun b h=>?_) fun b h=>?_
 exact Ad<|Ad<|Ad<|Ad<|Ad<|Ad<|O<|Aa<|hK2 true _ _ _ (Ai h) ⟨rfl,Ae⟩ ⟨Ah,Ah,Ae⟩
 exact Ag<|Ag<|Ag<|A7 (f:=Bf) rfl h fun b0 v40 i40 ad h=>Ag<|Ag<|Ag<|O<|Aa<|hK2 (decide<|v40.Vars>(6:Int)) _ _ _ (Ai h) ⟨rfl,Ae⟩ ⟨Ah,Ah,Ae⟩
 rintro k u2 U
 have h:=R _ U
 refine Am h (fun b h=>?_) fun b h=>?_
 refine Z<|Ac<|O<|Aa<|Ak ?_
 have h:=c _ (Ai h)
 exact A3 h
 refine An<|Z<|Ac<|O<|O<|O<|O<|A7 (f:=Bf) rfl h fun az ao i42 ac h=>O<|O<|O<|W3 (f:=Av) (l:=q) (x:=true) rfl rfl<|Aa<|Z<|Z<|Cd h fun E J N=>Ce (fun (j:Bool)=>j=E) (fun j=>[(71,(Av j))]) (fun j=>[]) (fun _=>rfl) ?_ ?_
 intro K3 hK3
 refine Ac<|O<|O<|O<|A7 (f:=Bf) rfl J fun ay B i43 ab h=>O<|O<|O<|Ax (f:=Ej) (l:=B.Cons) rfl<|O<|O<|A6 (s:=63) h (fun b h=>?_) fun b h=>?_
 exact Ad<|Ad<|Ad<|Ad<|Ad<|Ad<|Ad<|O<|Aa<|hK3 true _ _ _ (Ai h) ⟨rfl,Ae⟩ ⟨Ah,Ah,Ae⟩
 exact Ag<|Ag<|Ag<|A7 (f:=Bf) rfl h fun ax z i44 aa h=>Ag<|Ag<|Ag<|Ax (f:=Ej) (l:=z.Cons) rfl<|Ag<|O<|Aa<|hK3 (decide ((z.Cons.length:Int)>(8:Int))) _ _ _ (Ai h) ⟨rfl,Ae⟩ ⟨Ah,Ah,Ae⟩
 rintro j u3 S
 have h:=N _ S
 refine Am h (fun b h=>?_) fun b h=>?_
 refine Z<|Ac<|O<|Aa<|Ak ?_
 have h:=c _ (Ai h)
 exact A3 h
 refine An<|Z<|Ac<|O<|O<|O<|A7 (f:=Bf) rfl h fun aw v46 i46 a8 h=>O<|O<|O<|Ax (f:=Ej) (l:=v46.Cons) rfl<|O<|Aa<|Ay<|Bn h (fun (i,g)=>[(2,(Av false)),(78,(Af .i64 i))]) (fun (i,g)=>[(1,.map (Ca Av g))]) (fun _=>True) (fun _=>rfl) ⟨rfl,rfl,Ae⟩ ⟨Ah,Ah,Ae⟩ Ae ?_
 rintro ⟨i,g⟩ u4 K4 ar I u hn4 _
 refine Z<|Ac<|O<|Aa<|Z<|Am I (fun b h=>?_) fun b h=>?_
 refine An<|Z<|Ay<|Z<|Ac<|O<|O<|A7 (f:=Ej) rfl h fun av A i54 a7 h=>O<|O<|O<|O<|Aa<|Z<|Z<|Ac<|O<|O<|O<|Aq h fun am Y h=>As.mk _ (Af4 (a0:=A.Name) Y) rfl<|O<|O<|A6 (s:=87) h (fun b h=>?_) fun b h=>?_
 refine Ad<|Ad<|Ad<|Ad<|O<|O<|Ad<|Ad<|Ad<|Ad<|Ad<|O<|Aa<|Dd<|Z<|Ac<|O<|Aa<|Ak ?_
 have h:=u _ (Ai h)
 have h:=c _ (Ai h)
 exact A3 h
 refine Ag<|Ag<|Ag<|Ag<|Aas (f:=Av) (l:=g) rfl (false:Bool) h (fun j_ b h=>?_) fun b h=>?_
 refine O<|O<|A6 (s:=93) h (fun b h=>?_) fun b h=>?_
 refine Ad<|Ad<|Ad<|Ad<|Ad<|O<|Aa<|Dd<|Z<|Ac<|O<|Aa<|Ak ?_
 have h:=u _ (Ai h)
 have h:=c _ (Ai h)
 exact A3 h
 refine Ag<|Ag<|Ag<|Ag<|Aq h fun ak X h=>As.mk _ (Af7 (a0:=a0) (a1:=v31) (a2:=i) X) rfl<|Ag<|O<|Aa<|Am h (fun b h=>?_) fun b h=>?_
 refine Z<|Ac<|O<|Aa<|Ak ?_
 have h:=u _ (Ai h)
 have h:=c _ (Ai h)
 exact A3 h
 exact An<|Ac<|O<|O<|O<|O<|W3 (f:=Av) (l:=g) (x:=true) rfl rfl<|Aa<|Ac<|O<|Aw.mk _ rfl<|O<|Aa<|hn4 _ _ _ _ (Ai h) ⟨rfl,rfl,Ae⟩ ⟨Ah,Ah,Ae⟩ Ae
 refine O<|O<|Ag<|Ag<|Ag<|Ag<|Aq h fun aj V h=>As.mk _ (Af7 (a0:=a0) (a1:=v31) (a2:=i) V) rfl<|Ag<|O<|Aa<|Am h (fun b h=>?_) fun b h=>?_
 refine Z<|Ac<|O<|Aa<|Ak ?_
 have h:=u _ (Ai h)
 have h:=c _ (Ai h)
 exact A3 h
 exact An<|Ac<|O<|O<|O<|O<|W3 (f:=Av) (l:=g) (x:=true) rfl rfl<|Aa<|Ac<|O<|Aw.mk _ rfl<|O<|Aa<|hn4 _ _ _ _ (Ai h) ⟨rfl,rfl,Ae⟩ ⟨Ah,Ah,Ae⟩ Ae
 refine Bh<|Bg rfl ?_
 have h:=u _ (Ai h)
 exact Ac<|O<|Aw.mk _ rfl<|O<|Aa<|hn1 _ _ _ _ (Ai h) ⟨rfl,rfl,Ae⟩ ⟨Ah,Ah,Ae⟩ Ae
 refine Bh<|Bg rfl ?_
 have h:=c _ (Ai h)
 exact Z<|Ac<|O<|Aa<|Ak<|A3 h
theorem Ao6 {a0:(List A5)} {r:Bool} (h:Xj a0=some r):Bb Tryz.prog 187 [Qu (Hk.mk a0 [] [] [])] (Av r):=by
 unfold Xj at h
 refine Bv Tryz.func187 rfl (by kernel_rfl) (by kernel_rfl) rfl ?_
 refine Z<|Ac<|O<|O<|Aa<|Z<|B0<|O<|O<|O<|O<|Ax (f:=Il) (l:=[]) rfl<|O<|Gx (f:=(Af .i64)) (z:=(0:Int)) rfl h fun u h=>O<|O<|O<|Aa<|Bj.mk (by kernel_rfl)<|Z<|Z<|Ac<|O<|O ?_
 refine O<|Ax (f:=Jd) (l:=[]) rfl<|O<|Aa<|Ay<|Bn h (fun _=>[(2,(Av false)),(18,(Af .i64 0))]) (fun _=>[]) (fun _=>True) (fun _=>rfl) ⟨rfl,rfl,Ae⟩ ⟨Ah,Ah,Ah,Ae⟩ Ae ?_
 rintro _ s y k i c hn1 _
 refine Z<|Ac<|O<|Aa<|Z<|Fg<|Bh<|Bg rfl ?_
 have h:=c _ (Ai i)
 refine Z<|Z<|Ac<|O<|O<|O<|Ax (f:=Il) (l:=[]) rfl<|O<|Aa<|Ay<|Bn h (fun _=>[(2,(Av false)),(30,(Af .i64 0))]) (fun _=>[]) (fun _=>True) (fun _=>rfl) ⟨rfl,rfl,Ae⟩ ⟨Ah,Ah,Ah,Ae⟩ Ae ?_
 rintro _ q x j g b hn2 _
 refine Z<|Ac<|O<|Aa<|Z<|Fg<|Bh<|Bg rfl ?_
 have h:=b _ (Ai g)
 exact Z<|Ac<|O<|Aa<|Ak<|A3 h
theorem Ao7 {a0:(List A5)} {r:Bool} (h:Xi a0=some r):Bb Tryz.prog 186 [Qu (Hk.mk a0 [] [] [])] (Av r):=by
 unfold Xi at h
 refine Bv Tryz.func186 rfl (by kernel_rfl) (by kernel_rfl) rfl ?_
 refine Z<|Ac<|O<|O<|Aa<|Z<|Ac<|O<|O<|O<|Ax (f:=Ba) (l:=[]) (Bq _)<|O<|Gx (f:=Av) (z:=(false:Bool)) rfl h fun j h=>O<|O<|Aa<|Z<|Ac<|O<|O<|O<|Aa<|Z<|Ac ?_
 refine O<|Aa<|Z<|Ac<|O<|O<|Aa<|Z<|Z<|Ac<|O<|O<|O<|Ax (f:=Il) (l:=[]) rfl<|O<|Aa<|Ay<|Bn h (fun _=>[(2,(Av false)),(17,(Af .i64 0))]) (fun _=>[]) (fun _=>True) (fun _=>rfl) ⟨rfl,rfl,Ae⟩ ⟨Ah,Ah,Ah,Ah,Ah,Ae⟩ Ae ?_
 rintro _ i k g c b hn1 _
 refine Z<|Ac<|O<|Aa<|Z<|Fg<|Bh<|Bg rfl ?_
 have h:=b _ (Ai c)
 exact Z<|Ac<|O<|Aa<|Ak<|A3 h
theorem Ao8 {a0:(List A5)} {r:Bool} (h:Xg a0=some r):Bb Tryz.prog 184 [Qu (Hk.mk a0 [] [] [])] (Av r):=by
 unfold Xg at h
 refine Bv Tryz.func184 rfl (by kernel_rfl) (by kernel_rfl) rfl ?_
 refine Z<|Ac<|O<|O<|Aa<|Z<|Ac<|O<|O<|O<|Ax (f:=Jd) (l:=[]) rfl<|O<|Gx (f:=Av) (z:=(false:Bool)) rfl h fun u h=>O<|O<|Aa<|Z<|Ac<|O<|O<|Aa<|Z<|Ac<|O ?_
 refine O<|Aa<|Z<|Z<|Ac<|O<|O<|O<|Ax (f:=Il) (l:=[]) rfl<|O<|Aa<|Ay<|Bn h (fun _=>[(2,(Av false)),(20,(Af .i64 0))]) (fun _=>[]) (fun _=>True) (fun _=>rfl) ⟨rfl,rfl,Ae⟩ ⟨Ah,Ah,Ah,Ah,Ae⟩ Ae ?_
 rintro _ s y k i c hn1 _
 refine Z<|Ac<|O<|Aa<|Z<|Fg<|Bh<|Bg rfl ?_
 have h:=c _ (Ai i)
 refine Z<|Z<|Ac<|O<|O<|O<|Ax (f:=Jd) (l:=[]) rfl<|O<|Aa<|Ay<|Bn h (fun _=>[(2,(Av false)),(33,(Af .i64 0))]) (fun _=>[]) (fun _=>True) (fun _=>rfl) ⟨rfl,rfl,Ae⟩ ⟨Ah,Ah,Ah,Ah,Ae⟩ Ae ?_
 rintro _ q x j g b hn2 _
 refine Z<|Ac<|O<|Aa<|Z<|Fg<|Bh<|Bg rfl ?_
 have h:=b _ (Ai g)
 exact Z<|Ac<|O<|O<|O<|O<|Ax (f:=Jd) (l:=[]) rfl<|O<|O<|Aa<|Ak<|A3 h
theorem Ao9 {a0:Ao} {b0:Hk} {r:Bool} (h:Xl a0 b0=some r):Cm Tryz.prog 246 [Ba a0,(.loc 0 0)] [.cells 165 [(.sl 3 (List.map Bf b0.Data)),(.sl 7 (List.map Il b0.Codes)),(.sl 3 (Bi b0.Vars)),(.sl 8 (List.map Jd b0.Exprs))]] (Av r) [.cells 165 [(.sl 3 (List.map Bf b0.Data)),(.sl 7 (List.map Il b0.Codes)),(.sl 3 (Bi b0.Vars)),(.sl 8 (List.map Jd b0.Exprs))]]:=by
 unfold Xl at h
 refine D0 (C:={T:=B4,an:=(fun _=>.ask)}) true B8 B5 Tryz.func246 rfl (by kernel_rfl) (by kernel_rfl) rfl ?_
 refine Z<|Ac<|O<|O<|Aa<|Z<|Ac<|O<|O<|O<|O<|Aq h fun v2 b h=>As.mk _ (Oe (a0:=b0.Data) (a1:=a0) (a2:=0) b) rfl<|O<|O<|Aa<|Ak ?_
 cases h
 exact ⟨rfl,rfl,Ae⟩
theorem Apa {a0:(List Ao)} {b0:Hk} {r:Int} (h:Xn a0 b0=some r):Cm Tryz.prog 297 [(Ck 3 Bi) a0,(.fn 246 [(.loc 0 0)])] [.cells 165 [(.sl 3 (List.map Bf b0.Data)),(.sl 7 (List.map Il b0.Codes)),(.sl 3 (Bi b0.Vars)),(.sl 8 (List.map Jd b0.Exprs))]] ((Af .i64) r) [.cells 165 [(.sl 3 (List.map Bf b0.Data)),(.sl 7 (List.map Il b0.Codes)),(.sl 3 (Bi b0.Vars)),(.sl 8 (List.map Jd b0.Exprs))]]:=by
 unfold Xn at h
 refine D0 (C:={T:=B4,an:=(fun _=>.ask)}) true B8 B5 Tryz.func297 rfl (by kernel_rfl) (by kernel_rfl) rfl ?_
 refine Z<|Ac<|O<|Aa<|Z<|Z<|Ac<|O<|O<|Ax (f:=Ba) (l:=a0) (Bq _)<|O<|Aa<|Ay<|Bn h (fun v3=>[(4,(Af .i64 0)),(8,(Af .i64 v3))]) (fun v3=>[]) (fun _=>True) (fun _=>rfl) ⟨rfl,rfl,Ae⟩ ⟨Ah,Ae⟩ Ae ?_
 rintro v3 q u i g c hn1 _
 refine Z<|Ac<|O<|Aa<|Z<|Am g (fun b h=>?_) fun b h=>?_
 refine An<|Z<|Ay<|Z<|Ac<|O<|O<|Aa<|Z<|Ac<|O<|O<|O<|O<|A7 (f:=Ba) (Bq _) h fun s v4 i4 k h=>O<|O<|Aq h fun v5 j h=>As.act [0] _ _ _ _ (Ao9 (a0:=v4) (b0:=b0) j) rfl rfl ⟨rfl,Ae⟩<|Aa<|Am h (fun b h=>?_) fun b h=>?_
 refine Z<|Ac<|O<|O<|Aa<|Ak ?_
 have h:=c _ (Ai h)
 cases h
 exact ⟨rfl,rfl,Ae⟩
 exact An<|Ac<|O<|Aw.mk _ rfl<|O<|Aa<|hn1 _ _ _ _ (Ai h) ⟨rfl,rfl,Ae⟩ ⟨Ah,Ae⟩ Ae
 refine Bh<|Bg rfl ?_
 have h:=c _ (Ai h)
 refine Z<|Ac<|O<|Aa<|Ak ?_
 cases h
 exact ⟨rfl,rfl,Ae⟩
theorem Apb {a0:(List Ao)} {b0:Hk} {r:Bool} (h:Xk a0 b0=some r):Cm Tryz.prog 245 [(Ck 3 Bi) a0,(.fn 246 [(.loc 0 0)])] [.cells 165 [(.sl 3 (List.map Bf b0.Data)),(.sl 7 (List.map Il b0.Codes)),(.sl 3 (Bi b0.Vars)),(.sl 8 (List.map Jd b0.Exprs))]] (Av r) [.cells 165 [(.sl 3 (List.map Bf b0.Data)),(.sl 7 (List.map Il b0.Codes)),(.sl 3 (Bi b0.Vars)),(.sl 8 (List.map Jd b0.Exprs))]]:=by
 unfold Xk at h
 refine D0 (C:={T:=B4,an:=(fun _=>.ask)}) true B8 B5 Tryz.func245 rfl (by kernel_rfl) (by kernel_rfl) rfl ?_
 refine Z<|Ac<|O<|Aa<|Z<|Ac<|O<|O<|O<|Aq h fun c b h=>As.act [0] _ _ _ _ (Apa (a0:=a0) (b0:=b0) b) rfl rfl ⟨rfl,Ae⟩<|O<|O<|Aa<|Ak ?_
 cases h
 exact ⟨rfl,rfl,Ae⟩
theorem Apc {a0:(List A5)} {r:Bool} (h:Xe a0=some r):Bb Tryz.prog 182 [Qu (Hk.mk a0 [] [] [])] (Av r):=by
 unfold Xe at h
 refine Bv Tryz.func182 rfl (by kernel_rfl) (by kernel_rfl) rfl ?_
 exact Z<|Ac<|O<|O<|Aa<|Z<|Ac<|O<|O<|O<|Ax (f:=Ba) (l:=[]) (Bq _)<|O<|O<|Ag<|Ag<|Ag<|Ag<|Aq h fun v2 b h=>As.act [0] _ _ _ _ (Apb (a0:=[]) (b0:=(Hk.mk a0 [] [] [])) b) rfl rfl ⟨rfl,Ae⟩<|Ag<|O<|O<|Aa<|Ak<|A3 h
theorem Xu {a0:(List A5)} {r:Bool} (h:Ns a0=some r):Bb Tryz.prog 114 [Qu (Hk.mk a0 [] [] [])] (Av r):=by
 unfold Ns at h
 refine Bv Tryz.func114 rfl (by kernel_rfl) (by kernel_rfl) rfl ?_
 refine Z<|Ac<|O<|O<|Aa<|Z<|Ac<|O<|O<|O<|Aq h fun v2 l h=>As.mk _ (Ao5 (a0:=a0) l) rfl<|O<|A6 (s:=6) h (fun b h=>?_) fun b h=>?_
 refine Ag<|Ag<|Aq h fun v3 k h=>As.mk _ (Apc (a0:=a0) k) rfl<|O<|O<|A6 (s:=10) h (fun b h=>?_) fun b h=>?_
 refine Ag<|Ag<|Aq h fun v4 j h=>As.mk _ (Aot (a0:=a0) j) rfl<|O<|O<|A6 (s:=14) h (fun b h=>?_) fun b h=>?_
 refine Ag<|Ag<|Aq h fun v5 i h=>As.mk _ (Ao8 (a0:=a0) i) rfl<|O<|O<|A6 (s:=18) h (fun b h=>?_) fun b h=>?_
 refine Ag<|Ag<|Aq h fun q g h=>As.mk _ (Aos (a0:=a0) g) rfl<|O<|O<|A6 (s:=22) h (fun b h=>?_) fun b h=>?_
 refine Ag<|Ag<|Aq h fun v7 f h=>As.mk _ (Ao7 (a0:=a0) f) rfl<|O<|O<|A6 (s:=26) h (fun b h=>?_) fun b h=>?_
 exact Ag<|Ag<|Aq h fun v8 c h=>As.mk _ (Ao6 (a0:=a0) c) rfl<|O<|O<|Aa<|Ak<|A3 h
 exact Ad<|Ad<|O<|O<|Aa<|Ak<|A3 h
 exact Ad<|Ad<|O<|O<|Ad<|Ad<|O<|O<|Aa<|Ak<|A3 h
 exact Ad<|Ad<|O<|O<|Ad<|Ad<|O<|O<|Ad<|Ad<|O<|O<|Aa<|Ak<|A3 h
 exact Ad<|Ad<|O<|O<|Ad<|Ad<|O<|O<|Ad<|Ad<|O<|O<|Ad<|Ad<|O<|O<|Aa<|Ak<|A3 h
 exact Ad<|Ad<|O<|O<|Ad<|Ad<|O<|O<|Ad<|Ad<|O<|O<|Ad<|Ad<|O<|O<|Ad<|Ad<|O<|O<|Aa<|Ak<|A3 h
 refine Ad<|Ad<|O<|O<|Ad<|Ad<|O<|O<|Ad<|Ad<|O<|O<|Ad<|Ad<|O<|O<|Ad<|Ad<|O<|O<|Ad<|Ad<|O<|O ?_
 exact Aa<|Ak<|A3 h
theorem Af8 {a0:(List A5)} {a1:Ao} {r:Bool} (h:P0 a0 a1=some r):Bb Tryz.prog 145 [(A2 3 Bf) a0,Ba a1] (Av r):=by
 unfold P0 at h
 refine C2 (C:={T:=B4,an:=(fun _=>.ask),nl:=(fun s=>bif Nat.beq s 6 then [(1,7),(2,3),(3,8)] else [])}) B8 B5 Tryz.func145 rfl (by kernel_rfl) (by kernel_rfl) rfl ?_
 refine Z<|Ac<|O<|O<|Aa<|Z<|Ac<|O<|O<|O<|Aq h fun v2 f h=>As.mk _ (Xu (a0:=a0) f) rfl<|O<|A6 (s:=8) h (fun b h=>?_) fun b h=>?_
 exact Ag<|Ag<|Ag<|Aq h fun v3 c h=>As.mk _ (Oe (a0:=a0) (a1:=a1) (a2:=0) c) rfl<|O<|O<|Aa<|Ak<|A3 h
 exact Ad<|Ad<|Ad<|O<|O<|Aa<|Ak<|A3 h
theorem Apd {a0:(List A5)} {a1:Ao} {a2:Be} {r:Int} (h:Sa a0 a1 a2=some r):Bb Tryz.prog 95 [(A2 3 Bf) a0,Ba a1,Bw a2] ((Af .i64) r):=by
 unfold Sa at h
 refine Bv Tryz.func95 rfl (by kernel_rfl) (by kernel_rfl) rfl ?_
 refine Z<|Ac<|O<|O<|O<|Aa<|Z<|Z<|Ac<|O<|O<|O<|Aq h fun v3 f h=>As.mk _ (Af8 (a0:=a0) (a1:=a1) f) rfl<|O<|Aa<|Am h (fun b h=>?_) fun b h=>?_
 exact Z<|Ac<|O<|Aa<|Ak<|Bu h
 refine An<|Z<|Ac<|O<|O<|O<|O<|Aq h fun v4 c h=>As.mk _ (Aor (a0:=a0) (a1:=a1) (a2:=a2) c) rfl<|O<|O<|O<|O<|O<|Aa<|Z<|Z<|Ac<|O<|O<|Aa<|Am h (fun b h=>?_) fun b h=>?_
 exact Z<|Ac<|O<|Aa<|Ak<|Bu h
 exact An<|Z<|Ac<|O<|O<|Aa<|Ak<|Bu h
theorem Aba {a0:Cp} {a1:D1} {r:(Int×Int×Bool)} (h:I3 a0 a1=some r):Bb Tryz.prog 43 [Fe a0,C4 a1] (.tup [(Af .i64) r.1,(Af .i64) r.2.1,Av r.2.2]):=by
 unfold I3 at h
 refine Bv Tryz.func43 rfl (by kernel_rfl) (by kernel_rfl) rfl ?_
 refine Z<|Ac<|O<|O<|O<|O<|O<|Aa<|Z<|Ac<|O<|O<|O<|O<|Aq h fun v3 M h=>As.mk _ (Afu (a0:=a0) (a1:=a1.Var) M) rfl<|O<|O<|O<|O<|O<|O<|Aa<|Z ?_
 refine Z<|Ac<|O<|O<|Aa<|Am h (fun b h=>?_) fun b h=>?_
 exact Z<|Ac<|O<|O<|O<|Aa<|Ak<|congrArg (fun x:(Int×Int×Bool)=>(.tup [(Af .i64) x.1,(Af .i64) x.2.1,Av x.2.2]:AV))<|Ai h
 refine An<|Z<|Ac<|O<|O<|O<|O<|Aa<|Z<|Z<|Ac<|O<|O<|Aa<|Ay<|Z<|Ac<|O<|O<|Aa<|Am h (fun b h=>?_) fun b h=>?_
 exact Z<|B0<|O<|O<|O<|O<|O<|O<|O<|O<|Aa<|Bj.mk (by kernel_rfl)<|Ak<|congrArg (fun x:(Int×Int×Bool)=>(.tup [(Af .i64) x.1,(Af .i64) x.2.1,Av x.2.2]:AV))<|Ai h
 refine Z<|Ac<|O<|O<|Aa<|Am h (fun b h=>?_) fun b h=>?_
 refine Z<|Z<|Cd h fun i k q=>Ce (fun (v7:Bool)=>v7=i) (fun v7=>[(47,(Av v7))]) (fun v7=>[]) (fun _=>rfl) ?_ ?_
 intro U hK1
 refine B0<|O<|O<|O<|Ax (f:=Bw) (l:=a1.Index.Kids) (Cu _)<|O<|O<|A6 (s:=37) k (fun b h=>?_) fun b h=>?_
 exact Ad<|Ad<|Ad<|Ad<|Ad<|Ad<|Ad<|Ad<|Ad<|O<|Aa<|Bj.mk (by kernel_rfl)<|hK1 true _ _ _ (Ai h) ⟨rfl,Ae⟩ ⟨Ah,Ah,Ah,Ah,Ae⟩
 exact Ag<|Ag<|Ag<|Ag<|Ag<|Aq h fun B L h=>As.mk _ (Apd (a0:=a0.Data) (a1:=v3.1) (a2:=a1.Index) L) rfl<|Ag<|Ag<|Ag<|Ax (f:=Bw) (l:=a1.Index.Kids) (Cu _)<|Ag<|O<|Aa<|Bj.mk (by kernel_rfl)<|hK1 (B != (a1.Index.Kids.length:Int)) _ _ _ (Ai h) ⟨rfl,Ae⟩ ⟨Ah,Ah,Ah,Ah,Ae⟩
 rintro v7 R u
 have h:=q _ u
 refine Am h (fun b h=>?_) fun b h=>?_
 exact Z<|Ac<|O<|O<|O<|Aa<|Ak<|congrArg (fun x:(Int×Int×Bool)=>(.tup [(Af .i64) x.1,(Af .i64) x.2.1,Av x.2.2]:AV))<|Ai h
 refine An<|Z<|Z<|Ac<|O<|O<|O<|Ax (f:=Bw) (l:=a1.Index.Kids) (Cu _)<|O<|Aa<|Ay<|Bn h (fun c=>[(4,(Af .i64 0)),(5,(Af .i64 0)),(6,(Av v3.2)),(51,(Af .i64 c))]) (fun c=>[]) (fun _=>True) (fun _=>rfl) ⟨rfl,rfl,rfl,rfl,Ae⟩ ⟨Ah,Ah,Ah,Ah,Ae⟩ Ae ?_
 rintro c N S E j g hn2 _
 refine Z<|Ac<|O<|Aa<|Z<|Am j (fun b h=>?_) fun b h=>?_
 refine An<|Z<|Ay<|Z<|Ac<|O<|A7 (f:=Bw) (Cu _) h fun J v12 i12 A h=>O<|O<|O<|Aa<|Z<|B0<|O<|O<|O<|O<|O<|A7 (f:=Bw) (Cu _) h fun I D i14 z h=>O<|O<|O<|Aa<|Bj.mk (by kernel_rfl) ?_
 refine Am h (fun b h=>?_) fun b h=>?_
 refine Z<|Ac<|O<|O<|O<|Aa<|Ak ?_
 have h:=g _ (Ai h)
 exact congrArg (fun x:(Int×Int×Bool)=>(.tup [(Af .i64) x.1,(Af .i64) x.2.1,Av x.2.2]:AV))<|Ai h
 exact An<|Ac<|O<|Aw.mk _ rfl<|O<|Aa<|hn2 _ _ _ _ (Ai h) ⟨rfl,rfl,rfl,rfl,Ae⟩ ⟨Ah,Ah,Ah,Ah,Ae⟩ Ae
 refine Bh<|Bg rfl ?_
 have h:=g _ (Ai h)
 exact Z<|B0<|O<|O<|O<|A7 (f:=Bw) (Cu _) h fun G v18 i18 y h=>O<|O<|O<|O<|O<|Ax (f:=Bw) (l:=a1.Index.Kids) (Cu _)<|O<|O<|O<|Aa<|Bj.mk (by kernel_rfl)<|Ak<|congrArg (fun x:(Int×Int×Bool)=>(.tup [(Af .i64) x.1,(Af .i64) x.2.1,Av x.2.2]:AV))<|Ai h
 exact An<|Z<|Ac<|O<|O<|O<|Aa<|Ak<|congrArg (fun x:(Int×Int×Bool)=>(.tup [(Af .i64) x.1,(Af .i64) x.2.1,Av x.2.2]:AV))<|Ai h
theorem Af9 {a0:Int} {r:Bool} (h:Su a0=some r):Bb Tryz.prog 238 [(Af .i64) a0] (Av r):=by
 unfold Su at h
 refine Bv Tryz.func238 rfl (by kernel_rfl) (by kernel_rfl) rfl ?_
 exact Z<|Ac<|O<|Aa<|Z<|Ac<|O<|O<|O<|O<|Aa<|Ak<|A3 h
theorem Of {a0:Int} {a1:Int} {r:Int} (h:Jb a0 a1=some r):Bb Tryz.prog 171 [(Af .i64) a0,(Af .i64) a1] ((Af .i64) r):=by
 unfold Jb at h
 refine Bv Tryz.func171 rfl (by kernel_rfl) (by kernel_rfl) rfl ?_
 refine Z<|Ac<|O<|Aa<|Z<|Ac<|O<|O<|Aq h fun g f h=>As.mk _ (Af9 (a0:=a0) f) rfl<|O<|Aa<|Z<|Ac<|O<|O<|Aq h fun v2 c h=>As.mk _ (Af9 (a0:=a1) c) rfl<|O<|Aa<|Z<|Z<|Ac<|O ?_
 refine Aa<|Am h (fun b h=>?_) fun b h=>?_
 refine Z<|Z<|Ac<|O<|Aa<|Am h (fun b h=>?_) fun b h=>?_
 exact Z<|Ac<|O<|Aa<|Ak<|Bu h
 exact An<|Z<|Ac<|O<|Aa<|Ak<|Bu h
 refine An<|Z<|Z<|Ac<|O<|Aa<|Am h (fun b h=>?_) fun b h=>?_
 exact Z<|Ac<|O<|Aa<|Ak<|Bu h
 refine An<|Z<|Z<|Ac<|O<|O<|O<|Aa<|Am h (fun b h=>?_) fun b h=>?_
 exact Z<|Ac<|O<|Aa<|Ak<|Bu h
 refine An<|Z<|Z<|Ac<|O<|O<|O<|Aa<|Am h (fun b h=>?_) fun b h=>?_
 exact Z<|Ac<|O<|Aa<|Ak<|Bu h
 exact An<|Z<|Ac<|O<|Aa<|Ak<|Bu h
theorem Te {a0:(List Int)} {r:Int} (h:Kf a0=some r):Bb Tryz.prog 174 [(A2 1 (Af .i64)) a0] ((Af .i64) r):=by
 unfold Kf at h
 refine Bv Tryz.func174 rfl (by kernel_rfl) (by kernel_rfl) rfl ?_
 refine Z<|Ac<|O<|Aa<|Z<|Ac<|O<|Aa<|Z<|Z<|Ac<|O<|O<|Ax (f:=(Af .i64)) (l:=a0) rfl<|O<|Aa<|Ay<|Bn h (fun v2=>[(2,(Af .i64 0)),(8,(Af .i64 v2))]) (fun v2=>[]) (fun _=>True) (fun _=>rfl) ⟨rfl,rfl,Ae⟩ Ae Ae ?_
 rintro v2 k s i g c hn1 _
 refine Z<|Ac<|O<|Aa<|Z<|Am g (fun b h=>?_) fun b h=>?_
 refine An<|Z<|Ay<|Z<|Ac<|O<|A7 (f:=(Af .i64)) rfl h fun q v3 i3 j h=>O<|O<|Aa<|Z<|Ac<|O<|O<|O<|Aa<|Am h (fun b h=>?_) fun b h=>?_
 refine Z<|Ac<|O<|O<|Aa<|Ak ?_
 have h:=c _ (Ai h)
 exact Bu h
 exact An<|Ac<|O<|Aw.mk _ rfl<|O<|Aa<|hn1 _ _ _ _ (Ai h) ⟨rfl,rfl,Ae⟩ Ae Ae
 refine Bh<|Bg rfl ?_
 have h:=c _ (Ai h)
 exact Z<|Ac<|O<|O<|Aa<|Ak<|Bu h
theorem Aga {a0:Int} {r:Bool} (h:U5 a0=some r):Bb Tryz.prog 294 [(Af .i64) a0] (Av r):=by
 unfold U5 at h
 refine Bv Tryz.func294 rfl (by kernel_rfl) (by kernel_rfl) rfl ?_
 exact Z<|Ac<|O<|Aa<|Z<|Ac<|O<|O<|O<|O<|Aa<|Ak<|A3 h
theorem Agb {a0:Int} {a1:Int} {r:Int} (h:Sw a0 a1=some r):Bb Tryz.prog 242 [(Af .i64) a0,(Af .i64) a1] ((Af .i64) r):=by
 unfold Sw at h
 refine Bv Tryz.func242 rfl (by kernel_rfl) (by kernel_rfl) rfl ?_
 refine Z<|Ac<|O<|Aa<|Z<|Ac<|O<|O<|Aq h fun g f h=>As.mk _ (Aga (a0:=a0) f) rfl<|O<|Aa<|Z<|Ac<|O<|O<|Aq h fun v2 c h=>As.mk _ (Aga (a0:=a1) c) rfl<|O<|Aa<|Z<|Z<|Ac<|O ?_
 refine Aa<|Am h (fun b h=>?_) fun b h=>?_
 refine Z<|Z<|Ac<|O<|Aa<|Am h (fun b h=>?_) fun b h=>?_
 exact Z<|Ac<|O<|Aa<|Ak<|Bu h
 exact An<|Z<|Ac<|O<|Aa<|Ak<|Bu h
 refine An<|Z<|Z<|Ac<|O<|Aa<|Am h (fun b h=>?_) fun b h=>?_
 exact Z<|Ac<|O<|Aa<|Ak<|Bu h
 refine An<|Z<|Z<|Ac<|O<|O<|O<|Aa<|Am h (fun b h=>?_) fun b h=>?_
 exact Z<|Ac<|O<|Aa<|Ak<|Bu h
 refine An<|Z<|Z<|Ac<|O<|O<|O<|Aa<|Am h (fun b h=>?_) fun b h=>?_
 exact Z<|Ac<|O<|Aa<|Ak<|Bu h
 exact An<|Z<|Ac<|O<|Aa<|Ak<|Bu h
theorem Ape {a0:Fv} {a1:Fv} {r:Int} (h:Sv a0 a1=some r):Bb Tryz.prog 241 [Dq a0,Dq a1] ((Af .i64) r):=by
 unfold Sv at h
 refine Bv Tryz.func241 rfl (by kernel_rfl) (by kernel_rfl) rfl ?_
 refine Z<|Ac<|O<|O<|O<|Aa<|Z<|B0<|O<|O<|O<|O<|O<|Aq h fun v3 f h=>As.mk _ (Of (a0:=a0.Var) (a1:=a1.Var) f) rfl<|O<|O<|O<|O<|O<|Aq h fun v4 c h=>As.mk _ (Agb (a0:=a0.Coef) (a1:=a1.Coef) c) rfl<|O<|O ?_
 exact Aq h fun v5 b h=>As.mk _ (Te (a0:=[v3,v4]) b) rfl<|O<|Aa<|Bj.mk (by kernel_rfl)<|Ak<|Bu h
end Go.Ab
namespace Go.Ab
open Go Go.Proofs
set_option maxRecDepth 10000
theorem Apf {a0:(List Fv)} {a1:(List Fv)} {r:Int} (h:U3 a0 a1=some r):Bb Tryz.prog 240 [(A2 2 Dq) a0,(A2 2 Dq) a1,(.fn 241 [])] ((Af .i64) r):=by
 unfold U3 at h
 refine Bv Tryz.func240 rfl (by kernel_rfl) (by kernel_rfl) rfl ?_
 refine Z<|Ac<|O<|Aa<|Z<|Z<|Ac<|O<|O<|Ax (f:=Dq) (l:=a0) rfl<|O<|Aa<|Ay<|Bn h (fun g=>[(6,(Af .i64 0)),(13,(Af .i64 g))]) (fun g=>[]) (fun _=>True) (fun _=>rfl) ⟨rfl,rfl,Ae⟩ Ae Ae ?_
 rintro g x A q i c hn1 _
 refine Z<|Ac<|O<|Aa<|Z<|Am i (fun b h=>?_) fun b h=>?_
 refine An<|Z<|Ay<|Z<|Ac<|O<|O<|A7 (f:=Dq) rfl h fun z v7 i7 u h=>O<|O<|O<|O<|Aa<|Z<|Z<|Ac<|O<|O<|O<|Ax (f:=Dq) (l:=a1) rfl<|O<|Aa<|Am h (fun b h=>?_) fun b h=>?_
 refine Z<|Ac<|O<|Aa<|Ak ?_
 have h:=c _ (Ai h)
 exact Bu h
 refine An<|Z<|Ac<|O<|O<|O<|A7 (f:=Dq) rfl h fun y v9 i9 s h=>O<|O<|O<|Aa<|Z<|Ac<|O<|O<|O<|O<|Aq h fun k j h=>As.mk _ (Ape (a0:=v7) (a1:=v9) j) rfl<|O<|Aa<|Z<|Ac<|O ?_
 refine O<|Aa<|Am h (fun b h=>?_) fun b h=>?_
 refine Z<|Ac<|O<|O<|Aa<|Ak ?_
 have h:=c _ (Ai h)
 exact Bu h
 exact An<|Ac<|O<|Aw.mk _ rfl<|O<|Aa<|hn1 _ _ _ _ (Ai h) ⟨rfl,rfl,Ae⟩ Ae Ae
 refine Bh<|Bg rfl ?_
 have h:=c _ (Ai h)
 refine Z<|Z<|Ac<|O<|O<|Ax (f:=Dq) (l:=a0) rfl<|O<|O<|Ax (f:=Dq) (l:=a1) rfl<|O<|Aa<|Am h (fun b h=>?_) fun b h=>?_
 exact Z<|Ac<|O<|Aa<|Ak<|Bu h
 exact An<|Z<|Ac<|O<|Aa<|Ak<|Bu h
theorem Agc {a0:Ey} {a1:Ey} {r:Int} (h:Ms a0 a1=some r):Bb Tryz.prog 178 [Km a0,Km a1] ((Af .i64) r):=by
 unfold Ms at h
 refine Bv Tryz.func178 rfl (by kernel_rfl) (by kernel_rfl) rfl ?_
 refine Z<|Ac<|O<|O<|O<|Aa<|Z<|Z<|Ac<|O<|O<|O<|Ax (f:=Dq) (l:=a0.Terms) rfl<|O<|O<|O<|Ax (f:=Dq) (l:=a1.Terms) rfl<|O<|Aq h fun v3 j h=>As.mk _ (Of (a0:=(a0.Terms.length:Int)) (a1:=(a1.Terms.length:Int)) j) rfl<|O<|Aa<|Z<|Ac ?_
 refine O<|O<|Aa<|Am h (fun b h=>?_) fun b h=>?_
 exact Z<|Ac<|O<|O<|Aa<|Ak<|Bu h
 refine An<|Z<|Ac<|O<|O<|O<|O<|O<|Aq h fun v4 i h=>As.mk _ (Apf (a0:=a0.Terms) (a1:=a1.Terms) i) rfl<|O<|Aa<|Z<|Ac<|O<|O<|O<|O<|O<|O<|Aq h fun v5 g h=>As.mk _ (Agb (a0:=a0.Const) (a1:=a1.Const) g) rfl<|O<|O ?_
 exact Aq h fun k c h=>As.mk _ (Te (a0:=[v4,v5]) c) rfl<|O<|Aa<|Ak<|Bu h
theorem Apg {a0:Ek} {a1:Ek} {r:Int} (h:Sl a0 a1=some r):Bb Tryz.prog 177 [Dk a0,Dk a1] ((Af .i64) r):=by
 unfold Sl at h
 refine Bv Tryz.func177 rfl (by kernel_rfl) (by kernel_rfl) rfl ?_
 refine Z<|Ac<|O<|O<|O<|Aa<|Z<|B0<|O<|O<|O<|O<|O<|Aq h fun v3 f h=>As.mk _ (Agc (a0:=a0.Lin) (a1:=a1.Lin) f) rfl<|O<|O<|O<|O<|O<|Aq h fun v4 c h=>As.mk _ (Of (a0:=a0.Deg) (a1:=a1.Deg) c) rfl<|O<|O ?_
 exact Aq h fun v5 b h=>As.mk _ (Te (a0:=[v3,v4]) b) rfl<|O<|Aa<|Bj.mk (by kernel_rfl)<|Ak<|Bu h
theorem Aph {a0:(List Ek)} {a1:(List Ek)} {r:Int} (h:Uz a0 a1=some r):Bb Tryz.prog 176 [(A2 3 Dk) a0,(A2 3 Dk) a1,(.fn 177 [])] ((Af .i64) r):=by
 unfold Uz at h
 refine Bv Tryz.func176 rfl (by kernel_rfl) (by kernel_rfl) rfl ?_
 refine Z<|Ac<|O<|Aa<|Z<|Z<|Ac<|O<|O<|Ax (f:=Dk) (l:=a0) rfl<|O<|Aa<|Ay<|Bn h (fun g=>[(6,(Af .i64 0)),(13,(Af .i64 g))]) (fun g=>[]) (fun _=>True) (fun _=>rfl) ⟨rfl,rfl,Ae⟩ Ae Ae ?_
 rintro g x A q i c hn1 _
 refine Z<|Ac<|O<|Aa<|Z<|Am i (fun b h=>?_) fun b h=>?_
 refine An<|Z<|Ay<|Z<|Ac<|O<|O<|A7 (f:=Dk) rfl h fun z v7 i7 u h=>O<|O<|O<|O<|Aa<|Z<|Z<|Ac<|O<|O<|O<|Ax (f:=Dk) (l:=a1) rfl<|O<|Aa<|Am h (fun b h=>?_) fun b h=>?_
 refine Z<|Ac<|O<|Aa<|Ak ?_
 have h:=c _ (Ai h)
 exact Bu h
 refine An<|Z<|Ac<|O<|O<|O<|A7 (f:=Dk) rfl h fun y v9 i9 s h=>O<|O<|O<|Aa<|Z<|Ac<|O<|O<|O<|O<|Aq h fun k j h=>As.mk _ (Apg (a0:=v7) (a1:=v9) j) rfl<|O<|Aa<|Z<|Ac<|O ?_
 refine O<|Aa<|Am h (fun b h=>?_) fun b h=>?_
 refine Z<|Ac<|O<|O<|Aa<|Ak ?_
 have h:=c _ (Ai h)
 exact Bu h
 exact An<|Ac<|O<|Aw.mk _ rfl<|O<|Aa<|hn1 _ _ _ _ (Ai h) ⟨rfl,rfl,Ae⟩ Ae Ae
 refine Bh<|Bg rfl ?_
 have h:=c _ (Ai h)
 refine Z<|Z<|Ac<|O<|O<|Ax (f:=Dk) (l:=a0) rfl<|O<|O<|Ax (f:=Dk) (l:=a1) rfl<|O<|Aa<|Am h (fun b h=>?_) fun b h=>?_
 exact Z<|Ac<|O<|Aa<|Ak<|Bu h
 exact An<|Z<|Ac<|O<|Aa<|Ak<|Bu h
theorem Agd:∀k:Nat,(∀(a0:Be) (a1:Be) (r:Int),Kg k a0 a1=some r->Bb Tryz.prog 175 [Bw (Be.mk a0.Num a0.Kids),Bw (Be.mk a1.Num a1.Kids)] ((Af .i64) r))/\(∀(a0:(List Be)) (a1:(List Be)) (r:Int),Qd k a0 a1=some r->Bb Tryz.prog 239 [(Ck 2 Fs) a0,(Ck 2 Fs) a1,(.fn 175 [])] ((Af .i64) r))
 | 0=>⟨(fun _ _ _ h=>by simp only [Kg] at h; cases h),(fun _ _ _ h=>by simp only [Qd] at h; cases h)⟩
 | k+1=>by
  have ih:=Agd k
  have g:∀{a0:Be} {a1:Be} {r:Int},Kg k a0 a1=some r->Bb Tryz.prog 175 [Bw (Be.mk a0.Num a0.Kids),Bw (Be.mk a1.Num a1.Kids)] ((Af .i64) r):=fun h=>ih.1 _ _ _ h
  have c:∀{a0:(List Be)} {a1:(List Be)} {r:Int},Qd k a0 a1=some r->Bb Tryz.prog 239 [(Ck 2 Fs) a0,(Ck 2 Fs) a1,(.fn 175 [])] ((Af .i64) r):=fun h=>ih.2 _ _ _ h
  refine ⟨?_,?_⟩
  .intro a0 a1 r h
   unfold Kg at h
   refine Bv Tryz.func175 rfl (by kernel_rfl) (by kernel_rfl) rfl ?_
   refine Z<|Ac<|O<|O<|O<|Aa<|Z<|Z<|B0<|O<|O<|O<|O<|O<|Aq h fun v3 B h=>As.mk _ (Of (a0:=a0.Num) (a1:=a1.Num) B) rfl<|O<|O<|O<|Ax (f:=Bw) (l:=a0.Kids) (Cu _)<|O<|O<|O<|Ax (f:=Bw) (l:=a1.Kids) (Cu _) ?_
   refine O<|Aq h fun v4 A h=>As.mk _ (Of (a0:=(a0.Kids.length:Int)) (a1:=(a1.Kids.length:Int)) A) rfl<|O<|O<|Aq h fun v5 z h=>As.mk _ (Te (a0:=[v3,v4]) z) rfl<|O<|Aa<|Bj.mk (by kernel_rfl)<|Z<|Ac<|O<|O<|Aa<|Am h (fun b h=>?_) fun b h=>?_
   exact Z<|Ac<|O<|O<|Aa<|Ak<|Bu h
   exact An<|Z<|Ac<|O<|O<|O<|O<|O<|Aq h fun j y h=>As.mk _ (c (a0:=a0.Kids) (a1:=a1.Kids) y) rfl<|O<|Aa<|Ak<|Bu h
  .intro a0 a1 r h
   unfold Qd at h
   refine Bv Tryz.func239 rfl (by kernel_rfl) (by kernel_rfl) rfl ?_
   refine Z<|Ac<|O<|Aa<|Z<|Z<|Ac<|O<|O<|Ax (f:=Bw) (l:=a0) (Cu _)<|O<|Aa<|Ay<|Bn h (fun j=>[(6,(Af .i64 0)),(13,(Af .i64 j))]) (fun j=>[]) (fun _=>True) (fun _=>rfl) ⟨rfl,rfl,Ae⟩ Ae Ae ?_
   rintro j G L x q i hn1 _
   refine Z<|Ac<|O<|Aa<|Z<|Am q (fun b h=>?_) fun b h=>?_
   refine An<|Z<|Ay<|Z<|Ac<|O<|O<|A7 (f:=Bw) (Cu _) h fun J v7 i7 E h=>O<|O<|O<|O<|Aa<|Z<|Z<|Ac<|O<|O<|O<|Ax (f:=Bw) (l:=a1) (Cu _)<|O<|Aa<|Am h (fun b h=>?_) fun b h=>?_
   refine Z<|Ac<|O<|Aa<|Ak ?_
   have h:=i _ (Ai h)
   exact Bu h
   refine An<|Z<|Ac<|O<|O<|O<|A7 (f:=Bw) (Cu _) h fun I v9 i9 D h=>O<|O<|O<|Aa<|Z<|Ac<|O<|O<|O<|O<|Aq h fun u s h=>As.mk _ (g (a0:=v7) (a1:=v9) s) rfl<|O<|Aa<|Z<|Ac<|O ?_
   refine O<|Aa<|Am h (fun b h=>?_) fun b h=>?_
   refine Z<|Ac<|O<|O<|Aa<|Ak ?_
   have h:=i _ (Ai h)
   exact Bu h
   exact An<|Ac<|O<|Aw.mk _ rfl<|O<|Aa<|hn1 _ _ _ _ (Ai h) ⟨rfl,rfl,Ae⟩ Ae Ae
   refine Bh<|Bg rfl ?_
   have h:=i _ (Ai h)
   refine Z<|Z<|Ac<|O<|O<|Ax (f:=Bw) (l:=a0) (Cu _)<|O<|O<|Ax (f:=Bw) (l:=a1) (Cu _)<|O<|Aa<|Am h (fun b h=>?_) fun b h=>?_
   exact Z<|Ac<|O<|Aa<|Ak<|Bu h
   exact An<|Z<|Ac<|O<|Aa<|Ak<|Bu h
theorem Api {k:Nat} {a0:Be} {a1:Be} {r:Int} (h:Kg k a0 a1=some r):Bb Tryz.prog 175 [Bw (Be.mk a0.Num a0.Kids),Bw (Be.mk a1.Num a1.Kids)] ((Af .i64) r):=(Agd k).1 _ _ _ h
theorem Apj {a0:D1} {a1:D1} {r:Int} (h:Sk a0 a1=some r):Bb Tryz.prog 173 [C4 a0,C4 a1] ((Af .i64) r):=by
 unfold Sk at h
 refine Bv Tryz.func173 rfl (by kernel_rfl) (by kernel_rfl) rfl ?_
 refine Z<|Ac<|O<|O<|O<|Aa<|Z<|B0<|O<|O<|O<|O<|O<|Aq h fun v3 f h=>As.mk _ (Of (a0:=a0.Var) (a1:=a1.Var) f) rfl<|O<|O<|O<|O<|O<|Aq h fun v4 c h=>As.mk _ (Api (a0:=a0.Index) (a1:=a1.Index) c) rfl<|O<|O ?_
 exact Aq h fun v5 b h=>As.mk _ (Te (a0:=[v3,v4]) b) rfl<|O<|Aa<|Bj.mk (by kernel_rfl)<|Ak<|Bu h
theorem Apk {a0:(List D1)} {a1:(List D1)} {r:Int} (h:Uy a0 a1=some r):Bb Tryz.prog 172 [(A2 3 C4) a0,(A2 3 C4) a1,(.fn 173 [])] ((Af .i64) r):=by
 unfold Uy at h
 refine Bv Tryz.func172 rfl (by kernel_rfl) (by kernel_rfl) rfl ?_
 refine Z<|Ac<|O<|Aa<|Z<|Z<|Ac<|O<|O<|Ax (f:=C4) (l:=a0) rfl<|O<|Aa<|Ay<|Bn h (fun g=>[(6,(Af .i64 0)),(13,(Af .i64 g))]) (fun g=>[]) (fun _=>True) (fun _=>rfl) ⟨rfl,rfl,Ae⟩ Ae Ae ?_
 rintro g x A q i c hn1 _
 refine Z<|Ac<|O<|Aa<|Z<|Am i (fun b h=>?_) fun b h=>?_
 refine An<|Z<|Ay<|Z<|Ac<|O<|O<|A7 (f:=C4) rfl h fun z v7 i7 u h=>O<|O<|O<|O<|Aa<|Z<|Z<|Ac<|O<|O<|O<|Ax (f:=C4) (l:=a1) rfl<|O<|Aa<|Am h (fun b h=>?_) fun b h=>?_
 refine Z<|Ac<|O<|Aa<|Ak ?_
 have h:=c _ (Ai h)
 exact Bu h
 refine An<|Z<|Ac<|O<|O<|O<|A7 (f:=C4) rfl h fun y v9 i9 s h=>O<|O<|O<|Aa<|Z<|Ac<|O<|O<|O<|O<|Aq h fun k j h=>As.mk _ (Apj (a0:=v7) (a1:=v9) j) rfl<|O<|Aa<|Z<|Ac<|O ?_
 refine O<|Aa<|Am h (fun b h=>?_) fun b h=>?_
 refine Z<|Ac<|O<|O<|Aa<|Ak ?_
 have h:=c _ (Ai h)
 exact Bu h
 exact An<|Ac<|O<|Aw.mk _ rfl<|O<|Aa<|hn1 _ _ _ _ (Ai h) ⟨rfl,rfl,Ae⟩ Ae Ae
 refine Bh<|Bg rfl ?_
 have h:=c _ (Ai h)
 refine Z<|Z<|Ac<|O<|O<|Ax (f:=C4) (l:=a0) rfl<|O<|O<|Ax (f:=C4) (l:=a1) rfl<|O<|Aa<|Am h (fun b h=>?_) fun b h=>?_
 exact Z<|Ac<|O<|Aa<|Ak<|Bu h
 exact An<|Z<|Ac<|O<|Aa<|Ak<|Bu h
theorem Abb {a0:C8} {a1:C8} {r:Int} (h:Lp a0 a1=some r):Bb Tryz.prog 110 [Hd a0,Hd a1] ((Af .i64) r):=by
 unfold Lp at h
 refine Bv Tryz.func110 rfl (by kernel_rfl) (by kernel_rfl) rfl ?_
 refine Z<|Ac<|O<|O<|O<|Aa<|Z<|Z<|Ac<|O<|O<|O<|Ax (f:=C4) (l:=a0.Factors) rfl<|O<|O<|O<|Ax (f:=C4) (l:=a1.Factors) rfl<|O<|Aq h fun v3 k h=>As.mk _ (Of (a0:=(a0.Factors.length:Int)) (a1:=(a1.Factors.length:Int)) k) rfl<|O<|Aa<|Z<|Ac ?_
 refine O<|O<|Aa<|Am h (fun b h=>?_) fun b h=>?_
 exact Z<|Ac<|O<|O<|Aa<|Ak<|Bu h
 refine An<|Z<|Ac<|O<|O<|O<|O<|O<|Aq h fun v4 j h=>As.mk _ (Apk (a0:=a0.Factors) (a1:=a1.Factors) j) rfl<|O<|Aa<|Z<|Z<|Ac<|O<|O<|O<|O<|Ax (f:=Dk) (l:=a0.Atoms) rfl<|O<|O<|O<|Ax (f:=Dk) (l:=a1.Atoms) rfl ?_
 refine O<|Aq h fun v5 i h=>As.mk _ (Of (a0:=(a0.Atoms.length:Int)) (a1:=(a1.Atoms.length:Int)) i) rfl<|O<|O<|Aq h fun q g h=>As.mk _ (Te (a0:=[v4,v5]) g) rfl<|O<|Aa<|Z<|Ac<|O<|O<|Aa<|Am h (fun b h=>?_) fun b h=>?_
 exact Z<|Ac<|O<|O<|Aa<|Ak<|Bu h
 exact An<|Z<|Ac<|O<|O<|O<|O<|O<|Aq h fun v7 c h=>As.mk _ (Aph (a0:=a0.Atoms) (a1:=a1.Atoms) c) rfl<|O<|Aa<|Ak<|Bu h
theorem Age {a0:Int} {r:Bool} (h:Qm a0=some r):Bb Tryz.prog 311 [(Af .i64) a0] (Av r):=by
 unfold Qm at h
 refine Bv Tryz.func311 rfl (by kernel_rfl) (by kernel_rfl) rfl ?_
 refine Z<|Ac<|O<|Aa<|Z<|Ac<|O<|O<|O<|A6 (s:=5) h (fun b h=>?_) fun b h=>?_
 exact Ag<|Ag<|O<|O<|Aa<|Ak<|A3 h
 exact Ad<|Ad<|O<|O<|Aa<|Ak<|A3 h
theorem Apl {a0:Int} {r:Bool} (h:S4 a0=some r):Bb Tryz.prog 312 [(Af .i64) a0] (Av r):=by
 unfold S4 at h
 refine Bv Tryz.func312 rfl (by kernel_rfl) (by kernel_rfl) rfl ?_
 refine Z<|Ac<|O<|Aa<|Z<|Ac<|O<|O<|O<|A6 (s:=5) h (fun b h=>?_) fun b h=>?_
 exact Ag<|Ag<|O<|O<|Aa<|Ak<|A3 h
 exact Ad<|Ad<|O<|O<|Aa<|Ak<|A3 h
theorem Apm {a0:Ey} {r:Bool} (h:Qg a0=some r):Bb Tryz.prog 257 [Km a0] (Av r):=by
 unfold Qg at h
 refine Bv Tryz.func257 rfl (by kernel_rfl) (by kernel_rfl) rfl ?_
 refine Z<|Ac<|O<|O<|Aa<|Z<|Z<|Cd h fun g j k=>Ce (fun (v3:Bool)=>v3=g) (fun v3=>[(14,(Av v3))]) (fun v3=>[]) (fun _=>rfl) ?_ ?_
 intro M hK1
 refine Ac<|O<|O<|O<|Aq j fun v2 D h=>As.mk _ (Age (a0:=a0.Const) D) rfl<|O<|O<|A6 (s:=9) h (fun b h=>?_) fun b h=>?_
 exact Ad<|Ad<|Ad<|Ad<|O<|Aa<|hK1 true _ _ _ (Ai h) ⟨rfl,Ae⟩ ⟨Ah,Ae⟩
 exact Ag<|Ag<|Ag<|Ax (f:=Dq) (l:=a0.Terms) rfl<|Ag<|O<|Aa<|hK1 (decide ((a0.Terms.length:Int)>(16:Int))) _ _ _ (Ai h) ⟨rfl,Ae⟩ ⟨Ah,Ae⟩
 rintro v3 I q
 have h:=k _ q
 refine Am h (fun b h=>?_) fun b h=>?_
 exact Z<|Ac<|O<|Aa<|Ak<|A3 h
 refine An<|Z<|Z<|Ac<|O<|O<|O<|Ax (f:=Dq) (l:=a0.Terms) rfl<|O<|Aa<|Ay<|Bn h (fun v8=>[(2,(Av false)),(18,(Af .i64 v8))]) (fun v8=>[]) (fun _=>True) (fun _=>rfl) ⟨rfl,rfl,Ae⟩ ⟨Ah,Ae⟩ Ae ?_
 rintro v8 G L A i c hn2 _
 refine Z<|Ac<|O<|Aa<|Z<|Am i (fun b h=>?_) fun b h=>?_
 refine An<|Z<|Ay<|Z<|Ac<|O<|O<|A7 (f:=Dq) rfl h fun J v9 i9 E h=>O<|O<|O<|O<|Aa<|Z<|B0<|O<|O<|O<|Aq h fun z x h=>As.mk _ (Apl (a0:=v9.Var) x) rfl<|O<|O<|A6 (s:=27) h (fun b h=>?_) fun b h=>?_
 refine Ad<|Ad<|Ad<|O<|O<|Ad<|Ad<|Ad<|Ad<|O<|O<|Ad<|Ad<|Ad<|A9 (18,true) 41 undef<|A9 (18,true) 41 undef<|A9 (18,true) 41 undef<|A9 (18,true) 41 undef<|A9 (18,true) 41 undef<|A9 (18,true) 41 undef<|A9 (18,true) 41 undef<|A9 (18,true) 41 undef<|A9 (18,true) 41 undef<|A9 (18,true) 41 undef ?_
 refine Ad<|O<|Aa<|Bj.mk (by kernel_rfl)<|Dd<|Z<|Ac<|O<|Aa<|Ak ?_
 have h:=c _ (Ai h)
 exact A3 h
 refine Ag<|Ag<|Ag<|O<|O<|A6 (s:=32) h (fun b h=>?_) fun b h=>?_
 refine Ad<|Ad<|Ad<|Ad<|O<|O<|Ad<|Ad<|Ad<|A9 (18,true) 41 undef<|A9 (18,true) 41 undef<|A9 (18,true) 41 undef<|A9 (18,true) 41 undef<|A9 (18,true) 41 undef<|A9 (18,true) 41 undef<|A9 (18,true) 41 undef<|A9 (18,true) 41 undef<|A9 (18,true) 41 undef<|A9 (18,true) 41 undef<|Ad<|O<|Aa<|Bj.mk (by kernel_rfl)<|Dd ?_
 refine Z<|Ac<|O<|Aa<|Ak ?_
 have h:=c _ (Ai h)
 exact A3 h
 refine Ag<|Ag<|Ag<|Aq h fun v12 u h=>As.mk _ (Age (a0:=v9.Coef) u) rfl<|Ag<|O<|O<|A6 (s:=38) h (fun b h=>?_) fun b h=>?_
 refine Ad<|Ad<|Ad<|A9 (18,true) 41 undef<|A9 (18,true) 41 undef<|A9 (18,true) 41 undef<|A9 (18,true) 41 undef<|A9 (18,true) 41 undef<|A9 (18,true) 41 undef<|A9 (18,true) 41 undef<|A9 (18,true) 41 undef<|A9 (18,true) 41 undef<|A9 (18,true) 41 undef<|Ad<|O<|Aa<|Bj.mk (by kernel_rfl)<|Dd<|Z<|Ac<|O<|Aa<|Ak ?_
 have h:=c _ (Ai h)
 exact A3 h
 refine Ag<|Ag<|Ag<|A6 (s:=41) h (fun b h=>?_) fun b h=>?_
 refine Ag<|Ag<|Ag<|Ag<|Aw.mk _ rfl<|Ag<|A7 (f:=Dq) rfl h fun B v13 i13 y h=>Ag<|Ag<|Ag<|Ag<|Ag<|Ag<|O<|Aa<|Bj.mk (by kernel_rfl)<|Am h (fun b h=>?_) fun b h=>?_
 refine Z<|Ac<|O<|Aa<|Ak ?_
 have h:=c _ (Ai h)
 exact A3 h
 exact An<|Ac<|O<|Aw.mk _ rfl<|O<|Aa<|hn2 _ _ _ _ (Ai h) ⟨rfl,rfl,Ae⟩ ⟨Ah,Ae⟩ Ae
 exact Ad<|Ad<|Ad<|Ad<|Ad<|Ad<|Ad<|Ad<|Ad<|Ad<|Ag<|O<|Aa<|Bj.mk (by kernel_rfl)<|Fg<|An<|Ac<|O<|Aw.mk _ rfl<|O<|Aa<|hn2 _ _ _ _ (Ai h) ⟨rfl,rfl,Ae⟩ ⟨Ah,Ae⟩ Ae
 refine Bh<|Bg rfl ?_
 have h:=c _ (Ai h)
 exact Z<|Ac<|O<|Aa<|Ak<|A3 h
theorem Agf {a0:Int} {r:ByteArray} (h:So a0=some r):Bb Tryz.prog 193 [(Af .i64) a0] (Co r):=by
 exact Aob h
theorem Agg {b1:(List Int)} {r:Unit} (h:Va b1=some r):Cm Tryz.prog 258 [(.loc 0 0)] [.cells 232 [(.loc 0 0),(.arr 1 b1.length 0 b1.length)],.rows 5 1 (List.map (Af .u8) b1)] (.tup []) [.cells 232 [(.loc 0 0),(.arr 1 b1.length 0 b1.length)],.rows 5 1 (List.map (Af .u8) b1)]:=by
 cases h
 exact Aoc _ _
theorem Abc {a0:Int} {b1:(List Int)} {r:(List Int)} (h:Qo a0 b1=some r):Cm Tryz.prog 314 [(.loc 0 0),(Af .u8) a0] [.cells 232 [(.loc 0 0),(.arr 1 b1.length 0 b1.length)],.rows 5 1 (List.map (Af .u8) b1)] (.val .nilIface) [.cells 232 [(.loc 0 0),(.arr 1 r.length 0 r.length)],.rows 5 1 (List.map (Af .u8) r)]:=by
 unfold Qo at h
 refine D0 (C:={T:=B4,an:=(fun _=>.ask)}) true B8 B5 Tryz.func314 rfl (by kernel_rfl) (by kernel_rfl) rfl ?_
 refine Z<|Ac<|O<|Aa<|Z<|Ac<|O<|O<|Aq h fun c b h=>As.act [0,1] _ _ _ _ (Agg (b1:=b1) b) rfl rfl ⟨rfl,rfl,Ae⟩<|Aa<|Z<|Ac<|O<|O<|O<|O<|O<|O<|O<|O<|D9 (f:=(Af .u8)) (l:=b1) (ys:=[a0]) rfl rfl rfl rfl h fun g h=>O<|O ?_
 refine O<|Aa<|Z<|Ac<|O<|Aa<|Ak ?_
 cases h
 exact ⟨rfl,rfl,rfl,Ae⟩
theorem Apn {a0:ByteArray} {b1:(List Int)} {r:(Int×(List Int))} (h:Xp a0 b1=some r):Cm Tryz.prog 191 [(.loc 0 0),Co a0] [.cells 232 [(.loc 0 0),(.arr 1 b1.length 0 b1.length)],.rows 5 1 (List.map (Af .u8) b1)] (.tup [(Af .i64) r.1,.val .nilIface]) [.cells 232 [(.loc 0 0),(.arr 1 r.2.length 0 r.2.length)],.rows 5 1 (List.map (Af .u8) r.2)]:=by
 unfold Xp at h
 refine D0 (C:={T:=B4,an:=(fun _=>.ask)}) true B8 B5 Tryz.func191 rfl (by kernel_rfl) (by kernel_rfl) rfl ?_
 refine Z<|Ac<|O<|O<|Aa<|Z<|Ac<|O<|O<|Aq h fun c b h=>As.act [0,1] _ _ _ _ (Agg (b1:=b1) b) rfl rfl ⟨rfl,rfl,Ae⟩<|Aa<|Z<|Ac<|O<|O<|O<|O<|O<|O<|O<|Aff (l:=b1) rfl rfl rfl h fun f h=>O<|O ?_
 refine O<|Aa<|Z<|Ac<|O<|O<|O<|O<|Aa<|Ak ?_
 cases h
 exact ⟨rfl,rfl,rfl,Ae⟩
theorem Agh:∀k:Nat,(∀(a0:Be) (b1:(List Int)) (r:(List Int)),Mx k a0 b1=some r->Cm Tryz.prog 259 [(.loc 0 0),Bw a0] [.cells 232 [(.loc 0 0),(.arr 1 b1.length 0 b1.length)],.rows 5 1 (List.map (Af .u8) b1)] (.tup []) [.cells 232 [(.loc 0 0),(.arr 1 r.length 0 r.length)],.rows 5 1 (List.map (Af .u8) r)])
 | 0=>(fun _ _ _ h=>by simp only [Mx] at h; cases h)
 | k+1=>by
  have ih:=Agh k
  have c:∀{a0:Be} {b1:(List Int)} {r:(List Int)},Mx k a0 b1=some r->Cm Tryz.prog 259 [(.loc 0 0),Bw a0] [.cells 232 [(.loc 0 0),(.arr 1 b1.length 0 b1.length)],.rows 5 1 (List.map (Af .u8) b1)] (.tup []) [.cells 232 [(.loc 0 0),(.arr 1 r.length 0 r.length)],.rows 5 1 (List.map (Af .u8) r)]:=fun h=>ih _ _ _ h
  intro a0 b1 r h
  unfold Mx at h
  refine D0 (C:={T:=B4,an:=(fun _=>.ask)}) true B8 B5 Tryz.func259 rfl (by kernel_rfl) (by kernel_rfl) rfl ?_
  refine Z<|Ac<|O<|Aa<|Z<|Ac<|O<|O<|O<|O<|Aq h fun v2 E h=>As.mk _ (Agf (a0:=a0.Num) E) rfl<|O<|Aq h fun v3 D h=>As.act [0,1] _ _ _ _ (Apn (a0:=v2) (b1:=b1) D) rfl rfl ⟨rfl,rfl,Ae⟩<|Aa<|Z<|Ac<|O<|O<|O<|Ax (f:=Bw) (l:=a0.Kids) (Cu _)<|O<|Aa ?_
  refine Am h (fun b h=>?_) fun b h=>?_
  refine Z<|Ac<|O<|O<|Aq h fun v4 B h=>As.act [0,1] _ _ _ _ (Abc (a0:=40) (b1:=v3.2) B) rfl rfl ⟨rfl,rfl,Ae⟩<|Aa<|Z<|Z<|Ac<|O<|O<|O<|Ax (f:=Bw) (l:=a0.Kids) (Cu _)<|O<|Aa<|Ay<|Bn h (fun (v15,g)=>[(20,(Af .i64 v15))]) (fun (v15,g)=>[(0,.cells 232 [(.loc 0 0),(.arr 1 g.length 0 g.length)]),(1,.rows 5 1 (List.map (Af .u8) g))]) (fun _=>True) (fun _=>rfl) ⟨rfl,Ae⟩ ⟨Ah,Ah,Ah,Ae⟩ Ae ?_
  rintro ⟨v15,g⟩ G I z q j hn1 _
  refine Z<|Ac<|O<|Aa<|Z<|Am q (fun b h=>?_) fun b h=>?_
  refine An<|Z<|Ay<|Z<|Ac<|O<|A7 (f:=Bw) (Cu _) h fun A v17 i17 y h=>O<|O<|O<|Aa<|Z<|Ac<|O<|O<|O<|Aq h fun i x h=>As.act [0,1] _ _ _ _ (c (a0:=v17) (b1:=g) x) rfl rfl ⟨rfl,rfl,Ae⟩<|Aa<|Ac<|O<|O<|Aq h fun v20 u h=>As.act [0,1] _ _ _ _ (Abc (a0:=44) (b1:=i) u) rfl rfl ⟨rfl,rfl,Ae⟩ ?_
  exact Aa<|Ac<|O<|Aw.mk _ rfl<|O<|Aa<|hn1 _ _ _ _ (Ai h) ⟨rfl,Ae⟩ ⟨Ah,Ah,Ah,Ae⟩ Ae
  refine Bh<|Bg rfl ?_
  have h:=j _ (Ai h)
  refine Ac<|O<|O<|Aq h fun v22 s h=>As.act [0,1] _ _ _ _ (Abc (a0:=41) (b1:=g) s) rfl rfl ⟨rfl,rfl,Ae⟩<|Aa ?_
  cases h
  exact ⟨rfl,rfl,rfl,Ae⟩
  refine An ?_
  cases h
  exact ⟨rfl,rfl,rfl,Ae⟩
theorem Apo {k:Nat} {a0:Be} {b1:(List Int)} {r:(List Int)} (h:Mx k a0 b1=some r):Cm Tryz.prog 259 [(.loc 0 0),Bw a0] [.cells 232 [(.loc 0 0),(.arr 1 b1.length 0 b1.length)],.rows 5 1 (List.map (Af .u8) b1)] (.tup []) [.cells 232 [(.loc 0 0),(.arr 1 r.length 0 r.length)],.rows 5 1 (List.map (Af .u8) r)]:=(Agh k) _ _ _ h
theorem App {b1:(List Int)} {r:ByteArray} (h:Aa0 b1=some r):Cm Tryz.prog 195 [(.loc 0 0)] [.cells 232 [(.loc 0 0),(.arr 1 b1.length 0 b1.length)],.rows 5 1 (List.map (Af .u8) b1)] (Co r) [.cells 232 [(.loc 0 0),(.arr 1 b1.length 0 b1.length)],.dead]:=by
 exact Aof h
theorem Apq {b1:(List Int)} {r:Unit} (h:Xm b1=some r):Cm Tryz.prog 258 [(.loc 0 0)] [.cells 232 [(.val (.pointer none)),(.arr 1 b1.length 0 b1.length)],.rows 5 1 (List.map (Af .u8) b1)] (.tup []) [.cells 232 [(.loc 0 0),(.arr 1 b1.length 0 b1.length)],.rows 5 1 (List.map (Af .u8) b1)]:=by
 cases h
 exact Aod _ _
theorem Apr {a0:ByteArray} {b1:(List Int)} {r:(Int×(List Int))} (h:U1 a0 b1=some r):Cm Tryz.prog 191 [(.loc 0 0),Co a0] [.cells 232 [(.val (.pointer none)),(.arr 1 b1.length 0 b1.length)],.rows 5 1 (List.map (Af .u8) b1)] (.tup [(Af .i64) r.1,.val .nilIface]) [.cells 232 [(.loc 0 0),(.arr 1 r.2.length 0 r.2.length)],.rows 5 1 (List.map (Af .u8) r.2)]:=by
 unfold U1 at h
 refine D0 (C:={T:=B4,an:=(fun _=>.ask)}) true B8 B5 Tryz.func191 rfl (by kernel_rfl) (by kernel_rfl) rfl ?_
 refine Z<|Ac<|O<|O<|Aa<|Z<|Ac<|O<|O<|Aq h fun c b h=>As.act [0,1] _ _ _ _ (Apq (b1:=b1) b) rfl rfl ⟨rfl,rfl,Ae⟩<|Aa<|Z<|Ac<|O<|O<|O<|O<|O<|O<|O<|Aff (l:=b1) rfl rfl rfl h fun f h=>O<|O ?_
 refine O<|Aa<|Z<|Ac<|O<|O<|O<|O<|Aa<|Ak ?_
 cases h
 exact ⟨rfl,rfl,rfl,Ae⟩
theorem Aps {a0:Int} {a1:Be} {r:ByteArray} (h:Sn a0 a1=some r):Bb Tryz.prog 192 [(Af .i64) a0,Bw a1] (Co r):=by
 unfold Sn at h
 refine Bv Tryz.func192 rfl (by kernel_rfl) (by kernel_rfl) rfl ?_
 refine Z<|Ac<|O<|O<|Aa<|Z<|Ac<|O<|Aa<|Z<|Fd [.own 5 1 5 1]<|Dx.mk<|Ac<|O<|O<|Aq h fun v4 g h=>As.mk _ (Agf (a0:=a0) g) rfl<|O<|Afh h fun h=>O<|Afh h fun h=>O<|Aq h fun v7 f h=>As.act [1,2] _ _ _ _ (Apr (a0:=(((ByteArray.mk #[118])++v4)++(ByteArray.mk #[58]))) (b1:=[]) f) rfl rfl ⟨rfl,rfl,Ae⟩ ?_
 exact Aa<|Z<|Ac<|O<|O<|Aq h fun v8 c h=>As.act [1,2] _ _ _ _ (Apo (a0:=a1) (b1:=v7.2) c) rfl rfl ⟨rfl,rfl,Ae⟩<|Aa<|Z<|Ac<|O<|Aq h fun v9 b h=>As.act [1,2] _ _ _ _ (App (b1:=v8) b) rfl rfl ⟨rfl,rfl,Ae⟩<|O<|Aa<|Ak<|congrArg (fun x:ByteArray=>(Co x:AV))<|Ai h
end Go.Ab
namespace Go.Ab
open Go Go.Proofs
set_option maxRecDepth 10000
theorem Agi:∀k:Nat,(∀(a0:Ao) (a1:Be) (b1:(List (ByteArray×Int))) (b2:(List (ByteArray×(List D8)))) (b0_0:(List A5)) (b0_1:(List Ao)) (b0_2:Int) (b0_3:Int) (b0_4:(List Ao)) (r:Int),Mv k a0 a1 b1 b2 b0_0 b0_1 b0_2 b0_3 b0_4=some r->Cm Tryz.prog 333 [(.loc 0 0),Ba (Ao.mk a0.Kind a0.Num a0.Args),Bw (Be.mk a1.Num a1.Kids)] [.cells 168 [(.sl 3 (List.map Bf b0_0)),(.sl 3 (Bi b0_1)),(Af .i64 b0_2),(Af .i64 b0_3),(.sl 3 (Bi b0_4)),(.mp 1),(.mp 2)],.map (Ca (Af .i64) b1),.map (Ca (A2 5 El) b2)] ((Af .i64) r) [.cells 168 [(.sl 3 (List.map Bf b0_0)),(.sl 3 (Bi b0_1)),(Af .i64 b0_2),(Af .i64 b0_3),(.sl 3 (Bi b0_4)),(.mp 1),(.mp 2)],.map (Ca (Af .i64) b1),.map (Ca (A2 5 El) b2)])/\(∀(a0:Ao) (a1:Be) (b1:(List (ByteArray×Int))) (b2:(List (ByteArray×(List D8)))) (b0_0:(List A5)) (b0_1:(List Ao)) (b0_2:Int) (b0_3:Int) (b0_4:(List Ao)) (r:Int),Kl k a0 a1 b1 b2 b0_0 b0_1 b0_2 b0_3 b0_4=some r->Cm Tryz.prog 310 [(.loc 0 0),Ba (Ao.mk a0.Kind a0.Num a0.Args),Bw (Be.mk a1.Num a1.Kids)] [.cells 168 [(.sl 3 (List.map Bf b0_0)),(.sl 3 (Bi b0_1)),(Af .i64 b0_2),(Af .i64 b0_3),(.sl 3 (Bi b0_4)),(.mp 1),(.mp 2)],.map (Ca (Af .i64) b1),.map (Ca (A2 5 El) b2)] ((Af .i64) r) [.cells 168 [(.sl 3 (List.map Bf b0_0)),(.sl 3 (Bi b0_1)),(Af .i64 b0_2),(Af .i64 b0_3),(.sl 3 (Bi b0_4)),(.mp 1),(.mp 2)],.map (Ca (Af .i64) b1),.map (Ca (A2 5 El) b2)])/\(∀(a0:(List Ao)) (a1:(List Be)) (b1:(List (ByteArray×Int))) (b2:(List (ByteArray×(List D8)))) (b0_0:(List A5)) (b0_1:(List Ao)) (b0_2:Int) (b0_3:Int) (b0_4:(List Ao)) (r:Int),Mu k a0 a1 b1 b2 b0_0 b0_1 b0_2 b0_3 b0_4=some r->Cm Tryz.prog 332 [(.loc 0 0),(Ck 3 Bi) a0,(Ck 2 Fs) a1] [.cells 168 [(.sl 3 (List.map Bf b0_0)),(.sl 3 (Bi b0_1)),(Af .i64 b0_2),(Af .i64 b0_3),(.sl 3 (Bi b0_4)),(.mp 1),(.mp 2)],.map (Ca (Af .i64) b1),.map (Ca (A2 5 El) b2)] ((Af .i64) r) [.cells 168 [(.sl 3 (List.map Bf b0_0)),(.sl 3 (Bi b0_1)),(Af .i64 b0_2),(Af .i64 b0_3),(.sl 3 (Bi b0_4)),(.mp 1),(.mp 2)],.map (Ca (Af .i64) b1),.map (Ca (A2 5 El) b2)])
 | 0=>⟨(fun _ _ _ _ _ _ _ _ _ _ h=>by simp only [Mv] at h; cases h),(fun _ _ _ _ _ _ _ _ _ _ h=>by simp only [Kl] at h; cases h),(fun _ _ _ _ _ _ _ _ _ _ h=>by simp only [Mu] at h; cases h)⟩
 | k+1=>by
  have ih:=Agi k
  have j:∀{a0:Ao} {a1:Be} {b1:(List (ByteArray×Int))} {b2:(List (ByteArray×(List D8)))} {b0_0:(List A5)} {b0_1:(List Ao)} {b0_2:Int} {b0_3:Int} {b0_4:(List Ao)} {r:Int},Mv k a0 a1 b1 b2 b0_0 b0_1 b0_2 b0_3 b0_4=some r->Cm Tryz.prog 333 [(.loc 0 0),Ba (Ao.mk a0.Kind a0.Num a0.Args),Bw (Be.mk a1.Num a1.Kids)] [.cells 168 [(.sl 3 (List.map Bf b0_0)),(.sl 3 (Bi b0_1)),(Af .i64 b0_2),(Af .i64 b0_3),(.sl 3 (Bi b0_4)),(.mp 1),(.mp 2)],.map (Ca (Af .i64) b1),.map (Ca (A2 5 El) b2)] ((Af .i64) r) [.cells 168 [(.sl 3 (List.map Bf b0_0)),(.sl 3 (Bi b0_1)),(Af .i64 b0_2),(Af .i64 b0_3),(.sl 3 (Bi b0_4)),(.mp 1),(.mp 2)],.map (Ca (Af .i64) b1),.map (Ca (A2 5 El) b2)]:=fun h=>ih.1 _ _ _ _ _ _ _ _ _ _ h
  have i:∀{a0:Ao} {a1:Be} {b1:(List (ByteArray×Int))} {b2:(List (ByteArray×(List D8)))} {b0_0:(List A5)} {b0_1:(List Ao)} {b0_2:Int} {b0_3:Int} {b0_4:(List Ao)} {r:Int},Kl k a0 a1 b1 b2 b0_0 b0_1 b0_2 b0_3 b0_4=some r->Cm Tryz.prog 310 [(.loc 0 0),Ba (Ao.mk a0.Kind a0.Num a0.Args),Bw (Be.mk a1.Num a1.Kids)] [.cells 168 [(.sl 3 (List.map Bf b0_0)),(.sl 3 (Bi b0_1)),(Af .i64 b0_2),(Af .i64 b0_3),(.sl 3 (Bi b0_4)),(.mp 1),(.mp 2)],.map (Ca (Af .i64) b1),.map (Ca (A2 5 El) b2)] ((Af .i64) r) [.cells 168 [(.sl 3 (List.map Bf b0_0)),(.sl 3 (Bi b0_1)),(Af .i64 b0_2),(Af .i64 b0_3),(.sl 3 (Bi b0_4)),(.mp 1),(.mp 2)],.map (Ca (Af .i64) b1),.map (Ca (A2 5 El) b2)]:=fun h=>ih.2.1 _ _ _ _ _ _ _ _ _ _ h
  have c:∀{a0:(List Ao)} {a1:(List Be)} {b1:(List (ByteArray×Int))} {b2:(List (ByteArray×(List D8)))} {b0_0:(List A5)} {b0_1:(List Ao)} {b0_2:Int} {b0_3:Int} {b0_4:(List Ao)} {r:Int},Mu k a0 a1 b1 b2 b0_0 b0_1 b0_2 b0_3 b0_4=some r->Cm Tryz.prog 332 [(.loc 0 0),(Ck 3 Bi) a0,(Ck 2 Fs) a1] [.cells 168 [(.sl 3 (List.map Bf b0_0)),(.sl 3 (Bi b0_1)),(Af .i64 b0_2),(Af .i64 b0_3),(.sl 3 (Bi b0_4)),(.mp 1),(.mp 2)],.map (Ca (Af .i64) b1),.map (Ca (A2 5 El) b2)] ((Af .i64) r) [.cells 168 [(.sl 3 (List.map Bf b0_0)),(.sl 3 (Bi b0_1)),(Af .i64 b0_2),(Af .i64 b0_3),(.sl 3 (Bi b0_4)),(.mp 1),(.mp 2)],.map (Ca (Af .i64) b1),.map (Ca (A2 5 El) b2)]:=fun h=>ih.2.2 _ _ _ _ _ _ _ _ _ _ h
  refine ⟨?_,?_,?_⟩
  .intro a0 a1 b1 b2 b0_0 b0_1 b0_2 b0_3 b0_4 r h
   unfold Mv at h
   refine D0 (C:={T:=B4,an:=(fun s=>bif Nat.beq s 9 then .own else .ask),nl:=(fun s=>bif Nat.beq s 9 then [(0,3)] else [])}) true B8 B5 Tryz.func333 rfl (by kernel_rfl) (by kernel_rfl) rfl ?_
   refine Z<|Ac<|O<|O<|O<|Aa<|Z<|B0<|O<|O<|O<|O<|O<|O<|O<|O<|O<|Aq h fun v3 B h=>As.mk _ (Af1 (a0:=b0_0) (a1:=a0) (a2:=a1.Num) B) rfl<|O<|O<|O<|O<|O ?_
   refine Aa<|Bj.mk (by kernel_rfl)<|Z<|Z<|Ac<|O<|O<|Aa<|Am h (fun b h=>?_) fun b h=>?_
   refine Z<|Ac<|O<|Aa<|Ak ?_
   cases h
   exact ⟨rfl,rfl,rfl,rfl,Ae⟩
   refine An<|Z<|Ac<|O<|Aa<|Z<|Z<|B0<|O<|O<|O<|O<|O<|O<|O<|O<|O<|O<|Aq h fun v5 Y h=>As.mk _ (Xt (a0:=b0_0) (a1:=a0.Num) (a2:=a1.Num) Y) rfl<|O<|Ax (f:=Av) (l:=v5) rfl<|O<|Aa ?_
   refine Bj.mk (by kernel_rfl)<|Ay<|Bn h (fun (y,q)=>[(9,(.arr 5 q.length 0 q.length)),(38,(Af .i64 y))]) (fun (y,q)=>[(5,.rows 25 3 (Bi q))]) (fun _=>True) (fun _=>rfl) ⟨rfl,rfl,Ae⟩ ⟨Ah,Ah,Ah,Ah,Ah,Ah,Ae⟩ Ae ?_
   rintro ⟨y,q⟩ I J z x u hn1 _
   refine Z<|Ac<|O<|Aa<|Z<|Am x (fun b h=>?_) fun b h=>?_
   refine An<|Z<|Ay<|Z<|Ac<|O<|O<|A7 (f:=Av) rfl h fun X v16 i16 N h=>O<|O<|O<|Aa<|Z<|Ac<|O<|O<|Aa<|Am h (fun b h=>?_) fun b h=>?_
   exact Ac<|O<|O<|O<|O<|A7 (f:=Ba) (Bq _) h fun V v17 i17 M h=>O<|O<|O<|H4 (g:=Bi) Bq (f:=Ba) (l:=q) (ys:=[v17]) (Bq _) rfl rfl rfl h fun S h=>O<|Aa<|Ac<|O<|Aw.mk _ rfl<|O<|Aa<|hn1 _ _ _ _ (Ai h) ⟨rfl,rfl,Ae⟩ ⟨Ah,Ah,Ah,Ah,Ah,Ah,Ae⟩ Ae
   exact An<|Ac<|O<|Aw.mk _ rfl<|O<|Aa<|hn1 _ _ _ _ (Ai h) ⟨rfl,rfl,Ae⟩ ⟨Ah,Ah,Ah,Ah,Ah,Ah,Ae⟩ Ae
   refine Bh<|Bg rfl ?_
   have h:=u _ (Ai h)
   refine Z<|Fd [.fz 9]<|Bz (f:=Ba) (l:=q) (Bq _) rfl<|Bz (f:=Ba) (l:=q) (Bq _) rfl<|Dx.mk<|Ac<|O<|O<|O<|O<|O<|Aq h fun v20 D h=>As.act [0,1,2] _ _ _ _ (c (a0:=q) (a1:=a1.Kids) (b1:=b1) (b2:=b2) (b0_0:=b0_0) (b0_1:=b0_1) (b0_2:=b0_2) (b0_3:=b0_3) (b0_4:=b0_4) D) rfl rfl ⟨rfl,rfl,rfl,Ae⟩<|O<|Aa<|Z<|Z<|Ac<|O<|O<|Aa<|Am h (fun b h=>?_) fun b h=>?_
   refine Z<|Ac<|O<|Aa<|Ak ?_
   cases h
   exact ⟨rfl,rfl,rfl,rfl,Ae⟩
   refine An<|Z<|Ac<|O<|O<|Aw.mk _ rfl<|O<|Aa<|Ak ?_
   cases h
   exact ⟨rfl,rfl,rfl,rfl,Ae⟩
  .intro a0 a1 b1 b2 b0_0 b0_1 b0_2 b0_3 b0_4 r h
   unfold Kl at h
   refine D0 (C:={T:=B4,an:=(fun _=>.ask)}) true B8 B5 Tryz.func310 rfl (by kernel_rfl) (by kernel_rfl) rfl ?_
   refine Z<|Ac<|O<|O<|O<|Aa<|Z<|Z<|Ac<|O<|O<|Aa<|Ay<|Z<|Ac<|O<|O<|Aa<|Am h (fun b h=>?_) fun b h=>?_
   refine Z<|Z<|Ac<|O<|O<|O<|Aa<|Am h (fun b h=>?_) fun b h=>?_
   refine Z<|Ac<|O<|O<|O<|O<|O<|O<|Aq h fun v3 B h=>As.act [0,1,2] _ _ _ _ (c (a0:=a0.Args) (a1:=a1.Kids) (b1:=b1) (b2:=b2) (b0_0:=b0_0) (b0_1:=b0_1) (b0_2:=b0_2) (b0_3:=b0_3) (b0_4:=b0_4) B) rfl rfl ⟨rfl,rfl,rfl,Ae⟩<|O<|Aa<|Ak ?_
   cases h
   exact ⟨rfl,rfl,rfl,rfl,Ae⟩
   refine An<|Z<|Ac<|O<|Aa<|Ak ?_
   cases h
   exact ⟨rfl,rfl,rfl,rfl,Ae⟩
   refine Z<|Ac<|O<|O<|Aa<|Am h (fun b h=>?_) fun b h=>?_
   refine Z<|Z<|Ac<|O<|O<|O<|O<|A6 (s:=29) h (fun b h=>?_) fun b h=>?_
   refine Ag<|Ag<|Ag<|O<|O<|A6 (s:=34) h (fun b h=>?_) fun b h=>?_
   refine Ag<|Ag<|Ag<|Ax (f:=Bw) (l:=a1.Kids) (Cu _)<|Ag<|O<|Aa<|Am h (fun b h=>?_) fun b h=>?_
   refine Z<|Ac<|O<|O<|O<|Aa<|Ak ?_
   cases h
   exact ⟨rfl,rfl,rfl,rfl,Ae⟩
   refine An<|Z<|Ac<|O<|Aa<|Ak ?_
   cases h
   exact ⟨rfl,rfl,rfl,rfl,Ae⟩
   refine Ad<|Ad<|Ad<|Ad<|O<|Aa<|Fg<|An<|Z<|Ac<|O<|Aa<|Ak ?_
   cases h
   exact ⟨rfl,rfl,rfl,rfl,Ae⟩
   refine Ad<|Ad<|Ad<|O<|O<|Ad<|Ad<|Ad<|Ad<|O<|Aa<|Fg<|An<|Z<|Ac<|O<|Aa<|Ak ?_
   cases h
   exact ⟨rfl,rfl,rfl,rfl,Ae⟩
   refine Z<|Ac<|O<|O<|Aa<|Am h (fun b h=>?_) fun b h=>?_
   refine Z<|Z<|Ac<|O<|O<|O<|Aa<|Am h (fun b h=>?_) fun b h=>?_
   refine Z<|Ac<|O<|Aa<|Ak ?_
   cases h
   exact ⟨rfl,rfl,rfl,rfl,Ae⟩
   refine An<|Z<|Ac<|O<|Aa<|Z<|Z<|Ac<|O<|O<|O<|Ax (f:=Bw) (l:=a1.Kids) (Cu _)<|O<|Aa<|Ay<|Bn h (fun (v7,v8)=>[(6,(Af .i64 0)),(7,(Af .i64 v7)),(50,(Af .i64 v8))]) (fun (v7,v8)=>[]) (fun _=>True) (fun _=>rfl) ⟨rfl,rfl,rfl,Ae⟩ ⟨Ah,Ah,Ah,Ah,Ah,Ae⟩ Ae ?_
   rintro ⟨v7,v8⟩ I J z x u hn1 _
   refine Z<|Ac<|O<|Aa<|Z<|Am x (fun b h=>?_) fun b h=>?_
   refine An<|Z<|Ay<|Z<|Ac<|O<|A7 (f:=Bw) (Cu _) h fun U v9 i9 L h=>O<|O<|O<|Aa<|Z<|Ac<|O<|O<|O<|O<|Aq h fun R E h=>As.act [0,1,2] _ _ _ _ (j (a0:=a0) (a1:=v9) (b1:=b1) (b2:=b2) (b0_0:=b0_0) (b0_1:=b0_1) (b0_2:=b0_2) (b0_3:=b0_3) (b0_4:=b0_4) E) rfl rfl ⟨rfl,rfl,rfl,Ae⟩<|O<|Aa<|Z<|Z<|Ac ?_
   refine O<|O<|O<|A6 (s:=60) h (fun b h=>?_) fun b h=>?_
   refine Ad<|Ad<|O<|Aa<|Dd<|Z<|Ac<|O<|Aa<|Ak ?_
   have h:=u _ (Ai h)
   cases h
   exact ⟨rfl,rfl,rfl,rfl,Ae⟩
   refine Ag<|Ag<|O<|Aa<|Am h (fun b h=>?_) fun b h=>?_
   refine Z<|Ac<|O<|Aa<|Ak ?_
   have h:=u _ (Ai h)
   cases h
   exact ⟨rfl,rfl,rfl,rfl,Ae⟩
   exact An<|Ac<|O<|O<|O<|Aw.mk _ rfl<|O<|Aa<|Ac<|O<|Aw.mk _ rfl<|O<|Aa<|hn1 _ _ _ _ (Ai h) ⟨rfl,rfl,rfl,Ae⟩ ⟨Ah,Ah,Ah,Ah,Ah,Ae⟩ Ae
   refine Bh<|Bg rfl ?_
   have h:=u _ (Ai h)
   refine Z<|Ac<|O<|O<|Aa<|Ak ?_
   cases h
   exact ⟨rfl,rfl,rfl,rfl,Ae⟩
   refine An<|Z<|Z<|Ac<|O<|O<|O<|O<|A6 (s:=72) h (fun b h=>?_) fun b h=>?_
   refine Ag<|Ag<|Ag<|Ax (f:=Bw) (l:=a1.Kids) (Cu _)<|Ag<|O<|Aa<|Am h (fun b h=>?_) fun b h=>?_
   refine Z<|Ac<|O<|Aa<|Ak ?_
   cases h
   exact ⟨rfl,rfl,rfl,rfl,Ae⟩
   refine An<|Z<|Ac<|O<|Aa<|Ak ?_
   cases h
   exact ⟨rfl,rfl,rfl,rfl,Ae⟩
   refine Ad<|Ad<|Ad<|Ad<|O<|Aa<|Fg<|An<|Z<|Ac<|O<|Aa<|Ak ?_
   cases h
   exact ⟨rfl,rfl,rfl,rfl,Ae⟩
  .intro a0 a1 b1 b2 b0_0 b0_1 b0_2 b0_3 b0_4 r h
   unfold Mu at h
   refine D0 (C:={T:=B4,an:=(fun _=>.ask)}) true B8 B5 Tryz.func332 rfl (by kernel_rfl) (by kernel_rfl) rfl ?_
   refine Z<|Ac<|O<|Aa<|Z<|Z<|Ac<|O<|O<|Ax (f:=Ba) (l:=a0) (Bq _)<|O<|O<|Ax (f:=Bw) (l:=a1) (Cu _)<|O<|Aa<|Am h (fun b h=>?_) fun b h=>?_
   refine Z<|Ac<|O<|Aa<|Ak ?_
   cases h
   exact ⟨rfl,rfl,rfl,rfl,Ae⟩
   refine An<|Z<|Ac<|O<|Aa<|Z<|Z<|Ac<|O<|O<|Ax (f:=Ba) (l:=a0) (Bq _)<|O<|Aa<|Ay<|Bn h (fun (v5,A)=>[(6,(Af .i64 0)),(7,(Af .i64 v5)),(18,(Af .i64 A))]) (fun (v5,A)=>[]) (fun _=>True) (fun _=>rfl) ⟨rfl,rfl,rfl,Ae⟩ ⟨Ah,Ah,Ah,Ae⟩ Ae ?_
   rintro ⟨v5,A⟩ I J z x u hn1 _
   refine Z<|Ac<|O<|Aa<|Z<|Am x (fun b h=>?_) fun b h=>?_
   refine An<|Z<|Ay<|Z<|Ac<|O<|O<|A7 (f:=Ba) (Bq _) h fun n7 v7 i7 x7 h=>O<|O<|O<|O<|Aa<|Z<|B0<|O<|O<|O<|O<|O<|A7 (f:=Bw) (Cu _) h fun U v9 i9 L h=>O<|O<|Aq h fun v10 G h=>?_
   refine As.act [0,1,2] _ _ _ _ (i (a0:=v7) (a1:=v9) (b1:=b1) (b2:=b2) (b0_0:=b0_0) (b0_1:=b0_1) (b0_2:=b0_2) (b0_3:=b0_3) (b0_4:=b0_4) G) rfl rfl ⟨rfl,rfl,rfl,Ae⟩<|O<|Aa<|Bj.mk (by kernel_rfl)<|Z<|Z<|Ac<|O<|O<|O<|A6 (s:=32) h (fun b h=>?_) fun b h=>?_
   refine Ad<|Ad<|O<|Aa<|Dd<|Z<|Ac<|O<|Aa<|Ak ?_
   have h:=u _ (Ai h)
   cases h
   exact ⟨rfl,rfl,rfl,rfl,Ae⟩
   refine Ag<|Ag<|O<|Aa<|Am h (fun b h=>?_) fun b h=>?_
   refine Z<|Ac<|O<|Aa<|Ak ?_
   have h:=u _ (Ai h)
   cases h
   exact ⟨rfl,rfl,rfl,rfl,Ae⟩
   exact An<|Ac<|O<|O<|O<|Aw.mk _ rfl<|O<|Aa<|Ac<|O<|Aw.mk _ rfl<|O<|Aa<|hn1 _ _ _ _ (Ai h) ⟨rfl,rfl,rfl,Ae⟩ ⟨Ah,Ah,Ah,Ae⟩ Ae
   refine Bh<|Bg rfl ?_
   have h:=u _ (Ai h)
   refine Z<|Ac<|O<|O<|Aa<|Ak ?_
   cases h
   exact ⟨rfl,rfl,rfl,rfl,Ae⟩
theorem Apt {k:Nat} {a0:Ao} {a1:Be} {b1:(List (ByteArray×Int))} {b2:(List (ByteArray×(List D8)))} {b0_0:(List A5)} {b0_1:(List Ao)} {b0_2:Int} {b0_3:Int} {b0_4:(List Ao)} {r:Int} (h:Kl k a0 a1 b1 b2 b0_0 b0_1 b0_2 b0_3 b0_4=some r):Cm Tryz.prog 310 [(.loc 0 0),Ba (Ao.mk a0.Kind a0.Num a0.Args),Bw (Be.mk a1.Num a1.Kids)] [.cells 168 [(.sl 3 (List.map Bf b0_0)),(.sl 3 (Bi b0_1)),(Af .i64 b0_2),(Af .i64 b0_3),(.sl 3 (Bi b0_4)),(.mp 1),(.mp 2)],.map (Ca (Af .i64) b1),.map (Ca (A2 5 El) b2)] ((Af .i64) r) [.cells 168 [(.sl 3 (List.map Bf b0_0)),(.sl 3 (Bi b0_1)),(Af .i64 b0_2),(Af .i64 b0_3),(.sl 3 (Bi b0_4)),(.mp 1),(.mp 2)],.map (Ca (Af .i64) b1),.map (Ca (A2 5 El) b2)]:=(Agi k).2.1 _ _ _ _ _ _ _ _ _ _ h
theorem Agj {a0:Int} {b1:(List (ByteArray×Int))} {b2:(List (ByteArray×(List D8)))} {b0_0:(List A5)} {b0_1:(List Ao)} {b0_2:Int} {b0_3:Int} {b0_4:(List Ao)} {r:Ao} (h:Mm a0 b1 b2 b0_0 b0_1 b0_2 b0_3 b0_4=some r):Cm Tryz.prog 71 [(.loc 0 0),(Af .i64) a0] [.cells 168 [(.sl 3 (List.map Bf b0_0)),(.sl 3 (Bi b0_1)),(Af .i64 b0_2),(Af .i64 b0_3),(.sl 3 (Bi b0_4)),(.mp 1),(.mp 2)],.map (Ca (Af .i64) b1),.map (Ca (A2 5 El) b2)] (Ba r) [.cells 168 [(.sl 3 (List.map Bf b0_0)),(.sl 3 (Bi b0_1)),(Af .i64 b0_2),(Af .i64 b0_3),(.sl 3 (Bi b0_4)),(.mp 1),(.mp 2)],.map (Ca (Af .i64) b1),.map (Ca (A2 5 El) b2)]:=by
 unfold Mm at h
 refine D0 (C:={T:=B4,an:=(fun _=>.ask)}) true B8 B5 Tryz.func71 rfl (by kernel_rfl) (by kernel_rfl) rfl ?_
 refine Z<|Ac<|O<|Aa<|Z<|Z<|Ac<|O<|O<|Aa<|Am h (fun b h=>?_) fun b h=>?_
 refine Z<|Ac<|O<|O<|O<|O<|O<|O<|Aa<|Ak ?_
 cases h
 exact ⟨rfl,rfl,rfl,rfl,Ae⟩
 refine An<|Z<|Ac<|O<|O<|O<|O<|O<|O<|O<|A7 (f:=Ba) (Bq _) h fun g v2 i2 c h=>O<|O<|Aa<|Ak ?_
 cases h
 exact ⟨rfl,rfl,rfl,rfl,Ae⟩
theorem Abd {a0:Int} {a1:Be} {b1:(List (ByteArray×Int))} {b2:(List (ByteArray×(List D8)))} {b0_0:(List A5)} {b0_1:(List Ao)} {b0_2:Int} {b0_3:Int} {b0_4:(List Ao)} {r:(Int×(List (ByteArray×Int)))} (h:Kk a0 a1 b1 b2 b0_0 b0_1 b0_2 b0_3 b0_4=some r):Cm Tryz.prog 256 [(.loc 0 0),(Af .i64) a0,Bw a1] [.cells 168 [(.sl 3 (List.map Bf b0_0)),(.sl 3 (Bi b0_1)),(Af .i64 b0_2),(Af .i64 b0_3),(.sl 3 (Bi b0_4)),(.mp 1),(.mp 2)],.map (Ca (Af .i64) b1),.map (Ca (A2 5 El) b2)] ((Af .i64) r.1) [.cells 168 [(.sl 3 (List.map Bf b0_0)),(.sl 3 (Bi b0_1)),(Af .i64 b0_2),(Af .i64 b0_3),(.sl 3 (Bi b0_4)),(.mp 1),(.mp 2)],.map (Ca (Af .i64) r.2),.map (Ca (A2 5 El) b2)]:=by
 unfold Kk at h
 refine D0 (C:={T:=B4,an:=(fun _=>.ask)}) true B8 B5 Tryz.func256 rfl (by kernel_rfl) (by kernel_rfl) rfl ?_
 refine Z<|Ac<|O<|O<|Aa<|Z<|Ac<|O<|O<|O<|Aq h fun v2 B h=>As.mk _ (Aps (a0:=a0) (a1:=a1) B) rfl<|O<|Aa<|Z<|Cd h fun g j q=>Ce (fun (x:(Int×Bool))=>x=g) (fun (v3,v4)=>[(8,(Af .i64 v3)),(9,(Av v4))]) (fun (v3,v4)=>[]) (fun _=>rfl) ?_ ?_
 intro J hK1
 refine Ac<|O<|O<|O<|O<|O<|O<|Aas (f:=(Af .i64)) (l:=b1) rfl (0:Int) j (fun G b h=>?_) fun b h=>?_
 exact O<|O<|O<|O<|O<|Aa<|hK1 ((H5 b1 v2 (0:Int)),true) _ _ _ (Ai h) ⟨rfl,rfl,Ae⟩ ⟨Ah,Ah,Ah,Ah,Ae⟩
 exact O<|O<|O<|O<|O<|Aa<|hK1 (0,false) _ _ _ (Ai h) ⟨rfl,rfl,Ae⟩ ⟨Ah,Ah,Ah,Ah,Ae⟩
 rintro ⟨v3,v4⟩ E u
 have h:=q _ u
 refine Z<|Z<|Ac<|O<|O<|Aa<|Am h (fun b h=>?_) fun b h=>?_
 refine Z<|Z<|B0<|O<|O<|O<|O<|Aq h fun v5 A h=>As.act [0,1,2] _ _ _ _ (Agj (a0:=a0) (b1:=b1) (b2:=b2) (b0_0:=b0_0) (b0_1:=b0_1) (b0_2:=b0_2) (b0_3:=b0_3) (b0_4:=b0_4) A) rfl rfl ⟨rfl,rfl,rfl,Ae⟩<|O<|O<|Aq h fun y z h=>As.act [0,1,2] _ _ _ _ (Apt (a0:=v5) (a1:=a1) (b1:=b1) (b2:=b2) (b0_0:=b0_0) (b0_1:=b0_1) (b0_2:=b0_2) (b0_3:=b0_3) (b0_4:=b0_4) z) rfl rfl ⟨rfl,rfl,rfl,Ae⟩<|O<|Aa<|Bj.mk (by kernel_rfl)<|Z<|Ac<|O<|O<|Aa<|Cd h fun c i k=>Ce (fun (v7:Int)=>v7=c) (fun v7=>[(8,(Af .i64 v7))]) (fun v7=>[]) (fun _=>rfl) ?_ ?_
 intro I hK2
 refine Am i (fun b h=>?_) fun b h=>?_
 exact Ac<|O<|Aa<|hK2 (-1) _ _ _ (Ai h) ⟨rfl,Ae⟩ ⟨Ah,Ah,Ah,Ah,Ae⟩
 exact An<|hK2 y _ _ _ (Ai h) ⟨rfl,Ae⟩ ⟨Ah,Ah,Ah,Ah,Ae⟩
 rintro v7 D s
 have h:=k _ s
 refine Ac<|O<|O<|O<|O<|O<|O<|O<|W3 (f:=(Af .i64)) (l:=b1) (x:=v7) rfl rfl<|Aa<|Z<|Ac<|O<|O<|Aa<|Ak ?_
 cases h
 exact ⟨rfl,rfl,rfl,rfl,Ae⟩
 refine An<|Z<|Ac<|O<|O<|Aa<|Ak ?_
 cases h
 exact ⟨rfl,rfl,rfl,rfl,Ae⟩
theorem Apu {a0:C8} {b1:(List (ByteArray×Int))} {b2:(List (ByteArray×(List D8)))} {b0_0:(List A5)} {b0_1:(List Ao)} {b0_2:Int} {b0_3:Int} {b0_4:(List Ao)} {r:(Int×(List (ByteArray×Int)))} (h:Sy a0 b1 b2 b0_0 b0_1 b0_2 b0_3 b0_4=some r):Cm Tryz.prog 255 [(.loc 0 0),Hd a0] [.cells 168 [(.sl 3 (List.map Bf b0_0)),(.sl 3 (Bi b0_1)),(Af .i64 b0_2),(Af .i64 b0_3),(.sl 3 (Bi b0_4)),(.mp 1),(.mp 2)],.map (Ca (Af .i64) b1),.map (Ca (A2 5 El) b2)] ((Af .i64) r.1) [.cells 168 [(.sl 3 (List.map Bf b0_0)),(.sl 3 (Bi b0_1)),(Af .i64 b0_2),(Af .i64 b0_3),(.sl 3 (Bi b0_4)),(.mp 1),(.mp 2)],.map (Ca (Af .i64) r.2),.map (Ca (A2 5 El) b2)]:=by
 unfold Sy at h
 refine D0 (C:={T:=B4,an:=(fun _=>.ask)}) true B8 B5 Tryz.func255 rfl (by kernel_rfl) (by kernel_rfl) rfl ?_
 refine Z<|Ac<|O<|O<|Aa<|Z<|Ac<|O<|Aa<|Z<|Z<|Ac<|O<|O<|O<|Ax (f:=C4) (l:=a0.Factors) rfl<|O<|Aa<|Ay<|Bn h (fun (v5,g,c)=>[(5,(Af .i64 v5)),(13,(Af .i64 g))]) (fun (v5,g,c)=>[(1,.map (Ca (Af .i64) c))]) (fun _=>True) (fun _=>rfl) ⟨rfl,rfl,Ae⟩ ⟨Ah,Ah,Ah,Ah,Ae⟩ Ae ?_
 rintro ⟨v5,g,c⟩ D I y q j hn1 _
 refine Z<|Ac<|O<|Aa<|Z<|Am q (fun b h=>?_) fun b h=>?_
 refine An<|Z<|Ay<|Z<|Ac<|O<|A7 (f:=C4) rfl h fun E v8 i8 A h=>O<|O<|O<|Aa<|Z<|Ac<|O<|O<|Aa<|Am h (fun b h=>?_) fun b h=>?_
 exact Ac<|O<|O<|O<|O<|O<|O<|O<|Aq h fun v10 s h=>As.act [0,1,2] _ _ _ _ (Abd (a0:=v8.Var) (a1:=v8.Index) (b1:=c) (b2:=b2) (b0_0:=b0_0) (b0_1:=b0_1) (b0_2:=b0_2) (b0_3:=b0_3) (b0_4:=b0_4) s) rfl rfl ⟨rfl,rfl,rfl,Ae⟩<|O<|Aw.mk _ rfl<|O<|Aa<|Ac<|O<|Aw.mk _ rfl<|O<|Aa<|hn1 _ _ _ _ (Ai h) ⟨rfl,rfl,Ae⟩ ⟨Ah,Ah,Ah,Ah,Ae⟩ Ae
 exact An<|Ac<|O<|Aw.mk _ rfl<|O<|Aa<|hn1 _ _ _ _ (Ai h) ⟨rfl,rfl,Ae⟩ ⟨Ah,Ah,Ah,Ah,Ae⟩ Ae
 refine Bh<|Bg rfl ?_
 have h:=j _ (Ai h)
 refine Z<|Z<|Ac<|O<|O<|O<|Ax (f:=Dk) (l:=a0.Atoms) rfl<|O<|Aa<|Ay<|Bn h (fun (v15,v16)=>[(5,(Af .i64 v15)),(31,(Af .i64 v16))]) (fun (v15,v16)=>[]) (fun _=>True) (fun _=>rfl) ⟨rfl,rfl,Ae⟩ ⟨Ah,Ah,Ah,Ah,Ae⟩ Ae ?_
 rintro ⟨v15,v16⟩ B G x k i hn2 _
 refine Z<|Ac<|O<|Aa<|Z<|Am k (fun b h=>?_) fun b h=>?_
 refine An<|Z<|Ay<|Z<|Ac<|O<|A7 (f:=Dk) rfl h fun z v17 i17 u h=>O<|O<|O<|Aa<|Z<|Ac<|O<|O<|Aa<|Am h (fun b h=>?_) fun b h=>?_
 exact Ac<|O<|O<|O<|O<|O<|Aw.mk _ rfl<|O<|Aa<|Ac<|O<|Aw.mk _ rfl<|O<|Aa<|hn2 _ _ _ _ (Ai h) ⟨rfl,rfl,Ae⟩ ⟨Ah,Ah,Ah,Ah,Ae⟩ Ae
 exact An<|Ac<|O<|Aw.mk _ rfl<|O<|Aa<|hn2 _ _ _ _ (Ai h) ⟨rfl,rfl,Ae⟩ ⟨Ah,Ah,Ah,Ah,Ae⟩ Ae
 refine Bh<|Bg rfl ?_
 have h:=i _ (Ai h)
 refine Z<|Ac<|O<|O<|Aa<|Ak ?_
 cases h
 exact ⟨rfl,rfl,rfl,rfl,Ae⟩
theorem Agk {a0:Int} {b1:(List (ByteArray×Int))} {b2:(List (ByteArray×(List D8)))} {b0_0:(List A5)} {b0_1:(List Ao)} {b0_2:Int} {b0_3:Int} {b0_4:(List Ao)} {r:Bool} (h:N8 a0 b1 b2 b0_0 b0_1 b0_2 b0_3 b0_4=some r):Cm Tryz.prog 308 [(.loc 0 0),(Af .i64) a0] [.cells 168 [(.sl 3 (List.map Bf b0_0)),(.sl 3 (Bi b0_1)),(Af .i64 b0_2),(Af .i64 b0_3),(.sl 3 (Bi b0_4)),(.mp 1),(.mp 2)],.map (Ca (Af .i64) b1),.map (Ca (A2 5 El) b2)] (Av r) [.cells 168 [(.sl 3 (List.map Bf b0_0)),(.sl 3 (Bi b0_1)),(Af .i64 b0_2),(Af .i64 b0_3),(.sl 3 (Bi b0_4)),(.mp 1),(.mp 2)],.map (Ca (Af .i64) b1),.map (Ca (A2 5 El) b2)]:=by
 unfold N8 at h
 refine D0 (C:={T:=B4,an:=(fun _=>.ask)}) true B8 B5 Tryz.func308 rfl (by kernel_rfl) (by kernel_rfl) rfl ?_
 refine Z<|Ac<|O<|Aa<|Z<|Ac<|O<|O<|O<|A6 (s:=7) h (fun b h=>?_) fun b h=>?_
 refine Ag<|Ag<|Ag<|Ag<|Ag<|Ag<|Ag<|Ax (f:=Ba) (l:=b0_1) (Bq _)<|Ag<|O<|O<|Aa<|Ak ?_
 cases h
 exact ⟨rfl,rfl,rfl,rfl,Ae⟩
 refine Ad<|Ad<|Ad<|Ad<|Ad<|Ad<|Ad<|Ad<|O<|O<|Aa<|Ak ?_
 cases h
 exact ⟨rfl,rfl,rfl,rfl,Ae⟩
theorem Apv {a0:Fv} {b2:(List (ByteArray×Int))} {b3:(List (ByteArray×(List D8)))} {b1_0:(List A5)} {b1_1:(List Ao)} {b1_2:Int} {b1_3:Int} {b1_4:(List Ao)} {r:Bool} (h:Qq a0 b2 b3 b1_0 b1_1 b1_2 b1_3 b1_4=some r):Cm Tryz.prog 331 [Dq a0,(.loc 0 0)] [.cells 97 [(.loc 1 0)],.cells 168 [(.sl 3 (List.map Bf b1_0)),(.sl 3 (Bi b1_1)),(Af .i64 b1_2),(Af .i64 b1_3),(.sl 3 (Bi b1_4)),(.mp 2),(.mp 3)],.map (Ca (Af .i64) b2),.map (Ca (A2 5 El) b3)] (Av r) [.cells 97 [(.loc 1 0)],.cells 168 [(.sl 3 (List.map Bf b1_0)),(.sl 3 (Bi b1_1)),(Af .i64 b1_2),(Af .i64 b1_3),(.sl 3 (Bi b1_4)),(.mp 2),(.mp 3)],.map (Ca (Af .i64) b2),.map (Ca (A2 5 El) b3)]:=by
 unfold Qq at h
 refine D0 (C:={T:=B4,an:=(fun _=>.ask)}) true B8 B5 Tryz.func331 rfl (by kernel_rfl) (by kernel_rfl) rfl ?_
 refine Z<|Ac<|O<|O<|Aa<|Z<|Ac<|O<|O<|O<|O<|Aq h fun v2 f h=>As.act [1,2,3] _ _ _ _ (Agk (a0:=a0.Var) (b1:=b2) (b2:=b3) (b0_0:=b1_0) (b0_1:=b1_1) (b0_2:=b1_2) (b0_3:=b1_3) (b0_4:=b1_4) f) rfl rfl ⟨rfl,rfl,rfl,Ae⟩<|O<|O<|A6 (s:=9) h (fun b h=>?_) fun b h=>?_
 refine Ad<|Ad<|Ad<|Ad<|Ad<|Ad<|O<|O<|Aa<|Ak ?_
 cases h
 exact ⟨rfl,rfl,rfl,rfl,rfl,Ae⟩
 refine Ag<|Ag<|Ag<|Ag<|Aq h fun v3 c h=>As.act [1,2,3] _ _ _ _ (Agj (a0:=a0.Var) (b1:=b2) (b2:=b3) (b0_0:=b1_0) (b0_1:=b1_1) (b0_2:=b1_2) (b0_3:=b1_3) (b0_4:=b1_4) c) rfl rfl ⟨rfl,rfl,rfl,Ae⟩<|Ag<|Ael.mk 3 (by kernel_rfl)<|Ag<|O<|O<|Aa<|Ak ?_
 cases h
 exact ⟨rfl,rfl,rfl,rfl,rfl,Ae⟩
theorem Apw {a0:(List Fv)} {b2:(List (ByteArray×Int))} {b3:(List (ByteArray×(List D8)))} {b1_0:(List A5)} {b1_1:(List Ao)} {b1_2:Int} {b1_3:Int} {b1_4:(List Ao)} {r:Int} (h:U8 a0 b2 b3 b1_0 b1_1 b1_2 b1_3 b1_4=some r):Cm Tryz.prog 352 [(A2 2 Dq) a0,(.fn 331 [(.loc 0 0)])] [.cells 97 [(.loc 1 0)],.cells 168 [(.sl 3 (List.map Bf b1_0)),(.sl 3 (Bi b1_1)),(Af .i64 b1_2),(Af .i64 b1_3),(.sl 3 (Bi b1_4)),(.mp 2),(.mp 3)],.map (Ca (Af .i64) b2),.map (Ca (A2 5 El) b3)] ((Af .i64) r) [.cells 97 [(.loc 1 0)],.cells 168 [(.sl 3 (List.map Bf b1_0)),(.sl 3 (Bi b1_1)),(Af .i64 b1_2),(Af .i64 b1_3),(.sl 3 (Bi b1_4)),(.mp 2),(.mp 3)],.map (Ca (Af .i64) b2),.map (Ca (A2 5 El) b3)]:=by
 unfold U8 at h
 refine D0 (C:={T:=B4,an:=(fun _=>.ask)}) true B8 B5 Tryz.func352 rfl (by kernel_rfl) (by kernel_rfl) rfl ?_
 refine Z<|Ac<|O<|Aa<|Z<|Z<|Ac<|O<|O<|Ax (f:=Dq) (l:=a0) rfl<|O<|Aa<|Ay<|Bn h (fun v3=>[(4,(Af .i64 0)),(8,(Af .i64 v3))]) (fun v3=>[]) (fun _=>True) (fun _=>rfl) ⟨rfl,rfl,Ae⟩ ⟨Ah,Ah,Ah,Ah,Ae⟩ Ae ?_
 rintro v3 q u i g c hn1 _
 refine Z<|Ac<|O<|Aa<|Z<|Am g (fun b h=>?_) fun b h=>?_
 refine An<|Z<|Ay<|Z<|Ac<|O<|O<|Aa<|Z<|Ac<|O<|O<|O<|O<|A7 (f:=Dq) rfl h fun s v4 i4 k h=>O<|O<|Aq h fun v5 j h=>As.act [0,1,2,3] _ _ _ _ (Apv (a0:=v4) (b2:=b2) (b3:=b3) (b1_0:=b1_0) (b1_1:=b1_1) (b1_2:=b1_2) (b1_3:=b1_3) (b1_4:=b1_4) j) rfl rfl ⟨rfl,rfl,rfl,rfl,Ae⟩<|Aa<|Am h (fun b h=>?_) fun b h=>?_
 refine Z<|Ac<|O<|O<|Aa<|Ak ?_
 have h:=c _ (Ai h)
 cases h
 exact ⟨rfl,rfl,rfl,rfl,rfl,Ae⟩
 exact An<|Ac<|O<|Aw.mk _ rfl<|O<|Aa<|hn1 _ _ _ _ (Ai h) ⟨rfl,rfl,Ae⟩ ⟨Ah,Ah,Ah,Ah,Ae⟩ Ae
 refine Bh<|Bg rfl ?_
 have h:=c _ (Ai h)
 refine Z<|Ac<|O<|Aa<|Ak ?_
 cases h
 exact ⟨rfl,rfl,rfl,rfl,rfl,Ae⟩
theorem Apx {a0:(List Fv)} {b2:(List (ByteArray×Int))} {b3:(List (ByteArray×(List D8)))} {b1_0:(List A5)} {b1_1:(List Ao)} {b1_2:Int} {b1_3:Int} {b1_4:(List Ao)} {r:Bool} (h:U7 a0 b2 b3 b1_0 b1_1 b1_2 b1_3 b1_4=some r):Cm Tryz.prog 330 [(A2 2 Dq) a0,(.fn 331 [(.loc 0 0)])] [.cells 97 [(.loc 1 0)],.cells 168 [(.sl 3 (List.map Bf b1_0)),(.sl 3 (Bi b1_1)),(Af .i64 b1_2),(Af .i64 b1_3),(.sl 3 (Bi b1_4)),(.mp 2),(.mp 3)],.map (Ca (Af .i64) b2),.map (Ca (A2 5 El) b3)] (Av r) [.cells 97 [(.loc 1 0)],.cells 168 [(.sl 3 (List.map Bf b1_0)),(.sl 3 (Bi b1_1)),(Af .i64 b1_2),(Af .i64 b1_3),(.sl 3 (Bi b1_4)),(.mp 2),(.mp 3)],.map (Ca (Af .i64) b2),.map (Ca (A2 5 El) b3)]:=by
 unfold U7 at h
 refine D0 (C:={T:=B4,an:=(fun _=>.ask)}) true B8 B5 Tryz.func330 rfl (by kernel_rfl) (by kernel_rfl) rfl ?_
 refine Z<|Ac<|O<|Aa<|Z<|Ac<|O<|O<|O<|Aq h fun c b h=>As.act [0,1,2,3] _ _ _ _ (Apw (a0:=a0) (b2:=b2) (b3:=b3) (b1_0:=b1_0) (b1_1:=b1_1) (b1_2:=b1_2) (b1_3:=b1_3) (b1_4:=b1_4) b) rfl rfl ⟨rfl,rfl,rfl,rfl,Ae⟩<|O<|O<|Aa<|Ak ?_
 cases h
 exact ⟨rfl,rfl,rfl,rfl,rfl,Ae⟩
theorem Apy {a0:Ey} {b1:(List (ByteArray×Int))} {b2:(List (ByteArray×(List D8)))} {b0_0:(List A5)} {b0_1:(List Ao)} {b0_2:Int} {b0_3:Int} {b0_4:(List Ao)} {r:Bool} (h:Ql a0 b1 b2 b0_0 b0_1 b0_2 b0_3 b0_4=some r):Cm Tryz.prog 309 [(.loc 0 0),Km a0] [.cells 168 [(.sl 3 (List.map Bf b0_0)),(.sl 3 (Bi b0_1)),(Af .i64 b0_2),(Af .i64 b0_3),(.sl 3 (Bi b0_4)),(.mp 1),(.mp 2)],.map (Ca (Af .i64) b1),.map (Ca (A2 5 El) b2)] (Av r) [.cells 168 [(.sl 3 (List.map Bf b0_0)),(.sl 3 (Bi b0_1)),(Af .i64 b0_2),(Af .i64 b0_3),(.sl 3 (Bi b0_4)),(.mp 1),(.mp 2)],.map (Ca (Af .i64) b1),.map (Ca (A2 5 El) b2)]:=by
 unfold Ql at h
 refine D0 (C:={T:=B4,an:=(fun _=>.ask)}) true B8 B5 Tryz.func309 rfl (by kernel_rfl) (by kernel_rfl) rfl ?_
 refine Z<|Ac<|O<|O<|O<|Aa<|Z<|Ac<|O<|O<|O<|O<|Aq h fun v3 b h=>As.act [3,0,1,2] _ _ _ _ (Apx (a0:=a0.Terms) (b2:=b1) (b3:=b2) (b1_0:=b0_0) (b1_1:=b0_1) (b1_2:=b0_2) (b1_3:=b0_3) (b1_4:=b0_4) b) rfl rfl ⟨rfl,rfl,rfl,rfl,Ae⟩<|O<|O<|Aa<|Ak ?_
 cases h
 exact ⟨rfl,rfl,rfl,rfl,Ae⟩
end Go.Ab
namespace Go.Ab
open Go Go.Proofs
set_option maxRecDepth 10000
theorem Apz {a0:C8} {b1:(List (ByteArray×Int))} {b2:(List (ByteArray×(List D8)))} {b0_0:(List A5)} {b0_1:(List Ao)} {b0_2:Int} {b0_3:Int} {b0_4:(List Ao)} {r:(Bool×(List (ByteArray×Int)))} (h:Sx a0 b1 b2 b0_0 b0_1 b0_2 b0_3 b0_4=some r):Cm Tryz.prog 254 [(.loc 0 0),Hd a0] [.cells 168 [(.sl 3 (List.map Bf b0_0)),(.sl 3 (Bi b0_1)),(Af .i64 b0_2),(Af .i64 b0_3),(.sl 3 (Bi b0_4)),(.mp 1),(.mp 2)],.map (Ca (Af .i64) b1),.map (Ca (A2 5 El) b2)] (Av r.1) [.cells 168 [(.sl 3 (List.map Bf b0_0)),(.sl 3 (Bi b0_1)),(Af .i64 b0_2),(Af .i64 b0_3),(.sl 3 (Bi b0_4)),(.mp 1),(.mp 2)],.map (Ca (Af .i64) r.2),.map (Ca (A2 5 El) b2)]:=by
 unfold Sx at h
 refine D0 (C:={T:=B4,an:=(fun _=>.ask)}) true B8 B5 Tryz.func254 rfl (by kernel_rfl) (by kernel_rfl) rfl ?_
 refine Z<|Ac<|O<|O<|Aa<|Z<|Z<|Ac<|O<|O<|O<|Ax (f:=C4) (l:=a0.Factors) rfl<|O<|Aa<|Ay<|Bn h (fun (j,i)=>[(4,(Av false)),(12,(Af .i64 j))]) (fun (j,i)=>[(1,.map (Ca (Af .i64) i))]) (fun _=>True) (fun _=>rfl) ⟨rfl,rfl,Ae⟩ ⟨Ah,Ah,Ah,Ah,Ae⟩ Ae ?_
 rintro ⟨j,i⟩ L R E u g hn1 _
 refine Z<|Ac<|O<|Aa<|Z<|Am u (fun b h=>?_) fun b h=>?_
 refine An<|Z<|Ay<|Z<|Ac<|O<|A7 (f:=C4) rfl h fun M v8 i8 I h=>O<|O<|O<|Aa<|Z<|Ac<|O<|O<|O<|O<|Aq h fun v10 z h=>As.act [0,1,2] _ _ _ _ (Agk (a0:=v8.Var) (b1:=i) (b2:=b2) (b0_0:=b0_0) (b0_1:=b0_1) (b0_2:=b0_2) (b0_3:=b0_3) (b0_4:=b0_4) z) rfl rfl ⟨rfl,rfl,rfl,Ae⟩<|O<|O<|A6 (s:=21) h (fun b h=>?_) fun b h=>?_
 refine Ad<|Ad<|Ad<|Ad<|Ad<|Ad<|Ad<|O<|Aa<|Dd<|Z<|Ac<|O<|Aa<|Ak ?_
 have h:=g _ (Ai h)
 cases h
 exact ⟨rfl,rfl,rfl,rfl,Ae⟩
 refine Ag<|Ag<|Ag<|Ag<|Ag<|Ag<|Aq h fun B y h=>As.act [0,1,2] _ _ _ _ (Abd (a0:=v8.Var) (a1:=v8.Index) (b1:=i) (b2:=b2) (b0_0:=b0_0) (b0_1:=b0_1) (b0_2:=b0_2) (b0_3:=b0_3) (b0_4:=b0_4) y) rfl rfl ⟨rfl,rfl,rfl,Ae⟩<|Ag<|O<|Aa<|Am h (fun b h=>?_) fun b h=>?_
 refine Z<|Ac<|O<|Aa<|Ak ?_
 have h:=g _ (Ai h)
 cases h
 exact ⟨rfl,rfl,rfl,rfl,Ae⟩
 exact An<|Ac<|O<|Aw.mk _ rfl<|O<|Aa<|hn1 _ _ _ _ (Ai h) ⟨rfl,rfl,Ae⟩ ⟨Ah,Ah,Ah,Ah,Ae⟩ Ae
 refine Bh<|Bg rfl ?_
 have h:=g _ (Ai h)
 refine Z<|Z<|Ac<|O<|O<|O<|Ax (f:=Dk) (l:=a0.Atoms) rfl<|O<|Aa<|Ay<|Bn h (fun v18=>[(4,(Av false)),(34,(Af .i64 v18))]) (fun v18=>[]) (fun _=>True) (fun _=>rfl) ⟨rfl,rfl,Ae⟩ ⟨Ah,Ah,Ah,Ah,Ae⟩ Ae ?_
 rintro v18 J N D q c hn2 _
 refine Z<|Ac<|O<|Aa<|Z<|Am q (fun b h=>?_) fun b h=>?_
 refine An<|Z<|Ay<|Z<|Ac<|O<|A7 (f:=Dk) rfl h fun G k i19 A h=>O<|O<|O<|Aa<|Z<|Ac<|O<|O<|O<|O<|A6 (s:=41) h (fun b h=>?_) fun b h=>?_
 refine Ad<|Ad<|Ad<|Ad<|Ad<|O<|Aa<|Dd<|Z<|Ac<|O<|Aa<|Ak ?_
 have h:=c _ (Ai h)
 cases h
 exact ⟨rfl,rfl,rfl,rfl,Ae⟩
 refine Ag<|Ag<|Ag<|Ag<|Aq h fun v21 x h=>As.act [0,1,2] _ _ _ _ (Apy (a0:=k.Lin) (b1:=i) (b2:=b2) (b0_0:=b0_0) (b0_1:=b0_1) (b0_2:=b0_2) (b0_3:=b0_3) (b0_4:=b0_4) x) rfl rfl ⟨rfl,rfl,rfl,Ae⟩<|Ag<|O<|Aa<|Am h (fun b h=>?_) fun b h=>?_
 refine Z<|Ac<|O<|Aa<|Ak ?_
 have h:=c _ (Ai h)
 cases h
 exact ⟨rfl,rfl,rfl,rfl,Ae⟩
 exact An<|Ac<|O<|Aw.mk _ rfl<|O<|Aa<|hn2 _ _ _ _ (Ai h) ⟨rfl,rfl,Ae⟩ ⟨Ah,Ah,Ah,Ah,Ae⟩ Ae
 refine Bh<|Bg rfl ?_
 have h:=c _ (Ai h)
 refine Z<|Ac<|O<|Aa<|Ak ?_
 cases h
 exact ⟨rfl,rfl,rfl,rfl,Ae⟩
theorem Ap0 {a0:C8} {b1:(List (ByteArray×Int))} {b2:(List (ByteArray×(List D8)))} {b0_0:(List A5)} {b0_1:(List Ao)} {b0_2:Int} {b0_3:Int} {b0_4:(List Ao)} {r:(Bool×(List (ByteArray×Int)))} (h:P6 a0 b1 b2 b0_0 b0_1 b0_2 b0_3 b0_4=some r):Cm Tryz.prog 190 [(.loc 0 0),Hd a0] [.cells 168 [(.sl 3 (List.map Bf b0_0)),(.sl 3 (Bi b0_1)),(Af .i64 b0_2),(Af .i64 b0_3),(.sl 3 (Bi b0_4)),(.mp 1),(.mp 2)],.map (Ca (Af .i64) b1),.map (Ca (A2 5 El) b2)] (Av r.1) [.cells 168 [(.sl 3 (List.map Bf b0_0)),(.sl 3 (Bi b0_1)),(Af .i64 b0_2),(Af .i64 b0_3),(.sl 3 (Bi b0_4)),(.mp 1),(.mp 2)],.map (Ca (Af .i64) r.2),.map (Ca (A2 5 El) b2)]:=by
 unfold P6 at h
 refine D0 (C:={T:=B4,an:=(fun _=>.ask)}) true B8 B5 Tryz.func190 rfl (by kernel_rfl) (by kernel_rfl) rfl ?_
 refine Z<|Ac<|O<|O<|Aa<|Z<|Z<|Cd h fun y D G=>Ce (fun (x:(Bool×(List<|ByteArray×Int)))=>x=y) (fun (v4,q)=>[(18,(Av v4))]) (fun (v4,q)=>[(1,.map (Ca (Af .i64) q))]) (fun _=>rfl) ?_ ?_
 intro K1 hK1
 refine Ac<|O<|O<|O<|Aq D fun v2 c2 h=>As.act [0,1,2] _ _ _ _ (Apz (a0:=a0) (b1:=b1) (b2:=b2) (b0_0:=b0_0) (b0_1:=b0_1) (b0_2:=b0_2) (b0_3:=b0_3) (b0_4:=b0_4) c2) rfl rfl ⟨rfl,rfl,rfl,Ae⟩<|O<|O<|A6 (s:=13) h (fun b h=>?_) fun b h=>?_
 exact Ad<|Ad<|Ad<|Ad<|O<|Aa<|hK1 (true,v2.2) _ _ _ (Ai h) ⟨rfl,Ae⟩ ⟨Ah,Ah,Ah,Ah,Ae⟩
 exact Ag<|Ag<|Ag<|Aq h fun v3 c3 h=>As.act [0,1,2] _ _ _ _ (Apu (a0:=a0) (b1:=v2.2) (b2:=b2) (b0_0:=b0_0) (b0_1:=b0_1) (b0_2:=b0_2) (b0_3:=b0_3) (b0_4:=b0_4) c3) rfl rfl ⟨rfl,rfl,rfl,Ae⟩<|Ag<|O<|Aa<|hK1 ((decide<|v3.1>(6:Int)),v3.2) _ _ _ (Ai h) ⟨rfl,Ae⟩ ⟨Ah,Ah,Ah,Ah,Ae⟩
 rintro ⟨v4,q⟩ u1 J
 have h:=G _ J
 refine Am h (fun b h=>?_) fun b h=>?_
 refine Z<|Ac<|O<|Aa<|Ak ?_
 cases h
 exact ⟨rfl,rfl,rfl,rfl,Ae⟩
 refine An<|Z<|Z<|Ac<|O<|O<|O<|Ax (f:=C4) (l:=a0.Factors) rfl<|O<|Aa<|Ay<|Bn h (fun (v9,c)=>[(4,(Av false)),(22,(Af .i64 v9))]) (fun (v9,c)=>[(1,.map (Ca (Af .i64) c))]) (fun _=>True) (fun _=>rfl) ⟨rfl,rfl,Ae⟩ ⟨Ah,Ah,Ah,Ah,Ae⟩ Ae ?_
 rintro ⟨v9,c⟩ u2 K2 a6 B i hn2 _
 refine Z<|Ac<|O<|Aa<|Z<|Am B (fun b h=>?_) fun b h=>?_
 refine An<|Z<|Ay<|Z<|Ac<|O<|O<|A7 (f:=C4) rfl h fun ab j i11 V h=>O<|O<|O<|O<|Aa<|Z<|B0<|O<|O<|O<|O<|O<|O<|Aq h fun v13 N h=>As.act [0,1,2] _ _ _ _ (Abd (a0:=j.Var) (a1:=j.Index) (b1:=c) (b2:=b2) (b0_0:=b0_0) (b0_1:=b0_1) (b0_2:=b0_2) (b0_3:=b0_3) (b0_4:=b0_4) N) rfl rfl ⟨rfl,rfl,rfl,Ae⟩<|O ?_
 refine O<|A6 (s:=34) h (fun b h=>?_) fun b h=>?_
 refine Ad<|Ad<|Ad<|A9 (10,true) 37 undef<|A9 (10,true) 37 undef<|A9 (10,true) 37 undef<|A9 (10,true) 37 undef<|A9 (10,true) 37 undef<|A9 (10,true) 37 undef<|A9 (10,true) 37 undef<|A9 (10,true) 37 undef<|A9 (10,true) 37 undef<|A9 (10,true) 37 undef<|Ad<|O<|Aa<|Bj.mk (by kernel_rfl)<|Dd<|Z<|Ac<|O<|Aa<|Ak ?_
 have h:=i _ (Ai h)
 cases h
 exact ⟨rfl,rfl,rfl,rfl,Ae⟩
 refine Ag<|Ag<|Ag<|A6 (s:=37) h (fun b h=>?_) fun b h=>?_
 refine Ag<|Ag<|Ag<|Ag<|Aw.mk _ rfl<|Ag<|A7 (f:=C4) rfl h fun aa X i14 U h=>Ag<|Ag<|Ag<|Ag<|Ag<|Ag<|O<|Aa<|Bj.mk (by kernel_rfl)<|Am h (fun b h=>?_) fun b h=>?_
 refine Z<|Ac<|O<|Aa<|Ak ?_
 have h:=i _ (Ai h)
 cases h
 exact ⟨rfl,rfl,rfl,rfl,Ae⟩
 exact An<|Ac<|O<|Aw.mk _ rfl<|O<|Aa<|hn2 _ _ _ _ (Ai h) ⟨rfl,rfl,Ae⟩ ⟨Ah,Ah,Ah,Ah,Ae⟩ Ae
 exact Ad<|Ad<|Ad<|Ad<|Ad<|Ad<|Ad<|Ad<|Ad<|Ad<|Ag<|O<|Aa<|Bj.mk (by kernel_rfl)<|Fg<|An<|Ac<|O<|Aw.mk _ rfl<|O<|Aa<|hn2 _ _ _ _ (Ai h) ⟨rfl,rfl,Ae⟩ ⟨Ah,Ah,Ah,Ah,Ae⟩ Ae
 refine Bh<|Bg rfl ?_
 have h:=i _ (Ai h)
 refine Z<|Z<|Ac<|O<|O<|O<|Ax (f:=Dk) (l:=a0.Atoms) rfl<|O<|Aa<|Ay<|Bn h (fun v22=>[(4,(Av false)),(54,(Af .i64 v22))]) (fun v22=>[]) (fun _=>True) (fun _=>rfl) ⟨rfl,rfl,Ae⟩ ⟨Ah,Ah,Ah,Ah,Ae⟩ Ae ?_
 rintro v22 u3 K3 Y A g hn3 _
 refine Z<|Ac<|O<|Aa<|Z<|Am A (fun b h=>?_) fun b h=>?_
 refine An<|Z<|Ay<|Z<|Ac<|O<|O<|A7 (f:=Dk) rfl h fun a8 v23 i23 S h=>O<|O<|O<|O<|Aa<|Z<|Z<|Cd h fun u z E=>Ce (fun (v26:Bool)=>v26=u) (fun v26=>[(74,(Av v26))]) (fun v26=>[]) (fun _=>rfl) ?_ ?_
 intro K4 hK4
 refine Ac<|O<|O<|O<|O<|A6 (s:=62) z (fun b h=>?_) fun b h=>?_
 exact Ad<|Ad<|Ad<|Ad<|O<|O<|Ad<|Ad<|Ad<|Ad<|Ad<|O<|Aa<|hK4 true _ _ _ (Ai h) ⟨rfl,Ae⟩ ⟨Ah,Ah,Ah,Ah,Ah,Ae⟩
 refine Ag<|Ag<|Ag<|Aq h fun v25 M h=>As.mk _ (Apm (a0:=v23.Lin) M) rfl<|Ag<|O<|O<|A6 (s:=68) h (fun b h=>?_) fun b h=>?_
 exact Ad<|Ad<|Ad<|Ad<|Ad<|O<|Aa<|hK4 true _ _ _ (Ai h) ⟨rfl,Ae⟩ ⟨Ah,Ah,Ah,Ah,Ah,Ae⟩
 exact Ag<|Ag<|Ag<|Ag<|Ax (f:=Dq) (l:=v23.Lin.Terms) rfl<|Ag<|O<|Aa<|hK4 ((v23.Lin.Terms.length:Int)==(0:Int)) _ _ _ (Ai h) ⟨rfl,Ae⟩ ⟨Ah,Ah,Ah,Ah,Ah,Ae⟩
 rintro v26 u4 I
 have h:=E _ I
 refine Am h (fun b h=>?_) fun b h=>?_
 refine Z<|Ac<|O<|Aa<|Ak ?_
 have h:=g _ (Ai h)
 cases h
 exact ⟨rfl,rfl,rfl,rfl,Ae⟩
 refine An<|Z<|B0<|O<|O<|O<|A6 (s:=77) h (fun b h=>?_) fun b h=>?_
 refine Ag<|Ag<|Ag<|Ag<|Aw.mk _ rfl<|Ag<|A7 (f:=Dk) rfl h fun a7 k i27 R h=>Ag<|Ag<|Ag<|Ag<|Ag<|Aq h fun v28 L h=>As.mk _ (Agc (a0:=k.Lin) (a1:=v23.Lin) L) rfl<|Ag<|O<|Aa<|Bj.mk (by kernel_rfl)<|Am h (fun b h=>?_) fun b h=>?_
 refine Z<|Ac<|O<|Aa<|Ak ?_
 have h:=g _ (Ai h)
 cases h
 exact ⟨rfl,rfl,rfl,rfl,Ae⟩
 exact An<|Ac<|O<|Aw.mk _ rfl<|O<|Aa<|hn3 _ _ _ _ (Ai h) ⟨rfl,rfl,Ae⟩ ⟨Ah,Ah,Ah,Ah,Ae⟩ Ae
 exact Ad<|Ad<|Ad<|Ad<|Ad<|Ad<|Ad<|Ad<|Ad<|Ad<|Ad<|O<|Aa<|Bj.mk (by kernel_rfl)<|Fg<|An<|Ac<|O<|Aw.mk _ rfl<|O<|Aa<|hn3 _ _ _ _ (Ai h) ⟨rfl,rfl,Ae⟩ ⟨Ah,Ah,Ah,Ah,Ae⟩ Ae
 refine Bh<|Bg rfl ?_
 have h:=g _ (Ai h)
 refine Z<|Ac<|O<|Aa<|Ak ?_
 cases h
 exact ⟨rfl,rfl,rfl,rfl,Ae⟩
theorem Xv {a0:A1} {r:A1} (h:Ln a0=some r):Bb Tryz.prog 79 [Bx a0] (Bx r):=by
 unfold Ln at h
 refine Bv Tryz.func79 rfl (by kernel_rfl) (by kernel_rfl) rfl ?_
 exact Z<|Ac<|O<|O<|Aa<|Z<|Ac<|O<|O<|Aq h fun v3 c h=>As.mk _ (Od (a0:=a0) c) rfl<|O<|Aq h fun v4 b h=>As.mk _ (Vc (a0:=v3) b) rfl<|O<|Aa<|Ak<|congrArg (fun x:A1=>(Bx x:AV))<|Ai h
theorem Abe {a0:Ea} {r:Int} (h:Nr a0=some r):Bb Tryz.prog 112 [He a0] ((Af .i64) r):=by
 unfold Nr at h
 refine Bv Tryz.func112 rfl (by kernel_rfl) (by kernel_rfl) rfl ?_
 refine Z<|Ac<|O<|O<|Aa<|Z<|Ay<|Z<|Ac<|O<|O<|O<|Ax (f:=(Af .u32)) (l:=a0.n) rfl<|O<|O<|Aa<|Am h (fun b h=>?_) fun b h=>?_
 exact Z<|Ac<|O<|Aa<|Ak<|Bu h
 refine Z<|Ac<|O<|O<|O<|Aa<|Am h (fun b h=>?_) fun b h=>?_
 exact Z<|Ac<|O<|Aa<|Ak<|Bu h
 exact An<|Z<|Ac<|O<|Aa<|Ak<|Bu h
theorem Abf {a0:A1} {r:Int} (h:Ml a0=some r):Bb Tryz.prog 67 [Bx a0] ((Af .i64) r):=by
 unfold Ml at h
 refine Bv Tryz.func67 rfl (by kernel_rfl) (by kernel_rfl) rfl ?_
 exact Z<|Ac<|O<|O<|Aa<|Z<|Ac<|O<|O<|Aq h fun v2 c h=>As.mk _ (Od (a0:=a0) c) rfl<|O<|Aq h fun v3 b h=>As.mk _ (Abe (a0:=v2) b) rfl<|O<|Aa<|Ak<|Bu h
theorem Agl {a0:(List Int)} {a1:(List Int)} {r:Bool} (h:Kh a0 a1=some r):Bb Tryz.prog 189 [(A2 1 (Af .u32)) a0,(A2 1 (Af .u32)) a1] (Av r):=by
 unfold Kh at h
 refine Bv Tryz.func189 rfl (by kernel_rfl) (by kernel_rfl) rfl ?_
 refine Z<|Ac<|O<|Aa<|Z<|Z<|Ac<|O<|O<|Ax (f:=(Af .u32)) (l:=a0) rfl<|O<|O<|Ax (f:=(Af .u32)) (l:=a1) rfl<|O<|Aa<|Am h (fun b h=>?_) fun b h=>?_
 exact Z<|Ac<|O<|Aa<|Ak<|A3 h
 refine An<|Z<|Z<|Ac<|O<|O<|Ax (f:=(Af .u32)) (l:=a0) rfl<|O<|Aa<|Ay<|Bn h (fun v3=>[(4,(Av false)),(13,(Af .i64 v3))]) (fun v3=>[]) (fun _=>True) (fun _=>rfl) ⟨rfl,rfl,Ae⟩ Ae Ae ?_
 rintro v3 q x i g c hn1 _
 refine Z<|Ac<|O<|Aa<|Z<|Am g (fun b h=>?_) fun b h=>?_
 refine An<|Z<|Ay<|Z<|Ac<|O<|O<|Aa<|Z<|B0<|O<|O<|O<|A7 (f:=(Af .u32)) rfl h fun u v4 i4 k h=>O<|O<|O<|O<|A7 (f:=(Af .u32)) rfl h fun s v5 i5 j h=>O<|O<|Aa<|Bj.mk (by kernel_rfl)<|Am h (fun b h=>?_) fun b h=>?_
 refine Z<|Ac<|O<|Aa<|Ak ?_
 have h:=c _ (Ai h)
 exact A3 h
 exact An<|Ac<|O<|Aw.mk _ rfl<|O<|Aa<|hn1 _ _ _ _ (Ai h) ⟨rfl,rfl,Ae⟩ Ae Ae
 refine Bh<|Bg rfl ?_
 have h:=c _ (Ai h)
 exact Z<|Ac<|O<|Aa<|Ak<|A3 h
theorem Agm {a0:(List B2)} {b1:(List (ByteArray×Int))} {b2:(List (ByteArray×(List D8)))} {b0_0:(List A5)} {b0_1:(List Ao)} {b0_2:Int} {b0_3:Int} {b0_4:(List Ao)} {r:(Bool×(List (ByteArray×Int)))} (h:Sg a0 b1 b2 b0_0 b0_1 b0_2 b0_3 b0_4=some r):Cm Tryz.prog 116 [(.loc 0 0),(A2 5 B7) a0] [.cells 168 [(.sl 3 (List.map Bf b0_0)),(.sl 3 (Bi b0_1)),(Af .i64 b0_2),(Af .i64 b0_3),(.sl 3 (Bi b0_4)),(.mp 1),(.mp 2)],.map (Ca (Af .i64) b1),.map (Ca (A2 5 El) b2)] (Av r.1) [.cells 168 [(.sl 3 (List.map Bf b0_0)),(.sl 3 (Bi b0_1)),(Af .i64 b0_2),(Af .i64 b0_3),(.sl 3 (Bi b0_4)),(.mp 1),(.mp 2)],.map (Ca (Af .i64) r.2),.map (Ca (A2 5 El) b2)]:=by
 unfold Sg at h
 refine D0 (C:={T:=B4,an:=(fun _=>.ask)}) true B8 B5 Tryz.func116 rfl (by kernel_rfl) (by kernel_rfl) rfl ?_
 refine Z<|Ac<|O<|Aa<|Z<|Z<|Ac<|O<|O<|Ax (f:=B7) (l:=a0) rfl<|O<|Aa<|Am h (fun b h=>?_) fun b h=>?_
 refine Z<|Ac<|O<|Aa<|Ak ?_
 cases h
 exact ⟨rfl,rfl,rfl,rfl,Ae⟩
 refine An<|Z<|Z<|Ac<|O<|O<|Ax (f:=B7) (l:=a0) rfl<|O<|Aa<|Ay<|Bn h (fun (v10,g)=>[(4,(Av false)),(14,(Af .i64 v10))]) (fun (v10,g)=>[(1,.map (Ca (Af .i64) g))]) (fun _=>True) (fun _=>rfl) ⟨rfl,rfl,Ae⟩ ⟨Ah,Ah,Ah,Ae⟩ Ae ?_
 rintro ⟨v10,g⟩ S V L q c hn1 _
 refine Z<|Ac<|O<|Aa<|Z<|Am q (fun b h=>?_) fun b h=>?_
 refine An<|Z<|Ay<|Z<|Ac<|O<|O<|A7 (f:=B7) rfl h fun N v12 i12 I h=>O<|O<|O<|O<|Aa<|Z<|Ac<|O<|O<|O<|Aq h fun i E h=>As.mk _ (Xv (a0:=v12.Coef) E) rfl<|O<|O<|Aa<|Z ?_
 refine Cd h fun j k u=>Ce (fun (v18:Bool)=>v18=j) (fun v18=>[(8,(Av v18))]) (fun v18=>[]) (fun _=>rfl) ?_ ?_
 intro U hK2
 refine Ac<|O<|O<|O<|O<|O<|O<|O<|A6 (s:=28) k (fun b h=>?_) fun b h=>?_
 refine Ag<|Ag<|Ag<|Ag<|Ag<|Ag<|Aq h fun v16 D h=>As.mk _ (Agl (a0:=i.Num) (a1:=v12.Coef.Num) D) rfl<|O<|O<|A6 (s:=36) h (fun b h=>?_) fun b h=>?_
 exact Ag<|Ag<|Ag<|Ag<|Ag<|Ag<|Aq h fun v17 B h=>As.mk _ (Agl (a0:=i.Den) (a1:=v12.Coef.Den) B) rfl<|O<|O<|Aa<|hK2 v17 _ _ _ (Ai h) ⟨rfl,Ae⟩ ⟨Ah,Ah,Ah,Ah,Ah,Ae⟩
 exact Ad<|Ad<|Ad<|Ad<|Ad<|Ad<|O<|O<|Aa<|hK2 false _ _ _ (Ai h) ⟨rfl,Ae⟩ ⟨Ah,Ah,Ah,Ah,Ah,Ae⟩
 exact Ad<|Ad<|Ad<|Ad<|Ad<|Ad<|O<|O<|Ad<|Ad<|Ad<|Ad<|Ad<|Ad<|O<|O<|Aa<|hK2 false _ _ _ (Ai h) ⟨rfl,Ae⟩ ⟨Ah,Ah,Ah,Ah,Ah,Ae⟩
 rintro v18 R x
 have h:=u _ x
 refine Z<|B0<|O<|O<|O<|A6 (s:=46) h (fun b h=>?_) fun b h=>?_
 refine Ad<|Ad<|Ad<|O<|O<|Ad<|Ad<|Ad<|Ad<|Ad<|O<|O<|Ad<|Ad<|Ad<|A9 (17,true) 61 undef<|A9 (17,true) 61 undef<|A9 (17,true) 61 undef<|A9 (17,true) 61 undef<|A9 (17,true) 61 undef<|A9 (17,true) 61 undef<|A9 (17,true) 61 undef<|A9 (17,true) 61 undef<|A9 (17,true) 61 undef ?_
 refine A9 (17,true) 61 undef<|Ad<|O<|Aa<|Bj.mk (by kernel_rfl)<|Dd<|Z<|Ac<|O<|Aa<|Ak ?_
 have h:=c _ (Ai h)
 cases h
 exact ⟨rfl,rfl,rfl,rfl,Ae⟩
 refine Ag<|Ag<|Aq h fun J A h=>As.mk _ (Abf (a0:=i) A) rfl<|Ag<|O<|O<|A6 (s:=51) h (fun b h=>?_) fun b h=>?_
 refine Ad<|Ad<|Ad<|Ad<|Ad<|O<|O<|Ad<|Ad<|Ad<|A9 (17,true) 61 undef<|A9 (17,true) 61 undef<|A9 (17,true) 61 undef<|A9 (17,true) 61 undef<|A9 (17,true) 61 undef<|A9 (17,true) 61 undef<|A9 (17,true) 61 undef<|A9 (17,true) 61 undef<|A9 (17,true) 61 undef<|A9 (17,true) 61 undef<|Ad<|O<|Aa<|Bj.mk (by kernel_rfl) ?_
 refine Dd<|Z<|Ac<|O<|Aa<|Ak ?_
 have h:=c _ (Ai h)
 cases h
 exact ⟨rfl,rfl,rfl,rfl,Ae⟩
 refine Ag<|Ag<|Ag<|Ag<|Aq h fun v20 z h=>As.act [0,1,2] _ _ _ _ (Ap0 (a0:=v12.Mono) (b1:=g) (b2:=b2) (b0_0:=b0_0) (b0_1:=b0_1) (b0_2:=b0_2) (b0_3:=b0_3) (b0_4:=b0_4) z) rfl rfl ⟨rfl,rfl,rfl,Ae⟩<|Ag<|O<|O<|A6 (s:=58) h (fun b h=>?_) fun b h=>?_
 refine Ad<|Ad<|Ad<|A9 (17,true) 61 undef<|A9 (17,true) 61 undef<|A9 (17,true) 61 undef<|A9 (17,true) 61 undef<|A9 (17,true) 61 undef<|A9 (17,true) 61 undef<|A9 (17,true) 61 undef<|A9 (17,true) 61 undef<|A9 (17,true) 61 undef<|A9 (17,true) 61 undef<|Ad<|O<|Aa<|Bj.mk (by kernel_rfl)<|Dd<|Z<|Ac<|O<|Aa<|Ak ?_
 have h:=c _ (Ai h)
 cases h
 exact ⟨rfl,rfl,rfl,rfl,Ae⟩
 refine Ag<|Ag<|Ag<|A6 (s:=61) h (fun b h=>?_) fun b h=>?_
 refine Ag<|Ag<|Ag<|Aw.mk _ rfl<|Ag<|A7 (f:=B7) rfl h fun M v21 i21 G h=>Ag<|Ag<|Ag<|Ag<|Ag<|Aq h fun v22 y h=>As.mk _ (Abb (a0:=v21.Mono) (a1:=v12.Mono) y) rfl<|Ag<|Ag<|O<|Aa<|Bj.mk (by kernel_rfl)<|Am h (fun b h=>?_) fun b h=>?_
 refine Z<|Ac<|O<|Aa<|Ak ?_
 have h:=c _ (Ai h)
 cases h
 exact ⟨rfl,rfl,rfl,rfl,Ae⟩
 exact An<|Ac<|O<|Aw.mk _ rfl<|O<|Aa<|hn1 _ _ _ _ (Ai h) ⟨rfl,rfl,Ae⟩ ⟨Ah,Ah,Ah,Ae⟩ Ae
 exact Ad<|Ad<|Ad<|Ad<|Ad<|Ad<|Ad<|Ad<|Ad<|Ad<|Ag<|O<|Aa<|Bj.mk (by kernel_rfl)<|Fg<|An<|Ac<|O<|Aw.mk _ rfl<|O<|Aa<|hn1 _ _ _ _ (Ai h) ⟨rfl,rfl,Ae⟩ ⟨Ah,Ah,Ah,Ae⟩ Ae
 refine Bh<|Bg rfl ?_
 have h:=c _ (Ai h)
 refine Z<|Ac<|O<|Aa<|Ak ?_
 cases h
 exact ⟨rfl,rfl,rfl,rfl,Ae⟩
end Go.Ab
namespace Go.Ab
open Go Go.Proofs
set_option maxRecDepth 10000
theorem Ap1 {a0:Cp} {a1:(List (List B2))} {r:(Bool×Cp×(List (ByteArray×Int))×(List (ByteArray×(List D8)))×(List A5)×(List Ao)×Int×Int×(List Ao))} (h:Ps a0 a1=some (.inl r)):Cm Tryz.prog 59 [Fe a0,(A2 1 (A2 5 B7)) a1] [] (.tup [.loc 3 0,Av r.1]) [.cells 27 [(.sl 3 (List.map Bf r.2.1.Data)),(.sl 3 (Bi r.2.1.Vars)),(Af .i64 r.2.1.Res.Kind),(Af .i64 r.2.1.Res.Num),(.sl 3 (Bi r.2.1.Res.Args))],.map (Ca (Af .i64) r.2.2.1),.map (Ca (A2 5 El) r.2.2.2.1),.cells 168 [(.sl 3 (List.map Bf r.2.2.2.2.1)),(.sl 3 (Bi r.2.2.2.2.2.1)),(Af .i64 r.2.2.2.2.2.2.1),(Af .i64 r.2.2.2.2.2.2.2.1),(.sl 3 (Bi r.2.2.2.2.2.2.2.2)),(.mp 1),(.mp 2)]]:=by
 unfold Ps at h
 refine D0 (C:={T:=B4,an:=(fun _=>.ask),nl:=(fun s=>bif Nat.beq s 18 then [(1,7),(2,3),(3,8)] else [])}) true B8 B5 Tryz.func59 rfl (by kernel_rfl) (by kernel_rfl) rfl ?_
 refine Z<|Ac<|O<|O<|O<|Aa<|Z<|Z<|Cd h fun j u x=>Ce (fun (v4:Bool)=>v4=j) (fun v4=>[(29,(Av v4))]) (fun v4=>[]) (fun _=>rfl) ?_ ?_
 intro Y hK1
 refine Ac<|O<|O<|O<|Ax (f:=Ba) (l:=a0.Vars) (Bq _)<|O<|O<|A6 (s:=15) u (fun b h=>?_) fun b h=>?_
 exact Ad<|Ad<|Ad<|Ad<|Ad<|O<|O<|Ad<|Ad<|Ad<|Ad<|Ad<|Ad<|O<|Aa<|hK1 true _ _ _ (Ai h) ⟨rfl,Ae⟩ ⟨Ah,Ae⟩
 refine Ag<|Ag<|Ag<|Ag<|Aq h fun v2 L h=>As.mk _ (Xu (a0:=a0.Data) L) rfl<|Ag<|O<|O<|A6 (s:=22) h (fun b h=>?_) fun b h=>?_
 exact Ad<|Ad<|Ad<|Ad<|Ad<|Ad<|O<|Aa<|hK1 true _ _ _ (Ai h) ⟨rfl,Ae⟩ ⟨Ah,Ae⟩
 exact Ag<|Ag<|Ag<|Ag<|Ag<|Aq h fun v3 J h=>As.mk _ (Oe (a0:=a0.Data) (a1:=a0.Res) (a2:=0) J) rfl<|Ag<|O<|Aa<|hK1 (!v3) _ _ _ (Ai h) ⟨rfl,Ae⟩ ⟨Ah,Ae⟩
 rintro v4 S y
 have h:=x _ y
 refine Am h (fun b h=>?_) fun b h=>?_
 refine Z<|Ac<|O<|O<|Aa<|Ak ?_
 cases h
 refine An<|Z<|Z<|Ac<|O<|O<|O<|Ax (f:=Ba) (l:=a0.Vars) (Bq _)<|O<|Aa<|Ay<|Bn h (fun v8=>[(4,(.val (.pointer none))),(5,(Av false)),(33,(Af .i64 v8))]) (fun v8=>[]) (fun _=>True) (fun _=>rfl) ⟨rfl,rfl,rfl,Ae⟩ ⟨Ah,Ae⟩ Ae ?_
 rintro v8 R X G q i hn2 _
 refine Z<|Ac<|O<|Aa<|Z<|Am q (fun b h=>?_) fun b h=>?_
 refine An<|Z<|Ay<|Z<|Ac<|O<|A7 (f:=Ba) (Bq _) h fun U v9 i9 M h=>O<|O<|O<|Aa<|Z<|Ac<|O<|O<|O<|O<|Aq h fun D A h=>As.mk _ (Oe (a0:=a0.Data) (a1:=v9) (a2:=0) A) rfl<|O<|Aa<|Am h (fun b h=>?_) fun b h=>?_
 refine Z<|Ac<|O<|O<|Aa<|Ak ?_
 have h:=i _ (Ai h)
 cases h
 exact An<|Ac<|O<|Aw.mk _ rfl<|O<|Aa<|hn2 _ _ _ _ (Ai h) ⟨rfl,rfl,rfl,Ae⟩ ⟨Ah,Ae⟩ Ae
 refine Bh<|Bg rfl ?_
 have h:=i _ (Ai h)
 refine Z<|Ac<|O<|O<|O<|O<|O<|O<|Aa<|Z<|Z<|Ac<|O<|O<|Ax (f:=(A2 5 B7)) (l:=a1) rfl<|O<|Aa<|Ay<|Bn h (fun (v18,c)=>[(4,(.val (.pointer none))),(5,(Av false)),(50,(Af .i64 v18))]) (fun (v18,c)=>[(1,.map (Ca (Af .i64) c))]) (fun _=>True) (fun _=>rfl) ⟨rfl,rfl,rfl,Ae⟩ ⟨Ah,Ah,Ah,Ah,Ae⟩ Ae ?_
 rintro ⟨v18,c⟩ N V E k g hn3 _
 refine Z<|Ac<|O<|Aa<|Z<|Am k (fun b h=>?_) fun b h=>?_
 refine An<|Z<|Ay<|Z<|Ac<|O<|A7 (f:=(A2 5 B7)) rfl h fun I v20 i20 B h=>O<|O<|Aa<|Z<|Ac<|O<|O<|O<|Aq h fun v21 z h=>As.act [3,1,2] _ _ _ _ (Agm (a0:=v20) (b1:=c) (b2:=[]) (b0_0:=a0.Data) (b0_1:=a0.Vars) (b0_2:=a0.Res.Kind) (b0_3:=a0.Res.Num) (b0_4:=a0.Res.Args) z) rfl rfl ⟨rfl,rfl,rfl,Ae⟩<|O<|Aa<|Am h (fun b h=>?_) fun b h=>?_
 refine Z<|Ac<|O<|O<|Aa<|Ak ?_
 have h:=g _ (Ai h)
 cases h
 exact An<|Ac<|O<|Aw.mk _ rfl<|O<|Aa<|hn3 _ _ _ _ (Ai h) ⟨rfl,rfl,rfl,Ae⟩ ⟨Ah,Ah,Ah,Ah,Ae⟩ Ae
 refine Bh<|Bg rfl ?_
 have h:=g _ (Ai h)
 refine Z<|Ac<|O<|O<|O<|Aa<|Ak ?_
 cases h
 exact ⟨rfl,rfl,rfl,rfl,rfl,Ae⟩
theorem Ap2 {a0:Cp} {a1:(List (List B2))} {r:Bool} (h:Ps a0 a1=some (.inr r)):Cm Tryz.prog 59 [Fe a0,(A2 1 (A2 5 B7)) a1] [] (.tup [.val (.pointer none),Av r]) []:=by
 unfold Ps at h
 refine D0 (C:={T:=B4,an:=(fun _=>.ask),nl:=(fun s=>bif Nat.beq s 18 then [(1,7),(2,3),(3,8)] else [])}) true B8 B5 Tryz.func59 rfl (by kernel_rfl) (by kernel_rfl) rfl ?_
 refine Z<|Ac<|O<|O<|O<|Aa<|Z<|Z<|Cd h fun j u x=>Ce (fun (v4:Bool)=>v4=j) (fun v4=>[(29,(Av v4))]) (fun v4=>[]) (fun _=>rfl) ?_ ?_
 intro Y hK1
 refine Ac<|O<|O<|O<|Ax (f:=Ba) (l:=a0.Vars) (Bq _)<|O<|O<|A6 (s:=15) u (fun b h=>?_) fun b h=>?_
 exact Ad<|Ad<|Ad<|Ad<|Ad<|O<|O<|Ad<|Ad<|Ad<|Ad<|Ad<|Ad<|O<|Aa<|hK1 true _ _ _ (Ai h) ⟨rfl,Ae⟩ ⟨Ah,Ae⟩
 refine Ag<|Ag<|Ag<|Ag<|Aq h fun v2 L h=>As.mk _ (Xu (a0:=a0.Data) L) rfl<|Ag<|O<|O<|A6 (s:=22) h (fun b h=>?_) fun b h=>?_
 exact Ad<|Ad<|Ad<|Ad<|Ad<|Ad<|O<|Aa<|hK1 true _ _ _ (Ai h) ⟨rfl,Ae⟩ ⟨Ah,Ae⟩
 exact Ag<|Ag<|Ag<|Ag<|Ag<|Aq h fun v3 J h=>As.mk _ (Oe (a0:=a0.Data) (a1:=a0.Res) (a2:=0) J) rfl<|Ag<|O<|Aa<|hK1 (!v3) _ _ _ (Ai h) ⟨rfl,Ae⟩ ⟨Ah,Ae⟩
 rintro v4 S y
 have h:=x _ y
 refine Am h (fun b h=>?_) fun b h=>?_
 refine Z<|Ac<|O<|O<|Aa<|Ak ?_
 cases h
 exact ⟨rfl,Ae⟩
 refine An<|Z<|Z<|Ac<|O<|O<|O<|Ax (f:=Ba) (l:=a0.Vars) (Bq _)<|O<|Aa<|Ay<|Bn h (fun v8=>[(4,(.val (.pointer none))),(5,(Av false)),(33,(Af .i64 v8))]) (fun v8=>[]) (fun _=>True) (fun _=>rfl) ⟨rfl,rfl,rfl,Ae⟩ ⟨Ah,Ae⟩ Ae ?_
 rintro v8 R X G q i hn2 _
 refine Z<|Ac<|O<|Aa<|Z<|Am q (fun b h=>?_) fun b h=>?_
 refine An<|Z<|Ay<|Z<|Ac<|O<|A7 (f:=Ba) (Bq _) h fun U v9 i9 M h=>O<|O<|O<|Aa<|Z<|Ac<|O<|O<|O<|O<|Aq h fun D A h=>As.mk _ (Oe (a0:=a0.Data) (a1:=v9) (a2:=0) A) rfl<|O<|Aa<|Am h (fun b h=>?_) fun b h=>?_
 refine Z<|Ac<|O<|O<|Aa<|Ak ?_
 have h:=i _ (Ai h)
 cases h
 exact ⟨rfl,Ae⟩
 exact An<|Ac<|O<|Aw.mk _ rfl<|O<|Aa<|hn2 _ _ _ _ (Ai h) ⟨rfl,rfl,rfl,Ae⟩ ⟨Ah,Ae⟩ Ae
 refine Bh<|Bg rfl ?_
 have h:=i _ (Ai h)
 refine Z<|Ac<|O<|O<|O<|O<|O<|O<|Aa<|Z<|Z<|Ac<|O<|O<|Ax (f:=(A2 5 B7)) (l:=a1) rfl<|O<|Aa<|Ay<|Bn h (fun (v18,c)=>[(4,(.val (.pointer none))),(5,(Av false)),(50,(Af .i64 v18))]) (fun (v18,c)=>[(1,.map (Ca (Af .i64) c))]) (fun _=>True) (fun _=>rfl) ⟨rfl,rfl,rfl,Ae⟩ ⟨Ah,Ah,Ah,Ah,Ae⟩ Ae ?_
 rintro ⟨v18,c⟩ N V E k g hn3 _
 refine Z<|Ac<|O<|Aa<|Z<|Am k (fun b h=>?_) fun b h=>?_
 refine An<|Z<|Ay<|Z<|Ac<|O<|A7 (f:=(A2 5 B7)) rfl h fun I v20 i20 B h=>O<|O<|Aa<|Z<|Ac<|O<|O<|O<|Aq h fun v21 z h=>As.act [3,1,2] _ _ _ _ (Agm (a0:=v20) (b1:=c) (b2:=[]) (b0_0:=a0.Data) (b0_1:=a0.Vars) (b0_2:=a0.Res.Kind) (b0_3:=a0.Res.Num) (b0_4:=a0.Res.Args) z) rfl rfl ⟨rfl,rfl,rfl,Ae⟩<|O<|Aa<|Am h (fun b h=>?_) fun b h=>?_
 refine Z<|Ac<|O<|O<|Aa<|Ak ?_
 have h:=g _ (Ai h)
 cases h
 exact ⟨rfl,Ae⟩
 exact An<|Ac<|O<|Aw.mk _ rfl<|O<|Aa<|hn3 _ _ _ _ (Ai h) ⟨rfl,rfl,rfl,Ae⟩ ⟨Ah,Ah,Ah,Ah,Ae⟩ Ae
 refine Bh<|Bg rfl ?_
 have h:=g _ (Ai h)
 refine Z<|Ac<|O<|O<|O<|Aa<|Ak ?_
 cases h
theorem Tf {a0:Cp} {a1:(List B2)} {r:Bool} (h:J7 a0 a1=some r):Bb Tryz.prog 36 [Fe a0,(A2 5 B7) a1] (Av r):=by
 unfold J7 at h
 refine Bv Tryz.func36 rfl (by kernel_rfl) (by kernel_rfl) rfl ?_
 refine Z<|Ac<|O<|O<|Aa<|Z<|Ac<|O<|O<|O<|O<|Aq h fun v2 b h=>?_
 rcases v2 with v3 | v8
 exact As.act [] _ _ _ _ (Ap1 (a0:=a0) (a1:=[a1]) b) rfl rfl Ae<|O<|O<|O<|O<|O<|Aa<|Z<|Ac<|O<|O<|Aa<|Ak<|A3 h
 exact As.act [] _ _ _ _ (Ap2 (a0:=a0) (a1:=[a1]) b) rfl rfl Ae<|O<|O<|O<|O<|O<|Aa<|Z<|Ac<|O<|O<|Aa<|Ak<|A3 h
theorem Abg {a0:Cp} {a1:(List B2)} {r:Bool} (h:Nk a0 a1=some r):Bb Tryz.prog 15 [Fe a0,(A2 5 B7) a1] (Av r):=by
 unfold Nk at h
 refine Bv Tryz.func15 rfl (by kernel_rfl) (by kernel_rfl) rfl ?_
 refine Z<|Ac<|O<|O<|Aa<|Z<|Z<|Ac<|O<|O<|O<|Aq h fun v2 B h=>As.mk _ (Tf (a0:=a0) (a1:=a1) B) rfl<|O<|Aa<|Am h (fun b h=>?_) fun b h=>?_
 exact Z<|Ac<|O<|Aa<|Ak<|A3 h
 refine An<|Z<|Z<|Ac<|O<|O<|Ax (f:=B7) (l:=a1) rfl<|O<|Aa<|Ay<|Bn h (fun c=>[(4,(Av false)),(18,(Af .i64 c))]) (fun c=>[]) (fun _=>True) (fun _=>rfl) ⟨rfl,rfl,Ae⟩ ⟨Ah,Ae⟩ Ae ?_
 rintro c E I y k g hn1 _
 refine Z<|Ac<|O<|Aa<|Z<|Am k (fun b h=>?_) fun b h=>?_
 refine An<|Z<|Ay<|Z<|Ac<|O<|A7 (f:=B7) rfl h fun A v15 i15 u h=>O<|O<|O<|Aa<|Z<|Z<|Ac<|O<|O<|O<|O<|Ax (f:=Dk) (l:=v15.Mono.Atoms) rfl<|O<|Aa<|Am h (fun b h=>?_) fun b h=>?_
 refine Z<|Ac<|O<|Aa<|Ak ?_
 have h:=g _ (Ai h)
 exact A3 h
 refine An<|Z<|Ac<|O<|O<|O<|O<|Ax (f:=C4) (l:=v15.Mono.Factors) rfl<|O<|Aa<|Ay<|Bn h (fun v20=>[(4,(Av false)),(31,(Af .i64 v20))]) (fun v20=>[]) (fun _=>True) (fun _=>rfl) ⟨rfl,rfl,Ae⟩ ⟨Ah,Ah,Ae⟩ Ae ?_
 rintro v20 D G x j i hn2 _
 refine Z<|Ac<|O<|Aa<|Z<|Am j (fun b h=>?_) fun b h=>?_
 refine An<|Z<|Ay<|Z<|Ac<|O<|A7 (f:=C4) rfl h fun z v21 i21 s h=>O<|O<|O<|Aa<|Z<|Ac<|O<|O<|O<|Aq h fun v23 q h=>As.mk _ (Aba (a0:=a0) (a1:=v21) q) rfl<|O<|O<|O<|O<|O<|O ?_
 refine O<|Aa<|Z<|Ac<|O<|O<|Aa<|Am h (fun b h=>?_) fun b h=>?_
 refine Z<|Ac<|O<|Aa<|Ak ?_
 have h:=i _ (Ai h)
 have h:=g _ (Ai h)
 exact A3 h
 exact An<|Ac<|O<|Aw.mk _ rfl<|O<|Aa<|hn2 _ _ _ _ (Ai h) ⟨rfl,rfl,Ae⟩ ⟨Ah,Ah,Ae⟩ Ae
 refine Bh<|Bg rfl ?_
 have h:=i _ (Ai h)
 exact Ac<|O<|Aw.mk _ rfl<|O<|Aa<|hn1 _ _ _ _ (Ai h) ⟨rfl,rfl,Ae⟩ ⟨Ah,Ae⟩ Ae
 refine Bh<|Bg rfl ?_
 have h:=g _ (Ai h)
 exact Z<|Ac<|O<|Aa<|Ak<|A3 h
theorem Ap3 {a0:(List Int)} {a1:(List Int)} {r:(List Int)} (h:Sj a0 a1=some r):Bb Tryz.prog 162 [(A2 1 (Af .u32)) a0,(A2 1 (Af .u32)) a1] ((A2 1 (Af .u32)) r):=by
 unfold Sj at h
 refine C2 (C:={T:=B4,an:=(fun _=>.ask),nl:=(fun s=>bif Nat.beq s 4 then [(0,1)] else [])}) B8 B5 Tryz.func162 rfl (by kernel_rfl) (by kernel_rfl) rfl ?_
 refine Z<|Ac<|O<|Aa<|Z<|Z<|Ac<|O<|O<|Ax (f:=(Af .u32)) (l:=a0) rfl<|O<|O<|Ax (f:=(Af .u32)) (l:=a1) rfl<|O<|Aa<|Cd h fun q B E=>Ce (fun (x:((List Int)×(List Int)))=>x=q) (fun (g,v2)=>[(0,(.sl 1<|List.map (Af .u32) g)),(1,(.sl 1<|List.map (Af .u32) v2))]) (fun (g,v2)=>[]) (fun _=>rfl) ?_ ?_
 intro K1 hK1
 refine Am B (fun b h=>?_) fun b h=>?_
 exact Ac<|O<|O<|O<|O<|Aa<|hK1 (a1,a0) _ _ _ (Ai h) ⟨rfl,rfl,Ae⟩ Ae
 exact An<|hK1 (a0,a1) _ _ _ (Ai h) ⟨rfl,rfl,Ae⟩ Ae
 rintro ⟨g,v2⟩ X I
 have h:=E _ I
 refine Z<|Ac<|O<|O<|Ax (f:=(Af .u32)) (l:=g) rfl<|O<|Aw.mk _ rfl<|O<|Gx (f:=(Af .u32)) (z:=(0:Int)) rfl h fun Y h=>O<|Aa<|Z<|Ac<|O<|Aa<|Z<|Z<|Ac<|O<|O<|Ax (f:=(Af .u32)) (l:=g) rfl<|O<|Aa<|Ay ?_
 refine Bn h (fun (v20,v21,c)=>[(5,(.arr 0 c.length 0 c.length)),(6,(Af .u32 v20)),(22,(Af .i64 v21))]) (fun (v20,v21,c)=>[(0,.rows 129 1 (List.map (Af .u32) c))]) (fun _=>True) (fun _=>rfl) ⟨rfl,rfl,rfl,Ae⟩ ⟨Ah,Ae⟩ Ae ?_
 rintro ⟨v20,v21,c⟩ V K2 M A u hn2 _
 refine Z<|Ac<|O<|Aa<|Z<|Am A (fun b h=>?_) fun b h=>?_
 refine An<|Z<|Ay<|Z<|Ac<|O<|O<|Aa<|Z<|Ac<|O<|O<|O<|A7 (f:=(Af .u32)) rfl h fun S v23 i23 L h=>O<|O<|O<|Aw.mk _ rfl<|O<|Aa<|Z<|Z<|Ac<|O ?_
 refine O<|O<|Ax (f:=(Af .u32)) (l:=v2) rfl<|O<|Aa<|Cd h fun k y D=>Ce (fun (v25:Int)=>v25=k) (fun v25=>[(8,(Af .u32 v25))]) (fun v25=>[]) (fun _=>rfl) ?_ ?_
 intro K3 hK3
 refine Am y (fun b h=>?_) fun b h=>?_
 exact Ac<|O<|O<|O<|O<|A7 (f:=(Af .u32)) rfl h fun R v24 i24 J h=>O<|O<|Aw.mk _ rfl<|O<|Aa<|hK3 (Bt ((Bt<|v23+v20)+v24)) _ _ _ (Ai h) ⟨rfl,Ae⟩ ⟨Ah,Ae⟩
 exact An<|hK3 (Bt<|v23+v20) _ _ _ (Ai h) ⟨rfl,Ae⟩ ⟨Ah,Ae⟩
 rintro v25 U G
 have h:=D _ G
 exact Z<|Ac<|O<|O<|G4 h fun v26 h=>O<|Aa<|Ac<|O<|O<|O<|Hj h fun j h=>O<|O<|D9 (f:=(Af .u32)) (l:=c) (ys:=[j]) rfl rfl rfl rfl h fun N h=>O<|Aa<|Ac<|O<|Aw.mk _ rfl<|O<|Aa<|hn2 _ _ _ _ (Ai h) ⟨rfl,rfl,rfl,Ae⟩ ⟨Ah,Ae⟩ Ae
 refine Bh<|Bg rfl ?_
 have h:=u _ (Ai h)
 refine Z<|Z<|Ac<|O<|O<|Aa<|Am h (fun b h=>?_) fun b h=>?_
 exact Ac<|O<|O<|O<|O<|D9 (f:=(Af .u32)) (l:=c) (ys:=[v20]) rfl rfl rfl rfl h fun i h=>O<|Aa<|Z<|Ac<|O<|O<|Aa<|Ak<|Bz (f:=(Af .u32)) (l:=i) rfl rfl<|Bz (f:=(Af .u32)) (l:=i) rfl rfl<|congrArg (fun x:(List Int)=>((A2 1<|Af .u32) x:AV))<|Ai h
 exact An<|Z<|Ac<|O<|O<|Aa<|Ak<|Bz (f:=(Af .u32)) (l:=c) rfl rfl<|Bz (f:=(Af .u32)) (l:=c) rfl rfl<|congrArg (fun x:(List Int)=>((A2 1<|Af .u32) x:AV))<|Ai h
theorem Agn {a0:(List Int)} {a1:(List Int)} {r:(List Int)} (h:P3 a0 a1=some r):Bb Tryz.prog 163 [(A2 1 (Af .u32)) a0,(A2 1 (Af .u32)) a1] ((A2 1 (Af .u32)) r):=by
 unfold P3 at h
 refine C2 (C:={T:=B4,an:=(fun _=>.ask),nl:=(fun s=>bif Nat.beq s 4 then [(0,1)] else [])}) B8 B5 Tryz.func163 rfl (by kernel_rfl) (by kernel_rfl) rfl ?_
 refine Z<|Ac<|O<|Aa<|Z<|Ac<|O<|O<|Ax (f:=(Af .u32)) (l:=a0) rfl<|O<|Gx (f:=(Af .u32)) (z:=(0:Int)) rfl h fun R h=>O<|Aa<|Z<|Ac<|O<|Aa<|Z<|Z<|Ac<|O<|O<|Ax (f:=(Af .u32)) (l:=a0) rfl<|O ?_
 refine Aa<|Ay<|Bn h (fun (v8,v9,c)=>[(5,(.arr 0 c.length 0 c.length)),(6,(Af .i64 v8)),(14,(Af .i64 v9))]) (fun (v8,v9,c)=>[(0,.rows 129 1 (List.map (Af .u32) c))]) (fun _=>True) (fun _=>rfl) ⟨rfl,rfl,rfl,Ae⟩ ⟨Ah,Ae⟩ Ae ?_
 rintro ⟨v8,v9,c⟩ N U E q j hn1 _
 refine Z<|Ac<|O<|Aa<|Z<|Am q (fun b h=>?_) fun b h=>?_
 refine An<|Z<|Ay<|Z<|Ac<|O<|O<|Aa<|Z<|Ac<|O<|O<|O<|A7 (f:=(Af .u32)) rfl h fun L g i11 D h=>O<|O<|Aw.mk _ rfl<|O<|O<|Aw.mk _ rfl<|O<|Aa<|Z<|Z ?_
 refine Ac<|O<|O<|O<|Ax (f:=(Af .u32)) (l:=a1) rfl<|O<|Aa<|Cd h fun i k u=>Ce (fun (v13:Int)=>v13=i) (fun v13=>[(8,(Af .i64 v13))]) (fun v13=>[]) (fun _=>rfl) ?_ ?_
 intro S hK2
 refine Am k (fun b h=>?_) fun b h=>?_
 exact Ac<|O<|O<|O<|O<|A7 (f:=(Af .u32)) rfl h fun J v12 i12 B h=>O<|O<|Aw.mk _ rfl<|O<|Aw.mk _ rfl<|O<|Aa<|hK2 (Al ((Al ((Al g)-v8))-(Al v12))) _ _ _ (Ai h) ⟨rfl,Ae⟩ ⟨Ah,Ae⟩
 exact An<|hK2 (Al ((Al g)-v8)) _ _ _ (Ai h) ⟨rfl,Ae⟩ ⟨Ah,Ae⟩
 rintro v13 M y
 have h:=u _ y
 refine Z<|Ac<|O<|Aa<|Z<|Z<|Ac<|O<|O<|Aa<|Am h (fun b h=>?_) fun b h=>?_
 refine Z<|Ac<|O<|O<|Aw.mk _ rfl<|O<|Aa<|Ac<|O<|Aa<|Ac<|O<|O<|O<|Aw.mk _ rfl<|O<|O<|D9 (f:=(Af .u32)) (l:=c) (ys:=[(Bt<|Al<|v13+1000000000)]) rfl rfl rfl rfl h fun I h=>O<|Aa<|Ac<|O<|Aw.mk _ rfl<|O ?_
 exact Aa<|hn1 _ _ _ _ (Ai h) ⟨rfl,rfl,rfl,Ae⟩ ⟨Ah,Ae⟩ Ae
 exact An<|Ac<|O<|O<|O<|Aw.mk _ rfl<|O<|O<|D9 (f:=(Af .u32)) (l:=c) (ys:=[(Bt v13)]) rfl rfl rfl rfl h fun G h=>O<|Aa<|Ac<|O<|Aw.mk _ rfl<|O<|Aa<|hn1 _ _ _ _ (Ai h) ⟨rfl,rfl,rfl,Ae⟩ ⟨Ah,Ae⟩ Ae
 refine Bh<|Bg rfl ?_
 have h:=j _ (Ai h)
 exact Z<|Fd [.fz 5]<|Bz (f:=(Af .u32)) (l:=c) rfl rfl<|Bz (f:=(Af .u32)) (l:=c) rfl rfl<|Dx.mk<|Ac<|O<|O<|Aq h fun v17 A h=>As.mk _ (Qy (a0:=c) A) rfl<|O<|Aa<|Ak<|congrArg (fun x:(List Int)=>((A2 1<|Af .u32) x:AV))<|Ai h
theorem Ap4 {a0:Ea} {a1:Ea} {r:Ea} (h:Us a0 a1=some r):Bb Tryz.prog 99 [He a0,He a1] (He r):=by
 unfold Us at h
 refine Bv Tryz.func99 rfl (by kernel_rfl) (by kernel_rfl) rfl ?_
 refine Z<|Ac<|O<|O<|O<|Aa<|Z<|B0<|O<|O<|O<|O<|O<|Aq h fun v4 l h=>As.mk _ (Qz (a0:=a0.n) (a1:=a1.d) l) rfl<|O<|O<|O<|O<|O<|Aq h fun v5 k h=>As.mk _ (Qz (a0:=a1.n) (a1:=a0.d) k) rfl<|O<|O ?_
 refine Aa<|Bj.mk (by kernel_rfl)<|Z<|Ac<|O<|O<|O<|O<|O<|Aq h fun q j h=>As.mk _ (Qz (a0:=a0.d) (a1:=a1.d) j) rfl<|O<|Aa<|Z<|Z<|Ac<|O<|O<|O<|O<|O<|Aa<|Am h (fun b h=>?_) fun b h=>?_
 exact Z<|B0<|O<|O<|O<|O<|O<|Aq h fun v7 i h=>As.mk _ (Ap3 (a0:=v4) (a1:=v5) i) rfl<|O<|O<|O<|Aa<|Bj.mk (by kernel_rfl)<|Ak<|congrArg (fun x:Ea=>(He x:AV))<|Ai h
 refine An<|Z<|Z<|Ac<|O<|O<|O<|Aq h fun v8 g h=>As.mk _ (Aa5 (a0:=v4) (a1:=v5) g) rfl<|O<|Aa<|Am h (fun b h=>?_) fun b h=>?_
 exact Z<|B0<|O<|O<|O<|O<|O<|Aq h fun v9 f h=>As.mk _ (Agn (a0:=v4) (a1:=v5) f) rfl<|O<|O<|O<|Aa<|Bj.mk (by kernel_rfl)<|Ak<|congrArg (fun x:Ea=>(He x:AV))<|Ai h
 exact An<|Z<|B0<|O<|O<|O<|O<|O<|Aq h fun v10 c h=>As.mk _ (Agn (a0:=v5) (a1:=v4) c) rfl<|O<|O<|O<|Aa<|Bj.mk (by kernel_rfl)<|Ak<|congrArg (fun x:Ea=>(He x:AV))<|Ai h
theorem Ap5 {a0:A1} {a1:A1} {r:A1} (h:Lm a0 a1=some r):Bb Tryz.prog 46 [Bx a0,Bx a1] (Bx r):=by
 unfold Lm at h
 refine Bv Tryz.func46 rfl (by kernel_rfl) (by kernel_rfl) rfl ?_
 refine Z<|Ac<|O<|O<|O<|Aa<|Z<|B0<|O<|O<|Aq h fun v4 i h=>As.mk _ (Od (a0:=a0) i) rfl<|O<|O<|Aq h fun v5 g h=>As.mk _ (Od (a0:=a1) g) rfl<|O<|Aq h fun b f h=>As.mk _ (Ap4 (a0:=v4) (a1:=v5) f) rfl<|O<|Aq h fun v7 c h=>As.mk _ (Vc (a0:=b) c) rfl<|O<|Aa ?_
 exact Bj.mk (by kernel_rfl)<|Ak<|congrArg (fun x:A1=>(Bx x:AV))<|Ai h
theorem Ap6 {a0:Cp} {a1:(List B2)} {a2:(List Da)} {r:(A1×Int)} (h:Ry a0 a1 a2=some r):Bb Tryz.prog 12 [Fe a0,(A2 5 B7) a1,(A2 3 Db) a2] (.tup [Bx r.1,(Af .i64) r.2]):=by
 unfold Ry at h
 refine C2 (C:={T:=B4,an:=(fun _=>.ask),nl:=(fun s=>bif Nat.beq s 112 then [(1,1),(2,1)] else bif Nat.beq s 67 then [(1,1),(2,1)] else bif Nat.beq s 47 then [(1,1),(2,1)] else bif Nat.beq s 32 then [(1,1),(2,1)] else [])}) B8 B5 Tryz.func12 rfl (by kernel_rfl) (by kernel_rfl) rfl ?_
 refine Z<|Ac<|O<|O<|O<|Aa<|Z<|Z<|Ac<|O<|O<|O<|Aq h fun v3 c3 h=>As.mk _ (Abg (a0:=a0) (a1:=a1) c3) rfl<|O<|Aa<|Am h (fun b h=>?_) fun b h=>?_
 exact Z<|Ac<|O<|O<|O<|Aa<|Ak<|congrArg (fun x:(A1×Int)=>(.tup [Bx x.1,(Af .i64) x.2]:AV))<|Ai h
 refine An<|Z<|Z<|Ac<|O<|O<|Ax (f:=Db) (l:=a2) rfl<|O<|Aa<|Ay<|Bn h (fun L=>[(7,(Af .i64 0)),(35,(Af .i64 L))]) (fun L=>[]) (fun _=>True) (fun _=>rfl) ⟨rfl,rfl,Ae⟩ ⟨Ah,Ah,Ae⟩ Ae ?_
 rintro L u1 K1 au a6 B hn1 _
 refine Z<|Ac<|O<|Aa<|Z<|Am a6 (fun b h=>?_) fun b h=>?_
 refine An<|Z<|Ay<|Z<|Ac<|O<|A7 (f:=Db) rfl h fun n7 v7 i7 x7 h=>O<|O<|O<|Aa<|Z<|Ac<|O<|O<|O<|O<|A6 (s:=42) h (fun b h=>?_) fun b h=>?_
 refine Ad<|Ad<|Ad<|O<|Aa<|Dd<|Z<|Ac<|O<|O<|O<|Aa<|Ak ?_
 have h:=B _ (Ai h)
 exact congrArg (fun x:(A1×Int)=>(.tup [Bx x.1,(Af .i64) x.2]:AV))<|Ai h
 refine Ag<|Ag<|Ag<|O<|Aa<|Am h (fun b h=>?_) fun b h=>?_
 refine Z<|Ac<|O<|O<|O<|Aa<|Ak ?_
 have h:=B _ (Ai h)
 exact congrArg (fun x:(A1×Int)=>(.tup [Bx x.1,(Af .i64) x.2]:AV))<|Ai h
 exact An<|Ac<|O<|Aw.mk _ rfl<|O<|Aa<|hn1 _ _ _ _ (Ai h) ⟨rfl,rfl,Ae⟩ ⟨Ah,Ah,Ae⟩ Ae
 refine Bh<|Bg rfl ?_
 have h:=B _ (Ai h)
 refine Z<|Ac<|O<|O<|Aa<|Z<|Z<|Ac<|O<|O<|Ax (f:=Db) (l:=a2) rfl<|O<|Aa<|Ay<|Bn h (fun (v16,c)=>[(7,(Af .i64 0)),(52,(Af .i64 v16))]) (fun (v16,c)=>[(2,.map (Pk Oc (Af .i64) c))]) (fun _=>True) (fun _=>rfl) ⟨rfl,rfl,Ae⟩ ⟨Ah,Ah,Ah,Ae⟩ Ae ?_
 rintro ⟨v16,c⟩ u2 K2 aq Y G hn2 _
 refine Z<|Ac<|O<|Aa<|Z<|Am Y (fun b h=>?_) fun b h=>?_
 refine An<|Z<|Ay<|Z<|Ac<|O<|A7 (f:=Db) rfl h fun ax v18 i18 aj h=>O<|O<|O<|Aa<|Z<|Z<|Cd h fun R X a8=>Ce (fun (v20:Bool)=>v20=R) (fun v20=>[(14,(Av v20))]) (fun v20=>[]) (fun _=>rfl) ?_ ?_
 intro K3 hK3
 refine Ac<|O<|O<|O<|O<|O<|O<|O<|Afi (eq:=Gy) (g:=Oc) (k:=(F5.mk v18.Var v18.Con)) Aa3 Aa4 (f:=(Af .i64)) (l:=c) rfl (0:Int) rfl X (fun j_ b h=>?_) fun b h=>?_
 exact O<|O<|O<|O<|O<|Aa<|hK3 true _ _ _ (Ai h) ⟨rfl,Ae⟩ ⟨Ah,Ah,Ah,Ah,Ae⟩
 exact O<|O<|O<|O<|O<|Aa<|hK3 false _ _ _ (Ai h) ⟨rfl,Ae⟩ ⟨Ah,Ah,Ah,Ah,Ae⟩
 rintro v20 u3 ab
 have h:=a8 _ ab
 refine Z<|Ac<|O<|Aa<|Am h (fun b h=>?_) fun b h=>?_
 refine Z<|Ac<|O<|O<|O<|Aa<|Ak ?_
 have h:=G _ (Ai h)
 exact congrArg (fun x:(A1×Int)=>(.tup [Bx x.1,(Af .i64) x.2]:AV))<|Ai h
 exact An<|Ac<|O<|O<|O<|O<|O<|O<|O<|O<|O<|An1 (eq:=Gy) (g:=Oc) (k:=(F5.mk v18.Var v18.Con)) Aa3 Aa4 (f:=(Af .i64)) (l:=c) (x:=v18.N) rfl rfl rfl rfl h fun ar h=>Aa<|Ac<|O<|Aw.mk _ rfl<|O<|Aa<|hn2 _ _ _ _ (Ai h) ⟨rfl,rfl,Ae⟩ ⟨Ah,Ah,Ah,Ae⟩ Ae
 refine Bh<|Bg rfl ?_
 have h:=G _ (Ai h)
 refine Z<|Ac<|O<|Aq h fun v25 ag h=>As.mk _ (L1 (a0:=0) ag) rfl<|O<|O<|Aa<|Z<|Z<|Ac<|O<|O<|Ax (f:=B7) (l:=a1) rfl<|O<|Aa<|Ay<|Bn h (fun (A,y,v59,u)=>[(7,(Af .i64 0)),(80,(Af .i64 A))]) (fun (A,y,v59,u)=>[(3,.cells 41 [(Av y),(.sl 1<|List.map (Af .u32) v59),(.sl 1<|List.map (Af .u32) u)])]) (fun _=>True) (fun _=>rfl) ⟨rfl,rfl,Ae⟩ ⟨Ah,Ah,Ah,Ah,Ae⟩ Ae ?_
 rintro ⟨A,y,v59,u⟩ u4 K4 ap V E hn4 _
 refine Z<|Ac<|O<|Aa<|Z<|Am V (fun b h=>?_) fun b h=>?_
 refine An<|Z<|Ay<|Z<|Ac<|O<|A7 (f:=B7) rfl h fun aw J i61 ai h=>O<|O<|O<|Aa<|Z<|Ac<|O<|O<|O<|O<|Aa<|Z<|Z<|Ac<|O<|O<|O ?_
 refine O<|Ax (f:=C4) (l:=J.Mono.Factors) rfl<|O<|Aa<|Ay<|Bn h (fun (v72,j,i,v75)=>[(7,(Af .i64 0)),(90,(Af .i64 v72))]) (fun (v72,j,i,v75)=>[(5,.cells 41 [(Av j),(.sl 1<|List.map (Af .u32) i),(.sl 1<|List.map (Af .u32) v75)])]) (fun _=>True) (fun _=>rfl) ⟨rfl,rfl,Ae⟩ ⟨Ah,Ah,Ah,Ah,Ah,Ah,Ae⟩ Ae ?_
 rintro ⟨v72,j,i,v75⟩ u5 K5 ao U D hn5 _
 refine Z<|Ac<|O<|Aa<|Z<|Am U (fun b h=>?_) fun b h=>?_
 refine An<|Z<|Ay<|Z<|Ac<|O<|A7 (f:=C4) rfl h fun av v76 i76 ah h=>O<|O<|O<|Aa<|Z<|Ac<|O<|O<|O<|Aq h fun z af h=>As.mk _ (Aba (a0:=a0) (a1:=v76) af) rfl<|O<|O<|O<|O<|O<|O ?_
 refine O<|Aa<|Z<|Cd h fun M S a7=>Ce (fun (x:(Int×Bool))=>x=M) (fun (q,v80)=>[(24,(Af .i64 q)),(25,(Av v80))]) (fun (q,v80)=>[]) (fun _=>rfl) ?_ ?_
 intro K6 hK6
 refine Ac<|O<|O<|O<|O<|O<|O<|Afi (eq:=Gy) (g:=Oc) (k:=(F5.mk v76.Var z.1)) Aa3 Aa4 (f:=(Af .i64)) (l:=c) rfl (0:Int) rfl S (fun j_ b h=>?_) fun b h=>?_
 exact O<|O<|O<|O<|O<|Aa<|hK6 ((Ij Gy c (F5.mk v76.Var z.1) (0:Int)),true) _ _ _ (Ai h) ⟨rfl,rfl,Ae⟩ ⟨Ah,Ah,Ah,Ah,Ah,Ah,Ah,Ae⟩
 exact O<|O<|O<|O<|O<|Aa<|hK6 (0,false) _ _ _ (Ai h) ⟨rfl,rfl,Ae⟩ ⟨Ah,Ah,Ah,Ah,Ah,Ah,Ah,Ae⟩
 rintro ⟨q,v80⟩ u6 aa
 have h:=a7 _ aa
 refine Z<|Z<|Ac<|O<|O<|Aa<|Am h (fun b h=>?_) fun b h=>?_
 refine Z<|Ac<|O<|O<|O<|Aa<|Ak ?_
 have h:=D _ (Ai h)
 have h:=E _ (Ai h)
 exact congrArg (fun x:(A1×Int)=>(.tup [Bx x.1,(Af .i64) x.2]:AV))<|Ai h
 refine An<|Z<|Ac<|O<|O<|O<|Aq h fun I ae h=>As.mk _ (Aop (a0:=q) (a1:=z.2.1) ae) rfl<|O<|O<|O<|O<|O<|O<|Aa<|Ac<|O<|O<|O<|Aq h fun am ad h=>As.mk _ (Aft (a0:=(A1.mk j i v75)) (a1:=I.1) ad) rfl<|O<|Aa<|Ac ?_
 exact O<|Aw.mk _ rfl<|O<|Aa<|hn5 _ _ _ _ (Ai h) ⟨rfl,rfl,Ae⟩ ⟨Ah,Ah,Ah,Ah,Ah,Ah,Ae⟩ Ae
 refine Bh<|Bg rfl ?_
 have h:=D _ (Ai h)
 exact Ac<|O<|O<|O<|Aq h fun ak ac h=>As.mk _ (Ap5 (a0:=(A1.mk y v59 u)) (a1:=(A1.mk j i v75)) ac) rfl<|O<|Aa<|Ac<|O<|Aw.mk _ rfl<|O<|Aa<|hn4 _ _ _ _ (Ai h) ⟨rfl,rfl,Ae⟩ ⟨Ah,Ah,Ah,Ah,Ae⟩ Ae
 refine Bh<|Bg rfl ?_
 have h:=E _ (Ai h)
 exact Z<|Ac<|O<|O<|O<|Aa<|Ak<|congrArg (fun x:(A1×Int)=>(.tup [Bx x.1,(Af .i64) x.2]:AV))<|Ai h
end Go.Ab
namespace Go.Ab
open Go Go.Proofs
set_option maxRecDepth 10000
theorem Ago:∀k:Nat,(∀(a0:Bl) (b3:(List Bl)) (b4:(List (List Bool))) (r:(List Bl)),Lu k a0 b3 b4=some r->Cm Tryz.prog 148 [Cj a0,(.loc 0 0),(.loc 1 0),(.loc 2 0)] [.cells 29 [(.arr 3 b3.length 0 b3.length)],.cells 199 [(.arr 4 b4.length 0 b4.length)],.cells 202 [(.fn 148 [(.loc 0 0),(.loc 1 0),(.loc 2 0)])],.rows 31 3 (Dv b3),.rows 200 1 (List.map (A2 1 Av) b4)] (.tup []) [.cells 29 [(.arr 3 r.length 0 r.length)],.cells 199 [(.arr 4 b4.length 0 b4.length)],.cells 202 [(.fn 148 [(.loc 0 0),(.loc 1 0),(.loc 2 0)])],.rows 31 3 (Dv r),.rows 200 1 (List.map (A2 1 Av) b4)])
 | 0=>(fun _ _ _ _ h=>by simp only [Lu] at h; cases h)
 | k+1=>by
  have ih:=Ago k
  have c:∀{a0:Bl} {b3:(List Bl)} {b4:(List (List Bool))} {r:(List Bl)},Lu k a0 b3 b4=some r->Cm Tryz.prog 148 [Cj a0,(.loc 0 0),(.loc 1 0),(.loc 2 0)] [.cells 29 [(.arr 3 b3.length 0 b3.length)],.cells 199 [(.arr 4 b4.length 0 b4.length)],.cells 202 [(.fn 148 [(.loc 0 0),(.loc 1 0),(.loc 2 0)])],.rows 31 3 (Dv b3),.rows 200 1 (List.map (A2 1 Av) b4)] (.tup []) [.cells 29 [(.arr 3 r.length 0 r.length)],.cells 199 [(.arr 4 b4.length 0 b4.length)],.cells 202 [(.fn 148 [(.loc 0 0),(.loc 1 0),(.loc 2 0)])],.rows 31 3 (Dv r),.rows 200 1 (List.map (A2 1 Av) b4)]:=fun h=>ih _ _ _ _ h
  intro a0 b3 b4 r h
  unfold Lu at h
  refine D0 (C:={T:=B4,an:=(fun _=>.ask),nl:=(fun s=>bif Nat.beq s 10 then [(1002,3)] else [])}) true B8 B5 Tryz.func148 rfl (by kernel_rfl) (by kernel_rfl) rfl ?_
  refine Z<|Ac<|O<|Aa<|Z<|B0<|O<|O<|O<|Bz (f:=Cj) (l:=b3) (Dn _) rfl<|O<|O<|H4 (g:=Dv) Dn (f:=Cj) (l:=b3) (ys:=[(Bl.mk 0 0 [])]) (Dn _) rfl rfl rfl h fun G h=>O<|Fo (f:=Cj) (Dn _) rfl rfl h fun R v3 i3 B h=>O<|Ei (f:=Cj) (Dn _) rfl (Nat.zero_add _) B<|Anz (g:=Dv) Dn (f:=Cj) (x:=a0) (j:=((b3.length:Nat):Int)) (Dn _) rfl (Nat.zero_add _) i3<|O<|Aa<|Bj.mk (by kernel_rfl)<|Z<|Ac<|O ?_
  refine O<|O<|O<|Fo (f:=(A2 1 Av)) rfl rfl rfl h fun N v4 i4 A h=>O<|Ei (f:=(A2 1 Av)) rfl rfl (Nat.zero_add _) A<|O<|Ax (f:=Av) (l:=v4) rfl<|O<|Aa<|Ay<|Bn h (fun (v13,i)=>[(19,(Af .i64 v13))]) (fun (v13,i)=>[(0,.cells 29 [(.arr 3 i.length 0 i.length)]),(3,.rows 31 3 (Dv i))]) (fun _=>True) (fun _=>rfl) ⟨rfl,Ae⟩ ⟨Ah,Ah,Ah,Ah,Ah,⟨congrArg (fun z=>Cf.cells 29 [(.arr 3 z 0 z)])<|Fp (l:=G) rfl ((b3.length:Nat):Int) a0,rfl⟩,Ae⟩ Ae ?_
  rintro ⟨v13,i⟩ M S I u q hn1 _
  refine Z<|Ac<|O<|Aa<|Z<|Am u (fun b h=>?_) fun b h=>?_
  refine An<|Z<|Ay<|Z<|Ac<|O<|O<|A7 (f:=Av) rfl h fun L v15 i15 E h=>O<|O<|O<|Aa<|Z<|Ac<|O<|Aa<|Am h (fun b h=>?_) fun b h=>?_
  exact B0<|O<|O<|O<|O<|O<|A7 (f:=Cj) (Dn _) h fun J v16 i16 D h=>O<|O<|Aq h fun v17 y h=>As.act [0,1,2,3,4] _ _ _ _ (c (a0:=v16) (b3:=i) (b4:=b4) y) rfl rfl ⟨rfl,rfl,rfl,rfl,rfl,Ae⟩<|Aa<|Bj.mk (by kernel_rfl)<|Ac<|O<|Aw.mk _ rfl<|O<|Aa<|hn1 _ _ _ _ (Ai h) ⟨rfl,Ae⟩ ⟨Ah,Ah,Ah,Ah,Ah,Ah,Ae⟩ Ae
  exact An<|Ac<|O<|Aw.mk _ rfl<|O<|Aa<|hn1 _ _ _ _ (Ai h) ⟨rfl,Ae⟩ ⟨Ah,Ah,Ah,Ah,Ah,Ah,Ae⟩ Ae
  refine Bh<|Bg rfl ?_
  have h:=q _ (Ai h)
  cases h
  exact ⟨rfl,rfl,rfl,rfl,rfl,rfl,Ae⟩
theorem Ap7 {k:Nat} {a0:Bl} {b3:(List Bl)} {b4:(List (List Bool))} {r:(List Bl)} (h:Lu k a0 b3 b4=some r):Cm Tryz.prog 148 [Cj a0,(.loc 0 0),(.loc 1 0),(.loc 2 0)] [.cells 29 [(.arr 3 b3.length 0 b3.length)],.cells 199 [(.arr 4 b4.length 0 b4.length)],.cells 202 [(.fn 148 [(.loc 0 0),(.loc 1 0),(.loc 2 0)])],.rows 31 3 (Dv b3),.rows 200 1 (List.map (A2 1 Av) b4)] (.tup []) [.cells 29 [(.arr 3 r.length 0 r.length)],.cells 199 [(.arr 4 b4.length 0 b4.length)],.cells 202 [(.fn 148 [(.loc 0 0),(.loc 1 0),(.loc 2 0)])],.rows 31 3 (Dv r),.rows 200 1 (List.map (A2 1 Av) b4)]:=(Ago k) _ _ _ _ h
theorem Ap8 {a0:(List A5)} {a1:Ao} {a2:Bl} {r:(List Bl)} (h:R9 a0 a1 a2=some r):Bb Tryz.prog 86 [(A2 3 Bf) a0,Ba a1,Cj a2] ((Ck 3 Dv) r):=by
 unfold R9 at h
 refine C2 (C:={T:=B4,an:=(fun _=>.ask),nl:=(fun s=>bif Nat.beq s 21 then [(0,1)] else bif Nat.beq s 6 then [(0,3)] else [])}) B8 B5 Tryz.func86 rfl (by kernel_rfl) (by kernel_rfl) rfl ?_
 refine Z<|Ac<|O<|O<|O<|Aa<|Z<|Ac<|O<|Aa<|Z<|Z<|Fd [.own 7 0 200 1]<|Dx.mk<|Ac<|O<|O<|O<|O<|A7 (f:=Bf) rfl h fun B v5 i5 z h=>O<|O<|O<|Ax (f:=Ej) (l:=v5.Cons) rfl ?_
 refine O<|Aa<|Ay<|Bn h (fun (v12,c)=>[(18,(Af .i64 v12))]) (fun (v12,c)=>[(2,.cells 199 [(.arr 3 c.length 0 c.length)]),(3,.rows 200 1 (List.map (A2 1 Av) c))]) (fun _=>True) (fun _=>rfl) ⟨rfl,Ae⟩ ⟨Ah,Ah,Ah,Ah,Ae⟩ Ae ?_
 rintro ⟨v12,c⟩ A D u j i hn1 _
 refine Z<|Ac<|O<|Aa<|Z<|Am j (fun b h=>?_) fun b h=>?_
 refine An<|Z<|Ay<|Z<|Ac<|O<|O<|Aa<|B0<|O<|O<|O<|O<|O<|O<|Aq h fun g q h=>As.mk _ (Xt (a0:=a0) (a1:=a1.Num) (a2:=v12) q) rfl<|O<|O<|D9 (f:=(A2 1 Av)) (l:=c) (ys:=[g]) rfl rfl rfl rfl h fun y h=>O<|Aa<|Bj.mk (by kernel_rfl)<|Ac ?_
 exact O<|Aw.mk _ rfl<|O<|Aa<|hn1 _ _ _ _ (Ai h) ⟨rfl,Ae⟩ ⟨Ah,Ah,Ah,Ah,Ae⟩ Ae
 refine Bh<|Bg rfl ?_
 have h:=i _ (Ai h)
 refine Z<|Ac<|O<|Aa<|Z<|Fd [.own 9 0 31 3]<|Dx.mk<|Ac<|O<|Aa<|Z<|Ac<|O<|O<|Aa<|Z<|Ac<|O<|O<|O<|Aq h fun v20 k h=>As.act [4,2,6,5,3] _ _ _ _ (Ap7 (a0:=a2) (b3:=[]) (b4:=c) k) rfl rfl ⟨rfl,rfl,rfl,rfl,rfl,Ae⟩<|Aa<|Z ?_
 exact Ac<|O<|O<|Aa<|Ak<|Bz (f:=Cj) (l:=v20) (Dn _) rfl<|Bz (f:=Cj) (l:=v20) (Dn _) rfl<|congrArg (fun x:(List Bl)=>((Ck 3 Dv) x:AV))<|Ai h
theorem Agp:∀k:Nat,(∀(a0:Ao) (r:Be),Lt k a0=some r->Bb Tryz.prog 146 [Ba a0] (Bw r))
 | 0=>(fun _ _ h=>by simp only [Lt] at h; cases h)
 | k+1=>by
  have ih:=Agp k
  have c:∀{a0:Ao} {r:Be},Lt k a0=some r->Bb Tryz.prog 146 [Ba a0] (Bw r):=fun h=>ih _ _ h
  intro a0 r h
  unfold Lt at h
  refine C2 (C:={T:=B4,an:=(fun _=>.ask),nl:=(fun s=>bif Nat.beq s 17 then [(0,2)] else [])}) B8 B5 Tryz.func146 rfl (by kernel_rfl) (by kernel_rfl) rfl ?_
  refine Z<|Ac<|O<|O<|Aa<|Z<|Ac<|O<|Aa<|Z<|Z<|Fd [.own 3 1 86 2]<|Dx.mk<|Ac<|O<|O<|O<|Aa<|Am h (fun b h=>?_) fun b h=>?_
  refine Z<|Ac<|O<|O<|O<|Ax (f:=Ba) (l:=a0.Args) (Bq _)<|O<|Aa<|Ay<|Bn h (fun (v15,i)=>[(12,(Af .i64 v15))]) (fun (v15,i)=>[(2,.cells 86 [(Af .i64 0),(.arr 3 i.length 0 i.length)]),(3,.rows 86 2 (Fs i))]) (fun _=>True) (fun _=>rfl) ⟨rfl,Ae⟩ ⟨Ah,Ah,Ah,Ah,Ae⟩ Ae ?_
  rintro ⟨v15,i⟩ E G B u q hn1 _
  refine Z<|Ac<|O<|Aa<|Z<|Am u (fun b h=>?_) fun b h=>?_
  refine An<|Z<|Ay<|Z<|Ac<|O<|A7 (f:=Ba) (Bq _) h fun D v17 i17 z h=>O<|O<|O<|Aa<|B0<|O<|O<|O<|O<|Aq h fun j y h=>As.mk _ (c (a0:=v17) y) rfl<|O<|O<|H4 (g:=Fs) Cu (f:=Bw) (l:=i) (ys:=[j]) (Cu _) rfl rfl rfl h fun A h=>O<|O<|Aa ?_
  exact Bj.mk (by kernel_rfl)<|Ac<|O<|Aw.mk _ rfl<|O<|Aa<|hn1 _ _ _ _ (Ai h) ⟨rfl,Ae⟩ ⟨Ah,Ah,Ah,Ah,Ae⟩ Ae
  refine Bh<|Bg rfl ?_
  have h:=q _ (Ai h)
  exact Z<|Ac<|O<|O<|Aa<|Ak<|Bz (f:=Bw) (l:=i) (Cu _) rfl<|Bz (f:=Bw) (l:=i) (Cu _) rfl<|congrArg (fun x:Be=>(Bw x:AV))<|Ai h
  exact An<|Z<|Ac<|O<|O<|Aa<|Ak<|Bz (f:=Bw) (l:=[]) (Cu _) rfl<|Bz (f:=Bw) (l:=[]) (Cu _) rfl<|congrArg (fun x:Be=>(Bw x:AV))<|Ai h
theorem Ap9 {k:Nat} {a0:Ao} {r:Be} (h:Lt k a0=some r):Bb Tryz.prog 146 [Ba a0] (Bw r):=(Agp k) _ _ h
theorem Aqa {a0:(List A5)} {a1:Ao} {r:(Be×Bool)} (h:Uq a0 a1=some r):Bb Tryz.prog 85 [(A2 3 Bf) a0,Ba a1] (.tup [Bw r.1,Av r.2]):=by
 unfold Uq at h
 refine C2 (C:={T:=B4,an:=(fun _=>.ask),nl:=(fun s=>bif Nat.beq s 10 then [(1,2)] else [])}) B8 B5 Tryz.func85 rfl (by kernel_rfl) (by kernel_rfl) rfl ?_
 refine Z<|Ac<|O<|O<|O<|Aa<|Z<|Z<|Ac<|O<|O<|O<|Aq h fun v3 f h=>As.mk _ (Af8 (a0:=a0) (a1:=a1) f) rfl<|O<|Aa<|Am h (fun b h=>?_) fun b h=>?_
 exact Z<|Ac<|O<|O<|O<|Aa<|Ak<|congrArg (fun x:(Be×Bool)=>(.tup [Bw x.1,Av x.2]:AV))<|Ai h
 exact An<|Z<|Ac<|O<|O<|Aq h fun v4 c h=>As.mk _ (Ap9 (a0:=a1) c) rfl<|O<|O<|Aa<|Ak<|congrArg (fun x:(Be×Bool)=>(.tup [Bw x.1,Av x.2]:AV))<|Ai h
theorem Agq:∀k:Nat,(∀(a0:(List Bl)) (b1:Int) (r:(Bool×Int)),Py k a0 b1=some r->Cm Tryz.prog 140 [(Ck 3 Dv) a0,(.fn 141 [(.loc 0 0)])] [.cells 136 [(.loc 1 0)],.cells 3 [(Af .i64 b1)]] (Av r.1) [.cells 136 [(.loc 1 0)],.cells 3 [(Af .i64 r.2)]])/\(∀(a0:(List Bl)) (b1:Int) (r:(Int×Int)),N2 k a0 b1=some r->Cm Tryz.prog 221 [(Ck 3 Dv) a0,(.fn 141 [(.loc 0 0)])] [.cells 136 [(.loc 1 0)],.cells 3 [(Af .i64 b1)]] ((Af .i64) r.1) [.cells 136 [(.loc 1 0)],.cells 3 [(Af .i64 r.2)]])/\(∀(a0:Bl) (b0:Int) (r:(Bool×Int)),I5 k a0 b0=some r->Cm Tryz.prog 83 [Cj a0,(.loc 0 0)] [.cells 3 [(Af .i64 b0)]] (Av r.1) [.cells 3 [(Af .i64 r.2)]])/\(∀(a0:Bl) (b1:Int) (r:(Bool×Int)),Pz k a0 b1=some r->Cm Tryz.prog 141 [Cj a0,(.loc 0 0)] [.cells 136 [(.loc 1 0)],.cells 3 [(Af .i64 b1)]] (Av r.1) [.cells 136 [(.loc 1 0)],.cells 3 [(Af .i64 r.2)]])
 | 0=>⟨(fun _ _ _ h=>by simp only [Py] at h; cases h),(fun _ _ _ h=>by simp only [N2] at h; cases h),(fun _ _ _ h=>by simp only [I5] at h; cases h),(fun _ _ _ h=>by simp only [Pz] at h; cases h)⟩
 | k+1=>by
  have ih:=Agq k
  have c:∀{a0:(List Bl)} {b1:Int} {r:(Bool×Int)},Py k a0 b1=some r->Cm Tryz.prog 140 [(Ck 3 Dv) a0,(.fn 141 [(.loc 0 0)])] [.cells 136 [(.loc 1 0)],.cells 3 [(Af .i64 b1)]] (Av r.1) [.cells 136 [(.loc 1 0)],.cells 3 [(Af .i64 r.2)]]:=fun h=>ih.1 _ _ _ h
  have g:∀{a0:(List Bl)} {b1:Int} {r:(Int×Int)},N2 k a0 b1=some r->Cm Tryz.prog 221 [(Ck 3 Dv) a0,(.fn 141 [(.loc 0 0)])] [.cells 136 [(.loc 1 0)],.cells 3 [(Af .i64 b1)]] ((Af .i64) r.1) [.cells 136 [(.loc 1 0)],.cells 3 [(Af .i64 r.2)]]:=fun h=>ih.2.1 _ _ _ h
  have j:∀{a0:Bl} {b0:Int} {r:(Bool×Int)},I5 k a0 b0=some r->Cm Tryz.prog 83 [Cj a0,(.loc 0 0)] [.cells 3 [(Af .i64 b0)]] (Av r.1) [.cells 3 [(Af .i64 r.2)]]:=fun h=>ih.2.2.1 _ _ _ h
  have i:∀{a0:Bl} {b1:Int} {r:(Bool×Int)},Pz k a0 b1=some r->Cm Tryz.prog 141 [Cj a0,(.loc 0 0)] [.cells 136 [(.loc 1 0)],.cells 3 [(Af .i64 b1)]] (Av r.1) [.cells 136 [(.loc 1 0)],.cells 3 [(Af .i64 r.2)]]:=fun h=>ih.2.2.2 _ _ _ h
  refine ⟨?_,?_,?_,?_⟩
  .intro a0 b1 r h
   unfold Py at h
   refine D0 (C:={T:=B4,an:=(fun _=>.ask)}) true B8 B5 Tryz.func140 rfl (by kernel_rfl) (by kernel_rfl) rfl ?_
   refine Z<|Ac<|O<|Aa<|Z<|Ac<|O<|O<|O<|Aq h fun E A h=>As.act [0,1] _ _ _ _ (g (a0:=a0) (b1:=b1) A) rfl rfl ⟨rfl,rfl,Ae⟩<|O<|O<|Aa<|Ak ?_
   cases h
   exact ⟨rfl,rfl,rfl,Ae⟩
  .intro a0 b1 r h
   unfold N2 at h
   refine D0 (C:={T:=B4,an:=(fun _=>.ask)}) true B8 B5 Tryz.func221 rfl (by kernel_rfl) (by kernel_rfl) rfl ?_
   refine Z<|Ac<|O<|Aa<|Z<|Z<|Ac<|O<|O<|Ax (f:=Cj) (l:=a0) (Dn _)<|O<|Aa<|Ay<|Bn h (fun (v3,v4)=>[(4,(Af .i64 0)),(8,(Af .i64 v3))]) (fun (v3,v4)=>[(1,.cells 3 [(Af .i64 v4)])]) (fun _=>True) (fun _=>rfl) ⟨rfl,rfl,Ae⟩ ⟨Ah,Ah,Ae⟩ Ae ?_
   rintro ⟨v3,v4⟩ G J u s q hn1 _
   refine Z<|Ac<|O<|Aa<|Z<|Am s (fun b h=>?_) fun b h=>?_
   refine An<|Z<|Ay<|Z<|Ac<|O<|O<|Aa<|Z<|Ac<|O<|O<|O<|O<|A7 (f:=Cj) (Dn _) h fun I v5 i5 B h=>O<|O<|Aq h fun D x h=>As.act [0,1] _ _ _ _ (i (a0:=v5) (b1:=v4) x) rfl rfl ⟨rfl,rfl,Ae⟩<|Aa<|Am h (fun b h=>?_) fun b h=>?_
   refine Z<|Ac<|O<|O<|Aa<|Ak ?_
   have h:=q _ (Ai h)
   cases h
   exact ⟨rfl,rfl,rfl,Ae⟩
   exact An<|Ac<|O<|Aw.mk _ rfl<|O<|Aa<|hn1 _ _ _ _ (Ai h) ⟨rfl,rfl,Ae⟩ ⟨Ah,Ah,Ae⟩ Ae
   refine Bh<|Bg rfl ?_
   have h:=q _ (Ai h)
   refine Z<|Ac<|O<|Aa<|Ak ?_
   cases h
   exact ⟨rfl,rfl,rfl,Ae⟩
  .intro a0 b0 r h
   unfold I5 at h
   refine D0 (C:={T:=B4,an:=(fun _=>.ask)}) true B8 B5 Tryz.func83 rfl (by kernel_rfl) (by kernel_rfl) rfl ?_
   refine Z<|Ac<|O<|O<|O<|Aa<|Z<|Ac<|O<|O<|O<|O<|Aw.mk _ rfl<|O<|O<|Aa<|Z<|Z<|Ac<|O<|O<|O<|O<|Aa ?_
   refine Am h (fun b h=>?_) fun b h=>?_
   refine Z<|Ac<|O<|Aa<|Ak ?_
   cases h
   exact ⟨rfl,rfl,Ae⟩
   refine An<|Z<|Ac<|O<|O<|O<|O<|Aq h fun v3 y h=>As.act [2,0] _ _ _ _ (c (a0:=a0.Kids) (b1:=(Al<|b0-1)) y) rfl rfl ⟨rfl,rfl,Ae⟩<|O<|O<|Aa<|Ak ?_
   cases h
   exact ⟨rfl,rfl,Ae⟩
  .intro a0 b1 r h
   unfold Pz at h
   refine D0 (C:={T:=B4,an:=(fun _=>.ask)}) true B8 B5 Tryz.func141 rfl (by kernel_rfl) (by kernel_rfl) rfl ?_
   refine Z<|Ac<|O<|O<|Aa<|Z<|Ac<|O<|O<|O<|Aq h fun v2 z h=>As.act [1] _ _ _ _ (j (a0:=a0) (b0:=b1) z) rfl rfl ⟨rfl,Ae⟩<|O<|O<|Aa<|Ak ?_
   cases h
   exact ⟨rfl,rfl,rfl,Ae⟩
theorem Aqb {k:Nat} {a0:Bl} {b0:Int} {r:(Bool×Int)} (h:I5 k a0 b0=some r):Cm Tryz.prog 83 [Cj a0,(.loc 0 0)] [.cells 3 [(Af .i64 b0)]] (Av r.1) [.cells 3 [(Af .i64 r.2)]]:=(Agq k).2.2.1 _ _ _ h
theorem Aqc {a0:(List A5)} {a1:Ao} {a2:Int} {r:((List Ao)×Bool)} (h:Uv a0 a1 a2=some r):Bb Tryz.prog 143 [(A2 3 Bf) a0,Ba a1,(Af .i64) a2] (.tup [(Ck 3 Bi) r.1,Av r.2]):=by
 unfold Uv at h
 refine C2 (C:={T:=B4,an:=(fun s=>bif Nat.beq s 14 then .own else .ask),nl:=(fun s=>bif Nat.beq s 14 then [(0,3)] else bif Nat.beq s 6 then [(0,3)] else [])}) B8 B5 Tryz.func143 rfl (by kernel_rfl) (by kernel_rfl) rfl ?_
 refine Z<|Ac<|O<|O<|O<|Aa<|Z<|Z<|Cd h fun J V Y=>Ce (fun (v2:Bool)=>v2=J) (fun v2=>[(31,(Av v2))]) (fun v2=>[]) (fun _=>rfl) ?_ ?_
 intro K1 hK1
 refine Ac<|O<|O<|O<|O<|A6 (s:=20) V (fun b h=>?_) fun b h=>?_
 exact Ad<|Ad<|Ad<|O<|O<|Ad<|Ad<|Ad<|Ad<|Ad<|O<|Aa<|hK1 true _ _ _ (Ai h) ⟨rfl,Ae⟩ ⟨Ah,Ae⟩
 refine Ag<|Ag<|Ag<|O<|O<|A6 (s:=25) h (fun b h=>?_) fun b h=>?_
 exact Ad<|Ad<|Ad<|Ad<|Ad<|O<|Aa<|hK1 true _ _ _ (Ai h) ⟨rfl,Ae⟩ ⟨Ah,Ae⟩
 exact Ag<|Ag<|Ag<|Ag<|Ax (f:=Bf) (l:=a0) rfl<|Ag<|O<|Aa<|hK1 (decide<|a1.Num>=(a0.length:Int)) _ _ _ (Ai h) ⟨rfl,Ae⟩ ⟨Ah,Ae⟩
 rintro v2 u1 a7
 have h:=Y _ a7
 refine Am h (fun b h=>?_) fun b h=>?_
 exact Z<|Ac<|O<|O<|Aa<|Ak<|congrArg (fun x:((List Ao)×Bool)=>(.tup [(Ck 3 Bi) x.1,Av x.2]:AV))<|Ai h
 refine An<|Z<|Ac<|O<|O<|O<|O<|A7 (f:=Bf) rfl h fun n3 v3 i3 x3 h=>O<|O<|O<|Aa<|Z<|Z<|Cd h fun I U X=>Ce (fun (v5:Bool)=>v5=I) (fun v5=>[(53,(Av v5))]) (fun v5=>[]) (fun _=>rfl) ?_ ?_
 intro K2 hK2
 refine Ac<|O<|O<|O<|Ax (f:=Ba) (l:=a1.Args) (Bq _)<|O<|O<|O<|O<|A6 (s:=43) U (fun b h=>?_) fun b h=>?_
 exact Ad<|Ad<|O<|O<|Ad<|Ad<|Ad<|Ad<|Ad<|O<|Aa<|hK2 true _ _ _ (Ai h) ⟨rfl,Ae⟩ ⟨Ah,Ah,Ae⟩
 refine Ag<|Ag<|O<|O<|A6 (s:=47) h (fun b h=>?_) fun b h=>?_
 exact Ad<|Ad<|Ad<|Ad<|Ad<|O<|Aa<|hK2 true _ _ _ (Ai h) ⟨rfl,Ae⟩ ⟨Ah,Ah,Ae⟩
 exact Ag<|Ag<|Ag<|Ag<|Ax (f:=Ej) (l:=v3.Cons) rfl<|Ag<|O<|Aa<|hK2 (decide<|a2>=(v3.Cons.length:Int)) _ _ _ (Ai h) ⟨rfl,Ae⟩ ⟨Ah,Ah,Ae⟩
 rintro v5 u2 a6
 have h:=X _ a6
 refine Am h (fun b h=>?_) fun b h=>?_
 exact Z<|Ac<|O<|O<|Aa<|Ak<|congrArg (fun x:((List Ao)×Bool)=>(.tup [(Ck 3 Bi) x.1,Av x.2]:AV))<|Ai h
 refine An<|Z<|Ac<|O<|O<|O<|Ax (f:=Ba) (l:=a1.Args) (Bq _)<|O<|Gx (f:=(Af .i64)) (z:=(0:Int)) rfl h fun o6 h=>O<|Aa<|Z<|Z<|Ac<|O<|O<|O<|Ax (f:=Ba) (l:=a1.Args) (Bq _)<|O<|Aa<|Ay<|Bn h (fun (v12,c)=>[(61,(Af .i64 v12))]) (fun (v12,c)=>[(2,.rows 3 1 (List.map (Af .i64) c))]) (fun (v12,c)=>o6.length=c.length) (fun _=>rfl) ⟨rfl,Ae⟩ ⟨Ah,Ah,Ah,Ae⟩ rfl ?_
 rintro ⟨v12,c⟩ u3 K3 ak S M hn3 k
 refine Z<|Ac<|O<|Aa<|Z<|Am S (fun b h=>?_) fun b h=>?_
 refine An<|Z<|Ay<|Z<|Ac<|O<|O<|A7 (f:=Ba) (Bq _) h fun au G i14 ag h=>O<|O<|O<|O<|Aa<|Ac<|O<|O<|O<|O<|Aq h fun v16 ab h=>As.mk _ (Afw (a0:=G) ab) rfl<|O<|Fo (f:=(Af .i64)) rfl k k h fun ar v17 i17 y h=>O<|Ei (f:=(Af .i64)) rfl k (Nat.zero_add _) y ?_
 exact Fj (f:=(Af .i64)) (x:=v16) (j:=v12) rfl rfl (Nat.zero_add _) i17<|Aa<|Ac<|O<|Aw.mk _ rfl<|O<|Aa<|hn3 _ _ _ _ (Ai h) ⟨rfl,Ae⟩ ⟨Ah,Ah,Ah,Ae⟩<|Fp (l:=c) k v12 v16
 refine Bh<|Bg rfl ?_
 have h:=M _ (Ai h)
 refine Z<|Z<|Ac<|O<|O<|O<|O<|A7 (f:=Ej) rfl h fun aq E i19 af h=>O<|O<|O<|Ax (f:=Ba) (l:=E.Args) (Bq _)<|O<|Aa<|Ay<|Fd [.fz 9]<|Bz (f:=(Af .i64)) (l:=c) rfl k<|Bz (f:=(Af .i64)) (l:=c) rfl k<|Dx.mk<|Bn h (fun v23=>[(6,(.sl 3<|Bi [])),(7,(Av false)),(79,(Af .i64 v23))]) (fun v23=>[]) (fun _=>True) (fun _=>rfl) ⟨rfl,rfl,rfl,Ae⟩ ⟨Ah,Ah,Ah,Ae⟩ Ae ?_
 rintro v23 u4 K4 ai R u hn4 _
 refine Z<|Ac<|O<|Aa<|Z<|Am R (fun b h=>?_) fun b h=>?_
 refine An<|Z<|Ay<|Z<|Ac<|O<|A7 (f:=Ba) (Bq _) h fun ap v24 i24 ae h=>O<|O<|O<|Aa<|Z<|Ac<|O<|O<|O<|Aq h fun v26 aa h=>As.mk _ (Af0 (a0:=v24) (a1:=c) aa) rfl<|O<|Aa<|Am h (fun b h=>?_) fun b h=>?_
 refine Z<|Ac<|O<|O<|Aa<|Ak ?_
 have h:=u _ (Ai h)
 exact congrArg (fun x:((List Ao)×Bool)=>(.tup [(Ck 3 Bi) x.1,Av x.2]:AV))<|Ai h
 exact An<|Ac<|O<|Aw.mk _ rfl<|O<|Aa<|hn4 _ _ _ _ (Ai h) ⟨rfl,rfl,rfl,Ae⟩ ⟨Ah,Ah,Ah,Ae⟩ Ae
 refine Bh<|Bg rfl ?_
 have h:=u _ (Ai h)
 refine Z<|Ac<|O<|Aa<|Z<|Z<|Ac<|O<|O<|O<|O<|A7 (f:=Ej) rfl h fun ao D i30 ad h=>O<|O<|O<|Ax (f:=Ba) (l:=D.Args) (Bq _)<|O<|Aa<|Ay<|Bn h (fun (q,i)=>[(14,(.arr 3 i.length 0 i.length)),(95,(Af .i64 q))]) (fun (q,i)=>[(3,.rows 25 3 (Bi i))]) (fun _=>True) (fun _=>rfl) ⟨rfl,rfl,Ae⟩ ⟨Ah,Ah,Ah,Ah,Ae⟩ Ae ?_
 rintro ⟨q,i⟩ u5 K5 ah N L hn5 _
 refine Z<|Ac<|O<|Aa<|Z<|Am N (fun b h=>?_) fun b h=>?_
 refine An<|Z<|Ay<|Z<|Ac<|O<|A7 (f:=Ba) (Bq _) h fun am B i43 ac h=>O<|O<|O<|Aa<|Ac<|O<|O<|O<|O<|O<|Aq h fun A a8 h=>As.mk _ (Afy (a0:=B) (a1:=a1.Args) a8) rfl<|O<|O<|H4 (g:=Bi) Bq (f:=Ba) (l:=i) (ys:=[A]) (Bq _) rfl rfl rfl h fun aj h=>O<|Aa ?_
 exact Ac<|O<|Aw.mk _ rfl<|O<|Aa<|hn5 _ _ _ _ (Ai h) ⟨rfl,rfl,Ae⟩ ⟨Ah,Ah,Ah,Ah,Ae⟩ Ae
 refine Bh<|Bg rfl ?_
 have h:=L _ (Ai h)
 exact Z<|Ac<|O<|O<|O<|Aa<|Ak<|Bz (f:=Ba) (l:=i) (Bq _) rfl<|Bz (f:=Ba) (l:=i) (Bq _) rfl<|congrArg (fun x:((List Ao)×Bool)=>(.tup [(Ck 3 Bi) x.1,Av x.2]:AV))<|Ai h
end Go.Ab
