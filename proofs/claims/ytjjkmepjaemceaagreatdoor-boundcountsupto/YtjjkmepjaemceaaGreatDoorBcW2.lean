/- The contracts of the functions, each by its walk (made by a program). -/
import Derived.Test.YtjjkmepjaemceaaGreatDoorBcW1
namespace Go.Ab
open Go Go.Proofs
set_option maxRecDepth 10000
theorem Agr:∀k:Nat,(∀(a0:(List Bl)) (b0:(List A5)) (b1:Ao) (r:Bool),Qw k a0 b0 b1=some r->Cm Tryz.prog 140 [(Ck 3 Dv) a0,(.fn 144 [(.loc 0 0),(.loc 1 0)])] [.cells 22 [(.sl 3 (List.map Bf b0))],.cells 25 [(Af .i64 b1.Kind),(Af .i64 b1.Num),(.sl 3 (Bi b1.Args))]] (Av r) [.cells 22 [(.sl 3 (List.map Bf b0))],.cells 25 [(Af .i64 b1.Kind),(Af .i64 b1.Num),(.sl 3 (Bi b1.Args))]])/\(∀(a0:(List Bl)) (a1:(List Ao)) (b0:(List A5)) (r:Bool),P9 k a0 a1 b0=some r->Cm Tryz.prog 222 [(Ck 3 Dv) a0,(Ck 3 Bi) a1,(.fn 223 [(.loc 0 0)])] [.cells 22 [(.sl 3 (List.map Bf b0))]] (Av r) [.cells 22 [(.sl 3 (List.map Bf b0))]])/\(∀(a0:(List Bl)) (b0:(List A5)) (b1:Ao) (r:Int),Td k a0 b0 b1=some r->Cm Tryz.prog 221 [(Ck 3 Dv) a0,(.fn 144 [(.loc 0 0),(.loc 1 0)])] [.cells 22 [(.sl 3 (List.map Bf b0))],.cells 25 [(Af .i64 b1.Kind),(Af .i64 b1.Num),(.sl 3 (Bi b1.Args))]] ((Af .i64) r) [.cells 22 [(.sl 3 (List.map Bf b0))],.cells 25 [(Af .i64 b1.Kind),(Af .i64 b1.Num),(.sl 3 (Bi b1.Args))]])/\(∀(a0:(List A5)) (a1:Bl) (a2:Ao) (r:Bool),Ka k a0 a1 a2=some r->Bb Tryz.prog 84 [(A2 3 Bf) a0,Cj (Bl.mk a1.Kind a1.Num a1.Kids),Ba (Ao.mk a2.Kind a2.Num a2.Args)] (Av r))/\(∀(a0:Bl) (b0:(List A5)) (b1:Ao) (r:Bool),Nv k a0 b0 b1=some r->Cm Tryz.prog 144 [Cj a0,(.loc 0 0),(.loc 1 0)] [.cells 22 [(.sl 3 (List.map Bf b0))],.cells 25 [(Af .i64 b1.Kind),(Af .i64 b1.Num),(.sl 3 (Bi b1.Args))]] (Av r) [.cells 22 [(.sl 3 (List.map Bf b0))],.cells 25 [(Af .i64 b1.Kind),(Af .i64 b1.Num),(.sl 3 (Bi b1.Args))]])/\(∀(a0:(List A5)) (a1:(List Bl)) (a2:(List Ao)) (r:Bool),Ls k a0 a1 a2=some r->Bb Tryz.prog 142 [(A2 3 Bf) a0,(Ck 3 Dv) a1,(Ck 3 Bi) a2] (Av r))/\(∀(a0:Bl) (a1:Ao) (b0:(List A5)) (r:Bool),N3 k a0 a1 b0=some r->Cm Tryz.prog 223 [Cj a0,Ba a1,(.loc 0 0)] [.cells 22 [(.sl 3 (List.map Bf b0))]] (Av r) [.cells 22 [(.sl 3 (List.map Bf b0))]])
 | 0=>⟨(fun _ _ _ _ h=>by simp only [Qw] at h; cases h),(fun _ _ _ _ h=>by simp only [P9] at h; cases h),(fun _ _ _ _ h=>by simp only [Td] at h; cases h),(fun _ _ _ _ h=>by simp only [Ka] at h; cases h),(fun _ _ _ _ h=>by simp only [Nv] at h; cases h),(fun _ _ _ _ h=>by simp only [Ls] at h; cases h),(fun _ _ _ _ h=>by simp only [N3] at h; cases h)⟩
 | k+1=>by
  have ih:=Agr k
  have g:∀{a0:(List Bl)} {b0:(List A5)} {b1:Ao} {r:Bool},Qw k a0 b0 b1=some r->Cm Tryz.prog 140 [(Ck 3 Dv) a0,(.fn 144 [(.loc 0 0),(.loc 1 0)])] [.cells 22 [(.sl 3 (List.map Bf b0))],.cells 25 [(Af .i64 b1.Kind),(Af .i64 b1.Num),(.sl 3 (Bi b1.Args))]] (Av r) [.cells 22 [(.sl 3 (List.map Bf b0))],.cells 25 [(Af .i64 b1.Kind),(Af .i64 b1.Num),(.sl 3 (Bi b1.Args))]]:=fun h=>ih.1 _ _ _ _ h
  have c:∀{a0:(List Bl)} {a1:(List Ao)} {b0:(List A5)} {r:Bool},P9 k a0 a1 b0=some r->Cm Tryz.prog 222 [(Ck 3 Dv) a0,(Ck 3 Bi) a1,(.fn 223 [(.loc 0 0)])] [.cells 22 [(.sl 3 (List.map Bf b0))]] (Av r) [.cells 22 [(.sl 3 (List.map Bf b0))]]:=fun h=>ih.2.1 _ _ _ _ h
  have i:∀{a0:(List Bl)} {b0:(List A5)} {b1:Ao} {r:Int},Td k a0 b0 b1=some r->Cm Tryz.prog 221 [(Ck 3 Dv) a0,(.fn 144 [(.loc 0 0),(.loc 1 0)])] [.cells 22 [(.sl 3 (List.map Bf b0))],.cells 25 [(Af .i64 b1.Kind),(Af .i64 b1.Num),(.sl 3 (Bi b1.Args))]] ((Af .i64) r) [.cells 22 [(.sl 3 (List.map Bf b0))],.cells 25 [(Af .i64 b1.Kind),(Af .i64 b1.Num),(.sl 3 (Bi b1.Args))]]:=fun h=>ih.2.2.1 _ _ _ _ h
  have u:∀{a0:(List A5)} {a1:Bl} {a2:Ao} {r:Bool},Ka k a0 a1 a2=some r->Bb Tryz.prog 84 [(A2 3 Bf) a0,Cj (Bl.mk a1.Kind a1.Num a1.Kids),Ba (Ao.mk a2.Kind a2.Num a2.Args)] (Av r):=fun h=>ih.2.2.2.1 _ _ _ _ h
  have x:∀{a0:Bl} {b0:(List A5)} {b1:Ao} {r:Bool},Nv k a0 b0 b1=some r->Cm Tryz.prog 144 [Cj a0,(.loc 0 0),(.loc 1 0)] [.cells 22 [(.sl 3 (List.map Bf b0))],.cells 25 [(Af .i64 b1.Kind),(Af .i64 b1.Num),(.sl 3 (Bi b1.Args))]] (Av r) [.cells 22 [(.sl 3 (List.map Bf b0))],.cells 25 [(Af .i64 b1.Kind),(Af .i64 b1.Num),(.sl 3 (Bi b1.Args))]]:=fun h=>ih.2.2.2.2.1 _ _ _ _ h
  have j:∀{a0:(List A5)} {a1:(List Bl)} {a2:(List Ao)} {r:Bool},Ls k a0 a1 a2=some r->Bb Tryz.prog 142 [(A2 3 Bf) a0,(Ck 3 Dv) a1,(Ck 3 Bi) a2] (Av r):=fun h=>ih.2.2.2.2.2.1 _ _ _ _ h
  have q:∀{a0:Bl} {a1:Ao} {b0:(List A5)} {r:Bool},N3 k a0 a1 b0=some r->Cm Tryz.prog 223 [Cj a0,Ba a1,(.loc 0 0)] [.cells 22 [(.sl 3 (List.map Bf b0))]] (Av r) [.cells 22 [(.sl 3 (List.map Bf b0))]]:=fun h=>ih.2.2.2.2.2.2 _ _ _ _ h
  refine ⟨?_,?_,?_,?_,?_,?_,?_⟩
  .intro a0 b0 b1 r h
   unfold Qw at h
   refine D0 (C:={T:=B4,an:=(fun _=>.ask)}) true B8 B5 Tryz.func140 rfl (by kernel_rfl) (by kernel_rfl) rfl ?_
   refine Z<|Ac<|O<|Aa<|Z<|Ac<|O<|O<|O<|Aq h fun v1 c1 h=>As.act [0,1] _ _ _ _ (i (a0:=a0) (b0:=b0) (b1:=b1) c1) rfl rfl ⟨rfl,rfl,Ae⟩<|O<|O<|Aa<|Ak ?_
   cases h
   exact ⟨rfl,rfl,rfl,Ae⟩
  .intro a0 a1 b0 r h
   unfold P9 at h
   refine D0 (C:={T:=B4,an:=(fun _=>.ask)}) true B8 B5 Tryz.func222 rfl (by kernel_rfl) (by kernel_rfl) rfl ?_
   refine Z<|Ac<|O<|Aa<|Z<|Z<|Ac<|O<|O<|Ax (f:=Cj) (l:=a0) (Dn _)<|O<|O<|Ax (f:=Ba) (l:=a1) (Bq _)<|O<|Aa<|Am h (fun b h=>?_) fun b h=>?_
   refine Z<|Ac<|O<|Aa<|Ak ?_
   cases h
   exact ⟨rfl,rfl,Ae⟩
   refine An<|Z<|Z<|Ac<|O<|O<|Ax (f:=Cj) (l:=a0) (Dn _)<|O<|Aa<|Ay<|Bn h (fun B=>[(6,(Av false)),(17,(Af .i64 B))]) (fun B=>[]) (fun _=>True) (fun _=>rfl) ⟨rfl,rfl,Ae⟩ ⟨Ah,Ae⟩ Ae ?_
   rintro B J L A z y hn1 _
   refine Z<|Ac<|O<|Aa<|Z<|Am z (fun b h=>?_) fun b h=>?_
   refine An<|Z<|Ay<|Z<|Ac<|O<|O<|A7 (f:=Cj) (Dn _) h fun n7 v7 i7 x7 h=>O<|O<|O<|O<|Aa<|Z<|Ac<|O<|O<|O<|A7 (f:=Ba) (Bq _) h fun n9 v9 i9 x9 h=>O<|O<|O<|Aa<|Z ?_
   refine Ac<|O<|O<|O<|O<|Aq h fun M I h=>As.act [0] _ _ _ _ (q (a0:=v7) (a1:=v9) (b0:=b0) I) rfl rfl ⟨rfl,Ae⟩<|O<|Aa<|Am h (fun b h=>?_) fun b h=>?_
   refine Z<|Ac<|O<|Aa<|Ak ?_
   have h:=y _ (Ai h)
   cases h
   exact ⟨rfl,rfl,Ae⟩
   exact An<|Ac<|O<|Aw.mk _ rfl<|O<|Aa<|hn1 _ _ _ _ (Ai h) ⟨rfl,rfl,Ae⟩ ⟨Ah,Ae⟩ Ae
   refine Bh<|Bg rfl ?_
   have h:=y _ (Ai h)
   refine Z<|Ac<|O<|Aa<|Ak ?_
   cases h
   exact ⟨rfl,rfl,Ae⟩
  .intro a0 b0 b1 r h
   unfold Td at h
   refine D0 (C:={T:=B4,an:=(fun _=>.ask)}) true B8 B5 Tryz.func221 rfl (by kernel_rfl) (by kernel_rfl) rfl ?_
   refine Z<|Ac<|O<|Aa<|Z<|Z<|Ac<|O<|O<|Ax (f:=Cj) (l:=a0) (Dn _)<|O<|Aa<|Ay<|Bn h (fun v3=>[(4,(Af .i64 0)),(8,(Af .i64 v3))]) (fun v3=>[]) (fun _=>True) (fun _=>rfl) ⟨rfl,rfl,Ae⟩ ⟨Ah,Ah,Ae⟩ Ae ?_
   rintro v3 J L A z y hn1 _
   refine Z<|Ac<|O<|Aa<|Z<|Am z (fun b h=>?_) fun b h=>?_
   refine An<|Z<|Ay<|Z<|Ac<|O<|O<|Aa<|Z<|Ac<|O<|O<|O<|O<|A7 (f:=Cj) (Dn _) h fun n4 v4 i4 x4 h=>O<|O<|Aq h fun v5 V h=>As.act [0,1] _ _ _ _ (x (a0:=v4) (b0:=b0) (b1:=b1) V) rfl rfl ⟨rfl,rfl,Ae⟩<|Aa<|Am h (fun b h=>?_) fun b h=>?_
   refine Z<|Ac<|O<|O<|Aa<|Ak ?_
   have h:=y _ (Ai h)
   cases h
   exact ⟨rfl,rfl,rfl,Ae⟩
   exact An<|Ac<|O<|Aw.mk _ rfl<|O<|Aa<|hn1 _ _ _ _ (Ai h) ⟨rfl,rfl,Ae⟩ ⟨Ah,Ah,Ae⟩ Ae
   refine Bh<|Bg rfl ?_
   have h:=y _ (Ai h)
   refine Z<|Ac<|O<|Aa<|Ak ?_
   cases h
   exact ⟨rfl,rfl,rfl,Ae⟩
  .intro a0 a1 a2 r h
   unfold Ka at h
   refine Bv Tryz.func84 rfl (by kernel_rfl) (by kernel_rfl) rfl ?_
   refine Z<|Ac<|O<|O<|O<|O<|Aa<|Z<|Z<|Ac<|O<|O<|Aa<|Ay<|Z<|Ac<|O<|O<|Aa<|Am h (fun b h=>?_) fun b h=>?_
   refine Z<|Ac<|O<|O<|O<|O<|A6 (s:=16) h (fun b h=>?_) fun b h=>?_
   refine Ag<|Ag<|Ag<|O<|O<|A6 (s:=21) h (fun b h=>?_) fun b h=>?_
   refine Ag<|Ag<|Ag<|O<|O<|A6 (s:=26) h (fun b h=>?_) fun b h=>?_
   exact Ag<|Ag<|Ag<|Ax (f:=Cj) (l:=a1.Kids) (Dn _)<|Ag<|O<|O<|Aa<|Ak<|A3 h
   exact Ad<|Ad<|Ad<|Ad<|O<|O<|Aa<|Ak<|A3 h
   exact Ad<|Ad<|Ad<|O<|O<|Ad<|Ad<|Ad<|Ad<|O<|O<|Aa<|Ak<|A3 h
   exact Ad<|Ad<|Ad<|O<|O<|Ad<|Ad<|Ad<|O<|O<|Ad<|Ad<|Ad<|Ad<|O<|O<|Aa<|Ak<|A3 h
   refine Z<|Ac<|O<|O<|Aa<|Am h (fun b h=>?_) fun b h=>?_
   refine Z<|Ac<|O<|O<|O<|O<|A6 (s:=37) h (fun b h=>?_) fun b h=>?_
   refine Ag<|Ag<|Ag<|Ag<|A6 (s:=41) h (fun b h=>?_) fun b h=>?_
   exact Ad<|Ad<|Ad<|Ag<|O<|O<|Ag<|Ag<|Ag<|Ax (f:=Cj) (l:=a1.Kids) (Dn _)<|Ag<|O<|O<|Aa<|Ak<|A3 h
   refine Ag<|Ag<|Ag<|Ag<|O<|O<|A6 (s:=47) h (fun b h=>?_) fun b h=>?_
   exact Ag<|Ag<|Ag<|Ax (f:=Cj) (l:=a1.Kids) (Dn _)<|Ag<|O<|O<|Aa<|Ak<|A3 h
   exact Ad<|Ad<|Ad<|Ad<|O<|O<|Aa<|Ak<|A3 h
   exact Ad<|Ad<|Ad<|Ad<|A9 (7,false) 41 undef<|A9 (7,false) 41 undef<|A9 (7,false) 41 undef<|Ad<|O<|O<|Ad<|Ad<|Ad<|Ad<|O<|O<|Aa<|Ak<|A3 h
   refine Z<|Ac<|O<|O<|Aa<|Am h (fun b h=>?_) fun b h=>?_
   refine Z<|Ac<|O<|O<|O<|O<|A6 (s:=58) h (fun b h=>?_) fun b h=>?_
   refine Ag<|Ag<|Ag<|O<|O<|A6 (s:=63) h (fun b h=>?_) fun b h=>?_
   exact Ag<|Ag<|Ag<|Ax (f:=Cj) (l:=a1.Kids) (Dn _)<|Ag<|O<|O<|Aa<|Ak<|A3 h
   exact Ad<|Ad<|Ad<|Ad<|O<|O<|Aa<|Ak<|A3 h
   exact Ad<|Ad<|Ad<|O<|O<|Ad<|Ad<|Ad<|Ad<|O<|O<|Aa<|Ak<|A3 h
   refine Z<|Ac<|O<|O<|Aa<|Am h (fun b h=>?_) fun b h=>?_
   refine Z<|Ac<|O<|O<|O<|O<|A6 (s:=74) h (fun b h=>?_) fun b h=>?_
   refine Ag<|Ag<|Ag<|O<|O<|A6 (s:=79) h (fun b h=>?_) fun b h=>?_
   exact Ag<|Ag<|Ag<|Ag<|Ag<|Ag<|Aq h fun v4 X h=>As.mk _ (j (a0:=a0) (a1:=a1.Kids) (a2:=a2.Args) X) rfl<|O<|O<|Aa<|Ak<|A3 h
   exact Ad<|Ad<|Ad<|Ad<|Ad<|Ad<|O<|O<|Aa<|Ak<|A3 h
   exact Ad<|Ad<|Ad<|O<|O<|Ad<|Ad<|Ad<|Ad<|Ad<|Ad<|O<|O<|Aa<|Ak<|A3 h
   refine Z<|Ac<|O<|O<|Aa<|Am h (fun b h=>?_) fun b h=>?_
   refine Z<|Z<|Cd h fun A z D=>Ce (fun (v5:Bool)=>v5=A) (fun v5=>[(101,(Av v5))]) (fun v5=>[]) (fun _=>rfl) ?_ ?_
   intro L hK1
   refine Ac<|O<|O<|O<|O<|A6 (s:=92) z (fun b h=>?_) fun b h=>?_
   exact Ad<|Ad<|Ad<|O<|O<|Ad<|Ad<|Ad<|O<|Aa<|hK1 true _ _ _ (Ai h) ⟨rfl,Ae⟩ ⟨Ah,Ah,Ah,Ae⟩
   refine Ag<|Ag<|Ag<|O<|O<|A6 (s:=97) h (fun b h=>?_) fun b h=>?_
   exact Ad<|Ad<|Ad<|O<|Aa<|hK1 true _ _ _ (Ai h) ⟨rfl,Ae⟩ ⟨Ah,Ah,Ah,Ae⟩
   exact Ag<|Ag<|Ag<|O<|Aa<|hK1 (decide<|a1.Num>=(8:Int)) _ _ _ (Ai h) ⟨rfl,Ae⟩ ⟨Ah,Ah,Ah,Ae⟩
   rintro v5 J E
   have h:=D _ E
   refine Am h (fun b h=>?_) fun b h=>?_
   exact Z<|Ac<|O<|Aa<|Ak<|A3 h
   refine An<|Z<|Ac<|O<|O<|O<|O<|O<|Aq h fun B U h=>As.mk _ (Aqc (a0:=a0) (a1:=a2) (a2:=a1.Num) U) rfl<|O<|O<|O<|O<|O<|Aa<|Z<|Ac<|O<|O<|A6 (s:=111) h (fun b h=>?_) fun b h=>?_
   exact Ag<|Ag<|Ag<|Ag<|Ag<|Aq h fun v7 S h=>As.mk _ (j (a0:=a0) (a1:=a1.Kids) (a2:=B.1) S) rfl<|O<|O<|Aa<|Ak<|A3 h
   exact Ad<|Ad<|Ad<|Ad<|Ad<|O<|O<|Aa<|Ak<|A3 h
   refine Z<|Ac<|O<|O<|Aa<|Am h (fun b h=>?_) fun b h=>?_
   refine Z<|Ac<|O<|O<|O<|O<|A6 (s:=123) h (fun b h=>?_) fun b h=>?_
   refine Ag<|Ag<|Ag<|O<|O<|A6 (s:=128) h (fun b h=>?_) fun b h=>?_
   refine Ag<|Ag<|Ag<|Ax (f:=Cj) (l:=a1.Kids) (Dn _)<|Ag<|O<|O<|A6 (s:=134) h (fun b h=>?_) fun b h=>?_
   exact Ag<|Ag<|Ag<|Ag<|Aq h fun v8 R h=>As.act [0,2] _ _ _ _ (g (a0:=a1.Kids) (b0:=a0) (b1:=a2) R) rfl rfl ⟨rfl,rfl,Ae⟩<|Ag<|O<|O<|Aa<|Ak<|A3 h
   exact Ad<|Ad<|Ad<|Ad<|Ad<|O<|O<|Aa<|Ak<|A3 h
   exact Ad<|Ad<|Ad<|Ad<|O<|O<|Ad<|Ad<|Ad<|Ad<|Ad<|O<|O<|Aa<|Ak<|A3 h
   exact Ad<|Ad<|Ad<|O<|O<|Ad<|Ad<|Ad<|Ad<|O<|O<|Ad<|Ad<|Ad<|Ad<|Ad<|O<|O<|Aa<|Ak<|A3 h
   refine Z<|Ac<|O<|O<|Aa<|Am h (fun b h=>?_) fun b h=>?_
   refine Z<|Ac<|O<|O<|O<|O<|A6 (s:=146) h (fun b h=>?_) fun b h=>?_
   refine Ag<|Ag<|Ag<|O<|O<|A6 (s:=151) h (fun b h=>?_) fun b h=>?_
   exact Ag<|Ag<|Ag<|Ag<|Ag<|Ag<|Aq h fun v9 N h=>As.mk _ (j (a0:=a0) (a1:=a1.Kids) (a2:=a2.Args) N) rfl<|O<|O<|Aa<|Ak<|A3 h
   exact Ad<|Ad<|Ad<|Ad<|Ad<|Ad<|O<|O<|Aa<|Ak<|A3 h
   exact Ad<|Ad<|Ad<|O<|O<|Ad<|Ad<|Ad<|Ad<|Ad<|Ad<|O<|O<|Aa<|Ak<|A3 h
   refine Z<|Ac<|O<|O<|Aa<|Am h (fun b h=>?_) fun b h=>?_
   refine Z<|Ac<|O<|O<|O<|O<|A6 (s:=164) h (fun b h=>?_) fun b h=>?_
   refine Ag<|Ag<|Ag<|O<|O<|A6 (s:=169) h (fun b h=>?_) fun b h=>?_
   refine Ag<|Ag<|Ag<|O<|O<|A6 (s:=174) h (fun b h=>?_) fun b h=>?_
   exact Ag<|Ag<|Ag<|Ax (f:=Cj) (l:=a1.Kids) (Dn _)<|Ag<|O<|O<|Aa<|Ak<|A3 h
   exact Ad<|Ad<|Ad<|Ad<|O<|O<|Aa<|Ak<|A3 h
   exact Ad<|Ad<|Ad<|O<|O<|Ad<|Ad<|Ad<|Ad<|O<|O<|Aa<|Ak<|A3 h
   exact Ad<|Ad<|Ad<|O<|O<|Ad<|Ad<|Ad<|O<|O<|Ad<|Ad<|Ad<|Ad<|O<|O<|Aa<|Ak<|A3 h
   exact An<|Z<|Ac<|O<|Aa<|Ak<|A3 h
  .intro a0 b0 b1 r h
   unfold Nv at h
   refine D0 (C:={T:=B4,an:=(fun _=>.ask)}) true B8 B5 Tryz.func144 rfl (by kernel_rfl) (by kernel_rfl) rfl ?_
   refine Z<|Ac<|O<|O<|Aa<|Z<|B0<|O<|O<|O<|O<|O<|A7 (f:=Ba) (Bq _) h fun n2 v2 i2 x2 h=>O<|O<|Aq h fun v3 G h=>As.mk _ (u (a0:=b0) (a1:=a0) (a2:=v2) G) rfl<|O<|O<|Aa<|Bj.mk (by kernel_rfl)<|Ak ?_
   cases h
   exact ⟨rfl,rfl,rfl,Ae⟩
  .intro a0 a1 a2 r h
   unfold Ls at h
   refine Bv Tryz.func142 rfl (by kernel_rfl) (by kernel_rfl) rfl ?_
   exact Z<|Ac<|O<|O<|Aa<|Z<|Ac<|O<|O<|O<|O<|Aq h fun v2 Y h=>As.act [0] _ _ _ _ (c (a0:=a1) (a1:=a2) (b0:=a0) Y) rfl rfl ⟨rfl,Ae⟩<|O<|Aa<|Ak<|A3 h
  .intro a0 a1 b0 r h
   unfold N3 at h
   refine D0 (C:={T:=B4,an:=(fun _=>.ask)}) true B8 B5 Tryz.func223 rfl (by kernel_rfl) (by kernel_rfl) rfl ?_
   refine Z<|Ac<|O<|O<|O<|Aa<|Z<|Ac<|O<|O<|O<|O<|Aq h fun v3 G h=>As.mk _ (u (a0:=b0) (a1:=a0) (a2:=a1) G) rfl<|O<|Aa<|Ak ?_
   cases h
   exact ⟨rfl,rfl,Ae⟩
theorem Aqd {k:Nat} {a0:(List A5)} {a1:Bl} {a2:Ao} {r:Bool} (h:Ka k a0 a1 a2=some r):Bb Tryz.prog 84 [(A2 3 Bf) a0,Cj (Bl.mk a1.Kind a1.Num a1.Kids),Ba (Ao.mk a2.Kind a2.Num a2.Args)] (Av r):=(Agr k).2.2.2.1 _ _ _ _ h
theorem Aqe {a0:(List A5)} {a1:Ao} {r:Bool} (h:Up a0 a1=some r):Bb Tryz.prog 82 [(A2 3 Bf) a0,Ba a1] (Av r):=by
 unfold Up at h
 refine C2 (C:={T:=B4,an:=(fun _=>.ask),nl:=(fun s=>bif Nat.beq s 6 then [(1,7),(2,3),(3,8)] else [])}) B8 B5 Tryz.func82 rfl (by kernel_rfl) (by kernel_rfl) rfl ?_
 refine Z<|Ac<|O<|O<|Aa<|Z<|Ac<|O<|O<|O<|Aq h fun v2 f h=>As.mk _ (Xu (a0:=a0) f) rfl<|O<|A6 (s:=8) h (fun b h=>?_) fun b h=>?_
 exact Ag<|Ag<|Ag<|Aq h fun v3 c h=>As.mk _ (Oe (a0:=a0) (a1:=a1) (a2:=0) c) rfl<|O<|O<|Aa<|Ak<|A3 h
 exact Ad<|Ad<|Ad<|O<|O<|Aa<|Ak<|A3 h
theorem Ags {a0:(List A5)} {a1:Bl} {a2:Ao} {r:Bool} (h:Pq a0 a1 a2=some r):Bb Tryz.prog 38 [(A2 3 Bf) a0,Cj a1,Ba a2] (Av r):=by
 unfold Pq at h
 refine Bv Tryz.func38 rfl (by kernel_rfl) (by kernel_rfl) rfl ?_
 refine Z<|Ac<|O<|O<|O<|Aa<|Z<|Ac<|O<|O<|Aa<|Z<|Ac<|O<|O<|O<|Aq h fun v4 g h=>As.mk _ (Aqe (a0:=a0) (a1:=a2) g) rfl<|O<|A6 (s:=11) h (fun b h=>?_) fun b h=>?_
 refine Ag<|Ag<|Aq h fun v5 f h=>As.act [2] _ _ _ _ (Aqb (a0:=a1) (b0:=5000) f) rfl rfl ⟨rfl,Ae⟩<|O<|O<|A6 (s:=15) h (fun b h=>?_) fun b h=>?_
 exact Ag<|Ag<|Ag<|Ag<|Aq h fun i c h=>As.mk _ (Aqd (a0:=a0) (a1:=a1) (a2:=a2) c) rfl<|O<|O<|Aa<|Ak<|A3 h
 exact Ad<|Ad<|Ad<|Ad<|O<|O<|Aa<|Ak<|A3 h
 exact Ad<|Ad<|O<|O<|Ad<|Ad<|Ad<|Ad<|O<|O<|Aa<|Ak<|A3 h
theorem Aqf {a0:(List A5)} {a1:Ao} {a2:Bl} {a3:Int} {r:(Int×Int)} (h:R3 a0 a1 a2 a3=some r):Bb Tryz.prog 39 [(A2 3 Bf) a0,Ba a1,Cj a2,(Af .i64) a3] (.tup [(Af .i64) r.1,(Af .i64) r.2]):=by
 unfold R3 at h
 refine Bv Tryz.func39 rfl (by kernel_rfl) (by kernel_rfl) rfl ?_
 refine Z<|Ac<|O<|O<|O<|O<|Aa<|Z<|Z<|Ac<|O<|O<|O<|Aq h fun v3 G h=>As.mk _ (Aqa (a0:=a0) (a1:=a1) G) rfl<|O<|O<|O<|O<|O<|O<|Aa<|Z<|Ac ?_
 refine O<|O<|Aa<|Am h (fun b h=>?_) fun b h=>?_
 exact Z<|Ac<|O<|O<|Aa<|Ak<|congrArg (fun x:(Int×Int)=>(.tup [(Af .i64) x.1,(Af .i64) x.2]:AV))<|Ai h
 refine An<|Z<|Z<|Cd h fun i q u=>Ce (fun (g:Bool)=>g=i) (fun g=>[(40,(Av g))]) (fun g=>[]) (fun _=>rfl) ?_ ?_
 intro R hK1
 refine Ac<|O<|O<|O<|O<|A6 (s:=26) q (fun b h=>?_) fun b h=>?_
 exact Ad<|Ad<|O<|O<|Ad<|Ad<|Ad<|Ad<|Ad<|Ad<|Ad<|Ad<|Ad<|O<|Aa<|hK1 true _ _ _ (Ai h) ⟨rfl,Ae⟩ ⟨Ah,Ah,Ah,Ae⟩
 refine Ag<|Ag<|O<|O<|A6 (s:=30) h (fun b h=>?_) fun b h=>?_
 exact Ad<|Ad<|Ad<|Ad<|Ad<|Ad<|Ad<|Ad<|Ad<|O<|Aa<|hK1 true _ _ _ (Ai h) ⟨rfl,Ae⟩ ⟨Ah,Ah,Ah,Ae⟩
 exact Ag<|Ag<|Ag<|Ag<|Ag<|A7 (f:=Bf) rfl h fun M v5 i5 I h=>Ag<|Ag<|Ag<|Ax (f:=Ej) (l:=v5.Cons) rfl<|Ag<|O<|Aa<|hK1 (decide<|a3>=(v5.Cons.length:Int)) _ _ _ (Ai h) ⟨rfl,Ae⟩ ⟨Ah,Ah,Ah,Ae⟩
 rintro g L y
 have h:=u _ y
 refine Am h (fun b h=>?_) fun b h=>?_
 exact Z<|Ac<|O<|O<|Aa<|Ak<|congrArg (fun x:(Int×Int)=>(.tup [(Af .i64) x.1,(Af .i64) x.2]:AV))<|Ai h
 refine An<|Z<|Z<|Ac<|O<|O<|O<|O<|Aq h fun v7 E h=>As.mk _ (Ags (a0:=a0) (a1:=a2) (a2:=a1) E) rfl<|O<|Aa<|Am h (fun b h=>?_) fun b h=>?_
 exact Z<|Ac<|O<|O<|Aa<|Ak<|congrArg (fun x:(Int×Int)=>(.tup [(Af .i64) x.1,(Af .i64) x.2]:AV))<|Ai h
 refine An<|Z<|Ac<|O<|Aa<|Z<|Z<|Ac<|O<|O<|O<|O<|Aq h fun v8 D h=>As.mk _ (Ap8 (a0:=a0) (a1:=a1) (a2:=a2) D) rfl<|O<|Ax (f:=Cj) (l:=v8) (Dn _)<|O<|Aa<|Ay<|Bn h (fun (c,v12)=>[(12,(Af .i64 c)),(51,(Af .i64 v12))]) (fun (c,v12)=>[]) (fun _=>True) (fun _=>rfl) ⟨rfl,rfl,Ae⟩ ⟨Ah,Ah,Ah,Ae⟩ Ae ?_
 rintro ⟨c,v12⟩ J N A k j hn2 _
 refine Z<|Ac<|O<|Aa<|Z<|Am k (fun b h=>?_) fun b h=>?_
 refine An<|Z<|Ay<|Z<|Ac<|O<|A7 (f:=Cj) (Dn _) h fun B v13 i13 z h=>O<|O<|O<|Aa<|Z<|Ac<|O<|O<|O<|O<|Aa<|Am h (fun b h=>?_) fun b h=>?_
 exact Ac<|O<|O<|Aw.mk _ rfl<|O<|Aa<|Ac<|O<|Aw.mk _ rfl<|O<|Aa<|hn2 _ _ _ _ (Ai h) ⟨rfl,rfl,Ae⟩ ⟨Ah,Ah,Ah,Ae⟩ Ae
 exact An<|Ac<|O<|Aw.mk _ rfl<|O<|Aa<|hn2 _ _ _ _ (Ai h) ⟨rfl,rfl,Ae⟩ ⟨Ah,Ah,Ah,Ae⟩ Ae
 refine Bh<|Bg rfl ?_
 have h:=j _ (Ai h)
 exact Z<|Ac<|O<|O<|O<|Aa<|Ak<|congrArg (fun x:(Int×Int)=>(.tup [(Af .i64) x.1,(Af .i64) x.2]:AV))<|Ai h
end Go.Ab
namespace Go.Ab
open Go Go.Proofs
set_option maxRecDepth 10000
theorem Aqg {a0:Cp} {a1:Int} {a2:Bl} {r:((List Da)×Int)} (h:Rw a0 a1 a2=some r):Bb Tryz.prog 10 [Fe a0,(Af .i64) a1,Cj a2] (.tup [(A2 3 Db) r.1,(Af .i64) r.2]):=by
 unfold Rw at h
 refine C2 (C:={T:=B4,an:=(fun s=>bif Nat.beq s 10 then .own else .ask),nl:=(fun s=>bif Nat.beq s 10 then [(0,3)] else bif Nat.beq s 6 then [(0,3)] else [])}) B8 B5 Tryz.func10 rfl (by kernel_rfl) (by kernel_rfl) rfl ?_
 refine Z<|Ac<|O<|O<|O<|O<|Aa<|Z<|Z<|Ac<|O<|O<|Aq h fun v3 z h=>As.mk _ (Bb.sub (Tf (a0:=a0) (a1:=[]) z) ⟨Sub.refl _,Sub.nil _,Ae⟩<|Sub.refl _) rfl<|O<|Aa<|Am h (fun b h=>?_) fun b h=>?_
 exact Z<|Ac<|O<|O<|Aa<|Ak<|congrArg (fun x:((List Da)×Int)=>(.tup [(A2 3 Db) x.1,(Af .i64) x.2]:AV))<|Ai h
 refine An<|Z<|Ac<|O<|O<|O<|Aq h fun v4 y h=>As.mk _ (Afu (a0:=a0) (a1:=a1) y) rfl<|O<|O<|O<|O<|O<|O<|Aa<|Z<|Z<|Ac<|O<|O<|Aa<|Am h (fun b h=>?_) fun b h=>?_
 exact Z<|Ac<|O<|O<|Aa<|Ak<|congrArg (fun x:((List Da)×Int)=>(.tup [(A2 3 Db) x.1,(Af .i64) x.2]:AV))<|Ai h
 refine An<|Z<|Z<|Ac<|O<|O<|O<|O<|O<|Aq h fun B u h=>As.mk _ (Ags (a0:=a0.Data) (a1:=a2) (a2:=v4.1) u) rfl<|O<|Aa<|Am h (fun b h=>?_) fun b h=>?_
 exact Z<|Ac<|O<|O<|Aa<|Ak<|congrArg (fun x:((List Da)×Int)=>(.tup [(A2 3 Db) x.1,(Af .i64) x.2]:AV))<|Ai h
 refine An<|Z<|Z<|Ac<|O<|O<|Aa<|Ay<|Z<|Ac<|O<|O<|Aa<|Am h (fun b h=>?_) fun b h=>?_
 exact Z<|Ac<|O<|O<|O<|O<|Ax (f:=Cj) (l:=a2.Kids) (Dn _)<|O<|O<|O<|O<|Aa<|Ak<|congrArg (fun x:((List Da)×Int)=>(.tup [(A2 3 Db) x.1,(Af .i64) x.2]:AV))<|Ai h
 refine Z<|Ac<|O<|O<|Aa<|Am h (fun b h=>?_) fun b h=>?_
 refine Z<|Ac<|O<|Aa<|Z<|Z<|Ac<|O<|O<|O<|O<|O<|A7 (f:=Bf) rfl h fun E v8 i8 A h=>O<|O<|O<|Ax (f:=Ej) (l:=v8.Cons) rfl<|O<|Aa<|Ay<|Bn h (fun (v15,c)=>[(6,(.sl 3<|List.map Db [])),(7,(Af .i64 0)),(10,(.arr 3 c.length 0 c.length)),(51,(Af .i64 v15))]) (fun (v15,c)=>[(3,.rows 46 3 (List.map Db c))]) (fun _=>True) (fun _=>rfl) ⟨rfl,rfl,rfl,rfl,Ae⟩ ⟨Ah,Ah,Ah,Ah,Ae⟩ Ae ?_
 rintro ⟨v15,c⟩ D G k i g hn1 _
 refine Z<|Ac<|O<|Aa<|Z<|Am i (fun b h=>?_) fun b h=>?_
 refine An<|Z<|Ay<|Z<|Ac<|O<|O<|Aa<|Z<|Ac<|O<|O<|O<|O<|O<|O<|Aq h fun v17 j h=>As.mk _ (Aqf (a0:=a0.Data) (a1:=v4.1) (a2:=a2) (a3:=v15) j) rfl<|O<|O<|O<|O<|O<|Aa ?_
 refine Z<|Z<|Ac<|O<|O<|Aa<|Am h (fun b h=>?_) fun b h=>?_
 refine Z<|Ac<|O<|O<|O<|Aa<|Ak ?_
 have h:=g _ (Ai h)
 exact congrArg (fun x:((List Da)×Int)=>(.tup [(A2 3 Db) x.1,(Af .i64) x.2]:AV))<|Ai h
 exact An<|Ac<|O<|O<|O<|O<|O<|O<|O<|D9 (f:=Db) (l:=c) (ys:=[(Da.mk a1 v15 v17.1)]) rfl rfl rfl rfl h fun q h=>O<|Aa<|Ac<|O<|Aw.mk _ rfl<|O<|Aa<|hn1 _ _ _ _ (Ai h) ⟨rfl,rfl,rfl,rfl,Ae⟩ ⟨Ah,Ah,Ah,Ah,Ae⟩ Ae
 refine Bh<|Bg rfl ?_
 have h:=g _ (Ai h)
 exact Z<|Ac<|O<|O<|O<|Aa<|Ak<|Bz (f:=Db) (l:=c) rfl rfl<|Bz (f:=Db) (l:=c) rfl rfl<|congrArg (fun x:((List Da)×Int)=>(.tup [(A2 3 Db) x.1,(Af .i64) x.2]:AV))<|Ai h
 exact An<|Z<|Ac<|O<|O<|Aa<|Ak<|congrArg (fun x:((List Da)×Int)=>(.tup [(A2 3 Db) x.1,(Af .i64) x.2]:AV))<|Ai h
theorem Agt:∀k:Nat,(∀(a0:Bl) (a1:Int) (r:Int),Lk k a0 a1=some r->Bb Tryz.prog 35 [Cj a0,(Af .i64) a1] ((Af .i64) r))
 | 0=>(fun _ _ _ h=>by simp only [Lk] at h; cases h)
 | k+1=>by
  have ih:=Agt k
  have c:∀{a0:Bl} {a1:Int} {r:Int},Lk k a0 a1=some r->Bb Tryz.prog 35 [Cj a0,(Af .i64) a1] ((Af .i64) r):=fun h=>ih _ _ _ h
  intro a0 a1 r h
  unfold Lk at h
  refine Bv Tryz.func35 rfl (by kernel_rfl) (by kernel_rfl) rfl ?_
  refine Z<|Ac<|O<|O<|Aa<|Z<|Ac<|O<|Aa<|Z<|Z<|Ac<|O<|O<|O<|Ax (f:=Cj) (l:=a0.Kids) (Dn _)<|O<|Aa<|Ay<|Bn h (fun (v4,v5)=>[(4,(Af .i64 0)),(5,(Af .i64 v4)),(10,(Af .i64 v5))]) (fun (v4,v5)=>[]) (fun _=>True) (fun _=>rfl) ⟨rfl,rfl,rfl,Ae⟩ ⟨Ah,Ae⟩ Ae ?_
  rintro ⟨v4,v5⟩ x z q i g hn1 _
  refine Z<|Ac<|O<|Aa<|Z<|Am i (fun b h=>?_) fun b h=>?_
  refine An<|Z<|Ay<|Z<|Ac<|O<|O<|Aa<|Z<|Z<|Ac<|O<|O<|O<|Aa<|Am h (fun b h=>?_) fun b h=>?_
  refine Z<|Ac<|O<|O<|Aa<|Ak ?_
  have h:=g _ (Ai h)
  exact Bu h
  refine An<|Ac<|O<|O<|O<|O<|O<|A7 (f:=Cj) (Dn _) h fun y j i6 u h=>O<|O<|O<|O<|Aw.mk _ rfl<|O<|Aq h fun v7 s h=>As.mk _ (c (a0:=j) (a1:=(Al<|a1-v4)) s) rfl<|O<|Aw.mk _ rfl<|O<|Aa<|Ac<|O<|Aw.mk _ rfl<|O ?_
  exact Aa<|hn1 _ _ _ _ (Ai h) ⟨rfl,rfl,rfl,Ae⟩ ⟨Ah,Ae⟩ Ae
  refine Bh<|Bg rfl ?_
  have h:=g _ (Ai h)
  exact Z<|Ac<|O<|O<|Aa<|Ak<|Bu h
theorem Aqh {k:Nat} {a0:Bl} {a1:Int} {r:Int} (h:Lk k a0 a1=some r):Bb Tryz.prog 35 [Cj a0,(Af .i64) a1] ((Af .i64) r):=(Agt k) _ _ _ h
theorem Aqi {a0:(List Bl)} {r:Bool} (h:Rv a0=some r):Bb Tryz.prog 9 [(Ck 3 Dv) a0] (Av r):=by
 unfold Rv at h
 refine Bv Tryz.func9 rfl (by kernel_rfl) (by kernel_rfl) rfl ?_
 refine Z<|Ac<|O<|Aa<|Z<|Ac<|O<|Aa<|Z<|Z<|Ac<|O<|O<|Ax (f:=Cj) (l:=a0) (Dn _)<|O<|Aa<|Ay<|Bn h (fun (v3,v4)=>[(2,(Av false)),(3,(Af .i64 v3)),(7,(Af .i64 v4))]) (fun (v3,v4)=>[]) (fun _=>True) (fun _=>rfl) ⟨rfl,rfl,rfl,Ae⟩ Ae Ae ?_
 rintro ⟨v3,v4⟩ s x i g c hn1 _
 refine Z<|Ac<|O<|Aa<|Z<|Am g (fun b h=>?_) fun b h=>?_
 refine An<|Z<|Ay<|Z<|Ac<|O<|O<|Aa<|Z<|Ac<|O<|O<|O<|O<|A7 (f:=Cj) (Dn _) h fun u v5 i5 k h=>O<|O<|O<|Aw.mk _ rfl<|O<|Aq h fun q j h=>As.mk _ (Aqh (a0:=v5) (a1:=(Al<|61-v3)) j) rfl<|O<|Aw.mk _ rfl ?_
 refine O<|Aa<|Z<|Ac<|O<|O<|Aa<|Am h (fun b h=>?_) fun b h=>?_
 refine Z<|Ac<|O<|Aa<|Ak ?_
 have h:=c _ (Ai h)
 exact A3 h
 exact An<|Ac<|O<|Aw.mk _ rfl<|O<|Aa<|hn1 _ _ _ _ (Ai h) ⟨rfl,rfl,rfl,Ae⟩ Ae Ae
 refine Bh<|Bg rfl ?_
 have h:=c _ (Ai h)
 exact Z<|Ac<|O<|O<|Ax (f:=Cj) (l:=a0) (Dn _)<|O<|O<|Aa<|Ak<|A3 h
theorem Aqj {a0:Cp} {r:Bool} (h:R0 a0=some r):Bb Tryz.prog 33 [Fe a0] (Av r):=by
 unfold R0 at h
 refine Bv Tryz.func33 rfl (by kernel_rfl) (by kernel_rfl) rfl ?_
 refine Z<|Ac<|O<|O<|Aa<|Z<|Ac<|O<|O<|O<|Ax (f:=Bf) (l:=a0.Data) rfl<|O<|O<|A6 (s:=7) h (fun b h=>?_) fun b h=>?_
 exact Ag<|Ag<|Ag<|Ax (f:=Ba) (l:=a0.Vars) (Bq _)<|Ag<|O<|O<|Aa<|Ak<|A3 h
 exact Ad<|Ad<|Ad<|Ad<|O<|O<|Aa<|Ak<|A3 h
theorem Agu:∀k:Nat,(∀(a0:Be) (a1:Int) (r:Int),Lr k a0 a1=some r->Bb Tryz.prog 139 [Bw a0,(Af .i64) a1] ((Af .i64) r))
 | 0=>(fun _ _ _ h=>by simp only [Lr] at h; cases h)
 | k+1=>by
  have ih:=Agu k
  have c:∀{a0:Be} {a1:Int} {r:Int},Lr k a0 a1=some r->Bb Tryz.prog 139 [Bw a0,(Af .i64) a1] ((Af .i64) r):=fun h=>ih _ _ _ h
  intro a0 a1 r h
  unfold Lr at h
  refine Bv Tryz.func139 rfl (by kernel_rfl) (by kernel_rfl) rfl ?_
  refine Z<|Ac<|O<|O<|Aa<|Z<|Ac<|O<|Aa<|Z<|Z<|Ac<|O<|O<|O<|Ax (f:=Bw) (l:=a0.Kids) (Cu _)<|O<|Aa<|Ay<|Bn h (fun (v4,v5)=>[(4,(Af .i64 0)),(5,(Af .i64 v4)),(10,(Af .i64 v5))]) (fun (v4,v5)=>[]) (fun _=>True) (fun _=>rfl) ⟨rfl,rfl,rfl,Ae⟩ ⟨Ah,Ae⟩ Ae ?_
  rintro ⟨v4,v5⟩ x z q i g hn1 _
  refine Z<|Ac<|O<|Aa<|Z<|Am i (fun b h=>?_) fun b h=>?_
  refine An<|Z<|Ay<|Z<|Ac<|O<|O<|Aa<|Z<|Z<|Ac<|O<|O<|O<|Aa<|Am h (fun b h=>?_) fun b h=>?_
  refine Z<|Ac<|O<|O<|Aa<|Ak ?_
  have h:=g _ (Ai h)
  exact Bu h
  refine An<|Ac<|O<|O<|O<|O<|O<|A7 (f:=Bw) (Cu _) h fun y j i6 u h=>O<|O<|O<|O<|Aw.mk _ rfl<|O<|Aq h fun v7 s h=>As.mk _ (c (a0:=j) (a1:=(Al<|a1-v4)) s) rfl<|O<|Aw.mk _ rfl<|O<|Aa<|Ac<|O<|Aw.mk _ rfl<|O ?_
  exact Aa<|hn1 _ _ _ _ (Ai h) ⟨rfl,rfl,rfl,Ae⟩ ⟨Ah,Ae⟩ Ae
  refine Bh<|Bg rfl ?_
  have h:=g _ (Ai h)
  exact Z<|Ac<|O<|O<|Aa<|Ak<|Bu h
theorem Aqk {k:Nat} {a0:Be} {a1:Int} {r:Int} (h:Lr k a0 a1=some r):Bb Tryz.prog 139 [Bw a0,(Af .i64) a1] ((Af .i64) r):=(Agu k) _ _ _ h
theorem Aql {a0:C8} {r:Bool} (h:R8 a0=some r):Bb Tryz.prog 81 [Hd a0] (Av r):=by
 unfold R8 at h
 refine Bv Tryz.func81 rfl (by kernel_rfl) (by kernel_rfl) rfl ?_
 refine Z<|Ac<|O<|O<|Aa<|Z<|Z<|Cd h fun j u x=>Ce (fun (v2:Bool)=>v2=j) (fun v2=>[(14,(Av v2))]) (fun v2=>[]) (fun _=>rfl) ?_ ?_
 intro U hK1
 refine Ac<|O<|O<|O<|Ax (f:=C4) (l:=a0.Factors) rfl<|O<|O<|A6 (s:=9) u (fun b h=>?_) fun b h=>?_
 exact Ad<|Ad<|Ad<|Ad<|O<|Aa<|hK1 true _ _ _ (Ai h) ⟨rfl,Ae⟩ ⟨Ah,Ae⟩
 exact Ag<|Ag<|Ag<|Ax (f:=Dk) (l:=a0.Atoms) rfl<|Ag<|O<|Aa<|hK1 (decide ((a0.Atoms.length:Int)>(4:Int))) _ _ _ (Ai h) ⟨rfl,Ae⟩ ⟨Ah,Ae⟩
 rintro v2 M y
 have h:=x _ y
 refine Am h (fun b h=>?_) fun b h=>?_
 exact Z<|Ac<|O<|Aa<|Ak<|A3 h
 refine An<|Z<|Z<|Ac<|O<|O<|O<|Ax (f:=C4) (l:=a0.Factors) rfl<|O<|Aa<|Ay<|Bn h (fun v5=>[(2,(Av false)),(18,(Af .i64 v5))]) (fun v5=>[]) (fun _=>True) (fun _=>rfl) ⟨rfl,rfl,Ae⟩ ⟨Ah,Ae⟩ Ae ?_
 rintro v5 L S D q g hn2 _
 refine Z<|Ac<|O<|Aa<|Z<|Am q (fun b h=>?_) fun b h=>?_
 refine An<|Z<|Ay<|Z<|Ac<|O<|O<|Aa<|Z<|Ac<|O<|O<|O<|O<|A7 (f:=C4) rfl h fun N A i6 I h=>O<|O<|O<|Aq h fun v7 G h=>As.mk _ (Aqk (a0:=A.Index) (a1:=13) G) rfl<|O<|Aa<|Am h (fun b h=>?_) fun b h=>?_
 refine Z<|Ac<|O<|Aa<|Ak ?_
 have h:=g _ (Ai h)
 exact A3 h
 exact An<|Ac<|O<|Aw.mk _ rfl<|O<|Aa<|hn2 _ _ _ _ (Ai h) ⟨rfl,rfl,Ae⟩ ⟨Ah,Ae⟩ Ae
 refine Bh<|Bg rfl ?_
 have h:=g _ (Ai h)
 refine Z<|Z<|Ac<|O<|O<|O<|Ax (f:=Dk) (l:=a0.Atoms) rfl<|O<|Aa<|Ay<|Bn h (fun v10=>[(2,(Av false)),(33,(Af .i64 v10))]) (fun v10=>[]) (fun _=>True) (fun _=>rfl) ⟨rfl,rfl,Ae⟩ ⟨Ah,Ae⟩ Ae ?_
 rintro v10 J R B k c hn3 _
 refine Z<|Ac<|O<|Aa<|Z<|Am k (fun b h=>?_) fun b h=>?_
 refine An<|Z<|Ay<|Z<|Ac<|O<|O<|Aa<|Z<|Ac<|O<|O<|O<|O<|A7 (f:=Dk) rfl h fun E i i11 z h=>O<|O<|O<|O<|Ax (f:=Dq) (l:=i.Lin.Terms) rfl<|O<|Aa<|Am h (fun b h=>?_) fun b h=>?_
 refine Z<|Ac<|O<|Aa<|Ak ?_
 have h:=c _ (Ai h)
 exact A3 h
 exact An<|Ac<|O<|Aw.mk _ rfl<|O<|Aa<|hn3 _ _ _ _ (Ai h) ⟨rfl,rfl,Ae⟩ ⟨Ah,Ae⟩ Ae
 refine Bh<|Bg rfl ?_
 have h:=c _ (Ai h)
 exact Z<|Ac<|O<|Aa<|Ak<|A3 h
theorem Aqm {a0:A1} {r:Bool} (h:R7 a0=some r):Bb Tryz.prog 80 [Bx a0] (Av r):=by
 unfold R7 at h
 refine Bv Tryz.func80 rfl (by kernel_rfl) (by kernel_rfl) rfl ?_
 refine Z<|Ac<|O<|O<|Aa<|Z<|Ac<|O<|O<|O<|Ax (f:=(Af .u32)) (l:=a0.Num) rfl<|O<|O<|A6 (s:=7) h (fun b h=>?_) fun b h=>?_
 exact Ag<|Ag<|Ag<|Ax (f:=(Af .u32)) (l:=a0.Den) rfl<|Ag<|O<|O<|Aa<|Ak<|A3 h
 exact Ad<|Ad<|Ad<|Ad<|O<|O<|Aa<|Ak<|A3 h
theorem Agv {a0:(List B2)} {a1:Int} {r:Bool} (h:Po a0 a1=some r):Bb Tryz.prog 34 [(A2 5 B7) a0,(Af .i64) a1] (Av r):=by
 unfold Po at h
 refine Bv Tryz.func34 rfl (by kernel_rfl) (by kernel_rfl) rfl ?_
 refine Z<|Ac<|O<|Aa<|Z<|Z<|Ac<|O<|O<|Ax (f:=B7) (l:=a0) rfl<|O<|O<|Aa<|Am h (fun b h=>?_) fun b h=>?_
 exact Z<|Ac<|O<|Aa<|Ak<|A3 h
 refine An<|Z<|Z<|Ac<|O<|O<|Ax (f:=B7) (l:=a0) rfl<|O<|Aa<|Ay<|Bn h (fun v5=>[(4,(Av false)),(12,(Af .i64 v5))]) (fun v5=>[]) (fun _=>True) (fun _=>rfl) ⟨rfl,rfl,Ae⟩ Ae Ae ?_
 rintro v5 y B j g c hn1 _
 refine Z<|Ac<|O<|Aa<|Z<|Am g (fun b h=>?_) fun b h=>?_
 refine An<|Z<|Ay<|Z<|Ac<|O<|O<|Aa<|Z<|Ac<|O<|O<|O<|A7 (f:=B7) rfl h fun A i i6 x h=>O<|O<|O<|Aq h fun v7 q h=>As.mk _ (Aqm (a0:=i.Coef) q) rfl<|O<|O<|A6 (s:=22) h (fun b h=>?_) fun b h=>?_
 refine Ad<|Ad<|Ad<|Ad<|Ad<|Ad<|Ad<|O<|Aa<|Dd<|Z<|Ac<|O<|Aa<|Ak ?_
 have h:=c _ (Ai h)
 exact A3 h
 refine Ag<|Ag<|Ag<|A7 (f:=B7) rfl h fun z v8 i8 u h=>Ag<|Ag<|Ag<|Aq h fun v9 k h=>As.mk _ (Aql (a0:=v8.Mono) k) rfl<|Ag<|O<|Aa<|Am h (fun b h=>?_) fun b h=>?_
 refine Z<|Ac<|O<|Aa<|Ak ?_
 have h:=c _ (Ai h)
 exact A3 h
 exact An<|Ac<|O<|Aw.mk _ rfl<|O<|Aa<|hn1 _ _ _ _ (Ai h) ⟨rfl,rfl,Ae⟩ Ae Ae
 refine Bh<|Bg rfl ?_
 have h:=c _ (Ai h)
 exact Z<|Ac<|O<|Aa<|Ak<|A3 h
theorem Aqn {a0:Cp} {a1:(List B2)} {a2:(List B2)} {r:Bool} (h:Ru a0 a1 a2=some r):Bb Tryz.prog 8 [Fe a0,(A2 5 B7) a1,(A2 5 B7) a2] (Av r):=by
 unfold Ru at h
 refine Bv Tryz.func8 rfl (by kernel_rfl) (by kernel_rfl) rfl ?_
 refine Z<|Ac<|O<|O<|Aa<|Z<|Ac<|O<|O<|Aq h fun v2 g h=>As.mk _ (Aqj (a0:=a0) g) rfl<|O<|A6 (s:=9) h (fun b h=>?_) fun b h=>?_
 refine Ag<|Ag<|Aq h fun v3 f h=>As.mk _ (Agv (a0:=a1) (a1:=6) f) rfl<|O<|O<|A6 (s:=13) h (fun b h=>?_) fun b h=>?_
 exact Ag<|Ag<|Aq h fun v4 c h=>As.mk _ (Agv (a0:=a2) (a1:=6) c) rfl<|O<|O<|Aa<|Ak<|A3 h
 exact Ad<|Ad<|O<|O<|Aa<|Ak<|A3 h
 exact Ad<|Ad<|O<|O<|Ad<|Ad<|O<|O<|Aa<|Ak<|A3 h
theorem Agw {a0:A1} {a1:A1} {r:Int} (h:Uo a0 a1=some r):Bb Tryz.prog 57 [Bx a0,Bx a1] ((Af .i64) r):=by
 unfold Uo at h
 refine Bv Tryz.func57 rfl (by kernel_rfl) (by kernel_rfl) rfl ?_
 refine Z<|Ac<|O<|O<|O<|Aa<|Z<|B0<|O<|O<|Aq h fun v3 q h=>As.mk _ (Od (a0:=a0) q) rfl<|O<|O<|Aq h fun v4 l h=>As.mk _ (Od (a0:=a1) l) rfl<|O<|O<|O<|O<|Aa<|Bj.mk (by kernel_rfl)<|Z<|B0 ?_
 refine O<|O<|Aq h fun v7 k h=>As.mk _ (Abe (a0:=v3) k) rfl<|O<|O<|Aq h fun v8 j h=>As.mk _ (Abe (a0:=v4) j) rfl<|O<|O<|Aa<|Bj.mk (by kernel_rfl)<|Z<|Ay<|Z<|Ac<|O<|O<|O<|O<|Aa<|Am h (fun b h=>?_) fun b h=>?_
 exact Z<|Ac<|O<|Aa<|Ak<|Bu h
 refine Z<|Ac<|O<|O<|O<|O<|Aa<|Am h (fun b h=>?_) fun b h=>?_
 exact Z<|Ac<|O<|Aa<|Ak<|Bu h
 refine An<|Z<|B0<|O<|O<|O<|O<|O<|O<|Aq h fun v9 i h=>As.mk _ (Qz (a0:=v3.n) (a1:=v4.d) i) rfl<|O<|O<|O<|O<|O<|Aq h fun v10 f h=>As.mk _ (Qz (a0:=v4.n) (a1:=v3.d) f) rfl<|O<|Aq h fun g c h=>As.mk _ (Aa5 (a0:=v9) (a1:=v10) c) rfl<|O<|Aw.mk _ rfl<|O ?_
 exact Aa<|Bj.mk (by kernel_rfl)<|Ak<|Bu h
theorem Aqo {a0:A1} {a1:A1} {r:A1} (h:Xb a0 a1=some r):Bb Tryz.prog 56 [Bx a0,Bx a1] (Bx r):=by
 unfold Xb at h
 refine Bv Tryz.func56 rfl (by kernel_rfl) (by kernel_rfl) rfl ?_
 refine Z<|Ac<|O<|O<|O<|Aa<|Z<|Z<|Ac<|O<|O<|O<|Aq h fun v4 c h=>As.mk _ (Agw (a0:=a0) (a1:=a1) c) rfl<|O<|Aa<|Am h (fun b h=>?_) fun b h=>?_
 exact Z<|Ac<|O<|O<|Aa<|Ak<|congrArg (fun x:A1=>(Bx x:AV))<|Ai h
 exact An<|Z<|Ac<|O<|O<|Aa<|Ak<|congrArg (fun x:A1=>(Bx x:AV))<|Ai h
theorem Agx:∀k:Nat,(∀(a0:Be) (r:Be),N0 k a0=some r->Bb Tryz.prog 179 [Bw a0] (Bw r))
 | 0=>(fun _ _ h=>by simp only [N0] at h; cases h)
 | k+1=>by
  have ih:=Agx k
  have c:∀{a0:Be} {r:Be},N0 k a0=some r->Bb Tryz.prog 179 [Bw a0] (Bw r):=fun h=>ih _ _ h
  intro a0 r h
  unfold N0 at h
  refine C2 (C:={T:=B4,an:=(fun _=>.ask),nl:=(fun s=>bif Nat.beq s 17 then [(0,2)] else [])}) B8 B5 Tryz.func179 rfl (by kernel_rfl) (by kernel_rfl) rfl ?_
  refine Z<|Ac<|O<|O<|Aa<|Z<|Ac<|O<|O<|O<|O<|O<|Aa<|Z<|Z<|Fd [.own 3 1 86 2]<|Dx.mk<|Ac<|O<|O<|O<|Ax (f:=Bw) (l:=a0.Kids) (Cu _)<|O<|Aa ?_
  refine Ay<|Bn h (fun (v15,i)=>[(12,(Af .i64 v15))]) (fun (v15,i)=>[(2,.cells 86 [(Af .i64 a0.Num),(.arr 3 i.length 0 i.length)]),(3,.rows 86 2 (Fs i))]) (fun _=>True) (fun _=>rfl) ⟨rfl,Ae⟩ ⟨Ah,Ah,Ah,Ah,Ae⟩ Ae ?_
  rintro ⟨v15,i⟩ E G B u q hn1 _
  refine Z<|Ac<|O<|Aa<|Z<|Am u (fun b h=>?_) fun b h=>?_
  refine An<|Z<|Ay<|Z<|Ac<|O<|A7 (f:=Bw) (Cu _) h fun D v17 i17 z h=>O<|O<|O<|Aa<|B0<|O<|O<|O<|O<|Aq h fun j y h=>As.mk _ (c (a0:=v17) y) rfl<|O<|O<|H4 (g:=Fs) Cu (f:=Bw) (l:=i) (ys:=[j]) (Cu _) rfl rfl rfl h fun A h=>O<|O<|Aa ?_
  exact Bj.mk (by kernel_rfl)<|Ac<|O<|Aw.mk _ rfl<|O<|Aa<|hn1 _ _ _ _ (Ai h) ⟨rfl,Ae⟩ ⟨Ah,Ah,Ah,Ah,Ae⟩ Ae
  refine Bh<|Bg rfl ?_
  have h:=q _ (Ai h)
  exact Z<|Ac<|O<|O<|Aa<|Ak<|Bz (f:=Bw) (l:=i) (Cu _) rfl<|Bz (f:=Bw) (l:=i) (Cu _) rfl<|congrArg (fun x:Be=>(Bw x:AV))<|Ai h
theorem Aqp {k:Nat} {a0:Be} {r:Be} (h:N0 k a0=some r):Bb Tryz.prog 179 [Bw a0] (Bw r):=(Agx k) _ _ h
theorem Aqq {a0:(List Fv)} {r:(List Fv)} (h:Aaw a0=some r):Bb Tryz.prog 180 [(A2 2 Dq) a0] ((A2 2 Dq) r):=by
 cases h
theorem Agy {a0:C8} {r:C8} (h:Uu a0=some r):Bb Tryz.prog 111 [Hd a0] (Hd r):=by
 unfold Uu at h
 refine C2 (C:={T:=B4,an:=(fun _=>.ask),nl:=(fun s=>bif Nat.beq s 44 then [(0,3)] else bif Nat.beq s 17 then [(0,3)] else [])}) B8 B5 Tryz.func111 rfl (by kernel_rfl) (by kernel_rfl) rfl ?_
 refine Z<|Ac<|O<|O<|Aa<|Z<|Ac<|O<|Aa<|Z<|Z<|Fd [.own 3 0 88 3,.own 3 1 118 3]<|Dx.mk<|Ac<|O<|O<|O<|Ax (f:=C4) (l:=a0.Factors) rfl<|O<|Aa<|Ay<|Bn h (fun (v16,c)=>[(12,(Af .i64 v16))]) (fun (v16,c)=>[(2,.cells 63 [(.arr 3 c.length 0 c.length),(.arr 4 0 0 0)]),(3,.rows 88 3 (List.map C4 c))]) (fun _=>True) (fun _=>rfl) ⟨rfl,Ae⟩ ⟨Ah,Ah,Ah,Ah,Ah,Ae⟩ Ae ?_
 rintro ⟨v16,c⟩ N S I u k hn1 _
 refine Z<|Ac<|O<|Aa<|Z<|Am u (fun b h=>?_) fun b h=>?_
 refine An<|Z<|Ay<|Z<|Ac<|O<|A7 (f:=C4) rfl h fun L v18 i18 B h=>O<|O<|O<|Aa<|B0<|O<|O<|O<|O<|O<|O<|O<|Aq h fun v20 z h=>As.mk _ (Aqp (a0:=v18.Index) z) rfl<|O<|O<|O ?_
 exact D9 (f:=C4) (l:=c) (ys:=[(D1.mk v18.Var v20)]) rfl rfl rfl rfl h fun G h=>O<|O<|Aa<|Bj.mk (by kernel_rfl)<|Ac<|O<|Aw.mk _ rfl<|O<|Aa<|hn1 _ _ _ _ (Ai h) ⟨rfl,Ae⟩ ⟨Ah,Ah,Ah,Ah,Ah,Ae⟩ Ae
 refine Bh<|Bg rfl ?_
 have h:=k _ (Ai h)
 refine Z<|Z<|Ac<|O<|O<|O<|Ax (f:=Dk) (l:=a0.Atoms) rfl<|O<|Aa<|Ay<|Bn h (fun (v35,g)=>[(31,(Af .i64 v35))]) (fun (v35,g)=>[(2,.cells 63 [(.arr 3 c.length 0 c.length),(.arr 4 g.length 0 g.length)]),(4,.rows 118 3 (List.map Dk g))]) (fun _=>True) (fun _=>rfl) ⟨rfl,Ae⟩ ⟨Ah,Ah,Ah,Ah,Ah,Ae⟩ Ae ?_
 rintro ⟨v35,g⟩ M R E q j hn2 _
 refine Z<|Ac<|O<|Aa<|Z<|Am q (fun b h=>?_) fun b h=>?_
 refine An<|Z<|Ay<|Z<|Ac<|O<|A7 (f:=Dk) rfl h fun J v37 i37 A h=>O<|O<|O<|Aa<|Z<|B0<|O<|O<|O<|O<|O<|O<|O<|Aq h fun i y h=>As.mk _ (Aqq (a0:=v37.Lin.Terms) y) rfl<|O<|O ?_
 exact O<|Aa<|Bj.mk (by kernel_rfl)<|Ac<|O<|O<|O<|O<|O<|O<|O<|O<|D9 (f:=Dk) (l:=g) (ys:=[(Ek.mk (Ey.mk v37.Lin.Const i) v37.Deg)]) rfl rfl rfl rfl h fun D h=>O<|O<|Aa<|Ac<|O<|Aw.mk _ rfl<|O<|Aa<|hn2 _ _ _ _ (Ai h) ⟨rfl,Ae⟩ ⟨Ah,Ah,Ah,Ah,Ah,Ae⟩ Ae
 refine Bh<|Bg rfl ?_
 have h:=j _ (Ai h)
 exact Z<|Ac<|O<|O<|Aa<|Ak<|Bz (f:=C4) (l:=c) rfl rfl<|Bz (f:=C4) (l:=c) rfl rfl<|Bz (f:=Dk) (l:=g) rfl rfl<|Bz (f:=Dk) (l:=g) rfl rfl<|congrArg (fun x:C8=>(Hd x:AV))<|Ai h
theorem Aqr {a0:Cp} {a1:(List B2)} {a2:(List B2)} {r:((List B2)×Int)} (h:Xa a0 a1 a2=some r):Bb Tryz.prog 55 [Fe a0,(A2 5 B7) a1,(A2 5 B7) a2,(.fn 56 [])] (.tup [(A2 5 B7) r.1,(Af .i64) r.2]):=by
 unfold Xa at h
 refine C2 (C:={T:=B4,an:=(fun s=>bif Nat.beq s 10 then .own else .ask),nl:=(fun s=>bif Nat.beq s 10 then [(0,5)] else bif Nat.beq s 8 then [(0,5)] else [])}) B8 B5 Tryz.func55 rfl (by kernel_rfl) (by kernel_rfl) rfl ?_
 refine Z<|Ac<|O<|O<|O<|Aa<|Z<|Z<|Cd h fun af ao av=>Ce (fun (v4:Bool)=>v4=af) (fun v4=>[(25,(Av v4))]) (fun v4=>[]) (fun _=>rfl) ?_ ?_
 intro K1 hK1
 refine Ac<|O<|O<|O<|Aq ao fun v2 c2 h=>As.mk _ (Tf (a0:=a0) (a1:=a1) c2) rfl<|O<|O<|A6 (s:=20) h (fun b h=>?_) fun b h=>?_
 exact Ad<|Ad<|Ad<|Ad<|O<|Aa<|hK1 true _ _ _ (Ai h) ⟨rfl,Ae⟩ ⟨Ah,Ae⟩
 exact Ag<|Ag<|Ag<|Aq h fun v3 c3 h=>As.mk _ (Tf (a0:=a0) (a1:=a2) c3) rfl<|Ag<|O<|Aa<|hK1 (!v3) _ _ _ (Ai h) ⟨rfl,Ae⟩ ⟨Ah,Ae⟩
 rintro v4 u1 b0
 have h:=av _ b0
 refine Am h (fun b h=>?_) fun b h=>?_
 exact Z<|Ac<|O<|O<|Aa<|Ak<|congrArg (fun x:((List B2)×Int)=>(.tup [(A2 5 B7) x.1,(Af .i64) x.2]:AV))<|Ai h
 refine An<|Z<|Ac<|O<|Aa<|Z<|Ay<|Bn h (fun (q,g,c)=>[(1,(.sl 5<|List.map B7 q)),(2,(.sl 5<|List.map B7 g)),(10,(.arr 1 c.length 0 c.length))]) (fun (q,g,c)=>[(1,.rows 65 5 (List.map B7 c))]) (fun _=>True) (fun _=>rfl) ⟨rfl,rfl,rfl,Ae⟩ ⟨Ah,Ah,Ae⟩ Ae ?_
 rintro ⟨q,g,c⟩ u2 K2 be am ag hn2 _
 refine Z<|Z<|Cd am fun ae ak au=>Ce (fun (v80:Bool)=>v80=ae) (fun v80=>[(33,(Av v80))]) (fun v80=>[]) (fun _=>rfl) ?_ ?_
 intro K3 hK3
 refine Ac<|O<|O<|Ax (f:=B7) (l:=q) rfl<|O<|O<|A6 (s:=29) ak (fun b h=>?_) fun b h=>?_
 exact Ad<|Ad<|Ad<|O<|Aa<|hK3 true _ _ _ (Ai h) ⟨rfl,Ae⟩ ⟨Ah,Ah,Ae⟩
 exact Ag<|Ag<|Ax (f:=B7) (l:=g) rfl<|Ag<|O<|Aa<|hK3 (decide ((g.length:Int)>(0:Int))) _ _ _ (Ai h) ⟨rfl,Ae⟩ ⟨Ah,Ah,Ae⟩
 rintro v80 u3 az
 have h:=au _ az
 refine Am h (fun b h=>?_) fun b h=>?_
 refine An<|Ay<|Z<|Ac<|O<|Aa<|Z<|Cd h fun ad aj ar=>Ce (fun (u:Int)=>u=ad) (fun u=>[(11,(Af .i64 u))]) (fun u=>[]) (fun _=>rfl) ?_ ?_
 intro K4 hK4
 refine Ay<|Z<|Ac<|O<|O<|Ax (f:=B7) (l:=g) rfl<|O<|O<|Aa<|Am aj (fun b h=>?_) fun b h=>?_
 exact Ac<|O<|Aa<|hK4 (-1) _ _ _ (Ai h) ⟨rfl,Ae⟩ ⟨Ah,Ah,Ae⟩
 refine Z<|Ac<|O<|O<|Ax (f:=B7) (l:=q) rfl<|O<|O<|Aa<|Am h (fun b h=>?_) fun b h=>?_
 exact Ac<|O<|Aa<|hK4 1 _ _ _ (Ai h) ⟨rfl,Ae⟩ ⟨Ah,Ah,Ae⟩
 exact B0<|O<|O<|A7 (f:=B7) rfl h fun bi aa i81 bd h=>O<|O<|O<|O<|A7 (f:=B7) rfl h fun bh a8 i82 bc h=>O<|O<|O<|Aq h fun a7 b5 h=>As.mk _ (Abb (a0:=aa.Mono) (a1:=a8.Mono) b5) rfl<|O<|Aa<|Bj.mk (by kernel_rfl)<|hK4 a7 _ _ _ (Ai h) ⟨rfl,Ae⟩ ⟨Ah,Ah,Ae⟩
 rintro u u4 ay
 have h:=ar _ ay
 refine Z<|Ac<|O<|Aq h fun v85 b4 h=>As.mk _ (L1 (a0:=0) b4) rfl<|O<|Aq h fun M b3 h=>As.mk _ (L1 (a0:=0) b3) rfl<|O<|O<|O<|O<|Aa<|Z<|Ac<|O<|Aa<|Z<|Z<|Fd [.nil 14 0 3,.nil 14 1 3]<|Dx.mk<|Ac<|O<|O ?_
 refine Aa<|Cd h fun ac ai aq=>Ce (fun (x:((List B2)×Bool×(List Int)×(List Int)×(List D1)×(List Ek)))=>x=ac) (fun (v93,E,D,B,A,z)=>[(2,(.sl 5<|List.map B7 v93))]) (fun (v93,E,D,B,A,z)=>[(3,.cells 41 [(Av E),(.sl 1<|List.map (Af .u32) D),(.sl 1<|List.map (Af .u32) B)]),(4,.cells 63 [(.sl 3<|List.map C4 A),(.sl 3<|List.map Dk z)])]) (fun _=>rfl) ?_ ?_
 intro K5 hK5
 refine Am ai (fun b h=>?_) fun b h=>?_
 exact B0<|O<|O<|A7 (f:=B7) rfl h fun bg L i90 bb h=>O<|O<|O<|O<|A7 (f:=B7) rfl h fun bf v91 i91 ba h=>O<|O<|O<|O<|W1 (f:=B7) rfl h fun a6 h=>O<|O<|O<|Aa<|Bj.mk (by kernel_rfl)<|hK5 (a6,L.Coef.Neg,L.Coef.Num,L.Coef.Den,v91.Mono.Factors,v91.Mono.Atoms) _ _ _ (Ai h) ⟨rfl,Ae⟩ ⟨Ah,Ah,Ah,Ah,Ah,Ae⟩
 exact An<|hK5 (g,M.Neg,M.Num,M.Den,[],[]) _ _ _ (Ai h) ⟨rfl,Ae⟩ ⟨Ah,Ah,Ah,Ah,Ah,Ae⟩
 rintro ⟨v93,E,D,B,A,z⟩ u5 ax
 have h:=aq _ ax
 refine Z<|Z<|Ac<|O<|O<|Aa<|Cd h fun ab ah ap=>Ce (fun (x:((List B2)×Bool×(List Int)×(List Int)×(List D1)×(List Ek)))=>x=ab) (fun (y,k,j,v105,i,v107)=>[(1,(.sl 5<|List.map B7 y))]) (fun (y,k,j,v105,i,v107)=>[(2,.cells 41 [(Av k),(.sl 1<|List.map (Af .u32) j),(.sl 1<|List.map (Af .u32) v105)]),(4,.cells 63 [(.sl 3<|List.map C4 i),(.sl 3<|List.map Dk v107)])]) (fun _=>rfl) ?_ ?_
 intro K6 hK6
 refine Am ah (fun b h=>?_) fun b h=>?_
 exact B0<|O<|O<|A7 (f:=B7) rfl h fun n99 J i99 b9 h=>O<|O<|O<|O<|A7 (f:=B7) rfl h fun n100 I i100 b6 h=>O<|O<|O<|O<|W1 (f:=B7) rfl h fun S h=>O<|O<|O<|Aa<|Bj.mk (by kernel_rfl)<|hK6 (S,J.Coef.Neg,J.Coef.Num,J.Coef.Den,I.Mono.Factors,I.Mono.Atoms) _ _ _ (Ai h) ⟨rfl,Ae⟩ ⟨Ah,Ah,Ah,Ah,Ah,Ae⟩
 exact An<|hK6 (q,v85.Neg,v85.Num,v85.Den,A,z) _ _ _ (Ai h) ⟨rfl,Ae⟩ ⟨Ah,Ah,Ah,Ah,Ah,Ae⟩
 rintro ⟨y,k,j,v105,i,v107⟩ u6 aw
 have h:=ap _ aw
 refine Z<|Ac<|O<|O<|O<|O<|Aq h fun G Y h=>As.mk _ (Aqo (a0:=(A1.mk k j v105)) (a1:=(A1.mk E D B)) Y) rfl<|O<|O<|Aa<|Z<|Ac<|O<|O<|Aq h fun b7 X h=>As.mk _ (Abf (a0:=G) X) rfl<|O<|Aa<|Am h (fun b h=>?_) fun b h=>?_
 exact B0<|O<|O<|O<|Aq h fun R V h=>As.mk _ (Xv (a0:=G) V) rfl<|O<|O<|Aq h fun N U h=>As.mk _ (Agy (a0:=(C8.mk i v107)) U) rfl<|O<|O<|O<|D9 (f:=B7) (l:=c) (ys:=[(B2.mk R N)]) rfl rfl rfl rfl h fun b8 h=>O<|Aa<|Bj.mk (by kernel_rfl)<|hn2 _ _ _ _ (Ai h) ⟨rfl,rfl,rfl,Ae⟩ ⟨Ah,Ah,Ae⟩ Ae
 exact An<|hn2 _ _ _ _ (Ai h) ⟨rfl,rfl,rfl,Ae⟩ ⟨Ah,Ah,Ae⟩ Ae
 refine Bh<|Bg rfl ?_
 have h:=ag _ (Ai h)
 refine Z<|Z<|Ac<|O<|O<|Bz (f:=B7) (l:=c) rfl rfl<|O<|Aa<|Am h (fun b h=>?_) fun b h=>?_
 exact Z<|Ac<|O<|O<|Aa<|Ak<|congrArg (fun x:((List B2)×Int)=>(.tup [(A2 5 B7) x.1,(Af .i64) x.2]:AV))<|Ai h
 exact An<|Z<|Ac<|O<|O<|O<|Aa<|Ak<|Bz (f:=B7) (l:=c) rfl rfl<|Bz (f:=B7) (l:=c) rfl rfl<|congrArg (fun x:((List B2)×Int)=>(.tup [(A2 5 B7) x.1,(Af .i64) x.2]:AV))<|Ai h
end Go.Ab
namespace Go.Ab
open Go Go.Proofs
set_option maxRecDepth 10000
theorem Aqs {a0:Cp} {a1:(List B2)} {a2:(List B2)} {r:((List B2)×Int)} (h:W6 a0 a1 a2=some r):Bb Tryz.prog 18 [Fe a0,(A2 5 B7) a1,(A2 5 B7) a2] (.tup [(A2 5 B7) r.1,(Af .i64) r.2]):=by
 unfold W6 at h
 refine C2 (C:={T:=B4,an:=(fun _=>.ask),nl:=(fun s=>bif Nat.beq s 6 then [(0,5)] else [])}) B8 B5 Tryz.func18 rfl (by kernel_rfl) (by kernel_rfl) rfl ?_
 exact Z<|Ac<|O<|O<|O<|Aa<|Z<|Ac<|O<|O<|O<|O<|Aq h fun v2 b h=>As.mk _ (Aqr (a0:=a0) (a1:=a1) (a2:=a2) b) rfl<|O<|O<|O<|O<|Aa<|Ak<|congrArg (fun x:((List B2)×Int)=>(.tup [(A2 5 B7) x.1,(Af .i64) x.2]:AV))<|Ai h
theorem Aqt {a0:A1} {a1:A1} {r:A1} (h:Xc a0 a1=some r):Bb Tryz.prog 58 [Bx a0,Bx a1] (Bx r):=by
 unfold Xc at h
 refine Bv Tryz.func58 rfl (by kernel_rfl) (by kernel_rfl) rfl ?_
 refine Z<|Ac<|O<|O<|O<|Aa<|Z<|Z<|Ac<|O<|O<|O<|Aq h fun v4 c h=>As.mk _ (Agw (a0:=a0) (a1:=a1) c) rfl<|O<|Aa<|Am h (fun b h=>?_) fun b h=>?_
 exact Z<|Ac<|O<|O<|Aa<|Ak<|congrArg (fun x:A1=>(Bx x:AV))<|Ai h
 exact An<|Z<|Ac<|O<|O<|Aa<|Ak<|congrArg (fun x:A1=>(Bx x:AV))<|Ai h
theorem Aqu {a0:Cp} {a1:(List B2)} {a2:(List B2)} {r:((List B2)×Int)} (h:Aa1 a0 a1 a2=some r):Bb Tryz.prog 55 [Fe a0,(A2 5 B7) a1,(A2 5 B7) a2,(.fn 58 [])] (.tup [(A2 5 B7) r.1,(Af .i64) r.2]):=by
 unfold Aa1 at h
 refine C2 (C:={T:=B4,an:=(fun s=>bif Nat.beq s 10 then .own else .ask),nl:=(fun s=>bif Nat.beq s 10 then [(0,5)] else bif Nat.beq s 8 then [(0,5)] else [])}) B8 B5 Tryz.func55 rfl (by kernel_rfl) (by kernel_rfl) rfl ?_
 refine Z<|Ac<|O<|O<|O<|Aa<|Z<|Z<|Cd h fun af ao av=>Ce (fun (v4:Bool)=>v4=af) (fun v4=>[(25,(Av v4))]) (fun v4=>[]) (fun _=>rfl) ?_ ?_
 intro K1 hK1
 refine Ac<|O<|O<|O<|Aq ao fun v2 c2 h=>As.mk _ (Tf (a0:=a0) (a1:=a1) c2) rfl<|O<|O<|A6 (s:=20) h (fun b h=>?_) fun b h=>?_
 exact Ad<|Ad<|Ad<|Ad<|O<|Aa<|hK1 true _ _ _ (Ai h) ⟨rfl,Ae⟩ ⟨Ah,Ae⟩
 exact Ag<|Ag<|Ag<|Aq h fun v3 c3 h=>As.mk _ (Tf (a0:=a0) (a1:=a2) c3) rfl<|Ag<|O<|Aa<|hK1 (!v3) _ _ _ (Ai h) ⟨rfl,Ae⟩ ⟨Ah,Ae⟩
 rintro v4 u1 b0
 have h:=av _ b0
 refine Am h (fun b h=>?_) fun b h=>?_
 exact Z<|Ac<|O<|O<|Aa<|Ak<|congrArg (fun x:((List B2)×Int)=>(.tup [(A2 5 B7) x.1,(Af .i64) x.2]:AV))<|Ai h
 refine An<|Z<|Ac<|O<|Aa<|Z<|Ay<|Bn h (fun (q,g,c)=>[(1,(.sl 5<|List.map B7 q)),(2,(.sl 5<|List.map B7 g)),(10,(.arr 1 c.length 0 c.length))]) (fun (q,g,c)=>[(1,.rows 65 5 (List.map B7 c))]) (fun _=>True) (fun _=>rfl) ⟨rfl,rfl,rfl,Ae⟩ ⟨Ah,Ah,Ae⟩ Ae ?_
 rintro ⟨q,g,c⟩ u2 K2 be am ag hn2 _
 refine Z<|Z<|Cd am fun ae ak au=>Ce (fun (v80:Bool)=>v80=ae) (fun v80=>[(33,(Av v80))]) (fun v80=>[]) (fun _=>rfl) ?_ ?_
 intro K3 hK3
 refine Ac<|O<|O<|Ax (f:=B7) (l:=q) rfl<|O<|O<|A6 (s:=29) ak (fun b h=>?_) fun b h=>?_
 exact Ad<|Ad<|Ad<|O<|Aa<|hK3 true _ _ _ (Ai h) ⟨rfl,Ae⟩ ⟨Ah,Ah,Ae⟩
 exact Ag<|Ag<|Ax (f:=B7) (l:=g) rfl<|Ag<|O<|Aa<|hK3 (decide ((g.length:Int)>(0:Int))) _ _ _ (Ai h) ⟨rfl,Ae⟩ ⟨Ah,Ah,Ae⟩
 rintro v80 u3 az
 have h:=au _ az
 refine Am h (fun b h=>?_) fun b h=>?_
 refine An<|Ay<|Z<|Ac<|O<|Aa<|Z<|Cd h fun ad aj ar=>Ce (fun (u:Int)=>u=ad) (fun u=>[(11,(Af .i64 u))]) (fun u=>[]) (fun _=>rfl) ?_ ?_
 intro K4 hK4
 refine Ay<|Z<|Ac<|O<|O<|Ax (f:=B7) (l:=g) rfl<|O<|O<|Aa<|Am aj (fun b h=>?_) fun b h=>?_
 exact Ac<|O<|Aa<|hK4 (-1) _ _ _ (Ai h) ⟨rfl,Ae⟩ ⟨Ah,Ah,Ae⟩
 refine Z<|Ac<|O<|O<|Ax (f:=B7) (l:=q) rfl<|O<|O<|Aa<|Am h (fun b h=>?_) fun b h=>?_
 exact Ac<|O<|Aa<|hK4 1 _ _ _ (Ai h) ⟨rfl,Ae⟩ ⟨Ah,Ah,Ae⟩
 exact B0<|O<|O<|A7 (f:=B7) rfl h fun bi aa i81 bd h=>O<|O<|O<|O<|A7 (f:=B7) rfl h fun bh a8 i82 bc h=>O<|O<|O<|Aq h fun a7 b5 h=>As.mk _ (Abb (a0:=aa.Mono) (a1:=a8.Mono) b5) rfl<|O<|Aa<|Bj.mk (by kernel_rfl)<|hK4 a7 _ _ _ (Ai h) ⟨rfl,Ae⟩ ⟨Ah,Ah,Ae⟩
 rintro u u4 ay
 have h:=ar _ ay
 refine Z<|Ac<|O<|Aq h fun v85 b4 h=>As.mk _ (L1 (a0:=0) b4) rfl<|O<|Aq h fun M b3 h=>As.mk _ (L1 (a0:=0) b3) rfl<|O<|O<|O<|O<|Aa<|Z<|Ac<|O<|Aa<|Z<|Z<|Fd [.nil 14 0 3,.nil 14 1 3]<|Dx.mk<|Ac<|O<|O ?_
 refine Aa<|Cd h fun ac ai aq=>Ce (fun (x:((List B2)×Bool×(List Int)×(List Int)×(List D1)×(List Ek)))=>x=ac) (fun (v93,E,D,B,A,z)=>[(2,(.sl 5<|List.map B7 v93))]) (fun (v93,E,D,B,A,z)=>[(3,.cells 41 [(Av E),(.sl 1<|List.map (Af .u32) D),(.sl 1<|List.map (Af .u32) B)]),(4,.cells 63 [(.sl 3<|List.map C4 A),(.sl 3<|List.map Dk z)])]) (fun _=>rfl) ?_ ?_
 intro K5 hK5
 refine Am ai (fun b h=>?_) fun b h=>?_
 exact B0<|O<|O<|A7 (f:=B7) rfl h fun bg L i90 bb h=>O<|O<|O<|O<|A7 (f:=B7) rfl h fun bf v91 i91 ba h=>O<|O<|O<|O<|W1 (f:=B7) rfl h fun a6 h=>O<|O<|O<|Aa<|Bj.mk (by kernel_rfl)<|hK5 (a6,L.Coef.Neg,L.Coef.Num,L.Coef.Den,v91.Mono.Factors,v91.Mono.Atoms) _ _ _ (Ai h) ⟨rfl,Ae⟩ ⟨Ah,Ah,Ah,Ah,Ah,Ae⟩
 exact An<|hK5 (g,M.Neg,M.Num,M.Den,[],[]) _ _ _ (Ai h) ⟨rfl,Ae⟩ ⟨Ah,Ah,Ah,Ah,Ah,Ae⟩
 rintro ⟨v93,E,D,B,A,z⟩ u5 ax
 have h:=aq _ ax
 refine Z<|Z<|Ac<|O<|O<|Aa<|Cd h fun ab ah ap=>Ce (fun (x:((List B2)×Bool×(List Int)×(List Int)×(List D1)×(List Ek)))=>x=ab) (fun (y,k,j,v105,i,v107)=>[(1,(.sl 5<|List.map B7 y))]) (fun (y,k,j,v105,i,v107)=>[(2,.cells 41 [(Av k),(.sl 1<|List.map (Af .u32) j),(.sl 1<|List.map (Af .u32) v105)]),(4,.cells 63 [(.sl 3<|List.map C4 i),(.sl 3<|List.map Dk v107)])]) (fun _=>rfl) ?_ ?_
 intro K6 hK6
 refine Am ah (fun b h=>?_) fun b h=>?_
 exact B0<|O<|O<|A7 (f:=B7) rfl h fun n99 J i99 b9 h=>O<|O<|O<|O<|A7 (f:=B7) rfl h fun n100 I i100 b6 h=>O<|O<|O<|O<|W1 (f:=B7) rfl h fun S h=>O<|O<|O<|Aa<|Bj.mk (by kernel_rfl)<|hK6 (S,J.Coef.Neg,J.Coef.Num,J.Coef.Den,I.Mono.Factors,I.Mono.Atoms) _ _ _ (Ai h) ⟨rfl,Ae⟩ ⟨Ah,Ah,Ah,Ah,Ah,Ae⟩
 exact An<|hK6 (q,v85.Neg,v85.Num,v85.Den,A,z) _ _ _ (Ai h) ⟨rfl,Ae⟩ ⟨Ah,Ah,Ah,Ah,Ah,Ae⟩
 rintro ⟨y,k,j,v105,i,v107⟩ u6 aw
 have h:=ap _ aw
 refine Z<|Ac<|O<|O<|O<|O<|Aq h fun G Y h=>As.mk _ (Aqt (a0:=(A1.mk k j v105)) (a1:=(A1.mk E D B)) Y) rfl<|O<|O<|Aa<|Z<|Ac<|O<|O<|Aq h fun b7 X h=>As.mk _ (Abf (a0:=G) X) rfl<|O<|Aa<|Am h (fun b h=>?_) fun b h=>?_
 exact B0<|O<|O<|O<|Aq h fun R V h=>As.mk _ (Xv (a0:=G) V) rfl<|O<|O<|Aq h fun N U h=>As.mk _ (Agy (a0:=(C8.mk i v107)) U) rfl<|O<|O<|O<|D9 (f:=B7) (l:=c) (ys:=[(B2.mk R N)]) rfl rfl rfl rfl h fun b8 h=>O<|Aa<|Bj.mk (by kernel_rfl)<|hn2 _ _ _ _ (Ai h) ⟨rfl,rfl,rfl,Ae⟩ ⟨Ah,Ah,Ae⟩ Ae
 exact An<|hn2 _ _ _ _ (Ai h) ⟨rfl,rfl,rfl,Ae⟩ ⟨Ah,Ah,Ae⟩ Ae
 refine Bh<|Bg rfl ?_
 have h:=ag _ (Ai h)
 refine Z<|Z<|Ac<|O<|O<|Bz (f:=B7) (l:=c) rfl rfl<|O<|Aa<|Am h (fun b h=>?_) fun b h=>?_
 exact Z<|Ac<|O<|O<|Aa<|Ak<|congrArg (fun x:((List B2)×Int)=>(.tup [(A2 5 B7) x.1,(Af .i64) x.2]:AV))<|Ai h
 exact An<|Z<|Ac<|O<|O<|O<|Aa<|Ak<|Bz (f:=B7) (l:=c) rfl rfl<|Bz (f:=B7) (l:=c) rfl rfl<|congrArg (fun x:((List B2)×Int)=>(.tup [(A2 5 B7) x.1,(Af .i64) x.2]:AV))<|Ai h
theorem Aqv {a0:Cp} {a1:(List B2)} {a2:(List B2)} {r:((List B2)×Int)} (h:W7 a0 a1 a2=some r):Bb Tryz.prog 19 [Fe a0,(A2 5 B7) a1,(A2 5 B7) a2] (.tup [(A2 5 B7) r.1,(Af .i64) r.2]):=by
 unfold W7 at h
 refine C2 (C:={T:=B4,an:=(fun _=>.ask),nl:=(fun s=>bif Nat.beq s 6 then [(0,5)] else [])}) B8 B5 Tryz.func19 rfl (by kernel_rfl) (by kernel_rfl) rfl ?_
 exact Z<|Ac<|O<|O<|O<|Aa<|Z<|Ac<|O<|O<|O<|O<|Aq h fun v2 b h=>As.mk _ (Aqu (a0:=a0) (a1:=a1) (a2:=a2) b) rfl<|O<|O<|O<|O<|Aa<|Ak<|congrArg (fun x:((List B2)×Int)=>(.tup [(A2 5 B7) x.1,(Af .i64) x.2]:AV))<|Ai h
theorem Aqw {a0:Cp} {a1:(List B2)} {a2:Int} {a3:Int} {r:((List A1)×Bool)} (h:W9 a0 a1 a2 a3=some r):Bb Tryz.prog 32 [Fe a0,(A2 5 B7) a1,(Af .i64) a2,(Af .i64) a3] (.tup [(A2 3 Bx) r.1,Av r.2]):=by
 unfold W9 at h
 refine C2 (C:={T:=B4,an:=(fun s=>bif Nat.beq s 10 then .own else .ask),nl:=(fun s=>bif Nat.beq s 10 then [(0,3)] else bif Nat.beq s 8 then [(0,3)] else [])}) B8 B5 Tryz.func32 rfl (by kernel_rfl) (by kernel_rfl) rfl ?_
 refine Z<|Ac<|O<|O<|O<|Aa<|Z<|Z<|Ac<|O<|O<|O<|Aq h fun v2 c2 h=>As.mk _ (Abg (a0:=a0) (a1:=a1) c2) rfl<|O<|Aa<|Am h (fun b h=>?_) fun b h=>?_
 exact Z<|Ac<|O<|O<|Aa<|Ak<|congrArg (fun x:((List A1)×Bool)=>(.tup [(A2 3 Bx) x.1,Av x.2]:AV))<|Ai h
 refine An<|Z<|Ac<|O<|Aa<|Z<|Z<|Ac<|O<|O<|Ax (f:=B7) (l:=a1) rfl<|O<|Aa<|Ay<|Bn h (fun (u,g)=>[(8,(.sl 3<|List.map Bx [])),(9,(Av false)),(10,(.arr 1 g.length 0 g.length)),(23,(Af .i64 u))]) (fun (u,g)=>[(1,.rows 41 3 (List.map Bx g))]) (fun _=>True) (fun _=>rfl) ⟨rfl,rfl,rfl,rfl,Ae⟩ ⟨Ah,Ah,Ae⟩ Ae ?_
 rintro ⟨u,g⟩ u1 K1 a8 J i hn1 _
 refine Z<|Ac<|O<|Aa<|Z<|Am J (fun b h=>?_) fun b h=>?_
 refine An<|Z<|Ay<|Z<|Ac<|O<|A7 (f:=B7) rfl h fun ad v46 i46 V h=>O<|O<|O<|Aa<|Z<|Ac<|O<|Aa<|Z<|Z<|Ac<|O<|O<|O<|O<|Ax (f:=C4) (l:=v46.Mono.Factors) rfl<|Aa ?_
 refine Cd h fun D I k=>Ce (fun (v51:Int)=>(.inl v51)=D) (fun v51=>[(8,(.sl 3<|List.map Bx [])),(9,(Av false)),(13,(Af .i64 v51))]) (fun v51=>[]) (fun _=>rfl) ?_ ?_
 intro K2 hK2
 refine Ay<|Z<|Ac<|O<|O<|Aa<|Am I (fun b h=>?_) fun b h=>?_
 exact An<|hK2 0 _ _ _ (Ai h) ⟨rfl,rfl,rfl,Ae⟩ ⟨Ah,Ah,Ah,Ae⟩
 refine Z<|Ac<|O<|O<|Aa<|Am h (fun b h=>?_) fun b h=>?_
 refine Z<|B0<|O<|O<|O<|O<|O<|A7 (f:=C4) rfl h fun ac B i48 U h=>O<|O<|Aq h fun v49 R h=>As.mk _ (Aba (a0:=a0) (a1:=B) R) rfl<|O<|O<|O<|O<|O<|O<|O<|Aa<|Bj.mk (by kernel_rfl)<|Z<|Z<|Ac ?_
 refine O<|O<|O<|O<|A7 (f:=C4) rfl h fun ab Y i50 S h=>O<|O<|O<|O<|O<|A6 (s:=54) h (fun b h=>?_) fun b h=>?_
 refine Ad<|Ad<|Ad<|O<|Aa<|Dd<|Z<|Ac<|O<|O<|Aa<|Ak ?_
 have h:=k _ (Ai h)
 have h:=i _ (Ai h)
 exact congrArg (fun x:((List A1)×Bool)=>(.tup [(A2 3 Bx) x.1,Av x.2]:AV))<|Ai h
 refine Ag<|Ag<|Ag<|O<|Aa<|Am h (fun b h=>?_) fun b h=>?_
 refine Z<|Ac<|O<|O<|Aa<|Ak ?_
 have h:=k _ (Ai h)
 have h:=i _ (Ai h)
 exact congrArg (fun x:((List A1)×Bool)=>(.tup [(A2 3 Bx) x.1,Av x.2]:AV))<|Ai h
 exact An<|Ac<|O<|O<|Aa<|hK2 v49.2.1 _ _ _ (Ai h) ⟨rfl,rfl,rfl,Ae⟩ ⟨Ah,Ah,Ah,Ae⟩
 refine Z<|Ac<|O<|O<|Aa<|Ak ?_
 have h:=k _ (Ai h)
 have h:=i _ (Ai h)
 exact congrArg (fun x:((List A1)×Bool)=>(.tup [(A2 3 Bx) x.1,Av x.2]:AV))<|Ai h
 rintro v51 u2 L
 have h:=k _ L
 refine Z<|Ay<|Bn h (fun c=>[(10,(.arr 1 c.length 0 c.length))]) (fun c=>[(1,.rows 41 3 (List.map Bx c))]) (fun _=>True) (fun _=>rfl) ⟨rfl,Ae⟩ ⟨Ah,Ah,Ah,Ae⟩ Ae ?_
 rintro c u3 K3 a7 G E hn3 _
 refine Z<|Z<|Ac<|O<|O<|Bz (f:=Bx) (l:=c) rfl rfl<|O<|O<|Aa<|Am G (fun b h=>?_) fun b h=>?_
 exact An<|Ay<|Ac<|O<|O<|Aq h fun A N h=>As.mk _ (L1 (a0:=0) N) rfl<|O<|O<|D9 (f:=Bx) (l:=c) (ys:=[A]) rfl rfl rfl rfl h fun a6 h=>O<|Aa<|hn3 _ _ _ _ (Ai h) ⟨rfl,Ae⟩ ⟨Ah,Ah,Ah,Ae⟩ Ae
 refine Bh<|Bg rfl ?_
 have h:=E _ (Ai h)
 exact Ac<|O<|O<|O<|O<|O<|Aq h fun y M h=>As.mk _ (Xv (a0:=v46.Coef) M) rfl<|O<|Fo (f:=Bx) rfl rfl rfl h fun aa X i62 z h=>O<|Ei (f:=Bx) rfl rfl (Nat.zero_add _) z<|Fj (f:=Bx) (x:=y) (j:=v51) rfl rfl (Nat.zero_add _) i62<|Aa<|Ac<|O<|Aw.mk _ rfl<|O<|Aa<|hn1 _ _ _ _ (Ai h) ⟨rfl,rfl,congrArg (fun q=>AV.arr 1 q 0 q) (Fp (l:=c) rfl v51 y),rfl,Ae⟩ ⟨Ah,Ah,Ae⟩ Ae
 refine Bh<|Bg rfl ?_
 have h:=i _ (Ai h)
 exact Z<|Ac<|O<|O<|O<|Aa<|Ak<|Bz (f:=Bx) (l:=g) rfl rfl<|Bz (f:=Bx) (l:=g) rfl rfl<|congrArg (fun x:((List A1)×Bool)=>(.tup [(A2 3 Bx) x.1,Av x.2]:AV))<|Ai h
theorem Aqx  {r:Be} (h:Xd=some r):Bb Tryz.prog 78 [] (Bw r):=by
 unfold Xd at h
 refine C2 (C:={T:=B4,an:=(fun _=>.ask),nl:=(fun s=>bif Nat.beq s 1 then [(1,2)] else [])}) B8 B5 Tryz.func78 rfl (by kernel_rfl) (by kernel_rfl) rfl ?_
 exact Z<|Ac<|O<|Aa<|Z<|Ac<|O<|O<|O<|O<|Aa<|Ak<|congrArg (fun x:Be=>(Bw x:AV))<|Ai h
theorem Agz {a0:Int} {a1:Int} {r:C8} (h:Un a0 a1=some r):Bb Tryz.prog 31 [(Af .i64) a0,(Af .i64) a1] (Hd r):=by
 unfold Un at h
 refine C2 (C:={T:=B4,an:=(fun _=>.ask),nl:=(fun s=>bif Nat.beq s 21 then [(1,3)] else bif Nat.beq s 12 then [(0,2)] else [])}) B8 B5 Tryz.func31 rfl (by kernel_rfl) (by kernel_rfl) rfl ?_
 refine Z<|Ac<|O<|Aa<|Z<|Ac<|O<|O<|O<|Aa<|Z<|Fd [.own 5 1 86 2]<|Dx.mk<|Ay<|Bn h (fun (v10,c)=>[(1,(Af .i64 v10))]) (fun (v10,c)=>[(1,.cells 86 [(Af .i64 0),(.arr 2 c.length 0 c.length)]),(2,.rows 86 2 (Fs c))]) (fun _=>True) (fun _=>rfl) ⟨rfl,Ae⟩ ⟨Ah,Ah,Ah,Ae⟩ Ae ?_
 rintro ⟨v10,c⟩ y z q j i hn1 _
 refine Z<|Z<|Ac<|O<|O<|Aa<|Am j (fun b h=>?_) fun b h=>?_
 exact An<|Z<|Ay<|B0<|O<|O<|O<|Aq h fun v12 k h=>As.mk _ (Aqx  k) rfl<|O<|O<|H4 (g:=Fs) Cu (f:=Bw) (l:=c) (ys:=[v12]) (Cu _) rfl rfl rfl h fun u h=>O<|O<|Aa<|Bj.mk (by kernel_rfl)<|Ac<|O<|O<|Aw.mk _ rfl<|O<|Aa<|hn1 _ _ _ _ (Ai h) ⟨rfl,Ae⟩ ⟨Ah,Ah,Ah,Ae⟩ Ae
 refine Bh<|Bg rfl ?_
 have h:=i _ (Ai h)
 exact Z<|Fd [.fzc 5 1]<|Bz (f:=Bw) (l:=c) (Cu _) rfl<|Bz (f:=Bw) (l:=c) (Cu _) rfl<|Dx.mk<|Ac<|O<|O<|O<|O<|O<|O<|Aa<|Ak<|congrArg (fun x:C8=>(Hd x:AV))<|Ai h
theorem Aqy  {r:Cp} (h:W8=some r):Bb Tryz.prog 29 [] (Fe r):=by
 unfold W8 at h
 refine C2 (C:={T:=B4,an:=(fun _=>.ask),nl:=(fun s=>bif Nat.beq s 24 then [(2,3)] else bif Nat.beq s 12 then [(2,3)] else bif Nat.beq s 11 then [(2,3)] else bif Nat.beq s 10 then [(1,3)] else bif Nat.beq s 6 then [(2,3)] else [])}) B8 B5 Tryz.func29 rfl (by kernel_rfl) (by kernel_rfl) rfl ?_
 refine Z<|Ac<|O<|Aa<|Z<|Ac<|O<|O<|O<|Aa<|Z<|Ac<|O<|O<|O<|O<|O<|Aa<|Z<|Ac<|O<|O<|O<|Aa ?_
 refine Z<|Ac<|O<|O<|O<|O<|O<|O<|O<|O<|O<|O<|O<|Aa<|Z<|Ac<|O<|O<|O<|O<|O<|O<|O<|O ?_
 exact Aa<|Ak<|congrArg (fun x:Cp=>(Fe x:AV))<|Ai h
theorem Og {a0:(List Int)} {r:(List Int)} (h:H8 a0=some r):Bb Tryz.prog 166 [(A2 1 (Af .u32)) a0] ((A2 1 (Af .u32)) r):=by
 unfold H8 at h
 refine C2 (C:={T:=B4,an:=(fun _=>.ask),nl:=(fun s=>bif Nat.beq s 2 then [(0,1)] else [])}) B8 B5 Tryz.func166 rfl (by kernel_rfl) (by kernel_rfl) rfl ?_
 refine Z<|Ac<|O<|Aa<|Z<|Ac<|O<|O<|Ax (f:=(Af .u32)) (l:=a0) rfl<|O<|Aa<|Z<|Ay<|Bn h (fun v2=>[(3,(Af .i64 v2))]) (fun v2=>[]) (fun _=>True) (fun _=>rfl) ⟨rfl,Ae⟩ Ae Ae ?_
 rintro v2 q y j i g hn1 _
 refine Z<|Z<|Ac<|O<|O<|O<|A6 (s:=8) i (fun b h=>?_) fun b h=>?_
 refine Ag<|Ag<|Ag<|Aw.mk _ rfl<|Ag<|A7 (f:=(Af .u32)) rfl h fun u v3 i3 k h=>Ag<|Ag<|O<|Aa<|Am h (fun b h=>?_) fun b h=>?_
 exact An<|Ay<|Ac<|O<|O<|Aw.mk _ rfl<|O<|Aa<|hn1 _ _ _ _ (Ai h) ⟨rfl,Ae⟩ Ae Ae
 refine Bh<|Bg rfl ?_
 have h:=g _ (Ai h)
 exact Z<|Ac<|O<|O<|O<|Mk (f:=(Af .u32)) rfl h fun v5 h=>O<|W2 (f:=(Af .u32)) (ys:=v5) rfl h fun c h=>O<|Aa<|Ak<|Bz (f:=(Af .u32)) (l:=c) rfl rfl<|Bz (f:=(Af .u32)) (l:=c) rfl rfl<|congrArg (fun x:(List Int)=>((A2 1<|Af .u32) x:AV))<|Ai h
 refine Ad<|Ad<|Ad<|Ad<|Ad<|Ad<|O<|Aa<|Fg<|Bh<|Bg rfl ?_
 have h:=g _ (Ai h)
 exact Z<|Ac<|O<|O<|O<|Mk (f:=(Af .u32)) rfl h fun v5 h=>O<|W2 (f:=(Af .u32)) (ys:=v5) rfl h fun c h=>O<|Aa<|Ak<|Bz (f:=(Af .u32)) (l:=c) rfl rfl<|Bz (f:=(Af .u32)) (l:=c) rfl rfl<|congrArg (fun x:(List Int)=>((A2 1<|Af .u32) x:AV))<|Ai h
theorem Ag0 {a0:(List Int)} {r:(List Int)} (h:Px a0=some r):Bb Tryz.prog 136 [(A2 1 (Af .u32)) a0] ((A2 1 (Af .u32)) r):=by
 unfold Px at h
 refine C2 (C:={T:=B4,an:=(fun s=>bif Nat.beq s 3 then .own else .ask),nl:=(fun s=>bif Nat.beq s 3 then [(0,1)] else bif Nat.beq s 2 then [(0,1)] else [])}) B8 B5 Tryz.func136 rfl (by kernel_rfl) (by kernel_rfl) rfl ?_
 refine Z<|Ac<|O<|Aa<|Z<|Ac<|O<|Aa<|Z<|Ac<|O<|Aa<|Z<|Z<|Ac<|O<|Aa<|Ay<|Bn h (fun (v13,g,c)=>[(3,(.arr 0 c.length 0 c.length)),(4,(Af .u64 v13)),(5,(Af .i64 g))]) (fun (v13,g,c)=>[(0,.rows 129 1 (List.map (Af .u32) c))]) (fun _=>True) (fun _=>rfl) ⟨rfl,rfl,rfl,Ae⟩ ⟨Ah,Ae⟩ Ae ?_
 rintro ⟨v13,g,c⟩ E G A k j hn1 _
 refine Z<|Z<|Ac<|O<|O<|O<|Ax (f:=(Af .u32)) (l:=a0) rfl<|O<|Aa<|Am k (fun b h=>?_) fun b h=>?_
 refine An<|Z<|Ay<|Z<|Ac<|O<|O<|O<|O<|A7 (f:=(Af .u32)) rfl h fun D v16 i16 y h=>O<|O<|Aw.mk _ rfl<|O<|Aw.mk _ rfl<|O<|Aa<|Z<|Ac<|O<|O<|O<|Hj h fun v17 h=>O ?_
 exact Aw.mk _ rfl<|O<|O<|D9 (f:=(Af .u32)) (l:=c) (ys:=[(Bt v17)]) rfl rfl rfl rfl h fun B h=>O<|Aa<|Ac<|O<|O<|G4 h fun z h=>O<|Aa<|Ac<|O<|O<|Aw.mk _ rfl<|O<|Aa<|hn1 _ _ _ _ (Ai h) ⟨rfl,rfl,rfl,Ae⟩ ⟨Ah,Ae⟩ Ae
 refine Bh<|Bg rfl ?_
 have h:=j _ (Ai h)
 refine Z<|Z<|Ac<|O<|O<|Aa<|Am h (fun b h=>?_) fun b h=>?_
 exact Ac<|O<|O<|O<|Aw.mk _ rfl<|O<|O<|D9 (f:=(Af .u32)) (l:=c) (ys:=[(Bt v13)]) rfl rfl rfl rfl h fun i h=>O<|Aa<|Z<|Fd [.fz 3]<|Bz (f:=(Af .u32)) (l:=i) rfl rfl<|Bz (f:=(Af .u32)) (l:=i) rfl rfl<|Dx.mk<|Ac<|O<|O<|Aq h fun v23 u h=>As.mk _ (Og (a0:=i) u) rfl<|O<|Aa<|Ak<|congrArg (fun x:(List Int)=>((A2 1<|Af .u32) x:AV))<|Ai h
 exact An<|Z<|Fd [.fz 3]<|Bz (f:=(Af .u32)) (l:=c) rfl rfl<|Bz (f:=(Af .u32)) (l:=c) rfl rfl<|Dx.mk<|Ac<|O<|O<|Aq h fun v24 q h=>As.mk _ (Og (a0:=c) q) rfl<|O<|Aa<|Ak<|congrArg (fun x:(List Int)=>((A2 1<|Af .u32) x:AV))<|Ai h
theorem Aqz {a0:(List Int)} {a1:(List Int)} {r:Int} (h:Sq a0 a1=some r):Bb Tryz.prog 220 [(A2 1 (Af .u32)) a0,(A2 1 (Af .u32)) a1] ((Af .u64) r):=by
 unfold Sq at h
 refine Bv Tryz.func220 rfl (by kernel_rfl) (by kernel_rfl) rfl ?_
 refine Z<|Ac<|O<|Aa<|Z<|Ac<|O<|O<|Ax (f:=(Af .u32)) (l:=a1) rfl<|O<|Aa<|Z<|Z<|Ac<|O<|O<|Ax (f:=(Af .u32)) (l:=a0) rfl<|O<|O<|Aa<|Am h (fun b h=>?_) fun b h=>?_
 exact Z<|Ac<|O<|Aa<|Ak<|congrArg (fun x:Int=>((Af .u64) x:AV))<|Ai h
 refine An<|Z<|B0<|O<|O<|O<|Aw.mk _ rfl<|O<|A7 (f:=(Af .u32)) rfl h fun B s i1 k h=>O<|O<|Aw.mk _ rfl<|O<|Aw.mk _ rfl<|O<|O<|O<|Aw.mk _ rfl<|O<|A7 (f:=(Af .u32)) rfl h fun A v2 i2 j h=>O<|O<|Aw.mk _ rfl<|O ?_
 refine Aw.mk _ rfl<|O<|Aa<|Bj.mk (by kernel_rfl)<|Z<|B0<|O<|O<|O<|Aw.mk _ rfl<|O<|A7 (f:=(Af .u32)) rfl h fun z v3 i3 i h=>O<|O<|Aw.mk _ rfl<|O<|Aw.mk _ rfl<|O<|O<|O<|Aw.mk _ rfl<|O<|A7 (f:=(Af .u32)) rfl h fun y v4 i4 g h=>O ?_
 refine O<|Aw.mk _ rfl<|O<|Aw.mk _ rfl<|O<|Aa<|Bj.mk (by kernel_rfl)<|Z<|Z<|Ac<|O<|O<|Ax (f:=(Af .u32)) (l:=a0) rfl<|O<|O<|Aa<|Am h (fun b h=>?_) fun b h=>?_
 exact Z<|Ac<|O<|O<|O<|G4 h fun v5 h=>O<|Aa<|Ak<|congrArg (fun x:Int=>((Af .u64) x:AV))<|Ai h
 refine An<|Z<|Ac<|O<|O<|O<|A7 (f:=(Af .u32)) rfl h fun u q i6 c h=>O<|O<|O<|Aaq h fun v7 h=>O<|O<|O<|Aaq h fun v8 h=>O<|Aa<|Z<|Ac<|O<|O<|O<|O<|Aaq h fun v9 h=>?_
 exact O<|Anx h fun v10 h=>O<|Aa<|Z<|Ac<|O<|O<|Aw.mk _ rfl<|O<|O<|Aa<|Ak<|congrArg (fun x:Int=>((Af .u64) x:AV))<|Ai h
theorem Oh {a0:Int} {r:(List Int)} (h:Jn a0=some r):Bb Tryz.prog 77 [(Af .u64) a0] ((A2 1 (Af .u32)) r):=by
 unfold Jn at h
 refine C2 (C:={T:=B4,an:=(fun s=>bif Nat.beq s 3 then .own else .ask),nl:=(fun s=>bif Nat.beq s 3 then [(0,1)] else bif Nat.beq s 2 then [(0,1)] else [])}) B8 B5 Tryz.func77 rfl (by kernel_rfl) (by kernel_rfl) rfl ?_
 refine Z<|Ac<|O<|Aa<|Z<|Ac<|O<|Aa<|Z<|Ay<|Bn h (fun (v10,c)=>[(0,(Af .u64 v10)),(3,(.arr 0 c.length 0 c.length))]) (fun (v10,c)=>[(0,.rows 129 1 (List.map (Af .u32) c))]) (fun _=>True) (fun _=>rfl) ⟨rfl,rfl,Ae⟩ ⟨Ah,Ae⟩ Ae ?_
 rintro ⟨v10,c⟩ u y k i g hn1 _
 refine Z<|Z<|Ac<|O<|O<|Aa<|Am i (fun b h=>?_) fun b h=>?_
 exact An<|Ay<|Z<|Ac<|O<|O<|O<|Hj h fun v12 h=>O<|Aw.mk _ rfl<|O<|O<|D9 (f:=(Af .u32)) (l:=c) (ys:=[(Bt v12)]) rfl rfl rfl rfl h fun q h=>O<|Aa<|Ac<|O<|O<|G4 h fun j h=>O<|Aa<|hn1 _ _ _ _ (Ai h) ⟨rfl,rfl,Ae⟩ ⟨Ah,Ae⟩ Ae
 refine Bh<|Bg rfl ?_
 have h:=g _ (Ai h)
 exact Z<|Ac<|O<|O<|Aa<|Ak<|Bz (f:=(Af .u32)) (l:=c) rfl rfl<|Bz (f:=(Af .u32)) (l:=c) rfl rfl<|congrArg (fun x:(List Int)=>((A2 1<|Af .u32) x:AV))<|Ai h
theorem Vd {a0:(List Int)} {a1:(List Int)} {r:Int} (h:Mn a0 a1=some r):Bb Tryz.prog 105 [(A2 1 (Af .u32)) a0,(A2 1 (Af .u32)) a1] ((Af .i64) r):=by
 unfold Mn at h
 refine Bv Tryz.func105 rfl (by kernel_rfl) (by kernel_rfl) rfl ?_
 refine Z<|Ac<|O<|Aa<|Z<|Z<|Ac<|O<|O<|Ax (f:=(Af .u32)) (l:=a0) rfl<|O<|O<|Ax (f:=(Af .u32)) (l:=a1) rfl<|O<|Aa<|Am h (fun b h=>?_) fun b h=>?_
 refine Z<|Z<|Ac<|O<|O<|Ax (f:=(Af .u32)) (l:=a0) rfl<|O<|O<|Ax (f:=(Af .u32)) (l:=a1) rfl<|O<|Aa<|Am h (fun b h=>?_) fun b h=>?_
 exact Z<|Ac<|O<|Aa<|Ak<|Bu h
 exact An<|Z<|Ac<|O<|Aa<|Ak<|Bu h
 refine An<|Z<|Z<|Ac<|O<|O<|Ax (f:=(Af .u32)) (l:=a0) rfl<|O<|Aw.mk _ rfl<|O<|Aa<|Ay<|Bn h (fun v5=>[(4,(Af .i64 0)),(5,(Af .i64 v5))]) (fun v5=>[]) (fun _=>True) (fun _=>rfl) ⟨rfl,rfl,Ae⟩ Ae Ae ?_
 rintro v5 x D i g c hn1 _
 refine Z<|Z<|Ac<|O<|O<|Aa<|Am g (fun b h=>?_) fun b h=>?_
 refine An<|Z<|Ay<|Z<|Z<|B0<|O<|O<|O<|A7 (f:=(Af .u32)) rfl h fun B u i6 s h=>O<|O<|O<|O<|A7 (f:=(Af .u32)) rfl h fun A v7 i7 q h=>O<|O<|Aa<|Bj.mk (by kernel_rfl)<|Am h (fun b h=>?_) fun b h=>?_
 refine Z<|Ac<|O<|Aa<|Ak ?_
 have h:=c _ (Ai h)
 exact Bu h
 refine An<|Z<|B0<|O<|O<|O<|A7 (f:=(Af .u32)) rfl h fun z v8 i8 k h=>O<|O<|O<|O<|A7 (f:=(Af .u32)) rfl h fun y v9 i9 j h=>O<|O<|Aa<|Bj.mk (by kernel_rfl)<|Am h (fun b h=>?_) fun b h=>?_
 refine Z<|Ac<|O<|Aa<|Ak ?_
 have h:=c _ (Ai h)
 exact Bu h
 exact An<|Ac<|O<|O<|Aw.mk _ rfl<|O<|Aa<|hn1 _ _ _ _ (Ai h) ⟨rfl,rfl,Ae⟩ Ae Ae
 refine Bh<|Bg rfl ?_
 have h:=c _ (Ai h)
 exact Z<|Ac<|O<|Aa<|Ak<|Bu h
theorem L2 {a0:(List Int)} {a1:(List Int)} {r:(List Int)} (h:H6 a0 a1=some r):Bb Tryz.prog 103 [(A2 1 (Af .u32)) a0,(A2 1 (Af .u32)) a1] ((A2 1 (Af .u32)) r):=by
 unfold H6 at h
 refine C2 (C:={T:=B4,an:=(fun _=>.ask),nl:=(fun s=>bif Nat.beq s 4 then [(0,1)] else [])}) B8 B5 Tryz.func103 rfl (by kernel_rfl) (by kernel_rfl) rfl ?_
 refine Z<|Ac<|O<|Aa<|Z<|Ac<|O<|O<|Ax (f:=(Af .u32)) (l:=a0) rfl<|O<|O<|Ax (f:=(Af .u32)) (l:=a1) rfl<|O<|Aw.mk _ rfl<|O<|Aw.mk _ rfl<|O<|Gx (f:=(Af .u32)) (z:=(0:Int)) rfl h fun o1 h=>O<|Aa<|Z<|Z<|Ac<|O ?_
 refine Aa<|Ay<|Bn h (fun (v25,g)=>[(6,(Af .i64 v25))]) (fun (v25,g)=>[(0,.rows 129 1 (List.map (Af .u32) g))]) (fun (v25,g)=>o1.length=g.length) (fun _=>rfl) ⟨rfl,Ae⟩ ⟨Ah,Ae⟩ rfl ?_
 rintro ⟨v25,g⟩ u1 K1 ae S L hn1 u
 refine Z<|Z<|Ac<|O<|O<|O<|Ax (f:=(Af .u32)) (l:=a0) rfl<|O<|Aa<|Am S (fun b h=>?_) fun b h=>?_
 refine An<|Z<|Ay<|Z<|Ac<|O<|Aa<|Z<|Ac<|O<|Aa<|Ay<|Bn h (fun (v35,i,k)=>[(7,(Af .u64 v35)),(8,(Af .i64 i))]) (fun (v35,i,k)=>[(0,.rows 129 1 (List.map (Af .u32) k))]) (fun (v35,i,k)=>o1.length=k.length) (fun _=>rfl) ⟨rfl,rfl,Ae⟩ ⟨Ah,Ae⟩ u ?_
 rintro ⟨v35,i,k⟩ u2 K2 ad R J hn2 c
 refine Z<|Z<|Cd R fun I N V=>Ce (fun (v38:Bool)=>v38=I) (fun v38=>[(29,(Av v38))]) (fun v38=>[]) (fun _=>rfl) ?_ ?_
 intro K3 hK3
 refine Ac<|O<|O<|O<|Ax (f:=(Af .u32)) (l:=a1) rfl<|O<|O<|A6 (s:=26) N (fun b h=>?_) fun b h=>?_
 exact Ad<|Ad<|O<|Aa<|hK3 true _ _ _ (Ai h) ⟨rfl,Ae⟩ ⟨Ah,Ae⟩
 exact Ag<|Ag<|O<|Aa<|hK3 (decide<|v35>(0:Int)) _ _ _ (Ai h) ⟨rfl,Ae⟩ ⟨Ah,Ae⟩
 rintro v38 u3 Y
 have h:=V _ Y
 refine Am h (fun b h=>?_) fun b h=>?_
 refine An<|Z<|Ay<|Z<|Ac<|O<|O<|O<|O<|O<|Aw.mk _ rfl<|O<|Fo (f:=(Af .u32)) rfl c c h fun ai A i39 D h=>O<|Ei (f:=(Af .u32)) rfl c (Nat.zero_add _) D<|O<|Aw.mk _ rfl<|O<|Aw.mk _ rfl<|O<|Aa<|Z<|Z<|Ac ?_
 refine O<|O<|O<|Ax (f:=(Af .u32)) (l:=a1) rfl<|O<|Aa<|Cd h fun G M U=>Ce (fun (q:Int)=>q=G) (fun q=>[(7,(Af .u64 q))]) (fun q=>[]) (fun _=>rfl) ?_ ?_
 intro K4 hK4
 refine Am M (fun b h=>?_) fun b h=>?_
 exact B0<|O<|O<|O<|O<|A7 (f:=(Af .u32)) rfl h fun ah v40 i40 a8 h=>O<|O<|Aw.mk _ rfl<|O<|O<|O<|A7 (f:=(Af .u32)) rfl h fun ag E i41 a7 h=>O<|O<|Aw.mk _ rfl<|O<|Aw.mk _ rfl<|O<|Aw.mk _ rfl<|O<|Aa<|Bj.mk (by kernel_rfl)<|hK4 (Bd ((Bd<|v35+(Bd A))+(Bd ((Bd v40)*(Bd E))))) _ _ _ (Ai h) ⟨rfl,Ae⟩ ⟨Ah,Ae⟩
 exact An<|hK4 (Bd<|v35+(Bd A)) _ _ _ (Ai h) ⟨rfl,Ae⟩ ⟨Ah,Ae⟩
 rintro q u4 X
 have h:=U _ X
 refine Z<|Ac<|O<|O<|O<|O<|Aw.mk _ rfl<|O<|O<|Hj h fun y h=>O<|Aw.mk _ rfl<|O<|Fo (f:=(Af .u32)) rfl c c h fun af ac i44 B h=>O<|Ei (f:=(Af .u32)) rfl c (Nat.zero_add _) B<|Fj (f:=(Af .u32)) (x:=(Bt y)) (j:=(Al<|v25+i)) rfl rfl (Nat.zero_add _) i44<|Aa<|Ac<|O<|O<|G4 h fun ab h=>O<|Aa ?_
 exact Ac<|O<|O<|Aw.mk _ rfl<|O<|Aa<|hn2 _ _ _ _ (Ai h) ⟨rfl,rfl,Ae⟩ ⟨Ah,Ae⟩<|Fp (l:=k) c (Al<|v25+i)<|Bt y
 refine Bh<|Bg rfl ?_
 have h:=J _ (Ai h)
 exact Ac<|O<|O<|Aw.mk _ rfl<|O<|Aa<|hn1 _ _ _ _ (Ai h) ⟨rfl,Ae⟩ ⟨Ah,Ae⟩ c
 refine Bh<|Bg rfl ?_
 have h:=L _ (Ai h)
 exact Z<|Fd [.fz 5]<|Bz (f:=(Af .u32)) (l:=g) rfl u<|Bz (f:=(Af .u32)) (l:=g) rfl u<|Dx.mk<|Ac<|O<|O<|Aq h fun aa a6 h=>As.mk _ (Og (a0:=g) a6) rfl<|O<|Aa<|Ak<|congrArg (fun x:(List Int)=>((A2 1<|Af .u32) x:AV))<|Ai h
end Go.Ab
namespace Go.Ab
open Go Go.Proofs
set_option maxRecDepth 10000
theorem Aq0 {a0:(List Int)} {a1:Int} {r:((List Int)×Int)} (h:Sp a0 a1=some r):Bb Tryz.prog 219 [(A2 1 (Af .u32)) a0,(Af .u64) a1] (.tup [(A2 1 (Af .u32)) r.1,(Af .u64) r.2]):=by
 unfold Sp at h
 refine C2 (C:={T:=B4,an:=(fun _=>.ask),nl:=(fun s=>bif Nat.beq s 4 then [(0,1)] else [])}) B8 B5 Tryz.func219 rfl (by kernel_rfl) (by kernel_rfl) rfl ?_
 refine Z<|Ac<|O<|O<|Aa<|Z<|Ac<|O<|O<|Ax (f:=(Af .u32)) (l:=a0) rfl<|O<|Gx (f:=(Af .u32)) (z:=(0:Int)) rfl h fun D h=>O<|Aa<|Z<|Ac<|O<|Aa<|Z<|Z<|Ac<|O<|O<|Ax (f:=(Af .u32)) (l:=a0) rfl ?_
 refine O<|Aw.mk _ rfl<|O<|Aa<|Ay<|Bn h (fun (v7,v8,c)=>[(7,(Af .u64 v7)),(8,(Af .i64 v8))]) (fun (v7,v8,c)=>[(0,.rows 129 1 (List.map (Af .u32) c))]) (fun (v7,v8,c)=>D.length=c.length) (fun _=>rfl) ⟨rfl,rfl,Ae⟩ ⟨Ah,Ae⟩ rfl ?_
 rintro ⟨v7,v8,c⟩ I J B u q hn1 g
 refine Z<|Z<|Ac<|O<|O<|Aa<|Am u (fun b h=>?_) fun b h=>?_
 refine An<|Z<|Ay<|Z<|Ac<|O<|O<|Aw.mk _ rfl<|O<|O<|O<|A7 (f:=(Af .u32)) rfl h fun G v10 i10 A h=>O<|O<|Aw.mk _ rfl<|O<|Aw.mk _ rfl<|O<|Aa<|Z<|Ac<|O<|O<|O ?_
 exact O<|O<|G4 h fun i h=>O<|Aw.mk _ rfl<|O<|Fo (f:=(Af .u32)) rfl g g h fun E v12 i12 k h=>O<|Ei (f:=(Af .u32)) rfl g (Nat.zero_add _) k<|Fj (f:=(Af .u32)) (x:=(Bt i)) (j:=v8) rfl rfl (Nat.zero_add _) i12<|Aa<|Ac<|O<|O<|O<|Hj h fun v13 h=>O<|Aa<|Ac<|O<|O<|Aw.mk _ rfl<|O<|Aa<|hn1 _ _ _ _ (Ai h) ⟨rfl,rfl,Ae⟩ ⟨Ah,Ae⟩<|Fp (l:=c) g v8<|Bt i
 refine Bh<|Bg rfl ?_
 have h:=q _ (Ai h)
 exact Z<|Fd [.fz 6]<|Bz (f:=(Af .u32)) (l:=c) rfl g<|Bz (f:=(Af .u32)) (l:=c) rfl g<|Dx.mk<|Ac<|O<|O<|Aq h fun v16 y h=>As.mk _ (Og (a0:=c) y) rfl<|O<|O<|O<|Aa<|Ak<|congrArg (fun x:((List Int)×Int)=>(.tup [(A2 1<|Af .u32) x.1,(Af .u64) x.2]:AV))<|Ai h
theorem Tg {a0:(List Int)} {a1:(List Int)} {r:(List Int)} (h:Mo a0 a1=some r):Bb Tryz.prog 106 [(A2 1 (Af .u32)) a0,(A2 1 (Af .u32)) a1] ((A2 1 (Af .u32)) r):=by
 unfold Mo at h
 refine C2 (C:={T:=B4,an:=(fun _=>.ask),nl:=(fun s=>bif Nat.beq s 4 then [(0,1)] else [])}) B8 B5 Tryz.func106 rfl (by kernel_rfl) (by kernel_rfl) rfl ?_
 refine Z<|Ac<|O<|Aa<|Z<|Ac<|O<|O<|Ax (f:=(Af .u32)) (l:=a0) rfl<|O<|Gx (f:=(Af .u32)) (z:=(0:Int)) rfl h fun U h=>O<|Aa<|Z<|Ac<|O<|Aa<|Z<|Z<|Ac<|O<|Aa<|Ay<|Bn h (fun (v10,k,g)=>[(6,(Af .u32 v10)),(7,(Af .i64 k))]) (fun (v10,k,g)=>[(0,.rows 129 1 (List.map (Af .u32) g))]) (fun (v10,k,g)=>U.length=g.length) (fun _=>rfl) ⟨rfl,rfl,Ae⟩ ⟨Ah,Ae⟩ rfl ?_
 rintro ⟨v10,k,g⟩ u1 K1 S D A hn1 c
 refine Z<|Z<|Ac<|O<|O<|O<|Ax (f:=(Af .u32)) (l:=a0) rfl<|O<|Aa<|Am D (fun b h=>?_) fun b h=>?_
 refine An<|Z<|Ay<|Z<|Ac<|O<|O<|Aa<|Z<|Z<|Ac<|O<|O<|O<|Ax (f:=(Af .u32)) (l:=a1) rfl<|O<|Aa<|Cd h fun y B E=>Ce (fun (i:Int)=>i=y) (fun i=>[(8,(Af .u32 i))]) (fun i=>[]) (fun _=>rfl) ?_ ?_
 intro K2 hK2
 refine Am B (fun b h=>?_) fun b h=>?_
 exact Ac<|O<|O<|O<|O<|A7 (f:=(Af .u32)) rfl h fun a8 v13 i13 N h=>O<|O<|Aw.mk _ rfl<|O<|Aa<|hK2 (Bt<|v10+v13) _ _ _ (Ai h) ⟨rfl,Ae⟩ ⟨Ah,Ae⟩
 exact An<|hK2 v10 _ _ _ (Ai h) ⟨rfl,Ae⟩ ⟨Ah,Ae⟩
 rintro i u2 G
 have h:=E _ G
 refine Z<|Ac<|O<|O<|O<|A7 (f:=(Af .u32)) rfl h fun a7 v15 i15 M h=>O<|O<|O<|Aa<|Am h (fun b h=>?_) fun b h=>?_
 exact Ac<|O<|O<|O<|O<|O<|A7 (f:=(Af .u32)) rfl h fun a6 v16 i16 L h=>O<|O<|O<|Aw.mk _ rfl<|O<|Fo (f:=(Af .u32)) rfl c c h fun Y v17 i17 u h=>O<|Ei (f:=(Af .u32)) rfl c (Nat.zero_add _) u<|Fj (f:=(Af .u32)) (x:=(Bt<|v16-i)) (j:=k) rfl rfl (Nat.zero_add _) i17<|O<|Aa<|Ac<|O<|O<|Aw.mk _ rfl<|O<|Aa<|hn1 _ _ _ _ (Ai h) ⟨rfl,rfl,Ae⟩ ⟨Ah,Ae⟩<|Fp (l:=g) c k<|Bt<|v16-i
 refine Ac<|O<|O<|O<|O<|O<|A7 (f:=(Af .u32)) rfl h fun X v18 i18 J h=>O<|O<|Aw.mk _ rfl<|O<|O<|Aw.mk _ rfl<|O<|Fo (f:=(Af .u32)) rfl c c h fun V R i19 q h=>O<|Ei (f:=(Af .u32)) rfl c (Nat.zero_add _) q<|Fj (f:=(Af .u32)) (x:=(Bt ((Bt<|v18+1000000000)-i))) (j:=k) rfl rfl (Nat.zero_add _) i19<|O<|Aa<|Ac<|O<|O<|Aw.mk _ rfl ?_
 exact O<|Aa<|hn1 _ _ _ _ (Ai h) ⟨rfl,rfl,Ae⟩ ⟨Ah,Ae⟩<|Fp (l:=g) c k<|Bt ((Bt<|v18+1000000000)-i)
 refine Bh<|Bg rfl ?_
 have h:=A _ (Ai h)
 exact Z<|Fd [.fz 5]<|Bz (f:=(Af .u32)) (l:=g) rfl c<|Bz (f:=(Af .u32)) (l:=g) rfl c<|Dx.mk<|Ac<|O<|O<|Aq h fun v21 I h=>As.mk _ (Og (a0:=g) I) rfl<|O<|Aa<|Ak<|congrArg (fun x:(List Int)=>((A2 1<|Af .u32) x:AV))<|Ai h
theorem Abh {a0:(List Int)} {a1:(List Int)} {r:((List Int)×(List Int))} (h:Nu a0 a1=some r):Bb Tryz.prog 138 [(A2 1 (Af .u32)) a0,(A2 1 (Af .u32)) a1] (.tup [(A2 1 (Af .u32)) r.1,(A2 1 (Af .u32)) r.2]):=by
 unfold Nu at h
 refine C2 (C:={T:=B4,an:=(fun s=>bif Nat.beq s 50 then .frz 0 else bif Nat.beq s 47 then .own else .ask),nl:=(fun s=>bif Nat.beq s 9 then [(0,1)] else bif Nat.beq s 5 then [(0,1)] else bif Nat.beq s 4 then [(0,1)] else [])}) B8 B5 Tryz.func138 rfl (by kernel_rfl) (by kernel_rfl) rfl ?_
 refine Z<|Ac<|O<|O<|Aa<|Z<|Z<|Ac<|O<|O<|O<|Aq h fun v1 c1 h=>As.mk _ (Vd (a0:=a0) (a1:=a1) c1) rfl<|O<|Aa<|Am h (fun b h=>?_) fun b h=>?_
 exact Z<|Ac<|O<|O<|Aq h fun v2 c2 h=>As.mk _ (Og (a0:=a0) c2) rfl<|O<|O<|Aa<|Ak<|congrArg (fun x:((List Int)×(List Int))=>(.tup [(A2 1<|Af .u32) x.1,(A2 1<|Af .u32) x.2]:AV))<|Ai h
 refine An<|Z<|Z<|Ac<|O<|O<|Ax (f:=(Af .u32)) (l:=a1) rfl<|O<|Aa<|Am h (fun b h=>?_) fun b h=>?_
 refine Z<|Ac<|O<|O<|O<|A7 (f:=(Af .u32)) rfl h fun n3 v3 i3 x3 h=>O<|O<|Aw.mk _ rfl<|O<|Aq h fun v4 c4 h=>As.mk _ (Aq0 (a0:=a0) (a1:=(Bd v3)) c4) rfl<|O<|O<|O<|O<|O<|Aa<|Z<|Ac<|O<|O<|O<|Aq h fun v5 c5 h=>?_
 exact As.mk _ (Oh (a0:=v4.2) c5) rfl<|O<|O<|Aa<|Ak<|congrArg (fun x:((List Int)×(List Int))=>(.tup [(A2 1<|Af .u32) x.1,(A2 1<|Af .u32) x.2]:AV))<|Ai h
 refine An<|Z<|Ac<|O<|O<|Ax (f:=(Af .u32)) (l:=a0) rfl<|O<|Gx (f:=(Af .u32)) (z:=(0:Int)) rfl h fun o6 h=>O<|Aa<|Z<|Ac<|O<|Aa<|Z<|Z<|Ac<|O<|O<|Ax (f:=(Af .u32)) (l:=a0) rfl<|O<|Aw.mk _ rfl<|O<|Aa ?_
 refine Ay<|Bn h (fun (y,q,k)=>[(9,(.sl 1<|List.map (Af .u32) y)),(10,(Af .i64 q))]) (fun (y,q,k)=>[(0,.rows 129 1 (List.map (Af .u32) k))]) (fun (y,q,k)=>o6.length=k.length) (fun _=>rfl) ⟨rfl,rfl,Ae⟩ ⟨Ah,Ae⟩ rfl ?_
 rintro ⟨y,q,k⟩ u1 K1 au ad a8 hn1 i
 refine Z<|Z<|Ac<|O<|O<|Aa<|Am ad (fun b h=>?_) fun b h=>?_
 refine An<|Z<|Ay<|Z<|Ac<|O<|O<|O<|A7 (f:=(Af .u32)) rfl h fun av X i36 ak h=>O<|O<|O<|O<|D9 (f:=(Af .u32)) (l:=[X]) (ys:=y) rfl rfl rfl rfl h fun E h=>O<|Bz (f:=(Af .u32)) (l:=E) rfl rfl<|Bz (f:=(Af .u32)) (l:=E) rfl rfl<|Aq h fun A aj h=>Aem.mk _ (Og (a0:=E) aj) rfl<|O<|Aa<|Z<|Ac<|O<|O ?_
 refine O<|Aq h fun v40 ai h=>As.mk _ (Aqz (a0:=A) (a1:=a1) ai) rfl<|O<|Aa<|Z<|Ay<|Bn h (fun u=>[(11,(Af .u64 u))]) (fun u=>[]) (fun _=>True) (fun _=>rfl) ⟨rfl,Ae⟩ ⟨Ah,Ah,Ae⟩ Ae ?_
 rintro u u2 K2 ar ac N hn2 _
 refine Z<|Z<|Ac<|O<|O<|O<|A6 (s:=56) ac (fun b h=>?_) fun b h=>?_
 refine Ag<|Ag<|Ag<|Aq h fun V ah h=>As.mk _ (Oh (a0:=u) ah) rfl<|Ag<|Aq h fun v46 ag h=>As.mk _ (L2 (a0:=a1) (a1:=V) ag) rfl<|Ag<|Ag<|Aq h fun ao af h=>As.mk _ (Vd (a0:=v46) (a1:=A) af) rfl<|Ag<|O<|Aa<|Am h (fun b h=>?_) fun b h=>?_
 exact An<|Ay<|Ac<|O<|O<|Aw.mk _ rfl<|O<|Aa<|hn2 _ _ _ _ (Ai h) ⟨rfl,Ae⟩ ⟨Ah,Ah,Ae⟩ Ae
 refine Bh<|Bg rfl ?_
 have h:=N _ (Ai h)
 refine Z<|Ac<|O<|O<|O<|O<|Aq h fun v49 M h=>As.mk _ (Oh (a0:=u) M) rfl<|O<|Aq h fun D L h=>As.mk _ (L2 (a0:=a1) (a1:=v49) L) rfl<|O<|Aq h fun v51 J h=>As.mk _ (Tg (a0:=A) (a1:=D) J) rfl<|O<|Aa<|Z<|Ay<|Bn h (fun (g,c)=>[(9,(.sl 1<|List.map (Af .u32) g)),(11,(Af .u64 c))]) (fun (g,c)=>[]) (fun _=>True) (fun _=>rfl) ⟨rfl,rfl,Ae⟩ ⟨Ah,Ah,Ae⟩ Ae ?_
 rintro ⟨g,c⟩ u3 K3 aq ab a7 hn3 _
 refine Z<|Z<|Ac<|O<|O<|O<|Aq ab fun U I h=>As.mk _ (Vd (a0:=g) (a1:=a1) I) rfl<|O<|Aa<|Am h (fun b h=>?_) fun b h=>?_
 exact An<|Ay<|Z<|Ac<|O<|O<|O<|Aq h fun S G h=>As.mk _ (Tg (a0:=g) (a1:=a1) G) rfl<|O<|Aa<|Ac<|O<|O<|Aw.mk _ rfl<|O<|Aa<|hn3 _ _ _ _ (Ai h) ⟨rfl,rfl,Ae⟩ ⟨Ah,Ah,Ae⟩ Ae
 refine Bh<|Bg rfl ?_
 have h:=a7 _ (Ai h)
 exact Ac<|O<|O<|O<|O<|Aw.mk _ rfl<|O<|Fo (f:=(Af .u32)) rfl i i h fun Y R i60 B h=>O<|Ei (f:=(Af .u32)) rfl i (Nat.zero_add _) B<|Fj (f:=(Af .u32)) (x:=(Bt c)) (j:=q) rfl rfl (Nat.zero_add _) i60<|Aa<|Ac<|O<|O<|Aw.mk _ rfl<|O<|Aa<|hn1 _ _ _ _ (Ai h) ⟨rfl,rfl,Ae⟩ ⟨Ah,Ae⟩<|Fp (l:=k) i q<|Bt c
 refine Ad<|Ad<|Ad<|Ad<|Ad<|Ad<|Ad<|O<|Aa<|Fg<|Bh<|Bg rfl ?_
 have h:=N _ (Ai h)
 refine Z<|Ac<|O<|O<|O<|O<|Aq h fun v49 M h=>As.mk _ (Oh (a0:=u) M) rfl<|O<|Aq h fun D L h=>As.mk _ (L2 (a0:=a1) (a1:=v49) L) rfl<|O<|Aq h fun v51 J h=>As.mk _ (Tg (a0:=A) (a1:=D) J) rfl<|O<|Aa<|Z<|Ay<|Bn h (fun (g,c)=>[(9,(.sl 1<|List.map (Af .u32) g)),(11,(Af .u64 c))]) (fun (g,c)=>[]) (fun _=>True) (fun _=>rfl) ⟨rfl,rfl,Ae⟩ ⟨Ah,Ah,Ae⟩ Ae ?_
 rintro ⟨g,c⟩ u4 K4 ap aa a6 hn4 _
 refine Z<|Z<|Ac<|O<|O<|O<|Aq aa fun U I h=>As.mk _ (Vd (a0:=g) (a1:=a1) I) rfl<|O<|Aa<|Am h (fun b h=>?_) fun b h=>?_
 exact An<|Ay<|Z<|Ac<|O<|O<|O<|Aq h fun S G h=>As.mk _ (Tg (a0:=g) (a1:=a1) G) rfl<|O<|Aa<|Ac<|O<|O<|Aw.mk _ rfl<|O<|Aa<|hn4 _ _ _ _ (Ai h) ⟨rfl,rfl,Ae⟩ ⟨Ah,Ah,Ae⟩ Ae
 refine Bh<|Bg rfl ?_
 have h:=a6 _ (Ai h)
 exact Ac<|O<|O<|O<|O<|Aw.mk _ rfl<|O<|Fo (f:=(Af .u32)) rfl i i h fun Y R i60 B h=>O<|Ei (f:=(Af .u32)) rfl i (Nat.zero_add _) B<|Fj (f:=(Af .u32)) (x:=(Bt c)) (j:=q) rfl rfl (Nat.zero_add _) i60<|Aa<|Ac<|O<|O<|Aw.mk _ rfl<|O<|Aa<|hn1 _ _ _ _ (Ai h) ⟨rfl,rfl,Ae⟩ ⟨Ah,Ae⟩<|Fp (l:=k) i q<|Bt c
 refine Bh<|Bg rfl ?_
 have h:=a8 _ (Ai h)
 exact Z<|Fd [.fz 8]<|Bz (f:=(Af .u32)) (l:=k) rfl i<|Bz (f:=(Af .u32)) (l:=k) rfl i<|Dx.mk<|Ac<|O<|O<|Aq h fun am ae h=>As.mk _ (Og (a0:=k) ae) rfl<|O<|O<|O<|Aa<|Ak<|congrArg (fun x:((List Int)×(List Int))=>(.tup [(A2 1<|Af .u32) x.1,(A2 1<|Af .u32) x.2]:AV))<|Ai h
theorem Aq1 {a0:(List Int)} {a1:(List Int)} {r:(List Int)} (h:Sh a0 a1=some r):Bb Tryz.prog 137 [(A2 1 (Af .u32)) a0,(A2 1 (Af .u32)) a1] ((A2 1 (Af .u32)) r):=by
 unfold Sh at h
 refine C2 (C:={T:=B4,an:=(fun _=>.ask),nl:=(fun s=>bif Nat.beq s 4 then [(0,1)] else [])}) B8 B5 Tryz.func137 rfl (by kernel_rfl) (by kernel_rfl) rfl ?_
 refine Z<|Ac<|O<|Aa<|Z<|Ay<|Bn h (fun (v2,v3)=>[(0,(.sl 1<|List.map (Af .u32) v2)),(1,(.sl 1<|List.map (Af .u32) v3))]) (fun (v2,v3)=>[]) (fun _=>True) (fun _=>rfl) ⟨rfl,rfl,Ae⟩ Ae Ae ?_
 rintro ⟨v2,v3⟩ k q i g c hn1 _
 refine Z<|Z<|Ac<|O<|O<|Ax (f:=(Af .u32)) (l:=v3) rfl<|O<|Aa<|Am g (fun b h=>?_) fun b h=>?_
 exact An<|Ay<|Z<|Ac<|O<|O<|O<|Aq h fun v4 j h=>As.mk _ (Abh (a0:=v2) (a1:=v3) j) rfl<|O<|O<|O<|O<|O<|Aa<|Ac<|O<|O<|O<|O<|Aa<|hn1 _ _ _ _ (Ai h) ⟨rfl,rfl,Ae⟩ Ae Ae
 refine Bh<|Bg rfl ?_
 have h:=c _ (Ai h)
 exact Z<|Ac<|O<|O<|Aa<|Ak<|congrArg (fun x:(List Int)=>((A2 1<|Af .u32) x:AV))<|Ai h
theorem Kn {a0:Bool} {a1:(List Int)} {a2:(List Int)} {r:A1} (h:Hc a0 a1 a2=some r):Bb Tryz.prog 76 [Av a0,(A2 1 (Af .u32)) a1,(A2 1 (Af .u32)) a2] (Bx r):=by
 unfold Hc at h
 refine C2 (C:={T:=B4,an:=(fun _=>.ask),nl:=(fun s=>bif Nat.beq s 21 then [(1,1)] else [])}) B8 B5 Tryz.func76 rfl (by kernel_rfl) (by kernel_rfl) rfl ?_
 refine Z<|Ac<|O<|Aa<|Z<|Ac<|O<|O<|Aq h fun v2 G h=>As.mk _ (Ag0 (a0:=a1) G) rfl<|O<|O<|Aq h fun v3 E h=>As.mk _ (Ag0 (a0:=a2) E) rfl<|O<|O<|Aa<|Z<|Z<|Cd h fun g j q=>Ce (fun (v4:Bool)=>v4=g) (fun v4=>[(19,(Av v4))]) (fun v4=>[]) (fun _=>rfl) ?_ ?_
 intro R hK1
 refine Ac<|O<|O<|Ax (f:=(Af .u32)) (l:=v2) rfl<|O<|O<|A6 (s:=15) j (fun b h=>?_) fun b h=>?_
 exact Ad<|Ad<|Ad<|O<|Aa<|hK1 true _ _ _ (Ai h) ⟨rfl,Ae⟩ ⟨Ah,Ae⟩
 exact Ag<|Ag<|Ax (f:=(Af .u32)) (l:=v3) rfl<|Ag<|O<|Aa<|hK1 ((v3.length:Int)==(0:Int)) _ _ _ (Ai h) ⟨rfl,Ae⟩ ⟨Ah,Ae⟩
 rintro v4 L y
 have h:=q _ y
 refine Am h (fun b h=>?_) fun b h=>?_
 exact Z<|Ac<|O<|O<|O<|Aa<|Ak<|congrArg (fun x:A1=>(Bx x:AV))<|Ai h
 refine An<|Z<|Ac<|O<|O<|O<|Aq h fun v5 D h=>As.mk _ (Aq1 (a0:=v2) (a1:=v3) D) rfl<|O<|Aa<|Z<|Z<|Cd h fun c i k=>Ce (fun (v7:Bool)=>v7=c) (fun v7=>[(33,(Av v7))]) (fun v7=>[]) (fun _=>rfl) ?_ ?_
 intro N hK2
 refine Ac<|O<|O<|Ax (f:=(Af .u32)) (l:=v5) rfl<|O<|O<|A6 (s:=28) i (fun b h=>?_) fun b h=>?_
 exact Ad<|Ad<|Ad<|Ad<|O<|Aa<|hK2 true _ _ _ (Ai h) ⟨rfl,Ae⟩ ⟨Ah,Ae⟩
 exact Ag<|Ag<|A7 (f:=(Af .u32)) rfl h fun M z i6 I h=>Ag<|Ag<|O<|Aa<|hK2 (z != (1:Int)) _ _ _ (Ai h) ⟨rfl,Ae⟩ ⟨Ah,Ae⟩
 rintro v7 J u
 have h:=k _ u
 refine Am h (fun b h=>?_) fun b h=>?_
 refine Z<|Ac<|O<|O<|O<|Aq h fun v8 B h=>As.mk _ (Abh (a0:=v2) (a1:=v5) B) rfl<|O<|O<|O<|O<|Aa<|Ac<|O<|O<|O<|Aq h fun v9 A h=>As.mk _ (Abh (a0:=v3) (a1:=v5) A) rfl<|O<|O<|O<|O<|Aa<|Z ?_
 exact Ac<|O<|O<|O<|O<|O<|Aa<|Ak<|congrArg (fun x:A1=>(Bx x:AV))<|Ai h
 exact An<|Z<|Ac<|O<|O<|O<|O<|O<|Aa<|Ak<|congrArg (fun x:A1=>(Bx x:AV))<|Ai h
theorem Oi {a0:A1} {r:A1} (h:I9 a0=some r):Bb Tryz.prog 102 [Bx a0] (Bx r):=by
 unfold I9 at h
 refine Bv Tryz.func102 rfl (by kernel_rfl) (by kernel_rfl) rfl ?_
 exact Z<|Ac<|O<|O<|Aa<|Z<|Ac<|O<|O<|O<|O<|O<|O<|O<|Aq h fun v3 b h=>As.mk _ (Kn (a0:=a0.Neg) (a1:=a0.Num) (a2:=a0.Den) b) rfl<|O<|Aa<|Ak<|congrArg (fun x:A1=>(Bx x:AV))<|Ai h
theorem Abi {a0:A1} {r:Int} (h:Nn a0=some r):Bb Tryz.prog 51 [Bx a0] ((Af .i64) r):=by
 unfold Nn at h
 refine Bv Tryz.func51 rfl (by kernel_rfl) (by kernel_rfl) rfl ?_
 refine Z<|Ac<|O<|O<|Aa<|Z<|Ac<|O<|O<|Aq h fun v2 c h=>As.mk _ (Oi (a0:=a0) c) rfl<|O<|Aa<|Z<|Ay<|Z<|Ac<|O<|O<|O<|Ax (f:=(Af .u32)) (l:=v2.Num) rfl<|O<|O<|Aa ?_
 refine Am h (fun b h=>?_) fun b h=>?_
 exact Z<|Ac<|O<|Aa<|Ak<|Bu h
 refine Z<|Ac<|O<|O<|O<|Aa<|Am h (fun b h=>?_) fun b h=>?_
 exact Z<|Ac<|O<|Aa<|Ak<|Bu h
 exact An<|Z<|Ac<|O<|Aa<|Ak<|Bu h
theorem Aq2 {a0:(List Int)} {a1:(List Int)} {r:(List Int)} (h:Sd a0 a1=some r):Bb Tryz.prog 104 [(A2 1 (Af .u32)) a0,(A2 1 (Af .u32)) a1] ((A2 1 (Af .u32)) r):=by
 unfold Sd at h
 refine C2 (C:={T:=B4,an:=(fun s=>bif Nat.beq s 5 then .own else .ask),nl:=(fun s=>bif Nat.beq s 5 then [(0,1)] else bif Nat.beq s 4 then [(0,1)] else [])}) B8 B5 Tryz.func104 rfl (by kernel_rfl) (by kernel_rfl) rfl ?_
 refine Z<|Ac<|O<|Aa<|Z<|Ac<|O<|Aa<|Z<|Ac<|O<|Aa<|Z<|Z<|Ac<|O<|Aa<|Ay<|Bn h (fun (v21,v22,c)=>[(5,(.arr 0 c.length 0 c.length)),(6,(Af .u32 v21)),(7,(Af .i64 v22))]) (fun (v21,v22,c)=>[(0,.rows 129 1 (List.map (Af .u32) c))]) (fun _=>True) (fun _=>rfl) ⟨rfl,rfl,rfl,Ae⟩ ⟨Ah,Ae⟩ Ae ?_
 rintro ⟨v21,v22,c⟩ u1 K1 U B u hn1 _
 refine Z<|Z<|Cd B fun q A G=>Ce (fun (v24:Bool)=>v24=q) (fun v24=>[(22,(Av v24))]) (fun v24=>[]) (fun _=>rfl) ?_ ?_
 intro K2 hK2
 refine Ac<|O<|O<|O<|Ax (f:=(Af .u32)) (l:=a0) rfl<|O<|O<|A6 (s:=13) A (fun b h=>?_) fun b h=>?_
 exact Ad<|Ad<|Ad<|Ad<|O<|O<|Ad<|Ad<|O<|Aa<|hK2 true _ _ _ (Ai h) ⟨rfl,Ae⟩ ⟨Ah,Ae⟩
 refine Ag<|Ag<|Ag<|Ax (f:=(Af .u32)) (l:=a1) rfl<|Ag<|O<|O<|A6 (s:=19) h (fun b h=>?_) fun b h=>?_
 exact Ad<|Ad<|O<|Aa<|hK2 true _ _ _ (Ai h) ⟨rfl,Ae⟩ ⟨Ah,Ae⟩
 exact Ag<|Ag<|O<|Aa<|hK2 (decide<|v21>(0:Int)) _ _ _ (Ai h) ⟨rfl,Ae⟩ ⟨Ah,Ae⟩
 rintro v24 u2 L
 have h:=G _ L
 refine Am h (fun b h=>?_) fun b h=>?_
 refine An<|Z<|Ay<|Z<|Ac<|O<|O<|Aa<|Z<|Z<|Ac<|O<|O<|O<|Ax (f:=(Af .u32)) (l:=a0) rfl<|O<|Aa<|Cd h fun k z E=>Ce (fun (v26:Int)=>v26=k) (fun v26=>[(8,(Af .u32 v26))]) (fun v26=>[]) (fun _=>rfl) ?_ ?_
 intro K3 hK3
 refine Am z (fun b h=>?_) fun b h=>?_
 exact Ac<|O<|O<|O<|O<|A7 (f:=(Af .u32)) rfl h fun X v25 i25 N h=>O<|O<|Aw.mk _ rfl<|O<|Aa<|hK3 (Bt<|v21+v25) _ _ _ (Ai h) ⟨rfl,Ae⟩ ⟨Ah,Ae⟩
 exact An<|hK3 v21 _ _ _ (Ai h) ⟨rfl,Ae⟩ ⟨Ah,Ae⟩
 rintro v26 u3 J
 have h:=E _ J
 refine Z<|Z<|Ac<|O<|O<|O<|Ax (f:=(Af .u32)) (l:=a1) rfl<|O<|Aa<|Cd h fun j y D=>Ce (fun (v28:Int)=>v28=j) (fun v28=>[(8,(Af .u32 v28))]) (fun v28=>[]) (fun _=>rfl) ?_ ?_
 intro K4 hK4
 refine Am y (fun b h=>?_) fun b h=>?_
 exact Ac<|O<|O<|O<|O<|A7 (f:=(Af .u32)) rfl h fun V i i27 M h=>O<|O<|Aw.mk _ rfl<|O<|Aa<|hK4 (Bt<|v26+i) _ _ _ (Ai h) ⟨rfl,Ae⟩ ⟨Ah,Ae⟩
 exact An<|hK4 v26 _ _ _ (Ai h) ⟨rfl,Ae⟩ ⟨Ah,Ae⟩
 rintro v28 Y I
 have h:=D _ I
 exact Z<|Ac<|O<|O<|G4 h fun R h=>O<|Aa<|Ac<|O<|O<|O<|Hj h fun g h=>O<|O<|D9 (f:=(Af .u32)) (l:=c) (ys:=[g]) rfl rfl rfl rfl h fun S h=>O<|Aa<|Ac<|O<|O<|Aw.mk _ rfl<|O<|Aa<|hn1 _ _ _ _ (Ai h) ⟨rfl,rfl,rfl,Ae⟩ ⟨Ah,Ae⟩ Ae
 refine Bh<|Bg rfl ?_
 have h:=u _ (Ai h)
 exact Z<|Ac<|O<|O<|Aa<|Ak<|Bz (f:=(Af .u32)) (l:=c) rfl rfl<|Bz (f:=(Af .u32)) (l:=c) rfl rfl<|congrArg (fun x:(List Int)=>((A2 1<|Af .u32) x:AV))<|Ai h
theorem Ag1 {a0:A1} {a1:A1} {r:A1} (h:J9 a0 a1=some r):Bb Tryz.prog 50 [Bx a0,Bx a1] (Bx r):=by
 unfold J9 at h
 refine Bv Tryz.func50 rfl (by kernel_rfl) (by kernel_rfl) rfl ?_
 refine Z<|Ac<|O<|O<|O<|Aa<|Z<|B0<|O<|O<|Aq h fun v4 D h=>As.mk _ (Oi (a0:=a0) D) rfl<|O<|O<|Aq h fun v5 B h=>As.mk _ (Oi (a0:=a1) B) rfl<|O<|O<|Aa<|Bj.mk (by kernel_rfl)<|Z<|B0<|O<|O ?_
 refine O<|O<|O<|Aq h fun c A h=>As.mk _ (L2 (a0:=v4.Num) (a1:=v5.Den) A) rfl<|O<|O<|O<|O<|O<|Aq h fun v7 z h=>As.mk _ (L2 (a0:=v5.Num) (a1:=v4.Den) z) rfl<|O<|O<|Aa<|Bj.mk (by kernel_rfl)<|Z<|Ac<|O<|O<|O<|O<|O<|Aq h fun v8 y h=>?_
 refine As.mk _ (L2 (a0:=v4.Den) (a1:=v5.Den) y) rfl<|O<|Aa<|Z<|Z<|Ac<|O<|O<|O<|O<|O<|Aa<|Am h (fun b h=>?_) fun b h=>?_
 exact Z<|B0<|O<|O<|O<|O<|O<|Aq h fun v9 u h=>As.mk _ (Aq2 (a0:=c) (a1:=v7) u) rfl<|O<|O<|Aq h fun v10 q h=>As.mk _ (Kn (a0:=v4.Neg) (a1:=v9) (a2:=v8) q) rfl<|O<|Aa<|Bj.mk (by kernel_rfl)<|Ak<|congrArg (fun x:A1=>(Bx x:AV))<|Ai h
 refine An<|Z<|Z<|Ac<|O<|O<|O<|Aq h fun s l h=>As.mk _ (Vd (a0:=c) (a1:=v7) l) rfl<|O<|Aa<|Am h (fun b h=>?_) fun b h=>?_
 exact Z<|B0<|O<|O<|O<|O<|O<|Aq h fun v12 k h=>As.mk _ (Tg (a0:=c) (a1:=v7) k) rfl<|O<|O<|Aq h fun v13 j h=>As.mk _ (Kn (a0:=v4.Neg) (a1:=v12) (a2:=v8) j) rfl<|O<|Aa<|Bj.mk (by kernel_rfl)<|Ak<|congrArg (fun x:A1=>(Bx x:AV))<|Ai h
 exact An<|Z<|B0<|O<|O<|O<|O<|O<|Aq h fun f i h=>As.mk _ (Tg (a0:=v7) (a1:=c) i) rfl<|O<|O<|Aq h fun v15 g h=>As.mk _ (Kn (a0:=v5.Neg) (a1:=f) (a2:=v8) g) rfl<|O<|Aa<|Bj.mk (by kernel_rfl)<|Ak<|congrArg (fun x:A1=>(Bx x:AV))<|Ai h
theorem Aq3 {a0:A1} {r:A1} (h:Pv a0=some r):Bb Tryz.prog 107 [Bx a0] (Bx r):=by
 unfold Pv at h
 refine Bv Tryz.func107 rfl (by kernel_rfl) (by kernel_rfl) rfl ?_
 exact Z<|Ac<|O<|O<|Aa<|Z<|Ac<|O<|O<|O<|O<|O<|O<|O<|O<|Aq h fun v3 b h=>As.mk _ (Kn (a0:=(!a0.Neg)) (a1:=a0.Num) (a2:=a0.Den) b) rfl<|O<|Aa<|Ak<|congrArg (fun x:A1=>(Bx x:AV))<|Ai h
theorem Ag2 {a0:A1} {a1:A1} {r:A1} (h:No a0 a1=some r):Bb Tryz.prog 52 [Bx a0,Bx a1] (Bx r):=by
 unfold No at h
 refine Bv Tryz.func52 rfl (by kernel_rfl) (by kernel_rfl) rfl ?_
 exact Z<|Ac<|O<|O<|O<|Aa<|Z<|B0<|O<|O<|O<|Aq h fun v4 c h=>As.mk _ (Aq3 (a0:=a1) c) rfl<|O<|Aq h fun v5 b h=>As.mk _ (Ag1 (a0:=a0) (a1:=v4) b) rfl<|O<|Aa<|Bj.mk (by kernel_rfl)<|Ak<|congrArg (fun x:A1=>(Bx x:AV))<|Ai h
theorem Ag3 {a0:A1} {a1:A1} {r:Int} (h:Pl a0 a1=some r):Bb Tryz.prog 14 [Bx a0,Bx a1] ((Af .i64) r):=by
 unfold Pl at h
 refine Bv Tryz.func14 rfl (by kernel_rfl) (by kernel_rfl) rfl ?_
 exact Z<|Ac<|O<|O<|O<|Aa<|Z<|Ac<|O<|O<|O<|Aq h fun v3 c h=>As.mk _ (Ag2 (a0:=a0) (a1:=a1) c) rfl<|O<|Aq h fun v4 b h=>As.mk _ (Abi (a0:=v3) b) rfl<|O<|Aa<|Ak<|Bu h
theorem Jt {a0:Int} {r:A1} (h:Gs a0=some r):Bb Tryz.prog 30 [(Af .i64) a0] (Bx r):=by
 unfold Gs at h
 refine Bv Tryz.func30 rfl (by kernel_rfl) (by kernel_rfl) rfl ?_
 refine Z<|Ac<|O<|Aa<|Z<|Z<|Ac<|O<|O<|Aa<|Am h (fun b h=>?_) fun b h=>?_
 exact Z<|Ac<|O<|O<|Aw.mk _ rfl<|O<|Aw.mk _ rfl<|O<|Aw.mk _ rfl<|O<|Aw.mk _ rfl<|O<|Aq h fun v2 i h=>As.mk _ (Oh (a0:=(Bd ((Bd<|Al<|0-(Al<|a0+1))+1))) i) rfl<|O<|O<|Aq h fun v3 g h=>As.mk _ (Kn (a0:=true) (a1:=v2) (a2:=[1]) g) rfl<|O<|Aa<|Ak<|congrArg (fun x:A1=>(Bx x:AV))<|Ai h
 exact An<|Z<|Ac<|O<|O<|Aw.mk _ rfl<|O<|Aq h fun v4 f h=>As.mk _ (Oh (a0:=(Bd a0)) f) rfl<|O<|O<|Aq h fun v5 c h=>As.mk _ (Kn (a0:=false) (a1:=v4) (a2:=[1]) c) rfl<|O<|Aa<|Ak<|congrArg (fun x:A1=>(Bx x:AV))<|Ai h
theorem Aq4  {r:Bool} (h:Um=some r):Bb Tryz.prog 7 [] (Av r):=by
 unfold Um at h
 refine C2 (C:={T:=B4,an:=(fun _=>.ask),nl:=(fun s=>bif Nat.beq s 37 then [(3,3),(4,3)] else bif Nat.beq s 18 then [(3,3),(4,3)] else bif Nat.beq s 12 then [(3,3),(4,3)] else [])}) B8 B5 Tryz.func7 rfl (by kernel_rfl) (by kernel_rfl) rfl ?_
 refine Z<|Ac<|O<|Aa<|Z<|Ac<|O<|Aq h fun i M h=>As.mk _ (Aqy  M) rfl<|O<|O<|Aa<|Z<|Ac<|O<|Aq h fun v3 L h=>As.mk _ (Jt (a0:=2) L) rfl<|O<|O<|Aq h fun v4 J h=>As.mk _ (Jt (a0:=1) J) rfl<|O<|Aq h fun v5 I h=>As.mk _ (Agz (a0:=0) (a1:=1) I) rfl ?_
 refine O<|O<|O<|Aa<|Z<|Ac<|O<|Aq h fun y G h=>As.mk _ (Jt (a0:=3) G) rfl<|O<|O<|O<|Aa<|Z<|Ac<|O<|O<|O<|O<|Aq h fun v7 E h=>As.mk _ (Aqs (a0:=i) (a1:=[(B2.mk v3<|C8.mk [] []),(B2.mk v4 v5)]) (a2:=[(B2.mk y<|C8.mk [] [])]) E) rfl<|O<|O<|O ?_
 refine O<|O<|Aa<|Z<|Ac<|O<|O<|O<|O<|Aq h fun v8 D h=>As.mk _ (Aqv (a0:=i) (a1:=[(B2.mk v3<|C8.mk [] []),(B2.mk v4 v5)]) (a2:=[(B2.mk y<|C8.mk [] [])]) D) rfl<|O<|O<|O<|O<|O<|Aa<|Z<|B0<|O<|O<|Aq h fun v9 B h=>As.mk _ (Jt (a0:=1) B) rfl<|O ?_
 refine O<|Aq h fun v10 x h=>As.mk _ (Jt (a0:=2) x) rfl<|O<|Aq h fun g u h=>As.mk _ (Agz (a0:=0) (a1:=2) u) rfl<|O<|O<|O<|Aq h fun v12 q h=>As.mk _ (Aqw (a0:=i) (a1:=[(B2.mk v9<|C8.mk [] []),(B2.mk v10 g)]) (a2:=0) (a3:=1) q) rfl<|O<|O<|O<|O<|O<|Aa<|Bj.mk (by kernel_rfl)<|Z<|B0<|O<|O<|O<|A6 (s:=47) h (fun b h=>?_) fun b h=>?_
 refine Ag<|Ag<|O<|O<|A6 (s:=51) h (fun b h=>?_) fun b h=>?_
 refine Ag<|Ag<|Ax (f:=B7) (l:=v7.1) rfl<|Ag<|O<|O<|A6 (s:=56) h (fun b h=>?_) fun b h=>?_
 refine Ag<|Ag<|Ax (f:=B7) (l:=v8.1) rfl<|Ag<|O<|O<|A6 (s:=61) h (fun b h=>?_) fun b h=>?_
 refine Ag<|O<|O<|A6 (s:=64) h (fun b h=>?_) fun b h=>?_
 refine Ag<|Ag<|Ax (f:=Bx) (l:=v12.1) rfl<|Ag<|O<|O<|A6 (s:=69) h (fun b h=>?_) fun b h=>?_
 exact Ag<|Ag<|A7 (f:=Bx) rfl h fun A v13 i13 z h=>Ag<|Ag<|Aq h fun c k h=>As.mk _ (Jt (a0:=2) k) rfl<|Ag<|Aq h fun v15 j h=>As.mk _ (Ag3 (a0:=v13) (a1:=c) j) rfl<|Ag<|O<|O<|Aa<|Bj.mk (by kernel_rfl)<|Ak<|A3 h
 exact Ad<|Ad<|Ad<|Ad<|Ad<|Ad<|O<|O<|Aa<|Bj.mk (by kernel_rfl)<|Ak<|A3 h
 exact Ad<|Ad<|Ad<|O<|O<|Ad<|Ad<|Ad<|Ad<|Ad<|Ad<|O<|O<|Aa<|Bj.mk (by kernel_rfl)<|Ak<|A3 h
 exact Ad<|O<|O<|Ad<|Ad<|Ad<|O<|O<|Ad<|Ad<|Ad<|Ad<|Ad<|Ad<|O<|O<|Aa<|Bj.mk (by kernel_rfl)<|Ak<|A3 h
 exact Ad<|Ad<|Ad<|O<|O<|Ad<|O<|O<|Ad<|Ad<|Ad<|O<|O<|Ad<|Ad<|Ad<|Ad<|Ad<|Ad<|O<|O<|Aa<|Bj.mk (by kernel_rfl)<|Ak<|A3 h
 refine Ad<|Ad<|Ad<|O<|O<|Ad<|Ad<|Ad<|O<|O<|Ad<|O<|O<|Ad<|Ad<|Ad<|O<|O<|Ad<|Ad<|Ad<|Ad<|Ad<|Ad ?_
 exact O<|O<|Aa<|Bj.mk (by kernel_rfl)<|Ak<|A3 h
 refine Ad<|Ad<|O<|O<|Ad<|Ad<|Ad<|O<|O<|Ad<|Ad<|Ad<|O<|O<|Ad<|O<|O<|Ad<|Ad<|Ad<|O<|O<|Ad<|Ad ?_
 exact Ad<|Ad<|Ad<|Ad<|O<|O<|Aa<|Bj.mk (by kernel_rfl)<|Ak<|A3 h
theorem Ag4 {a0:A1} {a1:A1} {r:A1} (h:I4 a0 a1=some r):Bb Tryz.prog 49 [Bx a0,Bx a1] (Bx r):=by
 unfold I4 at h
 refine Bv Tryz.func49 rfl (by kernel_rfl) (by kernel_rfl) rfl ?_
 refine Z<|Ac<|O<|O<|O<|Aa<|Z<|B0<|O<|O<|Aq h fun v4 j h=>As.mk _ (Oi (a0:=a0) j) rfl<|O<|O<|Aq h fun v5 i h=>As.mk _ (Oi (a0:=a1) i) rfl<|O<|O<|Aa<|Bj.mk (by kernel_rfl)<|Z<|B0<|O<|O ?_
 exact O<|O<|O<|O<|O<|O<|O<|O<|Aq h fun b g h=>As.mk _ (L2 (a0:=v4.Num) (a1:=v5.Num) g) rfl<|O<|O<|O<|O<|O<|Aq h fun v7 f h=>As.mk _ (L2 (a0:=v4.Den) (a1:=v5.Den) f) rfl<|O<|Aq h fun v8 c h=>As.mk _ (Kn (a0:=(v4.Neg != v5.Neg)) (a1:=b) (a2:=v7) c) rfl<|O<|Aa<|Bj.mk (by kernel_rfl)<|Ak<|congrArg (fun x:A1=>(Bx x:AV))<|Ai h
end Go.Ab
namespace Go.Ab
open Go Go.Proofs
set_option maxRecDepth 10000
theorem Aq5 {a0:A1} {a1:A1} {r:(A1×Bool)} (h:Ss a0 a1=some r):Bb Tryz.prog 237 [Bx a0,Bx a1] (.tup [Bx r.1,Av r.2]):=by
 unfold Ss at h
 refine Bv Tryz.func237 rfl (by kernel_rfl) (by kernel_rfl) rfl ?_
 refine Z<|Ac<|O<|O<|O<|O<|Aa<|Z<|B0<|O<|O<|Aq h fun v4 q h=>As.mk _ (Oi (a0:=a0) q) rfl<|O<|O<|Aq h fun v5 k h=>As.mk _ (Oi (a0:=a1) k) rfl<|O<|O<|Aa<|Bj.mk (by kernel_rfl)<|Z<|Z<|Ac ?_
 refine O<|O<|O<|Ax (f:=(Af .u32)) (l:=v5.Num) rfl<|O<|Aa<|Am h (fun b h=>?_) fun b h=>?_
 exact Z<|Ac<|O<|Aq h fun s j h=>As.mk _ (Jt (a0:=0) j) rfl<|O<|O<|Aa<|Ak<|congrArg (fun x:(A1×Bool)=>(.tup [Bx x.1,Av x.2]:AV))<|Ai h
 refine An<|Z<|B0<|O<|O<|O<|O<|O<|O<|O<|O<|O<|O<|Aq h fun v7 i h=>As.mk _ (L2 (a0:=v4.Num) (a1:=v5.Den) i) rfl<|O<|O<|O<|O<|O<|Aq h fun v8 g h=>As.mk _ (L2 (a0:=v4.Den) (a1:=v5.Num) g) rfl<|O<|Aq h fun v9 c h=>?_
 exact As.mk _ (Kn (a0:=(v4.Neg != v5.Neg)) (a1:=v7) (a2:=v8) c) rfl<|O<|O<|Aa<|Bj.mk (by kernel_rfl)<|Ak<|congrArg (fun x:(A1×Bool)=>(.tup [Bx x.1,Av x.2]:AV))<|Ai h
theorem Ag5 {a0:Int} {r:A1} (h:Vb a0=some r):Bb Tryz.prog 30 [(Af .i64) a0] (Bx r):=by
 unfold Vb at h
 refine Bv Tryz.func30 rfl (by kernel_rfl) (by kernel_rfl) rfl ?_
 refine Z<|Ac<|O<|Aa<|Z<|Z<|Ac<|O<|O<|Aa<|Am h (fun b h=>?_) fun b h=>?_
 exact Z<|Ac<|O<|O<|Aw.mk _ rfl<|O<|Aw.mk _ rfl<|O<|Aw.mk _ rfl<|O<|Aw.mk _ rfl<|O<|Aq h fun v2 i h=>As.mk _ (Oh (a0:=(Bd ((Bd<|Al<|0-(Al<|a0+1))+1))) i) rfl<|O<|O<|Aq h fun v3 g h=>As.mk _ (Kn (a0:=true) (a1:=v2) (a2:=[1]) g) rfl<|O<|Aa<|Ak<|congrArg (fun x:A1=>(Bx x:AV))<|Ai h
 exact An<|Z<|Ac<|O<|O<|Aw.mk _ rfl<|O<|Aq h fun v4 f h=>As.mk _ (Oh (a0:=(Bd a0)) f) rfl<|O<|O<|Aq h fun v5 c h=>As.mk _ (Kn (a0:=false) (a1:=v4) (a2:=[1]) c) rfl<|O<|Aa<|Ak<|congrArg (fun x:A1=>(Bx x:AV))<|Ai h
theorem Ag6 {a0:A1} {a1:Int} {r:A1} (h:P4 a0 a1=some r):Bb Tryz.prog 165 [Bx a0,(Af .i64) a1] (Bx r):=by
 unfold P4 at h
 refine Bv Tryz.func165 rfl (by kernel_rfl) (by kernel_rfl) rfl ?_
 refine Z<|Ac<|O<|O<|Aa<|Z<|Ac<|O<|Aq h fun v3 y h=>As.mk _ (Jt (a0:=1) y) rfl<|O<|O<|Aa<|Z<|Z<|Ac<|O<|Aa<|Ay<|Bn h (fun (v10,c,v12,v13)=>[(6,(Af .i64 v10))]) (fun (v10,c,v12,v13)=>[(2,.cells 41 [(Av c),(.sl 1<|List.map (Af .u32) v12),(.sl 1<|List.map (Af .u32) v13)])]) (fun _=>True) (fun _=>rfl) ⟨rfl,Ae⟩ ⟨Ah,Ah,Ah,Ae⟩ Ae ?_
 rintro ⟨v10,c,v12,v13⟩ z A u i g hn1 _
 refine Z<|Z<|Ac<|O<|O<|O<|Aa<|Am i (fun b h=>?_) fun b h=>?_
 refine An<|Z<|Ay<|Z<|B0<|O<|O<|O<|O<|Aq h fun f s h=>As.mk _ (Ag5 (a0:=v10) s) rfl<|O<|Aq h fun v15 q h=>As.mk _ (Ag2 (a0:=a0) (a1:=f) q) rfl<|O<|Aq h fun v16 l h=>As.mk _ (Ag4 (a0:=(A1.mk c v12 v13)) (a1:=v15) l) rfl<|O<|Aa<|Bj.mk (by kernel_rfl)<|B0<|O<|O<|O ?_
 exact Aw.mk _ rfl<|O<|Aq h fun v17 k h=>As.mk _ (Ag5 (a0:=(Al<|v10+1)) k) rfl<|O<|Aq h fun v18 j h=>As.mk _ (Aq5 (a0:=v16) (a1:=v17) j) rfl<|O<|O<|O<|O<|Aa<|Bj.mk (by kernel_rfl)<|Ac<|O<|O<|Aw.mk _ rfl<|O<|Aa<|hn1 _ _ _ _ (Ai h) ⟨rfl,Ae⟩ ⟨Ah,Ah,Ah,Ae⟩ Ae
 refine Bh<|Bg rfl ?_
 have h:=g _ (Ai h)
 exact Z<|Ac<|O<|O<|Aa<|Ak<|congrArg (fun x:A1=>(Bx x:AV))<|Ai h
theorem Aq6 {a0:A1} {a1:Int} {r:A1} (h:Ut a0 a1=some r):Bb Tryz.prog 101 [Bx a0,(Af .i64) a1] (Bx r):=by
 unfold Ut at h
 refine Bv Tryz.func101 rfl (by kernel_rfl) (by kernel_rfl) rfl ?_
 refine Z<|Ac<|O<|O<|Aa<|Z<|Z<|Ac<|O<|O<|Aq h fun v3 i h=>As.mk _ (Abi (a0:=a0) i) rfl<|O<|Aa<|Am h (fun b h=>?_) fun b h=>?_
 exact Ac<|O<|Aq h fun v4 g h=>As.mk _ (Jt (a0:=0) g) rfl<|O<|Aa<|Z<|Ac<|O<|O<|O<|Aq h fun v5 f h=>As.mk _ (Ag6 (a0:=v4) (a1:=a1) f) rfl<|O<|Aa<|Ak<|congrArg (fun x:A1=>(Bx x:AV))<|Ai h
 exact An<|Z<|Ac<|O<|O<|O<|Aq h fun j c h=>As.mk _ (Ag6 (a0:=a0) (a1:=a1) c) rfl<|O<|Aa<|Ak<|congrArg (fun x:A1=>(Bx x:AV))<|Ai h
theorem Aq7 {a0:Int} {a1:Int} {r:(A1×Bool)} (h:J8 a0 a1=some r):Bb Tryz.prog 48 [(Af .i64) a0,(Af .i64) a1] (.tup [Bx r.1,Av r.2]):=by
 unfold J8 at h
 refine Bv Tryz.func48 rfl (by kernel_rfl) (by kernel_rfl) rfl ?_
 refine Z<|Ac<|O<|O<|Aa<|Z<|Z<|Cd h fun c f g=>Ce (fun (v2:Bool)=>v2=c) (fun v2=>[(11,(Av v2))]) (fun v2=>[]) (fun _=>rfl) ?_ ?_
 intro u hK1
 refine Ac<|O<|O<|O<|A6 (s:=8) f (fun b h=>?_) fun b h=>?_
 exact Ad<|Ad<|O<|Aa<|hK1 true _ _ _ (Ai h) ⟨rfl,Ae⟩ ⟨Ah,Ae⟩
 exact Ag<|Ag<|O<|Aa<|hK1 (decide<|a1>(64:Int)) _ _ _ (Ai h) ⟨rfl,Ae⟩ ⟨Ah,Ae⟩
 rintro v2 q i
 have h:=g _ i
 refine Am h (fun b h=>?_) fun b h=>?_
 exact Z<|Ac<|O<|Aq h fun v3 l h=>As.mk _ (Jt (a0:=0) l) rfl<|O<|O<|Aa<|Ak<|congrArg (fun x:(A1×Bool)=>(.tup [Bx x.1,Av x.2]:AV))<|Ai h
 exact An<|Z<|Ac<|O<|O<|Aq h fun v4 k h=>As.mk _ (Jt (a0:=a0) k) rfl<|O<|O<|Aq h fun v5 j h=>As.mk _ (Aq6 (a0:=v4) (a1:=a1) j) rfl<|O<|O<|Aa<|Ak<|congrArg (fun x:(A1×Bool)=>(.tup [Bx x.1,Av x.2]:AV))<|Ai h
theorem Ag7:∀k:Nat,(∀(a0:Ao) (r:Int),Ja k a0=some r->Bb Tryz.prog 152 [Ba a0] ((Af .i64) r))
 | 0=>(fun _ _ h=>by simp only [Ja] at h; cases h)
 | k+1=>by
  have ih:=Ag7 k
  have c:∀{a0:Ao} {r:Int},Ja k a0=some r->Bb Tryz.prog 152 [Ba a0] ((Af .i64) r):=fun h=>ih _ _ h
  intro a0 r h
  unfold Ja at h
  refine Bv Tryz.func152 rfl (by kernel_rfl) (by kernel_rfl) rfl ?_
  refine Z<|Ac<|O<|O<|Aa<|Z<|Ac<|O<|Aa<|Z<|Z<|Ac<|O<|Aa<|Ay<|Bn h (fun (v4,v5)=>[(3,(Af .i64 v4)),(4,(Af .i64 v5))]) (fun (v4,v5)=>[]) (fun _=>True) (fun _=>rfl) ⟨rfl,rfl,Ae⟩ ⟨Ah,Ae⟩ Ae ?_
  rintro ⟨v4,v5⟩ x z q i g hn1 _
  refine Z<|Z<|Ac<|O<|O<|O<|O<|Ax (f:=Ba) (l:=a0.Args) (Bq _)<|O<|Aa<|Am i (fun b h=>?_) fun b h=>?_
  exact An<|Z<|Ay<|Ac<|O<|O<|O<|O<|O<|A7 (f:=Ba) (Bq _) h fun y j i6 u h=>O<|O<|Aq h fun v7 s h=>As.mk _ (c (a0:=j) s) rfl<|O<|Aw.mk _ rfl<|O<|Aa<|Ac<|O<|O<|Aw.mk _ rfl<|O<|Aa<|hn1 _ _ _ _ (Ai h) ⟨rfl,rfl,Ae⟩ ⟨Ah,Ae⟩ Ae
  refine Bh<|Bg rfl ?_
  have h:=g _ (Ai h)
  exact Z<|Ac<|O<|O<|Aa<|Ak<|Bu h
theorem Abj {k:Nat} {a0:Ao} {r:Int} (h:Ja k a0=some r):Bb Tryz.prog 152 [Ba a0] ((Af .i64) r):=(Ag7 k) _ _ h
theorem Ag8:∀k:Nat,(∀(a0:(List A5)) (a1:Ao) (a2:Int) (r:Bool),Kd k a0 a1 a2=some r->Bb Tryz.prog 153 [(A2 3 Bf) a0,Ba a1,(Af .i64) a2] (Av r))
 | 0=>(fun _ _ _ _ h=>by simp only [Kd] at h; cases h)
 | k+1=>by
  have ih:=Ag8 k
  have g:∀{a0:(List A5)} {a1:Ao} {a2:Int} {r:Bool},Kd k a0 a1 a2=some r->Bb Tryz.prog 153 [(A2 3 Bf) a0,Ba a1,(Af .i64) a2] (Av r):=fun h=>ih _ _ _ _ h
  intro a0 a1 a2 r h
  unfold Kd at h
  refine Bv Tryz.func153 rfl (by kernel_rfl) (by kernel_rfl) rfl ?_
  refine Z<|Ac<|O<|O<|Aa<|Z<|Ac<|O<|O<|O<|Ax (f:=Ba) (l:=a1.Args) (Bq _)<|O<|Aa<|Z<|Z<|Ac<|O<|O<|Aa<|Cd h fun u B c=>Ce (fun (x:Unit)=>(.inr x)=u) (fun _=>[(6,(Av false))]) (fun _=>[]) (fun _=>rfl) ?_ ?_
  intro K1 hK1
  refine Ay<|Z<|Z<|Ac<|O<|O<|Aa<|Cd B fun q A E=>Ce (fun (v2:Bool)=>v2=q) (fun v2=>[(14,(Av v2))]) (fun v2=>[]) (fun _=>rfl) ?_ ?_
  intro K2 hK2
  refine Am A (fun b h=>?_) fun b h=>?_
  exact An<|hK2 (a1.Kind==(1:Int)) _ _ _ (Ai h) ⟨rfl,Ae⟩ ⟨Ah,Ae⟩
  refine Z<|Ac<|O<|O<|Aa<|Am h (fun b h=>?_) fun b h=>?_
  exact An<|hK2 (a1.Kind==(2:Int)) _ _ _ (Ai h) ⟨rfl,Ae⟩ ⟨Ah,Ae⟩
  exact Ac<|O<|O<|Aa<|hK2 (a1.Kind==(3:Int)) _ _ _ (Ai h) ⟨rfl,Ae⟩ ⟨Ah,Ae⟩
  rintro v2 V I
  have h:=E _ I
  refine Am h (fun b h=>?_) fun b h=>?_
  refine Z<|Ac<|O<|O<|O<|O<|A6 (s:=21) h (fun b h=>?_) fun b h=>?_
  refine Ag<|Ag<|O<|O<|Aa<|Ak ?_
  have h:=c _ (Ai h)
  exact A3 h
  refine Ad<|Ad<|O<|O<|Aa<|Ak ?_
  have h:=c _ (Ai h)
  exact A3 h
  refine Z<|Ac<|O<|O<|Aa<|Am h (fun b h=>?_) fun b h=>?_
  refine Z<|Ac<|O<|O<|O<|O<|A6 (s:=30) h (fun b h=>?_) fun b h=>?_
  refine Ag<|Ag<|Ag<|Ag<|O<|O<|A6 (s:=36) h (fun b h=>?_) fun b h=>?_
  refine Ag<|Ag<|O<|O<|Aa<|Ak ?_
  have h:=c _ (Ai h)
  exact A3 h
  refine Ad<|Ad<|O<|O<|Aa<|Ak ?_
  have h:=c _ (Ai h)
  exact A3 h
  refine Ad<|Ad<|Ad<|Ad<|O<|O<|Ad<|Ad<|O<|O<|Aa<|Ak ?_
  have h:=c _ (Ai h)
  exact A3 h
  refine Z<|Ac<|O<|O<|Aa<|Am h (fun b h=>?_) fun b h=>?_
  refine Z<|Ac<|O<|O<|O<|O<|A6 (s:=45) h (fun b h=>?_) fun b h=>?_
  refine Ad<|Ad<|Ad<|Ad<|Ad<|O<|O<|Ad<|Ad<|Ad<|Ad<|Ad<|Ad<|Ad<|Ad<|O<|Aa<|Dd<|Z<|Ac<|O<|Aa<|Ak ?_
  have h:=c _ (Ai h)
  exact A3 h
  refine Ag<|Ag<|Ag<|Ag<|Ax (f:=Bf) (l:=a0) rfl<|Ag<|O<|O<|A6 (s:=52) h (fun b h=>?_) fun b h=>?_
  refine Ad<|Ad<|Ad<|Ad<|Ad<|Ad<|Ad<|Ad<|O<|Aa<|Dd<|Z<|Ac<|O<|Aa<|Ak ?_
  have h:=c _ (Ai h)
  exact A3 h
  refine Ag<|Ag<|Ag<|Ag<|Ag<|A7 (f:=Bf) rfl h fun n3 v3 i3 R h=>Ag<|Ag<|Ag<|O<|Aa<|Am h (fun b h=>?_) fun b h=>?_
  refine Z<|Ac<|O<|Aa<|Ak ?_
  have h:=c _ (Ai h)
  exact A3 h
  exact An<|hK1 () _ _ _ (Ai h) ⟨rfl,Ae⟩ ⟨Ah,Ae⟩
  refine Z<|Ac<|O<|O<|Aa<|Am h (fun b h=>?_) fun b h=>?_
  refine Z<|Ac<|O<|O<|O<|O<|A6 (s:=67) h (fun b h=>?_) fun b h=>?_
  refine Ad<|Ad<|O<|O<|Ad<|Ad<|O<|Aa<|Dd<|Z<|Ac<|O<|Aa<|Ak ?_
  have h:=c _ (Ai h)
  exact A3 h
  refine Ag<|Ag<|O<|O<|A6 (s:=71) h (fun b h=>?_) fun b h=>?_
  refine Ad<|Ad<|O<|Aa<|Dd<|Z<|Ac<|O<|Aa<|Ak ?_
  have h:=c _ (Ai h)
  exact A3 h
  refine Ag<|Ag<|O<|Aa<|Am h (fun b h=>?_) fun b h=>?_
  refine Z<|Ac<|O<|Aa<|Ak ?_
  have h:=c _ (Ai h)
  exact A3 h
  exact An<|hK1 () _ _ _ (Ai h) ⟨rfl,Ae⟩ ⟨Ah,Ae⟩
  refine Z<|Z<|Ac<|O<|O<|Aa<|Cd h fun j z D=>Ce (fun (v4:Bool)=>v4=j) (fun v4=>[(75,(Av v4))]) (fun v4=>[]) (fun _=>rfl) ?_ ?_
  intro K3 hK3
  refine Am z (fun b h=>?_) fun b h=>?_
  exact An<|hK3 (a1.Kind==(7:Int)) _ _ _ (Ai h) ⟨rfl,Ae⟩ ⟨Ah,Ae⟩
  exact Ac<|O<|O<|Aa<|hK3 (a1.Kind==(8:Int)) _ _ _ (Ai h) ⟨rfl,Ae⟩ ⟨Ah,Ae⟩
  rintro v4 U G
  have h:=D _ G
  refine Am h (fun b h=>?_) fun b h=>?_
  refine Z<|Ac<|O<|O<|O<|O<|A6 (s:=81) h (fun b h=>?_) fun b h=>?_
  refine Ad<|Ad<|O<|Aa<|Dd<|Z<|Ac<|O<|Aa<|Ak ?_
  have h:=c _ (Ai h)
  exact A3 h
  refine Ag<|Ag<|O<|Aa<|Am h (fun b h=>?_) fun b h=>?_
  refine Z<|Ac<|O<|Aa<|Ak ?_
  have h:=c _ (Ai h)
  exact A3 h
  exact An<|hK1 () _ _ _ (Ai h) ⟨rfl,Ae⟩ ⟨Ah,Ae⟩
  refine Z<|Ac<|O<|O<|Aa<|Am h (fun b h=>?_) fun b h=>?_
  refine Z<|Ac<|O<|O<|O<|O<|A6 (s:=90) h (fun b h=>?_) fun b h=>?_
  refine Ad<|Ad<|O<|O<|Ad<|Ad<|O<|Aa<|Dd<|Z<|Ac<|O<|Aa<|Ak ?_
  have h:=c _ (Ai h)
  exact A3 h
  refine Ag<|Ag<|O<|O<|A6 (s:=94) h (fun b h=>?_) fun b h=>?_
  refine Ad<|Ad<|O<|Aa<|Dd<|Z<|Ac<|O<|Aa<|Ak ?_
  have h:=c _ (Ai h)
  exact A3 h
  refine Ag<|Ag<|O<|Aa<|Am h (fun b h=>?_) fun b h=>?_
  refine Z<|Ac<|O<|Aa<|Ak ?_
  have h:=c _ (Ai h)
  exact A3 h
  exact An<|hK1 () _ _ _ (Ai h) ⟨rfl,Ae⟩ ⟨Ah,Ae⟩
  refine Z<|Ac<|O<|Aa<|Ak ?_
  have h:=c _ (Ai h)
  exact A3 h
  rintro _ X J
  have h:=c _ J
  refine Z<|Z<|Ac<|O<|Aa<|Ay<|Bn h (fun v8=>[(6,(Av false)),(8,(Af .i64 v8))]) (fun v8=>[]) (fun _=>True) (fun _=>rfl) ⟨rfl,rfl,Ae⟩ ⟨Ah,Ae⟩ Ae ?_
  rintro v8 S K4 M y i hn4 _
  refine Z<|Z<|Ac<|O<|O<|O<|Aa<|Am y (fun b h=>?_) fun b h=>?_
  refine An<|Z<|Ay<|Z<|Ac<|O<|O<|O<|O<|O<|A7 (f:=Ba) (Bq _) h fun Y v9 i9 N h=>O<|O<|O<|Aq h fun v10 L h=>As.mk _ (g (a0:=a0) (a1:=v9) (a2:=a2) L) rfl<|O<|Aa<|Am h (fun b h=>?_) fun b h=>?_
  refine Z<|Ac<|O<|Aa<|Ak ?_
  have h:=i _ (Ai h)
  exact A3 h
  exact An<|Ac<|O<|O<|Aw.mk _ rfl<|O<|Aa<|hn4 _ _ _ _ (Ai h) ⟨rfl,rfl,Ae⟩ ⟨Ah,Ae⟩ Ae
  refine Bh<|Bg rfl ?_
  have h:=i _ (Ai h)
  exact Z<|Ac<|O<|Aa<|Ak<|A3 h
theorem Aq8 {k:Nat} {a0:(List A5)} {a1:Ao} {a2:Int} {r:Bool} (h:Kd k a0 a1 a2=some r):Bb Tryz.prog 153 [(A2 3 Bf) a0,Ba a1,(Af .i64) a2] (Av r):=(Ag8 k) _ _ _ _ h
theorem Ve {a0:(List A5)} {a1:Ao} {a2:Int} {r:Bool} (h:Jo a0 a1 a2=some r):Bb Tryz.prog 88 [(A2 3 Bf) a0,Ba a1,(Af .i64) a2] (Av r):=by
 unfold Jo at h
 refine Bv Tryz.func88 rfl (by kernel_rfl) (by kernel_rfl) rfl ?_
 refine Z<|Ac<|O<|O<|Aa<|Z<|Ac<|O<|O<|Aq h fun v2 f h=>As.mk _ (Abj (a0:=a1) f) rfl<|O<|O<|A6 (s:=10) h (fun b h=>?_) fun b h=>?_
 exact Ag<|Ag<|Ag<|Ag<|Aq h fun v3 c h=>As.mk _ (Aq8 (a0:=a0) (a1:=a1) (a2:=a2) c) rfl<|O<|O<|Aa<|Ak<|A3 h
 exact Ad<|Ad<|Ad<|Ad<|O<|O<|Aa<|Ak<|A3 h
theorem Abk {a0:Ao} {a1:Int} {a2:Int} {r:Bool} (h:Lv a0 a1 a2=some r):Bb Tryz.prog 150 [Ba a0,(Af .i64) a1,(Af .i64) a2] (Av r):=by
 unfold Lv at h
 refine Bv Tryz.func150 rfl (by kernel_rfl) (by kernel_rfl) rfl ?_
 refine Z<|Ac<|O<|O<|Aa<|Z<|Z<|Cd h fun i k q=>Ce (fun (v2:Bool)=>v2=i) (fun v2=>[(23,(Av v2))]) (fun v2=>[]) (fun _=>rfl) ?_ ?_
 intro L hK1
 refine Ac<|O<|O<|O<|O<|A6 (s:=11) k (fun b h=>?_) fun b h=>?_
 exact Ad<|Ad<|Ad<|Ad<|O<|O<|Ad<|Ad<|Ad<|Ad<|Ad<|O<|Aa<|hK1 true _ _ _ (Ai h) ⟨rfl,Ae⟩ ⟨Ah,Ae⟩
 refine Ag<|Ag<|Ag<|Ag<|O<|O<|A6 (s:=17) h (fun b h=>?_) fun b h=>?_
 exact Ad<|Ad<|Ad<|Ad<|Ad<|O<|Aa<|hK1 true _ _ _ (Ai h) ⟨rfl,Ae⟩ ⟨Ah,Ae⟩
 exact Ag<|Ag<|Ag<|Ax (f:=Ba) (l:=a0.Args) (Bq _)<|Ag<|Ag<|O<|Aa<|hK1 ((a0.Args.length:Int) != a2) _ _ _ (Ai h) ⟨rfl,Ae⟩ ⟨Ah,Ae⟩
 rintro v2 D u
 have h:=q _ u
 refine Am h (fun b h=>?_) fun b h=>?_
 exact Z<|Ac<|O<|Aa<|Ak<|A3 h
 refine An<|Z<|Z<|Ac<|O<|Aa<|Ay<|Bn h (fun g=>[(6,(Av false)),(7,(Af .i64 g))]) (fun g=>[]) (fun _=>True) (fun _=>rfl) ⟨rfl,rfl,Ae⟩ ⟨Ah,Ae⟩ Ae ?_
 rintro g B J x j c hn2 _
 refine Z<|Z<|Ac<|O<|O<|O<|O<|Ax (f:=Ba) (l:=a0.Args) (Bq _)<|O<|Aa<|Am j (fun b h=>?_) fun b h=>?_
 refine An<|Z<|Ay<|Z<|Ac<|O<|O<|O<|O<|A7 (f:=Ba) (Bq _) h fun I v7 i7 A h=>O<|O<|O<|O<|A6 (s:=38) h (fun b h=>?_) fun b h=>?_
 refine Ad<|Ad<|Ad<|Ad<|Ad<|Ad<|Ad<|Ad<|O<|O<|Ad<|Ad<|Ad<|Ad<|Ad<|Ad<|Ad<|Ad<|O<|Aa<|Dd<|Z<|Ac<|O ?_
 refine Aa<|Ak ?_
 have h:=c _ (Ai h)
 exact A3 h
 refine Ag<|Ag<|Ag<|Ag<|A7 (f:=Ba) (Bq _) h fun G v8 i8 z h=>Ag<|Ag<|Ag<|Ag<|O<|O<|A6 (s:=48) h (fun b h=>?_) fun b h=>?_
 refine Ad<|Ad<|Ad<|Ad<|Ad<|Ad<|Ad<|Ad<|O<|Aa<|Dd<|Z<|Ac<|O<|Aa<|Ak ?_
 have h:=c _ (Ai h)
 exact A3 h
 refine Ag<|Ag<|Ag<|Ag<|A7 (f:=Ba) (Bq _) h fun E v9 i9 y h=>Ag<|Ag<|Ag<|Ax (f:=Ba) (l:=v9.Args) (Bq _)<|Ag<|O<|Aa<|Am h (fun b h=>?_) fun b h=>?_
 refine Z<|Ac<|O<|Aa<|Ak ?_
 have h:=c _ (Ai h)
 exact A3 h
 exact An<|Ac<|O<|O<|Aw.mk _ rfl<|O<|Aa<|hn2 _ _ _ _ (Ai h) ⟨rfl,rfl,Ae⟩ ⟨Ah,Ae⟩ Ae
 refine Bh<|Bg rfl ?_
 have h:=c _ (Ai h)
 exact Z<|Ac<|O<|Aa<|Ak<|A3 h
theorem Ag9 {a0:(List ByteArray)} {r:Bool} (h:P1 a0=some r):Bb Tryz.prog 151 [(A2 1 Co) a0] (Av r):=by
 unfold P1 at h
 refine Bv Tryz.func151 rfl (by kernel_rfl) (by kernel_rfl) rfl ?_
 refine Z<|Ac<|O<|Aa<|Z<|Z<|Ac<|O<|Aa<|Ay<|Bn h (fun i=>[(2,(Av false)),(3,(Af .i64 i))]) (fun i=>[]) (fun _=>True) (fun _=>rfl) ⟨rfl,rfl,Ae⟩ Ae Ae ?_
 rintro i A G s k g hn1 _
 refine Z<|Z<|Ac<|O<|O<|O<|Ax (f:=Co) (l:=a0) rfl<|O<|Aa<|Am k (fun b h=>?_) fun b h=>?_
 refine An<|Z<|Ay<|Z<|Ac<|O<|Aa<|Ay<|Bn h (fun v4=>[(2,(Av false)),(4,(Af .i64 v4))]) (fun v4=>[]) (fun _=>True) (fun _=>rfl) ⟨rfl,rfl,Ae⟩ Ae Ae ?_
 rintro v4 z E q j c hn2 _
 refine Z<|Z<|Ac<|O<|O<|O<|Aa<|Am j (fun b h=>?_) fun b h=>?_
 refine An<|Z<|Ay<|Z<|B0<|O<|O<|O<|A7 (f:=Co) rfl h fun D v5 i5 x h=>O<|O<|O<|O<|A7 (f:=Co) rfl h fun B y i6 u h=>O<|O<|Aa<|Bj.mk (by kernel_rfl)<|Am h (fun b h=>?_) fun b h=>?_
 refine Z<|Ac<|O<|Aa<|Ak ?_
 have h:=c _ (Ai h)
 have h:=g _ (Ai h)
 exact A3 h
 exact An<|Ac<|O<|O<|Aw.mk _ rfl<|O<|Aa<|hn2 _ _ _ _ (Ai h) ⟨rfl,rfl,Ae⟩ Ae Ae
 refine Bh<|Bg rfl ?_
 have h:=c _ (Ai h)
 exact Ac<|O<|O<|Aw.mk _ rfl<|O<|Aa<|hn1 _ _ _ _ (Ai h) ⟨rfl,rfl,Ae⟩ Ae Ae
 refine Bh<|Bg rfl ?_
 have h:=g _ (Ai h)
 exact Z<|Ac<|O<|Aa<|Ak<|A3 h
theorem Aha {a0:ByteArray} {r:Bool} (h:U4 a0=some r):Bb Tryz.prog 285 [Co a0] (Av r):=by
 unfold U4 at h
 refine Bv Tryz.func285 rfl (by kernel_rfl) (by kernel_rfl) rfl ?_
 refine Z<|Ac<|O<|Aa<|Z<|Ac<|O<|O<|Aa<|Z<|Z<|Ac<|O<|Aa<|Ay<|Bn h (fun v2=>[(2,(Av false)),(4,(Af .i64 v2))]) (fun v2=>[]) (fun _=>True) (fun _=>rfl) ⟨rfl,rfl,Ae⟩ Ae Ae ?_
 rintro v2 k s i g c hn1 _
 refine Z<|Z<|Ac<|O<|O<|O<|Ax (f:=Co) (l:=[(ByteArray.mk #[97,114,114,97,121]),(ByteArray.mk #[98,111,111,108]),(ByteArray.mk #[99,97,116,99,104]),(ByteArray.mk #[100,97,116,97]),(ByteArray.mk #[101,108,115,101]),(ByteArray.mk #[101,110,100]),(ByteArray.mk #[102,97,108,115,101]),(ByteArray.mk #[102,110]),(ByteArray.mk #[102,117,110]),(ByteArray.mk #[103,101,116]),(ByteArray.mk #[105,102]),(ByteArray.mk #[105,110]),(ByteArray.mk #[105,110,116]),(ByteArray.mk #[108,101,110]),(ByteArray.mk #[108,101,116]),(ByteArray.mk #[109,97,116,99,104]),(ByteArray.mk #[110,101,119]),(ByteArray.mk #[114,97,105,115,101]),(ByteArray.mk #[114,101,97,100]),(ByteArray.mk #[114,101,102]),(ByteArray.mk #[115,101,116]),(ByteArray.mk #[116,104,101,110]),(ByteArray.mk #[116,105,99,107]),(ByteArray.mk #[116,114,117,101]),(ByteArray.mk #[116,114,121]),(ByteArray.mk #[117,110,105,116]),(ByteArray.mk #[119,105,116,104]),(ByteArray.mk #[119,114,105,116,101])]) rfl<|O<|Aa<|Am g (fun b h=>?_) fun b h=>?_
 refine An<|Z<|Ay<|Z<|Ac<|O<|O<|O<|A7 (f:=Co) rfl h fun q v3 i3 j h=>O<|O<|O<|Aa<|Am h (fun b h=>?_) fun b h=>?_
 refine Z<|Ac<|O<|Aa<|Ak ?_
 have h:=c _ (Ai h)
 exact A3 h
 exact An<|Ac<|O<|O<|Aw.mk _ rfl<|O<|Aa<|hn1 _ _ _ _ (Ai h) ⟨rfl,rfl,Ae⟩ Ae Ae
 refine Bh<|Bg rfl ?_
 have h:=c _ (Ai h)
 exact Z<|Ac<|O<|Aa<|Ak<|A3 h
theorem Ahb {a0:ByteArray} {r:(Int×Bool)} (h:S0 a0=some r):Bb Tryz.prog 286 [Co a0] (.tup [(Af .i64) r.1,Av r.2]):=by
 unfold S0 at h
 refine Bv Tryz.func286 rfl (by kernel_rfl) (by kernel_rfl) rfl ?_
 refine Z<|Ac<|O<|O<|Aa<|Z<|Ac<|O<|Aa<|Z<|Z<|Ac<|O<|Aa<|Ay<|Bn h (fun (v2,v3)=>[(2,(Af .i64 0)),(3,(Av false)),(4,(Af .i64 v2)),(5,(Af .i64 v3))]) (fun (v2,v3)=>[]) (fun _=>True) (fun _=>rfl) ⟨rfl,rfl,rfl,rfl,Ae⟩ Ae Ae ?_
 rintro ⟨v2,v3⟩ i k g f c hn1 _
 refine Z<|Z<|Ac<|O<|O<|O<|O<|Aa<|Am f (fun b h=>?_) fun b h=>?_
 refine An<|Z<|Ay<|Z<|Ac<|O<|O<|Aw.mk _ rfl<|O<|O<|O<|Ha h fun j h=>O<|Aw.mk _ rfl<|O<|Aw.mk _ rfl<|O<|Aw.mk _ rfl<|O<|Aa<|Z<|Ac<|O<|O ?_
 refine Aa<|Am h (fun b h=>?_) fun b h=>?_
 refine Z<|Ac<|O<|O<|Aa<|Ak ?_
 have h:=c _ (Ai h)
 exact congrArg (fun x:(Int×Bool)=>(.tup [(Af .i64) x.1,Av x.2]:AV))<|Ai h
 exact An<|Ac<|O<|O<|Aw.mk _ rfl<|O<|Aa<|hn1 _ _ _ _ (Ai h) ⟨rfl,rfl,rfl,rfl,Ae⟩ Ae Ae
 refine Bh<|Bg rfl ?_
 have h:=c _ (Ai h)
 exact Z<|Ac<|O<|O<|O<|Aa<|Ak<|congrArg (fun x:(Int×Bool)=>(.tup [(Af .i64) x.1,Av x.2]:AV))<|Ai h
theorem Abl {a0:Int} {r:Bool} (h:Qi a0=some r):Bb Tryz.prog 284 [(Af .u8) a0] (Av r):=by
 unfold Qi at h
 refine Bv Tryz.func284 rfl (by kernel_rfl) (by kernel_rfl) rfl ?_
 refine Z<|Ac<|O<|Aa<|Z<|Ac<|O<|O<|O<|A6 (s:=5) h (fun b h=>?_) fun b h=>?_
 exact Ag<|Ag<|O<|O<|Aa<|Ak<|A3 h
 exact Ad<|Ad<|O<|O<|Aa<|Ak<|A3 h
theorem Ahc {a0:Int} {r:Bool} (h:Sz a0=some r):Bb Tryz.prog 282 [(Af .u8) a0] (Av r):=by
 unfold Sz at h
 refine Bv Tryz.func282 rfl (by kernel_rfl) (by kernel_rfl) rfl ?_
 refine Z<|Ac<|O<|Aa<|Z<|Ac<|O<|O<|O<|A6 (s:=5) h (fun b h=>?_) fun b h=>?_
 exact Ag<|Ag<|O<|O<|Aa<|Ak<|A3 h
 exact Ad<|Ad<|O<|O<|Aa<|Ak<|A3 h
theorem Aq9 {a0:ByteArray} {r:Int} (h:S1 a0=some r):Bb Tryz.prog 287 [Co a0] ((Af .i64) r):=by
 unfold S1 at h
 refine Bv Tryz.func287 rfl (by kernel_rfl) (by kernel_rfl) rfl ?_
 refine Z<|Ac<|O<|Aa<|Z<|Z<|Cd h fun g k l=>Ce (fun (v4:Bool)=>v4=g) (fun v4=>[(22,(Av v4))]) (fun v4=>[]) (fun _=>rfl) ?_ ?_
 intro J hK1
 refine Ac<|O<|O<|O<|O<|A6 (s:=8) k (fun b h=>?_) fun b h=>?_
 refine Ag<|Ag<|Eg h fun A x _ _ h=>Ag<|Ag<|A6 (s:=12) h (fun b h=>?_) fun b h=>?_
 exact Ad<|Ad<|Ad<|Ag<|Ag<|Ad<|Ad<|Ad<|Ag<|O<|Aa<|hK1 true _ _ _ (Ai h) ⟨rfl,Ae⟩ Ae
 refine Ag<|Ag<|Eg h fun z u _ _ h=>Ag<|Ag<|Ag<|A6 (s:=17) h (fun b h=>?_) fun b h=>?_
 exact Ad<|Ad<|Ad<|Ag<|O<|Aa<|hK1 true _ _ _ (Ai h) ⟨rfl,Ae⟩ Ae
 exact Ag<|Ag<|Eg h fun i f _ _ h=>Ag<|Ag<|O<|Aa<|hK1 ((a0.extract i f).toList==(ByteArray.mk #[61,61]).toList) _ _ _ (Ai h) ⟨rfl,Ae⟩ Ae
 exact Ad<|Ad<|Ad<|Ad<|A9 (7,false) 12 undef<|A9 (7,false) 12 undef<|A9 (7,false) 12 undef<|Ad<|Ad<|A9 (12,false) 17 undef<|A9 (12,false) 17 undef<|A9 (12,false) 17 undef<|Ad<|O<|Aa<|hK1 false _ _ _ (Ai h) ⟨rfl,Ae⟩ Ae
 rintro v4 D q
 have h:=l _ q
 refine Am h (fun b h=>?_) fun b h=>?_
 exact Z<|Ac<|O<|Aa<|Ak<|Bu h
 refine An<|Z<|Ac<|O<|Aa<|Z<|Z<|Ac<|O<|Aa<|Ay<|Bn h (fun v7=>[(2,(Af .i64 0)),(4,(Af .i64 v7))]) (fun v7=>[]) (fun _=>True) (fun _=>rfl) ⟨rfl,rfl,Ae⟩ Ae Ae ?_
 rintro v7 B I y j c hn2 _
 refine Z<|Z<|Ac<|O<|O<|O<|O<|Aa<|Am j (fun b h=>?_) fun b h=>?_
 refine An<|Z<|Ay<|Z<|B0<|O<|O<|Ha h fun G h=>O<|O<|O<|Ha h fun E h=>O<|Aa<|Bj.mk (by kernel_rfl)<|Am h (fun b h=>?_) fun b h=>?_
 refine Z<|Ac<|O<|Aa<|Ak ?_
 have h:=c _ (Ai h)
 exact Bu h
 exact An<|Ac<|O<|O<|Aw.mk _ rfl<|O<|Aa<|hn2 _ _ _ _ (Ai h) ⟨rfl,rfl,Ae⟩ Ae Ae
 refine Bh<|Bg rfl ?_
 have h:=c _ (Ai h)
 exact Z<|Ac<|O<|Aa<|Ak<|Bu h
theorem Xw {a0:Int} {r:Bool} (h:Qh a0=some r):Bb Tryz.prog 283 [(Af .u8) a0] (Av r):=by
 unfold Qh at h
 refine Bv Tryz.func283 rfl (by kernel_rfl) (by kernel_rfl) rfl ?_
 refine Z<|Ac<|O<|Aa<|Z<|Ac<|O<|O<|O<|A6 (s:=5) h (fun b h=>?_) fun b h=>?_
 exact Ag<|Ag<|O<|O<|Aa<|Ak<|A3 h
 exact Ad<|Ad<|O<|O<|Aa<|Ak<|A3 h
end Go.Ab
