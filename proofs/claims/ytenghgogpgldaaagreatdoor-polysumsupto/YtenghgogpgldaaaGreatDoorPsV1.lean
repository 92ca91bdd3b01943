/- The contracts of the functions, each by its walk (made by a program). -/
import Derived.Test.YtenghgogpgldaaaGreatDoorPsV0
namespace Go.Ab
open Go Go.Proofs
set_option maxRecDepth 10000
set_option maxHeartbeats 4000000
set_option linter.unusedVariables false
instance {a0 a1:List Int}:OK (Jb a0 a1) fun r=>Aq Tryz.prog 111 [(Ar 1 (O .u32)) a0,(Ar 1 (O .u32)) a1] ((Ar 1 (O .u32)) r):=⟨fun {r} h=>by
 refine pw {T:=B7,an:=(fun _=>.ask),nl:=(fun s=>bif Nat.beq s 4 then [(0,1)] else [])} Tryz.func111 ?_
 refine Z ?_
 refine Gd h (fun o1 h=>?_)
 refine Z ?_
 refine Gl h (fun (v25,o26)=>[(6,(O .i64 v25))]) (fun (v25,o26)=>[(0,.rows 133 1 (List.map (O .u32) o26))]) (fun (v25,o26)=>o1.length=o26.length) ?_
 rintro ⟨v25,o26⟩ _ _ _ h _ _ q26
 refine Z ?_
 refine Ao h (fun _ h=>?_) (fun _ h=>?_)
 refine Z ?_
 refine Gl h (fun (v35,v36,o37)=>[(7,(O .u64 v35)),(8,(O .i64 v36))]) (fun (v35,v36,o37)=>[(0,.rows 133 1 (List.map (O .u32) o37))]) (fun (v35,v36,o37)=>o1.length=o37.length) ?_
 rintro ⟨v35,v36,o37⟩ _ _ _ h _ _ q37
 refine Ax (Ax ?_)
 refine Bo h (fun v38=>[(29,(Al v38))]) (fun v38=>[]) ?_ ?_
 intro _ h _ _ _
 exact Y
 rintro v38 _ h
 refine Ao h (fun _ h=>?_) (fun _ h=>?_)
 refine Z ?_
 refine K0 h (fun _ _ _ _ h=>?_)
 refine ZS ?_
 refine Bq ?_
 refine ZO ?_
 refine Bo h (fun v42=>[(7,(O .u64 v42))]) (fun v42=>[]) ?_ ?_
 intro _ h _ _ _
 exact Y
 rintro v42 _ h
 exact Y
 exact Y
 replace h:=Cl h
 refine Fw (Fv rfl (Ax ?_))
 refine Ee [.fz 5] ?_
 exact Y⟩
instance {a0:List Int} {a1:Int}:OK (T7 a0 a1) fun r=>Aq Tryz.prog 232 [(Ar 1 (O .u32)) a0,(O .u64) a1] (.tup [(Ar 1 (O .u32)) r.1,(O .u64) r.2]):=⟨fun {r} h=>by
 refine pw {T:=B7,an:=(fun _=>.ask),nl:=(fun s=>bif Nat.beq s 4 then [(0,1)] else [])} Tryz.func232 ?_
 refine Z ?_
 refine Gd h (fun o1 h=>?_)
 refine Z ?_
 refine Gl h (fun (v7,v8,o9)=>[(7,(O .u64 v7)),(8,(O .i64 v8))]) (fun (v7,v8,o9)=>[(0,.rows 133 1 (List.map (O .u32) o9))]) (fun (v7,v8,o9)=>o1.length=o9.length) ?_
 rintro ⟨v7,v8,o9⟩ _ _ _ h _ _ q9
 refine Z ?_
 refine Ao h (fun _ h=>?_) (fun _ h=>?_)
 exact Y
 replace h:=Cl h
 refine Fw (Fv rfl (Ax ?_))
 refine Ee [.fz 6] ?_
 exact Y⟩
instance {a0 a1:List Int}:OK (Mv a0 a1) fun r=>Aq Tryz.prog 114 [(Ar 1 (O .u32)) a0,(Ar 1 (O .u32)) a1] ((Ar 1 (O .u32)) r):=⟨fun {r} h=>by
 refine pw {T:=B7,an:=(fun _=>.ask),nl:=(fun s=>bif Nat.beq s 4 then [(0,1)] else [])} Tryz.func114 ?_
 refine Z ?_
 refine Gd h (fun o1 h=>?_)
 refine Z ?_
 refine Gl h (fun (v10,v11,o12)=>[(6,(O .u32 v10)),(7,(O .i64 v11))]) (fun (v10,v11,o12)=>[(0,.rows 133 1 (List.map (O .u32) o12))]) (fun (v10,v11,o12)=>o1.length=o12.length) ?_
 rintro ⟨v10,v11,o12⟩ _ _ _ h _ _ q12
 refine Z ?_
 refine Ao h (fun _ h=>?_) (fun _ h=>?_)
 refine ZS ?_
 refine Bq ?_
 refine ZS ?_
 refine Bq ?_
 refine ZO ?_
 refine Bo h (fun v14=>[(8,(O .u32 v14))]) (fun v14=>[]) ?_ ?_
 intro _ h _ _ _
 exact Y
 rintro v14 _ h
 exact Y
 replace h:=Cl h
 refine Fw (Fv rfl (Ax ?_))
 refine Ee [.fz 5] ?_
 exact Y⟩
instance {a0 a1:List Int}:OK (On a0 a1) fun r=>Aq Tryz.prog 157 [(Ar 1 (O .u32)) a0,(Ar 1 (O .u32)) a1] (.tup [(Ar 1 (O .u32)) r.1,(Ar 1 (O .u32)) r.2]):=⟨fun {r} h=>by
 refine pw {T:=B7,an:=(fun s=>bif Nat.beq s 50 then .frz 0 else bif Nat.beq s 47 then .own else .ask),nl:=(fun s=>bif Nat.beq s 9 then [(0,1)] else bif Nat.beq s 5 then [(0,1)] else bif Nat.beq s 4 then [(0,1)] else [])} Tryz.func157 ?_
 refine Z ?_
 refine Bd h (fun _ h=>?_)
 refine Z ?_
 refine Ao h (fun _ h=>?_) (fun _ h=>?_)
 exact Y
 refine Z ?_
 refine Ao h (fun _ h=>?_) (fun _ h=>?_)
 exact Y
 refine Z ?_
 refine Gd h (fun o6 h=>?_)
 refine Z ?_
 refine Gl h (fun (v33,v34,o35)=>[(9,(.sl 1 (List.map (O .u32) v33))),(10,(O .i64 v34))]) (fun (v33,v34,o35)=>[(0,.rows 133 1 (List.map (O .u32) o35))]) (fun (v33,v34,o35)=>o6.length=o35.length) ?_
 rintro ⟨v33,v34,o35⟩ _ _ _ h _ _ q35
 refine Z ?_
 refine Ao h (fun _ h=>?_) (fun _ h=>?_)
 refine Z ?_
 refine B2 h (fun _ _ _ _ h=>?_)
 refine Z ?_
 refine Pj h (fun o38 h=>?_)
 refine Z ?_
 refine Dh h (fun v39 hcv39 h=>?_)
 refine Ae4.mk _ (OK.ok hcv39 :) rfl ?_
 refine Z ?_
 refine Bd h (fun _ h=>?_)
 refine Z ?_
 refine Az h (fun v44=>[(11,(O .u64 v44))]) (fun v44=>[]) ?_
 rintro v44 _ _ _ h _ _
 refine Z ?_
 refine Fm h (fun _ h=>?_) (fun _ h=>?_)
 refine Z ?_
 refine Bd h (fun _ h=>?_)
 refine Z ?_
 refine Bd h (fun _ h=>?_)
 refine Z ?_
 refine Bd h (fun _ h=>?_)
 refine Z ?_
 refine Ao h (fun _ h=>?_) (fun _ h=>?_)
 exact Y
 replace h:=Cl h
 refine Z ?_
 refine Bd h (fun _ h=>?_)
 refine Z ?_
 refine Bd h (fun _ h=>?_)
 refine Z ?_
 refine Bd h (fun _ h=>?_)
 refine Z ?_
 refine Az h (fun (v54,v55)=>[(9,(.sl 1 (List.map (O .u32) v54))),(11,(O .u64 v55))]) (fun (v54,v55)=>[]) ?_
 rintro ⟨v54,v55⟩ _ _ _ h _ _
 exact Y
 replace h:=Cl h
 refine Z ?_
 refine Bd h (fun _ h=>?_)
 refine Z ?_
 refine Bd h (fun _ h=>?_)
 refine Z ?_
 refine Bd h (fun _ h=>?_)
 refine Z ?_
 refine Az h (fun (v54,v55)=>[(9,(.sl 1 (List.map (O .u32) v54))),(11,(O .u64 v55))]) (fun (v54,v55)=>[]) ?_
 rintro ⟨v54,v55⟩ _ _ _ h _ _
 exact Y
 replace h:=Cl h
 refine Fw (Fv rfl (Ax ?_))
 refine Ee [.fz 8] ?_
 exact Y⟩
instance {a0 a1:List Int}:OK (Tq a0 a1) fun r=>Aq Tryz.prog 156 [(Ar 1 (O .u32)) a0,(Ar 1 (O .u32)) a1] ((Ar 1 (O .u32)) r):=⟨fun {r} h=>by
 refine pw {T:=B7,an:=(fun _=>.ask),nl:=(fun s=>bif Nat.beq s 4 then [(0,1)] else [])} Tryz.func156 ?_
 refine Z ?_
 refine Az h (fun (v2,v3)=>[(0,(.sl 1 (List.map (O .u32) v2))),(1,(.sl 1 (List.map (O .u32) v3)))]) (fun (v2,v3)=>[]) ?_
 rintro ⟨v2,v3⟩ _ _ _ h _ _
 exact Y⟩
instance {a0:Bool} {a1 a2:List Int}:OK (I9 a0 a1 a2) fun r=>Aq Tryz.prog 87 [Al a0,(Ar 1 (O .u32)) a1,(Ar 1 (O .u32)) a2] (C7 r):=⟨fun {r} h=>by
 refine pw {T:=B7,an:=(fun _=>.ask),nl:=(fun s=>bif Nat.beq s 21 then [(1,1)] else [])} Tryz.func87 ?_
 refine Z ?_
 refine Bd h (fun _ h=>?_)
 refine Z ?_
 refine Bd h (fun _ h=>?_)
 refine ZO ?_
 refine Ax (Ax ?_)
 refine Bo h (fun v4=>[(19,(Al v4))]) (fun v4=>[]) ?_ ?_
 intro _ h _ _ _
 exact Y
 rintro v4 _ h
 refine Ao h (fun _ h=>?_) (fun _ h=>?_)
 exact Y
 refine Z ?_
 refine Bd h (fun _ h=>?_)
 refine ZO ?_
 refine Ax (Ax ?_)
 refine Bo h (fun v7=>[(33,(Al v7))]) (fun v7=>[]) ?_ ?_
 intro _ h _ _ _
 exact Y
 rintro v7 _ h
 exact Y⟩
instance {a0:Int}:OK (Lm a0) fun r=>Aq Tryz.prog 43 [(O .i64) a0] (C7 r):=⟨fun {r} h=>by
 refine pw C0 Tryz.func43 ?_
 exact Y⟩
instance  : OK (Wu) fun r=>Aq Tryz.prog 10 [] (Al r):=⟨fun {r} h=>by
 refine pw {T:=B7,an:=(fun _=>.ask),nl:=(fun s=>bif Nat.beq s 28 then [(0,3),(1,3),(4,3)] else bif Nat.beq s 8 then [(1,2)] else bif Nat.beq s 7 then [(0,3),(1,3),(4,3)] else [])} Tryz.func10 ?_
 exact Y⟩
abbrev Ahu (k:Nat):Prop:=∀{a0:Ah} {b0:Int},OK (Mw k a0 b0) fun r=>Ce Tryz.prog 131 [Dc a0,(.loc 0 0)] [.cells 3 [(O .i64 b0)]] (Al r.1) [.cells 3 [(O .i64 r.2)]]
theorem Aqp (k:Nat):Ahu k:=by
 induction k with
 | zero=>exact okz
 | succ k ih=>
  refine @fun a0 b0=>⟨fun {r} h=>?_⟩
  .unfold Mw at h
   refine aw C0 true Tryz.func131 ?_
   refine Z ?_
   refine Ao h (fun _ h=>?_) (fun _ h=>?_)
   exact Y
   refine Z ?_
   refine Az h (fun (v4,v5)=>[(4,(Al false)),(5,(O .i64 v4))]) (fun (v4,v5)=>[(0,.cells 3 [(O .i64 v5)])]) ?_
   rintro ⟨v4,v5⟩ _ _ _ h _ _
   refine Z ?_
   refine Ao h (fun _ h=>?_) (fun _ h=>?_)
   refine Z ?_
   refine B2 h (fun _ _ _ _ h=>?_)
   refine Z ?_
   refine Be [0] h (fun _ h=>?_)
   exact Y
   exact Y
instance {k:Nat}:Ahu k:=(Aqp k)
instance {a0:List Ay}:OK (S7 a0) fun r=>Aq Tryz.prog 74 [(Ar 3 Cf) a0] (Al r):=⟨fun {r} h=>by
 refine pw C0 Tryz.func74 ?_
 refine Z ?_
 refine Ao h (fun _ h=>?_) (fun _ h=>?_)
 exact Y
 refine Z ?_
 refine Az h (fun v37=>[(2,(Al false)),(15,(O .i64 v37))]) (fun v37=>[]) ?_
 rintro v37 _ _ _ h _ _
 refine Z ?_
 refine Ao h (fun _ h=>?_) (fun _ h=>?_)
 refine Z ?_
 refine B2 h (fun _ _ _ _ h=>?_)
 refine ZO ?_
 refine Ax (Ax ?_)
 refine Bo h (fun v40=>[(28,(Al v40))]) (fun v40=>[]) ?_ ?_
 intro _ h _ _ _
 exact Y
 rintro v40 _ h
 refine Ao h (fun _ h=>?_) (fun _ h=>?_)
 exact Y
 refine Z ?_
 refine Az h (fun v56=>[(2,(Al false)),(32,(O .i64 v56))]) (fun v56=>[]) ?_
 rintro v56 _ _ _ h _ _
 refine Z ?_
 refine Ao h (fun _ h=>?_) (fun _ h=>?_)
 refine Z ?_
 refine B2 h (fun _ _ _ _ h=>?_)
 refine ZO ?_
 refine Ax (Ax ?_)
 refine Bo h (fun v59=>[(45,(Al v59))]) (fun v59=>[]) ?_ ?_
 intro _ h _ _ _
 exact Y
 rintro v59 _ h
 refine Ao h (fun _ h=>?_) (fun _ h=>?_)
 exact Y
 refine Z ?_
 refine Az h (fun (v64,v65)=>[(2,(Al false)),(49,(O .i64 v64))]) (fun (v64,v65)=>[(2,.cells 3 [(O .i64 v65)])]) ?_
 rintro ⟨v64,v65⟩ _ _ _ h _ _
 refine Z ?_
 refine Ao h (fun _ h=>?_) (fun _ h=>?_)
 refine Z ?_
 refine B2 h (fun _ _ _ _ h=>?_)
 refine Z ?_
 refine Be [2] h (fun _ h=>?_)
 exact Y
 exact Y
 exact Y
 exact Y⟩
instance {a0:Ah}:OK (Qw a0) fun r=>Aq Tryz.prog 76 [Dc a0] (Al r):=⟨fun {r} h=>by
 refine pw C0 Tryz.func76 ?_
 refine Z ?_
 refine Be [1] h (fun _ h=>?_)
 exact Y⟩
instance {a0:List Ah} {a1:Int}:OK (S8 a0 a1) fun r=>Aq Tryz.prog 75 [(Fx 3 Bh) a0,(O .i64) a1] (Al r):=⟨fun {r} h=>by
 refine pw C0 Tryz.func75 ?_
 refine Z ?_
 refine Az h (fun v4=>[(4,(Al false)),(5,(O .i64 v4))]) (fun v4=>[]) ?_
 rintro v4 _ _ _ h _ _
 refine Ax (Ax ?_)
 refine Bo h (fun v5=>[(14,(Al v5))]) (fun v5=>[]) ?_ ?_
 intro _ h _ _ _
 exact Y
 rintro v5 _ h
 exact Y⟩
instance {a0:B5}:OK (S4 a0) fun r=>Aq Tryz.prog 35 [F6 a0] (Al r):=⟨fun {r} h=>by
 refine pw C0 Tryz.func35 ?_
 exact Y⟩
abbrev Ahv (k:Nat):Prop:=∀{a0:A8} {b0:Int},OK (Ol k a0 b0) fun r=>Ce Tryz.prog 97 [Et a0,(.loc 0 0)] [.cells 3 [(O .i64 b0)]] (Al r.1) [.cells 3 [(O .i64 r.2)]]
theorem Aqq (k:Nat):Ahv k:=by
 induction k with
 | zero=>exact okz
 | succ k ih=>
  refine @fun a0 b0=>⟨fun {r} h=>?_⟩
  .unfold Ol at h
   refine aw C0 true Tryz.func97 ?_
   refine Z ?_
   refine Ao h (fun _ h=>?_) (fun _ h=>?_)
   exact Y
   refine Z ?_
   refine Az h (fun (v4,v5)=>[(4,(Al false)),(5,(O .i64 v4))]) (fun (v4,v5)=>[(0,.cells 3 [(O .i64 v5)])]) ?_
   rintro ⟨v4,v5⟩ _ _ _ h _ _
   refine Z ?_
   refine Ao h (fun _ h=>?_) (fun _ h=>?_)
   refine Z ?_
   refine B2 h (fun _ _ _ _ h=>?_)
   refine Z ?_
   refine Be [0] h (fun _ h=>?_)
   exact Y
   exact Y
instance {k:Nat}:Ahv k:=(Aqq k)
instance {a0:A8}:OK (S6 a0) fun r=>Aq Tryz.prog 49 [Et a0] (Al r):=⟨fun {r} h=>by
 refine pw C0 Tryz.func49 ?_
 refine Z ?_
 refine Be [1] h (fun _ h=>?_)
 exact Y⟩
instance {a0:Cu}:OK (Wv a0) fun r=>Aq Tryz.prog 50 [Gc a0] (Al r):=⟨fun {r} h=>by
 refine pw C0 Tryz.func50 ?_
 exact Y⟩
instance {a0:Bb}:OK (S3 a0) fun r=>Aq Tryz.prog 20 [Ez a0] (Al r):=⟨fun {r} h=>by
 refine pw C0 Tryz.func20 ?_
 refine ZS ?_
 refine Bq ?_
 refine ZO ?_
 refine Ax (Ax ?_)
 refine Bo h (fun v2=>[(16,(Al v2))]) (fun v2=>[]) ?_ ?_
 intro _ h _ _ _
 exact Y
 rintro v2 _ h
 refine Ao h (fun _ h=>?_) (fun _ h=>?_)
 exact Y
 refine Z ?_
 refine Az h (fun v6=>[(2,(Al false)),(20,(O .i64 v6))]) (fun v6=>[]) ?_
 rintro v6 _ _ _ h _ _
 refine Z ?_
 refine Ao h (fun _ h=>?_) (fun _ h=>?_)
 exact Y
 replace h:=Cl h
 refine Z ?_
 refine Az h (fun v14=>[(2,(Al false)),(32,(O .i64 v14))]) (fun v14=>[]) ?_
 rintro v14 _ _ _ h _ _
 exact Y⟩
instance {a0:List Aj} {a1:Int}:OK (S0 a0 a1) fun r=>Aq Tryz.prog 19 [(Ar 5 Bj) a0,(O .i64) a1] (Al r):=⟨fun {r} h=>by
 refine pw C0 Tryz.func19 ?_
 refine Z ?_
 refine Az h (fun v6=>[(4,(Al false)),(5,(O .i64 v6))]) (fun v6=>[]) ?_
 rintro v6 _ _ _ h _ _
 refine Ax (Ax ?_)
 refine Bo h (fun v7=>[(14,(Al v7))]) (fun v7=>[]) ?_ ?_
 intro _ h _ _ _
 exact Y
 rintro v7 _ h
 exact Y⟩
instance {a0:B5} {a1:List (List Aj)}:OK (Sz a0 a1) fun r=>Aq Tryz.prog 7 [F6 a0,(Ar 1 (Ar 5 Bj)) a1] (Al r):=⟨fun {r} h=>by
 refine pw C0 Tryz.func7 ?_
 refine Z ?_
 refine Az h (fun v4=>[(4,(Al false)),(9,(O .i64 v4))]) (fun v4=>[]) ?_
 rintro v4 _ _ _ h _ _
 exact Y⟩
instance {a0:B5} {a1 a2:List Aj}:OK (Oc a0 a1 a2) fun r=>Aq Tryz.prog 12 [F6 a0,(Ar 5 Bj) a1,(Ar 5 Bj) a2] (.tup [(Ar 5 Bj) r.1,(O .i64) r.2]):=⟨fun {r} h=>by
 refine pw {T:=B7,an:=(fun _=>.ask),nl:=(fun s=>bif Nat.beq s 6 then [(0,5)] else [])} Tryz.func12 ?_
 refine ZS ?_
 refine Bq ?_
 refine ZO ?_
 refine Ax (Ax ?_)
 refine Bo h (fun v9=>[(9,(Al v9))]) (fun v9=>[]) ?_ ?_
 intro _ h _ _ _
 refine Z ?_
 refine Dh h (fun v2 hcv2 h=>?_)
 rcases v2 with v3 | v8
 refine Ff.act [] _ _ _ _ (Ur (a0:=a0) (a1:=[a1,a2]) hcv2) rfl rfl trivial ?_
 exact Y
 refine Ff.act [] _ _ _ _ (Us (a0:=a0) (a1:=[a1,a2]) hcv2) rfl rfl trivial ?_
 exact Y
 rintro v9 _ h
 refine Z ?_
 refine Ao h (fun _ h=>?_) (fun _ h=>?_)
 exact Y
 refine Z ?_
 refine Be [] h (fun _ h=>?_)
 refine Z ?_
 refine Be [2,1,3] h (fun _ h=>?_)
 refine Z ?_
 refine Be [2,1,3] h (fun _ h=>?_)
 refine Z ?_
 refine Be [2,1,3] h (fun _ h=>?_)
 exact Y⟩
instance {a0:List Aj} {a1:A5}:OK (Qt a0 a1) fun r=>Aq Tryz.prog 39 [(Ar 5 Bj) a0,C7 a1] ((Ar 5 Bj) r):=⟨fun {r} h=>by
 refine pw {T:=B7,an:=(fun s=>bif Nat.beq s 5 then .own else .ask),nl:=(fun s=>bif Nat.beq s 5 then [(0,5)] else bif Nat.beq s 4 then [(0,5)] else [])} Tryz.func39 ?_
 refine Z ?_
 refine Az h (fun (v13,o14)=>[(5,(.arr 1 o14.length 0 o14.length)),(10,(O .i64 v13))]) (fun (v13,o14)=>[(1,.rows 84 5 (List.map Bj o14))]) ?_
 rintro ⟨v13,o14⟩ _ _ _ h _ _
 exact Y⟩
instance {a0:B5} {a1:List Aj} {a2:A5}:OK (Oe a0 a1 a2) fun r=>Aq Tryz.prog 17 [F6 a0,(Ar 5 Bj) a1,C7 a2] (.tup [(Ar 5 Bj) r.1,(O .i64) r.2]):=⟨fun {r} h=>by
 refine pw {T:=B7,an:=(fun _=>.ask),nl:=(fun s=>bif Nat.beq s 6 then [(0,5)] else [])} Tryz.func17 ?_
 refine ZS ?_
 refine Bq ?_
 refine ZO ?_
 refine Ax (Ax ?_)
 refine Bo h (fun v10=>[(9,(Al v10))]) (fun v10=>[]) ?_ ?_
 intro _ h _ _ _
 refine Z ?_
 refine Dh h (fun v3 hcv3 h=>?_)
 rcases v3 with v4 | v9
 refine Ff.act [] _ _ _ _ (Ur (a0:=a0) (a1:=[a1]) hcv3) rfl rfl trivial ?_
 exact Y
 refine Ff.act [] _ _ _ _ (Us (a0:=a0) (a1:=[a1]) hcv3) rfl rfl trivial ?_
 exact Y
 rintro v10 _ h
 refine Z ?_
 refine Ao h (fun _ h=>?_) (fun _ h=>?_)
 exact Y
 refine Z ?_
 refine Be [] h (fun _ h=>?_)
 refine Z ?_
 refine Bd h (fun _ h=>?_)
 refine Z ?_
 refine Be [3,2,4] h (fun _ h=>?_)
 refine Z ?_
 refine Be [3,2,4] h (fun _ h=>?_)
 exact Y⟩
instance {a0:B5} {a1 a2:List Aj}:OK (Od a0 a1 a2) fun r=>Aq Tryz.prog 14 [F6 a0,(Ar 5 Bj) a1,(Ar 5 Bj) a2] (.tup [(Ar 5 Bj) r.1,(O .i64) r.2]):=⟨fun {r} h=>by
 refine pw {T:=B7,an:=(fun _=>.ask),nl:=(fun s=>bif Nat.beq s 6 then [(0,5)] else [])} Tryz.func14 ?_
 refine ZS ?_
 refine Bq ?_
 refine ZO ?_
 refine Ax (Ax ?_)
 refine Bo h (fun v9=>[(9,(Al v9))]) (fun v9=>[]) ?_ ?_
 intro _ h _ _ _
 refine Z ?_
 refine Dh h (fun v2 hcv2 h=>?_)
 rcases v2 with v3 | v8
 refine Ff.act [] _ _ _ _ (Ur (a0:=a0) (a1:=[a1,a2]) hcv2) rfl rfl trivial ?_
 exact Y
 refine Ff.act [] _ _ _ _ (Us (a0:=a0) (a1:=[a1,a2]) hcv2) rfl rfl trivial ?_
 exact Y
 rintro v9 _ h
 refine Z ?_
 refine Ao h (fun _ h=>?_) (fun _ h=>?_)
 exact Y
 refine Z ?_
 refine Be [] h (fun _ h=>?_)
 refine Z ?_
 refine Be [2,1,3] h (fun _ h=>?_)
 refine Z ?_
 refine Bd h (fun _ h=>?_)
 refine Z ?_
 refine Bd h (fun _ h=>?_)
 refine Z ?_
 refine Be [2,1,3] h (fun _ h=>?_)
 refine Z ?_
 refine Be [2,1,3] h (fun _ h=>?_)
 exact Y⟩
abbrev Ahw (k:Nat):Prop:=∀{a0:Ah},OK (Lx k a0) fun r=>Aq Tryz.prog 224 [Dc a0] ((O .i64) r)
theorem Aqr (k:Nat):Ahw k:=by
 induction k with
 | zero=>exact okz
 | succ k ih=>
  refine @fun a0=>⟨fun {r} h=>?_⟩
  .unfold Lx at h
   refine pw C0 Tryz.func224 ?_
   refine Z ?_
   refine Az h (fun (v4,v5)=>[(3,(O .i64 v4)),(4,(O .i64 v5))]) (fun (v4,v5)=>[]) ?_
   rintro ⟨v4,v5⟩ _ _ _ h _ _
   exact Y
instance {k:Nat}:Ahw k:=(Aqr k)
abbrev Ahx (k:Nat):Prop:=∀{a0:List Ay} {a1:Ah} {a2:Int},OK (M1 k a0 a1 a2) fun r=>Aq Tryz.prog 225 [(Ar 3 Cf) a0,Dc a1,(O .i64) a2] (Al r)
theorem Aqs (k:Nat):Ahx k:=by
 induction k with
 | zero=>exact okz
 | succ k ih=>
  refine @fun a0 a1 a2=>⟨fun {r} h=>?_⟩
  .unfold M1 at h
   refine pw C0 Tryz.func225 ?_
   refine ZS ?_
   refine Bq ?_
   refine ZS ?_
   refine Bq ?_
   refine ZS ?_
   refine Bq ?_
   refine ZO ?_
   refine Xr (fun (x:Unit)=>(.inr x)) h (fun _=>[(6,(Al false))]) (fun _=>[]) ?_ ?_
   intro _ h _ _ _
   refine ZS ?_
   refine Bq ?_
   refine ZO ?_
   refine Bo h (fun v2=>[(14,(Al v2))]) (fun v2=>[]) ?_ ?_
   intro _ h _ _ _
   exact Y
   rintro v2 _ h
   refine Ao h (fun _ h=>?_) (fun _ h=>?_)
   exact Y
   refine Z ?_
   refine Ao h (fun _ h=>?_) (fun _ h=>?_)
   exact Y
   refine Z ?_
   refine Ao h (fun _ h=>?_) (fun _ h=>?_)
   exact Y
   refine Z ?_
   refine Ao h (fun _ h=>?_) (fun _ h=>?_)
   exact Y
   refine ZS ?_
   refine Bq ?_
   refine ZO ?_
   refine Bo h (fun v4=>[(75,(Al v4))]) (fun v4=>[]) ?_ ?_
   intro _ h _ _ _
   exact Y
   rintro v4 _ h
   exact Y
   rintro _ _ h
   refine Z ?_
   refine Az h (fun v8=>[(6,(Al false)),(8,(O .i64 v8))]) (fun v8=>[]) ?_
   rintro v8 _ _ _ h _ _
   exact Y
instance {k:Nat}:Ahx k:=(Aqs k)
instance {a0:List Ay} {a1:Ah} {a2:Int}:OK (Lw a0 a1 a2) fun r=>Aq Tryz.prog 151 [(Ar 3 Cf) a0,Dc a1,(O .i64) a2] (Al r):=⟨fun {r} h=>by
 refine pw C0 Tryz.func151 ?_
 exact Y⟩
instance {a0:Ah} {a1 a2:Int}:OK (M0 a0 a1 a2) fun r=>Aq Tryz.prog 222 [Dc a0,(O .i64) a1,(O .i64) a2] (Al r):=⟨fun {r} h=>by
 refine pw C0 Tryz.func222 ?_
 refine ZS ?_
 refine Bq ?_
 refine ZO ?_
 refine Ax (Ax ?_)
 refine Bo h (fun v2=>[(23,(Al v2))]) (fun v2=>[]) ?_ ?_
 intro _ h _ _ _
 exact Y
 rintro v2 _ h
 refine Ao h (fun _ h=>?_) (fun _ h=>?_)
 exact Y
 refine Z ?_
 refine Az h (fun v6=>[(6,(Al false)),(7,(O .i64 v6))]) (fun v6=>[]) ?_
 rintro v6 _ _ _ h _ _
 exact Y⟩
instance {a0:List ByteArray}:OK (Q8 a0) fun r=>Aq Tryz.prog 223 [(Ar 1 Db) a0] (Al r):=⟨fun {r} h=>by
 refine pw C0 Tryz.func223 ?_
 refine Z ?_
 refine Az h (fun v1=>[(2,(Al false)),(3,(O .i64 v1))]) (fun v1=>[]) ?_
 rintro v1 _ _ _ h _ _
 refine Z ?_
 refine Ao h (fun _ h=>?_) (fun _ h=>?_)
 refine Z ?_
 refine Az h (fun v4=>[(2,(Al false)),(4,(O .i64 v4))]) (fun v4=>[]) ?_
 rintro v4 _ _ _ h _ _
 exact Y
 exact Y⟩
instance {a0:ByteArray}:OK (Xg a0) fun r=>Aq Tryz.prog 323 [Db a0] (Al r):=⟨fun {r} h=>by
 refine pw C0 Tryz.func323 ?_
 refine Z ?_
 refine Az h (fun v2=>[(2,(Al false)),(4,(O .i64 v2))]) (fun v2=>[]) ?_
 rintro v2 _ _ _ h _ _
 refine Z ?_
 refine Af4 (f:=Db) (l:=[(ByteArray.mk #[97,114,114,97,121]),(ByteArray.mk #[98,111,111,108]),(ByteArray.mk #[99,97,116,99,104]),(ByteArray.mk #[100,97,116,97]),(ByteArray.mk #[101,108,115,101]),(ByteArray.mk #[101,110,100]),(ByteArray.mk #[102,97,108,115,101]),(ByteArray.mk #[102,110]),(ByteArray.mk #[102,117,110]),(ByteArray.mk #[103,101,116]),(ByteArray.mk #[105,102]),(ByteArray.mk #[105,110]),(ByteArray.mk #[105,110,116]),(ByteArray.mk #[108,101,110]),(ByteArray.mk #[108,101,116]),(ByteArray.mk #[109,97,116,99,104]),(ByteArray.mk #[110,101,119]),(ByteArray.mk #[114,97,105,115,101]),(ByteArray.mk #[114,101,97,100]),(ByteArray.mk #[114,101,102]),(ByteArray.mk #[115,101,116]),(ByteArray.mk #[116,104,101,110]),(ByteArray.mk #[116,105,99,107]),(ByteArray.mk #[116,114,117,101]),(ByteArray.mk #[116,114,121]),(ByteArray.mk #[117,110,105,116]),(ByteArray.mk #[119,105,116,104]),(ByteArray.mk #[119,114,105,116,101])]) rfl ?_
 refine Z ?_
 refine Ao h (fun _ h=>?_) (fun _ h=>?_)
 refine Z ?_
 refine Afw (f:=Db) rfl h (fun nv3 v3 hiv3 hxv3 h=>?_)
 exact Y
 exact Y⟩
instance {a0:ByteArray}:OK (Uf a0) fun r=>Aq Tryz.prog 324 [Db a0] (.tup [(O .i64) r.1,Al r.2]):=⟨fun {r} h=>by
 refine pw C0 Tryz.func324 ?_
 refine Z ?_
 refine Az h (fun (v2,v3)=>[(2,(O .i64 0)),(3,(Al false)),(4,(O .i64 v2)),(5,(O .i64 v3))]) (fun (v2,v3)=>[]) ?_
 rintro ⟨v2,v3⟩ _ _ _ h _ _
 exact Y⟩
instance {a0:Int}:OK (Ri a0) fun r=>Aq Tryz.prog 322 [(O .u8) a0] (Al r):=⟨fun {r} h=>by
 refine pw C0 Tryz.func322 ?_
 exact Y⟩
instance {a0:Int}:OK (Ue a0) fun r=>Aq Tryz.prog 320 [(O .u8) a0] (Al r):=⟨fun {r} h=>by
 refine pw C0 Tryz.func320 ?_
 exact Y⟩
instance {a0:ByteArray}:OK (Ug a0) fun r=>Aq Tryz.prog 325 [Db a0] ((O .i64) r):=⟨fun {r} h=>by
 refine pw C0 Tryz.func325 ?_
 refine ZS ?_
 refine Bq ?_
 refine ZO ?_
 refine Ax (Ax ?_)
 refine Bo h (fun v4=>[(22,(Al v4))]) (fun v4=>[]) ?_ ?_
 intro _ h _ _ _
 exact Y
 rintro v4 _ h
 refine Ao h (fun _ h=>?_) (fun _ h=>?_)
 exact Y
 refine Z ?_
 refine Az h (fun v7=>[(2,(O .i64 0)),(4,(O .i64 v7))]) (fun v7=>[]) ?_
 rintro v7 _ _ _ h _ _
 exact Y⟩
instance {a0:Int}:OK (Rh a0) fun r=>Aq Tryz.prog 321 [(O .u8) a0] (Al r):=⟨fun {r} h=>by
 refine pw C0 Tryz.func321 ?_
 exact Y⟩
instance {a0:ByteArray}:OK (Xf a0) fun r=>Aq Tryz.prog 294 [Db a0] (.tup [(Ar 3 Abw) r.1,(O .i64) r.2.1,(O .i64) r.2.2]):=⟨fun {r} h=>by
 refine pw {T:=B7,an:=(fun s=>bif Nat.beq s 5 then .own else .ask),nl:=(fun s=>bif Nat.beq s 5 then [(0,3)] else bif Nat.beq s 2 then [(0,3)] else [])} Tryz.func294 ?_
 refine Z ?_
 refine Ao h (fun _ h=>?_) (fun _ h=>?_)
 exact Y
 refine Z ?_
 refine Az h (fun (v49,o50)=>[(2,(.sl 3 (List.map Abw []))),(3,(O .i64 0)),(4,(O .i64 0)),(5,(.arr 0 o50.length 0 o50.length)),(6,(O .i64 v49))]) (fun (v49,o50)=>[(0,.rows 335 3 (List.map Abw o50))]) ?_
 rintro ⟨v49,o50⟩ _ _ _ h _ _
 refine Z ?_
 refine Ao h (fun _ h=>?_) (fun _ h=>?_)
 refine Z ?_
 refine J4 h (fun _ h=>?_)
 refine ZO ?_
 refine Ax (Ax ?_)
 refine Bo h (fun v52=>[(35,(Al v52))]) (fun v52=>[]) ?_ ?_
 intro _ h _ _ _
 exact Y
 rintro v52 _ h
 refine Ao h (fun _ h=>?_) (fun _ h=>?_)
 exact Y
 refine Z ?_
 refine Ao h (fun _ h=>?_) (fun _ h=>?_)
 refine Z ?_
 refine Az h (fun v54=>[(6,(O .i64 v54))]) (fun v54=>[]) ?_
 rintro v54 _ _ _ h _ _
 exact Y
 refine ZS ?_
 refine Bq ?_
 refine ZO ?_
 refine Ax (J5 (Ax ?_))
 refine Bo h (fun v59=>[(70,(Al v59))]) (fun v59=>[]) ?_ ?_
 intro _ h _ _ _
 exact Y
 rintro v59 _ h
 refine Ao h (fun _ h=>?_) (fun _ h=>?_)
 refine Z ?_
 refine Az h (fun v67=>[(8,(O .i64 v67))]) (fun v67=>[]) ?_
 rintro v67 _ _ _ h _ _
 refine Z ?_
 refine Fm h (fun _ h=>?_) (fun _ h=>?_)
 refine Z ?_
 refine J4 h (fun _ h=>?_)
 refine Z ?_
 refine Bd h (fun _ h=>?_)
 refine Z ?_
 refine Fm h (fun _ h=>?_) (fun _ h=>?_)
 exact Y
 refine Z ?_
 refine J4 h (fun _ h=>?_)
 refine Z ?_
 refine Bd h (fun _ h=>?_)
 refine Z ?_
 refine Fm h (fun _ h=>?_) (fun _ h=>?_)
 exact Y
 refine Z ?_
 refine J4 h (fun _ h=>?_)
 refine Z ?_
 refine Bd h (fun _ h=>?_)
 refine Z ?_
 refine Fm h (fun _ h=>?_) (fun _ h=>?_)
 exact Y
 refine Z ?_
 refine J4 h (fun _ h=>?_)
 refine Z ?_
 refine Ao h (fun _ h=>?_) (fun _ h=>?_)
 exact Y
 replace h:=Cl h
 refine Z ?_
 refine Ao h (fun _ h=>?_) (fun _ h=>?_)
 exact Y
 refine Z ?_
 refine Bd h (fun _ h=>?_)
 refine ZO ?_
 refine Bo h (fun v79=>[(9,(O .i64 v79))]) (fun v79=>[]) ?_ ?_
 intro _ h _ _ _
 exact Y
 rintro v79 _ h
 exact Y
 replace h:=Cl h
 refine Z ?_
 refine Ao h (fun _ h=>?_) (fun _ h=>?_)
 exact Y
 refine Z ?_
 refine Bd h (fun _ h=>?_)
 refine ZO ?_
 refine Bo h (fun v79=>[(9,(O .i64 v79))]) (fun v79=>[]) ?_ ?_
 intro _ h _ _ _
 exact Y
 rintro v79 _ h
 exact Y
 refine Z ?_
 refine Bd h (fun _ h=>?_)
 refine Z ?_
 refine Ao h (fun _ h=>?_) (fun _ h=>?_)
 refine Z ?_
 refine Az h (fun v85=>[(8,(O .i64 v85))]) (fun v85=>[]) ?_
 rintro v85 _ _ _ h _ _
 refine Z ?_
 refine Fm h (fun _ h=>?_) (fun _ h=>?_)
 refine Z ?_
 refine J4 h (fun _ h=>?_)
 refine Z ?_
 refine Bd h (fun _ h=>?_)
 refine Z ?_
 refine Ao h (fun _ h=>?_) (fun _ h=>?_)
 exact Y
 replace h:=Cl h
 refine Fw (Fv rfl (Ax (Ax ?_)))
 refine Bo h (fun v89=>[(165,(Al v89))]) (fun v89=>[]) ?_ ?_
 intro _ h _ _ _
 exact Y
 rintro v89 _ h
 exact Y
 replace h:=Cl h
 refine ZO ?_
 refine Sx (Fw (Fv rfl (Ax (Ax ?_))))
 refine Bo h (fun v89=>[(165,(Al v89))]) (fun v89=>[]) ?_ ?_
 intro _ h _ _ _
 exact Y
 rintro v89 _ h
 exact Y
 exact Y
 exact Y⟩
instance {a0:ByteArray}:OK (Oz a0) fun r=>Aq Tryz.prog 221 [Db a0] (Al r):=⟨fun {r} h=>by
 refine pw C0 Tryz.func221 ?_
 exact Y⟩
instance {a0:List Ay}:OK (Tm a0) fun r=>Aq Tryz.prog 150 [(Ar 3 Cf) a0] (Al r):=⟨fun {r} h=>by
 refine pw {T:=B7,an:=(fun s=>bif Nat.beq s 4 then .own else bif Nat.beq s 3 then .own else .ask),nl:=(fun s=>bif Nat.beq s 4 then [(0,1)] else bif Nat.beq s 3 then [(0,1)] else [])} Tryz.func150 ?_
 refine Z ?_
 refine Ao h (fun _ h=>?_) (fun _ h=>?_)
 exact Y
 refine Z ?_
 refine Az h (fun (v150,o151,o152)=>[(2,(Al false)),(3,(.arr 0 o151.length 0 o151.length)),(4,(.arr 1 o152.length 0 o152.length)),(5,(O .i64 v150))]) (fun (v150,o151,o152)=>[(0,.rows 9 1 (List.map Db o151)),(1,.rows 9 1 (List.map Db o152))]) ?_
 rintro ⟨v150,o151,o152⟩ _ _ _ h _ _
 refine Z ?_
 refine Ao h (fun _ h=>?_) (fun _ h=>?_)
 refine Z ?_
 refine B2 h (fun _ _ _ _ h=>?_)
 refine ZO ?_
 refine Ax (Ax ?_)
 refine Bo h (fun v156=>[(48,(Al v156))]) (fun v156=>[]) ?_ ?_
 intro _ h _ _ _
 exact Y
 rintro v156 _ h
 refine Ao h (fun _ h=>?_) (fun _ h=>?_)
 exact Y
 refine Z ?_
 refine Pj h (fun _ h=>?_)
 refine Z ?_
 refine Az h (fun (v200,o201)=>[(2,(Al false)),(4,(.arr 1 o201.length 0 o201.length)),(7,(O .i64 v200))]) (fun (v200,o201)=>[(1,.rows 9 1 (List.map Db o201))]) ?_
 rintro ⟨v200,o201⟩ _ _ _ h _ _
 refine Z ?_
 refine Ao h (fun _ h=>?_) (fun _ h=>?_)
 refine I5 (Ax (J5 (Ax (Ax ?_))))
 refine Bo h (fun v205=>[(78,(Al v205))]) (fun v205=>[]) ?_ ?_
 intro _ h _ _ _
 exact Y
 rintro v205 _ h
 refine Ao h (fun _ h=>?_) (fun _ h=>?_)
 exact Y
 refine Z ?_
 refine B2 h (fun _ _ _ _ h=>?_)
 refine Z ?_
 refine Pj h (fun _ h=>?_)
 refine Z ?_
 refine B2 h (fun _ _ _ _ h=>?_)
 refine Z ?_
 refine Az h (fun v214=>[(2,(Al false)),(95,(O .i64 v214))]) (fun v214=>[]) ?_
 rintro v214 _ _ _ h _ _
 exact Y
 exact Y
 replace h:=Cl h
 refine Fw (Fv rfl (Ax ?_))
 refine Ee [.fz 3,.fz 4] ?_
 exact Y⟩
instance {a0:B5}:OK (Tc a0) fun r=>Aq Tryz.prog 83 [F6 a0] (Al r):=⟨fun {r} h=>by
 refine pw C0 Tryz.func83 ?_
 refine ZS ?_
 refine Bq ?_
 refine ZO ?_
 refine Ax (Ax ?_)
 refine Bo h (fun v4=>[(22,(Al v4))]) (fun v4=>[]) ?_ ?_
 intro _ h _ _ _
 exact Y
 rintro v4 _ h
 refine Ao h (fun _ h=>?_) (fun _ h=>?_)
 exact Y
 refine Z ?_
 refine Az h (fun v8=>[(2,(Al false)),(26,(O .i64 v8))]) (fun v8=>[]) ?_
 rintro v8 _ _ _ h _ _
 exact Y⟩
instance {a0:A5}:OK (I8 a0) fun r=>Aq Tryz.prog 72 [C7 a0] (C7 r):=⟨fun {r} h=>by
 refine pw C0 Tryz.func72 ?_
 exact Y⟩
instance {a0 a1:A5}:OK (To a0 a1) fun r=>Aq Tryz.prog 153 [C7 a0,C7 a1] (Al r):=⟨fun {r} h=>by
 refine pw C0 Tryz.func153 ?_
 refine ZS ?_
 refine Bq ?_
 refine ZO ?_
 refine Ax (Ax ?_)
 refine Bo h (fun v3=>[(29,(Al v3))]) (fun v3=>[]) ?_ ?_
 intro _ h _ _ _
 exact Y
 rintro v3 _ h
 refine Ao h (fun _ h=>?_) (fun _ h=>?_)
 exact Y
 refine Z ?_
 refine Az h (fun v6=>[(4,(Al false)),(5,(O .i64 v6))]) (fun v6=>[]) ?_
 rintro v6 _ _ _ h _ _
 refine Z ?_
 refine Ao h (fun _ h=>?_) (fun _ h=>?_)
 exact Y
 replace h:=Cl h
 refine Z ?_
 refine Az h (fun v12=>[(4,(Al false)),(6,(O .i64 v12))]) (fun v12=>[]) ?_
 rintro v12 _ _ _ h _ _
 exact Y⟩
instance {a0:A5}:OK (Mn a0) fun r=>Aq Tryz.prog 33 [C7 a0] ((O .i64) r):=⟨fun {r} h=>by
 refine pw C0 Tryz.func33 ?_
 exact Y⟩
instance {a0:Bool}:OK (Q7 a0) fun r=>Aq Tryz.prog 176 [Al a0] ((O .i64) r):=⟨fun {r} h=>by
 refine pw C0 Tryz.func176 ?_
 exact Y⟩
abbrev Ahy (k:Nat):Prop:=∀{a0 a1:A8},OK (Mt k a0 a1) fun r=>Aq Tryz.prog 109 [Et a0,Et a1] ((O .i64) r)
abbrev Ahz (k:Nat):Prop:=∀{a0 a1:List A8},OK (T0 k a0 a1) fun r=>Aq Tryz.prog 177 [(Fx 2 Gv) a0,(Fx 2 Gv) a1] ((O .i64) r)
theorem Ah0 (k:Nat):Ahy k/\Ahz k:=by
 induction k with
 | zero=>exact ⟨okz,okz⟩
 | succ k ih=>
  obtain ⟨i0_,i1_⟩:=ih
  refine ⟨@fun a0 a1=>⟨fun {r} h=>?_⟩,@fun a0 a1=>⟨fun {r} h=>?_⟩⟩
  .unfold Mt at h
   refine pw C0 Tryz.func109 ?_
   exact Y
  .unfold T0 at h
   refine pw C0 Tryz.func177 ?_
   refine Z ?_
   refine Ao h (fun _ h=>?_) (fun _ h=>?_)
   exact Y
   refine Z ?_
   refine Az h (fun v5=>[(4,(O .i64 0)),(20,(O .i64 v5))]) (fun v5=>[]) ?_
   rintro v5 _ _ _ h _ _
   exact Y
instance {k:Nat}:Ahy k:=(Ah0 k).1
instance {k:Nat}:Ahz k:=(Ah0 k).2
instance {a0:Bool}:OK (Ot a0) fun r=>Aq Tryz.prog 178 [Al a0] ((O .i64) r):=⟨fun {r} h=>by
 refine pw C0 Tryz.func178 ?_
 exact Y⟩
instance {a0 a1:Cu}:OK (Ls a0 a1) fun r=>Aq Tryz.prog 110 [Gc a0,Gc a1] ((O .i64) r):=⟨fun {r} h=>by
 refine pw C0 Tryz.func110 ?_
 refine Z ?_
 refine Ao h (fun _ h=>?_) (fun _ h=>?_)
 exact Y
 refine Z ?_
 refine Az h (fun v14=>[(4,(O .i64 0)),(24,(O .i64 v14))]) (fun v14=>[]) ?_
 rintro v14 _ _ _ h _ _
 exact Y⟩
instance {a0:Bool}:OK (Om a0) fun r=>Aq Tryz.prog 108 [Al a0] ((O .i64) r):=⟨fun {r} h=>by
 refine pw C0 Tryz.func108 ?_
 exact Y⟩
instance {a0 a1:Bb}:OK (J6 a0 a1) fun r=>Aq Tryz.prog 54 [Ez a0,Ez a1] ((O .i64) r):=⟨fun {r} h=>by
 refine pw C0 Tryz.func54 ?_
 refine Z ?_
 refine Ao h (fun _ h=>?_) (fun _ h=>?_)
 exact Y
 refine Z ?_
 refine Az h (fun v12=>[(4,(O .i64 0)),(27,(O .i64 v12))]) (fun v12=>[]) ?_
 rintro v12 _ _ _ h _ _
 refine Z ?_
 refine Ao h (fun _ h=>?_) (fun _ h=>?_)
 exact Y
 replace h:=Cl h
 refine Z ?_
 refine Ao h (fun _ h=>?_) (fun _ h=>?_)
 exact Y
 refine Z ?_
 refine Az h (fun v31=>[(4,(O .i64 0)),(92,(O .i64 v31))]) (fun v31=>[]) ?_
 rintro v31 _ _ _ h _ _
 exact Y⟩
end Go.Ab
namespace Go.Ab
open Go Go.Proofs
set_option maxRecDepth 10000
set_option maxHeartbeats 4000000
set_option linter.unusedVariables false
instance {a0:List Ay} {a1 a2:Int}:OK (Rm a0 a1 a2) fun r=>Aq Tryz.prog 381 [(Ar 3 Cf) a0,(O .i64) a1,(O .i64) a2] ((Ar 1 Al) r):=⟨fun {r} h=>by
 refine pw {T:=B7,an:=(fun s=>bif Nat.beq s 7 then .own else .ask),nl:=(fun s=>bif Nat.beq s 7 then [(0,1)] else bif Nat.beq s 6 then [(0,1)] else [])} Tryz.func381 ?_
 refine ZS ?_
 refine Bq ?_
 refine ZO ?_
 refine Ax (Ax ?_)
 refine Bo h (fun v2=>[(31,(Al v2))]) (fun v2=>[]) ?_ ?_
 intro _ h _ _ _
 exact Y
 rintro v2 _ h
 refine Ao h (fun _ h=>?_) (fun _ h=>?_)
 exact Y
 refine Z ?_
 refine B2 h (fun _ _ _ _ h=>?_)
 refine Z ?_
 refine B2 h (fun _ _ _ _ h=>?_)
 refine Z ?_
 refine Az h (fun (v18,o19)=>[(7,(.arr 0 o19.length 0 o19.length)),(42,(O .i64 v18))]) (fun (v18,o19)=>[(0,.rows 4 1 (List.map Al o19))]) ?_
 rintro ⟨v18,o19⟩ _ _ _ h _ _
 exact Y⟩
abbrev Ah1 (k:Nat):Prop:=∀{a0:Ah},OK (Pf k a0) fun r=>Aq Tryz.prog 392 [Dc a0] (Dc r)
theorem Aqt (k:Nat):Ah1 k:=by
 induction k with
 | zero=>exact okz
 | succ k ih=>
  refine @fun a0=>⟨fun {r} h=>?_⟩
  .unfold Pf at h
   refine pw {T:=B7,an:=(fun _=>.ask),nl:=(fun s=>bif Nat.beq s 18 then [(0,3)] else [])} Tryz.func392 ?_
   refine ZS ?_
   refine Bq ?_
   refine ZS ?_
   refine Bq ?_
   refine ZO ?_
   refine Ax (Ax ?_)
   refine Ee [.own 3 2 25 3] ?_
   refine Z ?_
   refine Az h (fun (v13,o14)=>[(4,(O .i64 v13))]) (fun (v13,o14)=>[(2,.cells 25 [(O .i64 a0.Kind),(O .i64 a0.Num),(.arr 3 o14.length 0 o14.length)]),(3,.rows 25 3 (Bh o14))]) ?_
   rintro ⟨v13,o14⟩ _ _ _ h _ _
   exact Y
instance {k:Nat}:Ah1 k:=(Aqt k)
abbrev Ah2 (k:Nat):Prop:=∀{a0:Ah} {a1:List Ah},OK (M7 k a0 a1) fun r=>Aq Tryz.prog 380 [Dc a0,(Fx 3 Bh) a1] (Dc r)
theorem Aqu (k:Nat):Ah2 k:=by
 induction k with
 | zero=>exact okz
 | succ k ih=>
  refine @fun a0 a1=>⟨fun {r} h=>?_⟩
  .unfold M7 at h
   refine pw {T:=B7,an:=(fun _=>.ask),nl:=(fun s=>bif Nat.beq s 41 then [(0,3)] else [])} Tryz.func380 ?_
   refine ZS ?_
   refine Bq ?_
   refine ZO ?_
   refine Ax (Ax ?_)
   refine Bo h (fun v3=>[(21,(Al v3))]) (fun v3=>[]) ?_ ?_
   intro _ h _ _ _
   exact Y
   rintro v3 _ h
   refine Ao h (fun _ h=>?_) (fun _ h=>?_)
   exact Y
   refine ZS ?_
   refine Bq ?_
   refine ZO ?_
   refine Ax (Ax ?_)
   refine Ee [.own 5 2 25 3] ?_
   refine Z ?_
   refine Az h (fun (v16,o17)=>[(6,(O .i64 v16))]) (fun (v16,o17)=>[(2,.cells 25 [(O .i64 a0.Kind),(O .i64 a0.Num),(.arr 3 o17.length 0 o17.length)]),(3,.rows 25 3 (Bh o17))]) ?_
   rintro ⟨v16,o17⟩ _ _ _ h _ _
   exact Y
instance {k:Nat}:Ah2 k:=(Aqu k)
instance {a0:List Ay} {a1:Ah} {a2:Int}:OK (Pe a0 a1 a2) fun r=>Aq Tryz.prog 360 [(Ar 3 Cf) a0,Dc a1,(O .i64) a2] (.tup [(Fx 3 Bh) r.1,Al r.2]):=⟨fun {r} h=>by
 refine pw {T:=B7,an:=(fun s=>bif Nat.beq s 8 then .own else .ask),nl:=(fun s=>bif Nat.beq s 8 then [(0,3)] else bif Nat.beq s 6 then [(0,3)] else [])} Tryz.func360 ?_
 refine ZS ?_
 refine Bq ?_
 refine ZO ?_
 refine Ax (Ax ?_)
 refine Bo h (fun v4=>[(53,(Al v4))]) (fun v4=>[]) ?_ ?_
 intro _ h _ _ _
 exact Y
 rintro v4 _ h
 refine Ao h (fun _ h=>?_) (fun _ h=>?_)
 exact Y
 refine Z ?_
 refine B2 h (fun _ _ _ _ h=>?_)
 refine Z ?_
 refine B2 h (fun _ _ _ _ h=>?_)
 refine Z ?_
 refine Az h (fun (v22,o23)=>[(6,(.sl 3 (Bh []))),(7,(Al false)),(8,(.arr 1 o23.length 0 o23.length)),(65,(O .i64 v22))]) (fun (v22,o23)=>[(1,.rows 25 3 (Bh o23))]) ?_
 rintro ⟨v22,o23⟩ _ _ _ h _ _
 exact Y⟩
instance {a0:List Ay} {a1:Ah} {a2:Int}:OK (Ul a0 a1 a2) fun r=>Aq Tryz.prog 361 [(Ar 3 Cf) a0,Dc a1,(O .i64) a2] (.tup [(Ar 1 (O .i64)) r.1,(Ar 1 (O .i64)) r.2.1,Al r.2.2]):=⟨fun {r} h=>by
 refine pw {T:=B7,an:=(fun s=>bif Nat.beq s 12 then .own else bif Nat.beq s 11 then .own else .ask),nl:=(fun s=>bif Nat.beq s 12 then [(0,1)] else bif Nat.beq s 11 then [(0,1)] else bif Nat.beq s 7 then [(0,1)] else bif Nat.beq s 6 then [(0,1)] else [])} Tryz.func361 ?_
 refine Z ?_
 refine Bd h (fun _ h=>?_)
 refine Z ?_
 refine Ao h (fun _ h=>?_) (fun _ h=>?_)
 exact Y
 refine Z ?_
 refine Bd h (fun _ h=>?_)
 refine Z ?_
 refine Az h (fun (v15,o16,o17)=>[(11,(.arr 1 o16.length 0 o16.length)),(12,(.arr 2 o17.length 0 o17.length)),(30,(O .i64 v15))]) (fun (v15,o16,o17)=>[(1,.rows 3 1 (List.map (O .i64) o16)),(2,.rows 3 1 (List.map (O .i64) o17))]) ?_
 rintro ⟨v15,o16,o17⟩ _ _ _ h _ _
 exact Y⟩
instance {a0:List Ay} {a1:Ah} {a2:Int}:OK (Rj a0 a1 a2) fun r=>Aq Tryz.prog 327 [(Ar 3 Cf) a0,Dc a1,(O .i64) a2] (.tup [(Fx 3 Bh) r.1,Al r.2]):=⟨fun {r} h=>by
 refine pw {T:=B7,an:=(fun s=>bif Nat.beq s 13 then .own else .ask),nl:=(fun s=>bif Nat.beq s 13 then [(0,3)] else bif Nat.beq s 6 then [(0,3)] else [])} Tryz.func327 ?_
 refine Z ?_
 refine Bd h (fun _ h=>?_)
 refine Z ?_
 refine Ao h (fun _ h=>?_) (fun _ h=>?_)
 exact Y
 refine Z ?_
 refine Bd h (fun _ h=>?_)
 refine Z ?_
 refine Az h (fun (v13,o14)=>[(13,(.arr 1 o14.length 0 o14.length)),(35,(O .i64 v13))]) (fun (v13,o14)=>[(1,.rows 25 3 (Bh o14))]) ?_
 rintro ⟨v13,o14⟩ _ _ _ h _ _
 exact Y⟩
abbrev Ah3 (k:Nat):Prop:=∀{a0:List Ay} {a1:Ah} {a2:A8},OK (M4 k a0 a1 a2) fun r=>Aq Tryz.prog 295 [(Ar 3 Cf) a0,Dc a1,Et a2] ((O .i64) r)
abbrev Ah4 (k:Nat):Prop:=∀{a0:List Ay} {a1:List Ah} {a2:List A8},OK (M5 k a0 a1 a2) fun r=>Aq Tryz.prog 326 [(Ar 3 Cf) a0,(Fx 3 Bh) a1,(Fx 2 Gv) a2] ((O .i64) r)
theorem Ah5 (k:Nat):Ah3 k/\Ah4 k:=by
 induction k with
 | zero=>exact ⟨okz,okz⟩
 | succ k ih=>
  obtain ⟨i0_,i1_⟩:=ih
  refine ⟨@fun a0 a1 a2=>⟨fun {r} h=>?_⟩,@fun a0 a1 a2=>⟨fun {r} h=>?_⟩⟩
  .unfold M4 at h
   refine pw C0 Tryz.func295 ?_
   refine Z ?_
   refine Ao h (fun _ h=>?_) (fun _ h=>?_)
   exact Y
   refine Z ?_
   refine Ao h (fun _ h=>?_) (fun _ h=>?_)
   exact Y
   refine Z ?_
   refine Ao h (fun _ h=>?_) (fun _ h=>?_)
   refine Ax (Ax ?_)
   refine Bo h (fun v4=>[(54,(Al v4))]) (fun v4=>[]) ?_ ?_
   intro _ h _ _ _
   exact Y
   rintro v4 _ h
   refine Ao h (fun _ h=>?_) (fun _ h=>?_)
   exact Y
   refine Z ?_
   refine Az h (fun (v10,v11)=>[(6,(O .i64 0)),(7,(O .i64 v10)),(58,(O .i64 v11))]) (fun (v10,v11)=>[]) ?_
   rintro ⟨v10,v11⟩ _ _ _ h _ _
   refine Z ?_
   refine Ao h (fun _ h=>?_) (fun _ h=>?_)
   refine Z ?_
   refine B2 h (fun _ _ _ _ h=>?_)
   refine ZO ?_
   refine Ax (Ax ?_)
   refine Bo h (fun v14=>[(69,(Al v14))]) (fun v14=>[]) ?_ ?_
   intro _ h _ _ _
   exact Y
   rintro v14 _ h
   exact Y
   exact Y
   exact Y
  .unfold M5 at h
   refine pw C0 Tryz.func326 ?_
   refine Z ?_
   refine Ao h (fun _ h=>?_) (fun _ h=>?_)
   exact Y
   refine Z ?_
   refine Az h (fun (v4,v5)=>[(6,(O .i64 0)),(7,(O .i64 v4)),(17,(O .i64 v5))]) (fun (v4,v5)=>[]) ?_
   rintro ⟨v4,v5⟩ _ _ _ h _ _
   exact Y
instance {k:Nat}:Ah3 k:=(Ah5 k).1
instance {k:Nat}:Ah4 k:=(Ah5 k).2
instance {a0:List Ay} {a1:Ah} {a2:A8}:OK (Q9 a0 a1 a2) fun r=>Aq Tryz.prog 227 [(Ar 3 Cf) a0,Dc a1,Et a2] ((O .i64) r):=⟨fun {r} h=>by
 refine pw C0 Tryz.func227 ?_
 exact Y⟩
instance {a0:Cu}:OK (O1 a0) fun r=>Aq Tryz.prog 228 [Gc a0] (Al r):=⟨fun {r} h=>by
 refine pw C0 Tryz.func228 ?_
 refine ZS ?_
 refine Bq ?_
 refine ZO ?_
 refine Ax (Ax ?_)
 refine Bo h (fun v2=>[(18,(Al v2))]) (fun v2=>[]) ?_ ?_
 intro _ h _ _ _
 exact Y
 rintro v2 _ h
 refine Ao h (fun _ h=>?_) (fun _ h=>?_)
 exact Y
 refine Z ?_
 refine Az h (fun v5=>[(2,(Al false)),(22,(O .i64 v5))]) (fun v5=>[]) ?_
 rintro v5 _ _ _ h _ _
 exact Y⟩
instance {a0:B5} {a1:Int}:OK (O0 a0 a1) fun r=>Aq Tryz.prog 226 [F6 a0,(O .i64) a1] (.tup [Dc r.1,Al r.2]):=⟨fun {r} h=>by
 refine pw {T:=B7,an:=(fun _=>.ask),nl:=(fun s=>bif Nat.beq s 19 then [(2,3)] else [])} Tryz.func226 ?_
 refine Z ?_
 refine Ao h (fun _ h=>?_) (fun _ h=>?_)
 exact Y
 refine I5 (Ax (Ax ?_))
 refine Bo h (fun v3=>[(18,(Al v3))]) (fun v3=>[]) ?_ ?_
 intro _ h _ _ _
 exact Y
 rintro v3 _ h
 exact Y⟩
instance {a0:B5} {a1:Cu}:OK (O2 a0 a1) fun r=>Aq Tryz.prog 229 [F6 a0,Gc a1] (Al r):=⟨fun {r} h=>by
 refine pw C0 Tryz.func229 ?_
 refine Z ?_
 refine Az h (fun v7=>[(4,(Al false)),(12,(O .i64 v7))]) (fun v7=>[]) ?_
 rintro v7 _ _ _ h _ _
 exact Y⟩
instance {a0:B5} {a1:Bb}:OK (Tn a0 a1) fun r=>Aq Tryz.prog 152 [F6 a0,Ez a1] ((O .i64) r):=⟨fun {r} h=>by
 refine pw C0 Tryz.func152 ?_
 refine Z ?_
 refine Az h (fun (v9,v10)=>[(4,(O .i64 0)),(5,(O .i64 v9)),(16,(O .i64 v10))]) (fun (v9,v10)=>[]) ?_
 rintro ⟨v9,v10⟩ _ _ _ h _ _
 refine Z ?_
 refine Ao h (fun _ h=>?_) (fun _ h=>?_)
 refine Z ?_
 refine B2 h (fun _ _ _ _ h=>?_)
 refine Z ?_
 refine Bd h (fun _ h=>?_)
 refine ZO ?_
 refine Ax (Ax ?_)
 refine Bo h (fun v16=>[(45,(Al v16))]) (fun v16=>[]) ?_ ?_
 intro _ h _ _ _
 exact Y
 rintro v16 _ h
 exact Y
 replace h:=Cl h
 refine Z ?_
 refine Az h (fun (v24,v25)=>[(4,(O .i64 0)),(5,(O .i64 v24)),(61,(O .i64 v25))]) (fun (v24,v25)=>[]) ?_
 rintro ⟨v24,v25⟩ _ _ _ h _ _
 exact Y⟩
instance {a0:B5} {a1:List Aj}:OK (Td a0 a1) fun r=>Aq Tryz.prog 84 [F6 a0,(Ar 5 Bj) a1] (Al r):=⟨fun {r} h=>by
 refine pw C0 Tryz.func84 ?_
 refine Z ?_
 refine Ao h (fun _ h=>?_) (fun _ h=>?_)
 exact Y
 refine Z ?_
 refine Az h (fun v8=>[(4,(Al false)),(12,(O .i64 v8))]) (fun v8=>[]) ?_
 rintro v8 _ _ _ h _ _
 exact Y⟩
instance {a0:B5} {a1:List Aj}:OK (Ll a0 a1) fun r=>Aq Tryz.prog 41 [F6 a0,(Ar 5 Bj) a1] (Al r):=⟨fun {r} h=>by
 refine pw C0 Tryz.func41 ?_
 exact Y⟩
instance {a0 a1:A5}:OK (Oi a0 a1) fun r=>Aq Tryz.prog 86 [C7 a0,C7 a1] (C7 r):=⟨fun {r} h=>by
 refine pw C0 Tryz.func86 ?_
 exact Y⟩
instance {a0 a1:List Int}:OK (Ti a0 a1) fun r=>Aq Tryz.prog 112 [(Ar 1 (O .u32)) a0,(Ar 1 (O .u32)) a1] ((Ar 1 (O .u32)) r):=⟨fun {r} h=>by
 refine pw {T:=B7,an:=(fun s=>bif Nat.beq s 5 then .own else .ask),nl:=(fun s=>bif Nat.beq s 5 then [(0,1)] else bif Nat.beq s 4 then [(0,1)] else [])} Tryz.func112 ?_
 refine Z ?_
 refine Az h (fun (v21,v22,o23)=>[(5,(.arr 0 o23.length 0 o23.length)),(6,(O .u32 v21)),(7,(O .i64 v22))]) (fun (v21,v22,o23)=>[(0,.rows 133 1 (List.map (O .u32) o23))]) ?_
 rintro ⟨v21,v22,o23⟩ _ _ _ h _ _
 refine Ax (Ax ?_)
 refine Bo h (fun v24=>[(22,(Al v24))]) (fun v24=>[]) ?_ ?_
 intro _ h _ _ _
 exact Y
 rintro v24 _ h
 refine Ao h (fun _ h=>?_) (fun _ h=>?_)
 refine ZS ?_
 refine Bq ?_
 refine ZS ?_
 refine Bq ?_
 refine ZO ?_
 refine Bo h (fun v26=>[(8,(O .u32 v26))]) (fun v26=>[]) ?_ ?_
 intro _ h _ _ _
 exact Y
 rintro v26 _ h
 refine ZS ?_
 refine Bq ?_
 refine ZO ?_
 refine Bo h (fun v28=>[(8,(O .u32 v28))]) (fun v28=>[]) ?_ ?_
 intro _ h _ _ _
 exact Y
 rintro v28 _ h
 exact Y
 exact Y⟩
instance {a0 a1:A5}:OK (Og a0 a1) fun r=>Aq Tryz.prog 55 [C7 a0,C7 a1] (C7 r):=⟨fun {r} h=>by
 refine pw C0 Tryz.func55 ?_
 exact Y⟩
abbrev Ah6 (k:Nat):Prop:=∀{a0:A8},OK (O3 k a0) fun r=>Aq Tryz.prog 230 [Et a0] (Et r)
theorem Aqv (k:Nat):Ah6 k:=by
 induction k with
 | zero=>exact okz
 | succ k ih=>
  refine @fun a0=>⟨fun {r} h=>?_⟩
  .unfold O3 at h
   refine pw {T:=B7,an:=(fun _=>.ask),nl:=(fun s=>bif Nat.beq s 17 then [(0,2)] else [])} Tryz.func230 ?_
   refine ZS ?_
   refine Bq ?_
   refine ZS ?_
   refine Bq ?_
   refine ZO ?_
   refine Ax (Ax ?_)
   refine Ee [.own 3 1 90 2] ?_
   refine Z ?_
   refine Az h (fun (v15,o16)=>[(12,(O .i64 v15))]) (fun (v15,o16)=>[(2,.cells 90 [(O .i64 a0.Num),(.arr 3 o16.length 0 o16.length)]),(3,.rows 90 2 (Gv o16))]) ?_
   rintro ⟨v15,o16⟩ _ _ _ h _ _
   exact Y
instance {k:Nat}:Ah6 k:=(Aqv k)
instance {a0:Cu}:OK (W3 a0) fun r=>Aq Tryz.prog 231 [Gc a0] (Gc r):=⟨fun {r} h=>by
 refine pw C0 Tryz.func231 ?_
 exact Y⟩
instance {a0:Bb}:OK (Tp a0) fun r=>Aq Tryz.prog 154 [Ez a0] (Ez r):=⟨fun {r} h=>by
 refine pw {T:=B7,an:=(fun _=>.ask),nl:=(fun s=>bif Nat.beq s 35 then [(0,3)] else bif Nat.beq s 16 then [(0,3)] else [])} Tryz.func154 ?_
 refine ZS ?_
 refine Bq ?_
 refine ZS ?_
 refine Bq ?_
 refine ZO ?_
 refine Ax (Ax ?_)
 refine Ee [.own 3 0 92 3,.own 3 1 95 3] ?_
 refine Z ?_
 refine Az h (fun (v16,o17)=>[(11,(O .i64 v16))]) (fun (v16,o17)=>[(2,.cells 45 [(.arr 3 o17.length 0 o17.length),(.arr 4 0 0 0)]),(3,.rows 92 3 (List.map El o17))]) ?_
 rintro ⟨v16,o17⟩ _ _ _ h _ _
 refine Z ?_
 refine Ao h (fun _ h=>?_) (fun _ h=>?_)
 exact Y
 replace h:=Cl h
 refine Z ?_
 refine Az h (fun (v33,o34)=>[(30,(O .i64 v33))]) (fun (v33,o34)=>[(2,.cells 45 [(.arr 3 o17.length 0 o17.length),(.arr 4 o34.length 0 o34.length)]),(4,.rows 95 3 (List.map Ef o34))]) ?_
 rintro ⟨v33,o34⟩ _ _ _ h _ _
 exact Y⟩
instance {a0:Nat} {a1:Bb} {a2:A5} {b0:List Aj}:OK (Qx a0 a1 a2 b0) fun r=>Ce Tryz.prog 85 [(.arr 0 b0.length 0 a0),Ez a1,C7 a2] [.rows 84 5 (List.map Bj b0)] (.arr 0 r.2.length 0 r.1) [.rows 84 5 (List.map Bj r.2)]:=⟨fun {r} h=>by
 refine aw {T:=B7,an:=(fun _=>.ask),nl:=(fun s=>bif Nat.beq s 76 then [(1,1),(2,1),(3,3),(4,3)] else bif Nat.beq s 6 then [(0,5)] else [])} false Tryz.func85 ?_
 refine Z ?_
 refine Az h (fun (v6,v7)=>[(7,(O .i64 v6)),(8,(O .i64 v7))]) (fun (v6,v7)=>[]) ?_
 rintro ⟨v6,v7⟩ _ _ _ h _ _
 refine Z ?_
 refine Ao h (fun _ h=>?_) (fun _ h=>?_)
 exact Y
 replace h:=Cl h
 refine Fw (Fv rfl (Ax (Ax ?_)))
 refine Bo h (fun v14=>[(43,(Al v14))]) (fun v14=>[]) ?_ ?_
 intro _ h _ _ _
 exact Y
 rintro v14 _ h
 refine Ao h (fun _ h=>?_) (fun _ h=>?_)
 refine Z ?_
 refine K1 h (fun _ _ _ _ h=>?_)
 refine Z ?_
 refine Bd h (fun v16 h=>?_)
 refine Z ?_
 refine K1 h (fun _ v17 hiv17 _ h=>?_)
 refine Z ?_
 refine Lk (f:=Bj) (x:=(Aj.mk v16 v17.Mono)) (j:=(((0:Nat):Int)+v6)) rfl rfl rfl (Aaq _ hiv17) ?_
 refine Z ?_
 refine K1 h (fun _ _ _ _ h=>?_)
 refine Z ?_
 refine Bd h (fun _ h=>?_)
 refine Z ?_
 refine Ao h (fun _ h=>?_) (fun _ h=>?_)
 refine Z ?_
 refine Apf (f:=Bj) (l:=(Cq b0 (((0:Nat):Int)+v6) (Aj.mk v16 v17.Mono))) rfl (Fb (l:=b0) rfl (((0:Nat):Int)+v6) (Aj.mk v16 v17.Mono)) h (fun v20 h=>?_)
 refine Z ?_
 refine Afy (f:=Bj) (l:=(Cq b0 (((0:Nat):Int)+v6) (Aj.mk v16 v17.Mono))) rfl (Fb (l:=b0) rfl (((0:Nat):Int)+v6) (Aj.mk v16 v17.Mono)) h (fun v22 h=>?_) (fun h=>?_)
 refine Z ?_
 refine Apb (f:=Bj) (l:=(Cq b0 (((0:Nat):Int)+v6) (Aj.mk v16 v17.Mono))) rfl (Fb (l:=b0) rfl (((0:Nat):Int)+v6) (Aj.mk v16 v17.Mono)) (Fb (l:=b0) rfl (((0:Nat):Int)+v6) (Aj.mk v16 v17.Mono)) h (fun v23 h=>?_)
 exact Y
 refine Z ?_
 refine Afx (f:=Bj) (l:=(Cq b0 (((0:Nat):Int)+v6) (Aj.mk v16 v17.Mono))) (ys:=[]) rfl rfl (Fb (l:=b0) rfl (((0:Nat):Int)+v6) (Aj.mk v16 v17.Mono)) h (fun v24 h=>?_)
 exact Y
 refine Z ?_
 cases h
 exact ⟨congrArg (fun q_=>AV.arr 0 q_ 0 _) (Fb (l:=b0) rfl (((0:Nat):Int)+v6) (Aj.mk v16 v17.Mono)),rfl,trivial⟩
 refine Z ?_
 refine Bd h (fun _ h=>?_)
 refine Z ?_
 refine Ao h (fun _ h=>?_) (fun _ h=>?_)
 exact Y
 refine Z ?_
 refine Afx (f:=Bj) (l:=b0) (ys:=[(Aj.mk (A5.mk false [] []) (Bb.mk [] []))]) rfl rfl rfl h (fun v26 h=>?_)
 refine ZO ?_
 refine Ax ?_
 refine Aar h (fun o3_ h hj3=>?_)
 refine Qm (fun (o32:(List Aj))=>o32=o3_/\v26.1.length=o32.length) (fun o32=>[]) (fun o32=>[(0,.rows 84 5 (List.map Bj o32))]) (fun _=>rfl) ?_ ?_
 intro K3 hK3
 refine Z ?_
 refine Afy (f:=Bj) (l:=v26.1) rfl rfl h (fun v28 h=>?_) (fun h=>?_)
 refine Z ?_
 refine Aas (f:=Bj) (l:=v26.1) rfl rfl h (fun v29 h=>?_)
 refine Z ?_
 refine Apc (f:=Bj) (l:=v26.1) rfl rfl rfl h (fun o30 hco30 h=>?_)
 refine Z ?_
 exact hK3 o30 _ _ _ ⟨(Option.some.inj h),(Apd rfl hco30)⟩ trivial ⟨⟨rfl,rfl⟩,⟨rfl,rfl⟩,⟨rfl,rfl⟩,trivial⟩
 refine Z ?_
 refine Aas (f:=Bj) (l:=v26.1) rfl rfl h (fun v31 h=>?_)
 refine Z ?_
 exact hK3 v26.1 _ _ _ ⟨(Option.some.inj h),rfl⟩ trivial ⟨⟨rfl,rfl⟩,⟨rfl,rfl⟩,⟨rfl,rfl⟩,trivial⟩
 rintro o32 u3 ⟨hJ3,q32⟩
 have h:=hj3 _ hJ3
 refine Z ?_
 refine Bd h (fun v33 h=>?_)
 refine Z ?_
 refine Bd h (fun v34 h=>?_)
 refine Z ?_
 refine K1 h (fun _ _ hiv35 _ h=>?_)
 refine Z ?_
 refine Lk (f:=Bj) (x:=(Aj.mk v33 v34)) (j:=(((0:Nat):Int)+v6)) rfl rfl rfl (Aaq _ hiv35) ?_
 refine Z ?_
 cases h
 exact ⟨congrArg (fun q_=>AV.arr 0 q_ 0 _) (Fb (l:=o32) q32 (((0:Nat):Int)+v6) (Aj.mk v33 v34)),rfl,trivial⟩⟩
instance {a0 a1:List Aj} {a2:A5}:OK (Mo a0 a1 a2) fun r=>Aq Tryz.prog 42 [(Ar 5 Bj) a0,(Ar 5 Bj) a1,C7 a2] ((Ar 5 Bj) r):=⟨fun {r} h=>by
 refine pw {T:=B7,an:=(fun s=>bif Nat.beq s 7 then .own else .ask),nl:=(fun s=>bif Nat.beq s 7 then [(0,5)] else bif Nat.beq s 6 then [(0,5)] else [])} Tryz.func42 ?_
 refine Z ?_
 refine Az h (fun (v12,v13,o14)=>[(7,(.arr 1 o14.length 0 v12)),(14,(O .i64 v13))]) (fun (v12,v13,o14)=>[(1,.rows 84 5 (List.map Bj o14))]) ?_
 rintro ⟨v12,v13,o14⟩ _ _ _ h _ _
 refine Z ?_
 refine Ao h (fun _ h=>?_) (fun _ h=>?_)
 refine Z ?_
 refine B2 h (fun _ _ _ _ h=>?_)
 refine Z ?_
 refine Be [1] h (fun _ h=>?_)
 exact Y
 replace h:=Cl h
 refine Z ?_
 refine Az h (fun (v31,v32,o33)=>[(7,(.arr 1 o33.length 0 v31)),(27,(O .i64 v32))]) (fun (v31,v32,o33)=>[(1,.rows 84 5 (List.map Bj o33))]) ?_
 rintro ⟨v31,v32,o33⟩ _ _ _ h _ _
 refine Z ?_
 refine Ao h (fun _ h=>?_) (fun _ h=>?_)
 refine Z ?_
 refine B2 h (fun _ _ _ _ h=>?_)
 refine Z ?_
 refine Bd h (fun _ h=>?_)
 refine Z ?_
 refine Be [1] h (fun _ h=>?_)
 exact Y
 replace h:=Cl h
 refine ZS ?_
 refine Bq ?_
 refine ZO ?_
 refine Ee [.fzp 6] ?_
 refine Ape (f:=Bj) (l:=o33) rfl rfl h (fun o40 h=>?_)
 exact Y⟩
instance {a0:List Aj}:OK (Qu a0) fun r=>Aq Tryz.prog 47 [(Ar 5 Bj) a0] (.tup [(Ar 5 Bj) r.1,(O .i64) r.2]):=⟨fun {r} h=>by
 refine pw {T:=B7,an:=(fun _=>.ask),nl:=(fun s=>bif Nat.beq s 2 then [(0,5)] else [])} Tryz.func47 ?_
 exact Y⟩
instance {a0:B5} {a1 a2:List Aj}:OK (Qo a0 a1 a2) fun r=>Aq Tryz.prog 13 [F6 a0,(Ar 5 Bj) a1,(Ar 5 Bj) a2] (.tup [(Ar 5 Bj) r.1,(O .i64) r.2]):=⟨fun {r} h=>by
 refine pw {T:=B7,an:=(fun _=>.ask),nl:=(fun s=>bif Nat.beq s 6 then [(0,5)] else [])} Tryz.func13 ?_
 refine ZS ?_
 refine Bq ?_
 refine ZO ?_
 refine Ax (Ax ?_)
 refine Bo h (fun v4=>[(17,(Al v4))]) (fun v4=>[]) ?_ ?_
 intro _ h _ _ _
 exact Y
 rintro v4 _ h
 exact Y⟩
instance {a0:B5} {a1:List Aj} {a2:A5}:OK (Qq a0 a1 a2) fun r=>Aq Tryz.prog 18 [F6 a0,(Ar 5 Bj) a1,C7 a2] (.tup [(Ar 5 Bj) r.1,(O .i64) r.2]):=⟨fun {r} h=>by
 refine pw {T:=B7,an:=(fun _=>.ask),nl:=(fun s=>bif Nat.beq s 6 then [(0,5)] else [])} Tryz.func18 ?_
 exact Y⟩
instance {a0:B5} {a1 a2:List Aj}:OK (Qp a0 a1 a2) fun r=>Aq Tryz.prog 15 [F6 a0,(Ar 5 Bj) a1,(Ar 5 Bj) a2] (.tup [(Ar 5 Bj) r.1,(O .i64) r.2]):=⟨fun {r} h=>by
 refine pw {T:=B7,an:=(fun _=>.ask),nl:=(fun s=>bif Nat.beq s 6 then [(0,5)] else [])} Tryz.func15 ?_
 refine ZS ?_
 refine Bq ?_
 refine ZO ?_
 refine Ax (Ax ?_)
 refine Bo h (fun v4=>[(17,(Al v4))]) (fun v4=>[]) ?_ ?_
 intro _ h _ _ _
 exact Y
 rintro v4 _ h
 exact Y⟩
instance {a0:B5} {a1 a2:List Aj} {a3:A5}:OK (Wt a0 a1 a2 a3) fun r=>Aq Tryz.prog 4 [F6 a0,(Ar 5 Bj) a1,(Ar 5 Bj) a2,C7 a3] (Al r):=⟨fun {r} h=>by
 refine pw C0 Tryz.func4 ?_
 refine ZS ?_
 refine Bq ?_
 refine ZO ?_
 refine Ax (Ax ?_)
 refine Bo h (fun v5=>[(31,(Al v5))]) (fun v5=>[]) ?_ ?_
 intro _ h _ _ _
 exact Y
 rintro v5 _ h
 refine Ao h (fun _ h=>?_) (fun _ h=>?_)
 exact Y
 refine Z ?_
 refine Bd h (fun _ h=>?_)
 refine Z ?_
 refine Bd h (fun _ h=>?_)
 refine Z ?_
 refine Bd h (fun _ h=>?_)
 refine Z ?_
 refine Bd h (fun _ h=>?_)
 refine ZO ?_
 refine Ax (Ax ?_)
 refine Bo h (fun v12=>[(79,(Al v12))]) (fun v12=>[]) ?_ ?_
 intro _ h _ _ _
 exact Y
 rintro v12 _ h
 exact Y⟩
end Go.Ab
