/- The contracts of the functions, each by its walk (made by a program). -/
import Derived.Test.YtpedagkdpokpkaaGreatDoorWaHand
import Derived.Test.YtpedagkdpokpkaaGreatDoorWaDef
namespace Go.Ab
open Go Go.Proofs
set_option maxRecDepth 10000
set_option maxHeartbeats 4000000
set_option linter.unusedVariables false
abbrev Ake (k:Nat):Prop:=∀{a0:Bs} {a1:Int},OK (Md k a0 a1) fun r=>Aw Tryz.prog 64 [Gk a0,(O .i64) a1] ((O .i64) r)
theorem Avh (k:Nat):Ake k:=by
 induction k with
 | zero=>exact okz
 | succ k ih=>
  refine @fun a0 a1=>⟨fun {r} h=>?_⟩
  .unfold Md at h
   refine pw C0 Tryz.func64 ?_
   refine Z ?_
   refine Bb h (fun (v4,v5)=>[(4,(O .i64 0)),(5,(O .i64 v4)),(10,(O .i64 v5))]) (fun (v4,v5)=>[]) ?_
   rintro ⟨v4,v5⟩ _ _ _ h _ _
   exact Y
instance {k:Nat}:Ake k:=(Avh k)
instance {a0:Ba}:OK (Kl a0) fun r=>Aw Tryz.prog 32 [Gl a0] (As r):=⟨fun {r} h=>by
 refine pw C0 Tryz.func32 ?_
 refine ZS ?_
 refine Cm ?_
 refine ZO ?_
 refine Ay (Ay ?_)
 refine Cq h (fun v2=>[(14,(As v2))]) (fun v2=>[]) ?_ ?_
 intro _ h _ _ _
 exact Y
 rintro v2 _ h
 refine Ap h (fun _ h=>?_) (fun _ h=>?_)
 exact Y
 refine Z ?_
 refine Bb h (fun v5=>[(2,(As false)),(18,(O .i64 v5))]) (fun v5=>[]) ?_
 rintro v5 _ _ _ h _ _
 refine Z ?_
 refine Ap h (fun _ h=>?_) (fun _ h=>?_)
 exact Y
 replace h:=Cs h
 refine Z ?_
 refine Bb h (fun v10=>[(2,(As false)),(33,(O .i64 v10))]) (fun v10=>[]) ?_
 rintro v10 _ _ _ h _ _
 exact Y⟩
instance {a0:Ak}:OK (M5 a0) fun r=>Aw Tryz.prog 26 [Cn a0] (As r):=⟨fun {r} h=>by
 refine pw C0 Tryz.func26 ?_
 exact Y⟩
instance {a0:List Ak} {a1:Int}:OK (Kk a0 a1) fun r=>Aw Tryz.prog 10 [(Ao 3 Cn) a0,(O .i64) a1] (As r):=⟨fun {r} h=>by
 refine pw C0 Tryz.func10 ?_
 refine Z ?_
 refine Ap h (fun _ h=>?_) (fun _ h=>?_)
 exact Y
 refine Z ?_
 refine Bb h (fun v3=>[(4,(As false)),(12,(O .i64 v3))]) (fun v3=>[]) ?_
 rintro v3 _ _ _ h _ _
 exact Y⟩
instance {a0:List D2} {a1:Int}:OK (Sl a0 a1) fun r=>Aw Tryz.prog 15 [(Ao 13 J3) a0,(O .i64) a1] (As r):=⟨fun {r} h=>by
 refine pw C0 Tryz.func15 ?_
 refine Z ?_
 refine Ap h (fun _ h=>?_) (fun _ h=>?_)
 exact Y
 refine Z ?_
 refine Bb h (fun v7=>[(4,(As false)),(13,(O .i64 v7))]) (fun v7=>[]) ?_
 rintro v7 _ _ _ h _ _
 exact Y⟩
instance {a0:Bj}:OK (U6 a0) fun r=>Aw Tryz.prog 31 [Gy a0] (As r):=⟨fun {r} h=>by
 refine pw C0 Tryz.func31 ?_
 exact Y⟩
instance {a0:List Ar} {a1 a2:Int}:OK (U3 a0 a1 a2) fun r=>Aw Tryz.prog 8 [(Ao 2 De) a0,(O .i64) a1,(O .i64) a2] (As r):=⟨fun {r} h=>by
 refine pw C0 Tryz.func8 ?_
 refine Z ?_
 refine Ap h (fun _ h=>?_) (fun _ h=>?_)
 exact Y
 refine Z ?_
 refine Bb h (fun v2=>[(6,(As false)),(14,(O .i64 v2))]) (fun v2=>[]) ?_
 rintro v2 _ _ _ h _ _
 exact Y⟩
instance {a0:List Ah} {a1:Int}:OK (Sn a0 a1) fun r=>Aw Tryz.prog 19 [(Ao 5 Bn) a0,(O .i64) a1] (As r):=⟨fun {r} h=>by
 refine pw C0 Tryz.func19 ?_
 refine Z ?_
 refine Ap h (fun _ h=>?_) (fun _ h=>?_)
 exact Y
 refine Z ?_
 refine Bb h (fun v5=>[(4,(As false)),(12,(O .i64 v5))]) (fun v5=>[]) ?_
 rintro v5 _ _ _ h _ _
 exact Y⟩
instance {a0:Bj} {a1:List Ar} {a2 a3:List Ah}:OK (Sk a0 a1 a2 a3) fun r=>Aw Tryz.prog 14 [Gy a0,(Ao 2 De) a1,(Ao 5 Bn) a2,(Ao 5 Bn) a3] (As r):=⟨fun {r} h=>by
 refine pw C0 Tryz.func14 ?_
 exact Y⟩
instance {a0:List Int}:OK (I6 a0) fun r=>Aw Tryz.prog 159 [(Ao 1 (O .u32)) a0] ((Ao 1 (O .u32)) r):=⟨fun {r} h=>by
 refine pw {T:=Cg,an:=(fun _=>.ask),nl:=(fun s=>bif Nat.beq s 2 then [(0,1)] else [])} Tryz.func159 ?_
 refine Z ?_
 refine Bb h (fun v2=>[(3,(O .i64 v2))]) (fun v2=>[]) ?_
 rintro v2 _ _ _ h _ _
 exact Y⟩
instance {a0:List Int}:OK (Sz a0) fun r=>Aw Tryz.prog 105 [(Ao 1 (O .u32)) a0] ((Ao 1 (O .u32)) r):=⟨fun {r} h=>by
 refine pw {T:=Cg,an:=(fun s=>bif Nat.beq s 3 then .own else .ask),nl:=(fun s=>bif Nat.beq s 3 then [(0,1)] else bif Nat.beq s 2 then [(0,1)] else [])} Tryz.func105 ?_
 refine Z ?_
 refine Bb h (fun (v13,v14,o15)=>[(3,(.arr 0 o15.length 0 o15.length)),(4,(O .u64 v13)),(5,(O .i64 v14))]) (fun (v13,v14,o15)=>[(0,.rows 107 1 (List.map (O .u32) o15))]) ?_
 rintro ⟨v13,v14,o15⟩ _ _ _ h _ _
 refine Z ?_
 refine Ap h (fun _ h=>?_) (fun _ h=>?_)
 exact Y
 replace h:=Cs h
 refine Z ?_
 refine Ap h (fun _ h=>?_) (fun _ h=>?_)
 refine Z ?_
 refine Lo h (fun _ h=>?_)
 refine ZO ?_
 refine Ay ?_
 refine Dw [.fz 3] ?_
 exact Y
 refine Iq (Ay ?_)
 refine Dw [.fz 3] ?_
 exact Y⟩
instance {a0 a1:List Int}:OK (Vz a0 a1) fun r=>Aw Tryz.prog 161 [(Ao 1 (O .u32)) a0,(Ao 1 (O .u32)) a1] ((O .u64) r):=⟨fun {r} h=>by
 refine pw C0 Tryz.func161 ?_
 exact Y⟩
instance {a0:Int}:OK (M8 a0) fun r=>Aw Tryz.prog 63 [(O .u64) a0] ((Ao 1 (O .u32)) r):=⟨fun {r} h=>by
 refine pw {T:=Cg,an:=(fun s=>bif Nat.beq s 3 then .own else .ask),nl:=(fun s=>bif Nat.beq s 3 then [(0,1)] else bif Nat.beq s 2 then [(0,1)] else [])} Tryz.func63 ?_
 refine Z ?_
 refine Bb h (fun (v10,o11)=>[(0,(O .u64 v10)),(3,(.arr 0 o11.length 0 o11.length))]) (fun (v10,o11)=>[(0,.rows 107 1 (List.map (O .u32) o11))]) ?_
 rintro ⟨v10,o11⟩ _ _ _ h _ _
 exact Y⟩
instance {a0 a1:List Int}:OK (Og a0 a1) fun r=>Aw Tryz.prog 156 [(Ao 1 (O .u32)) a0,(Ao 1 (O .u32)) a1] ((O .i64) r):=⟨fun {r} h=>by
 refine pw C0 Tryz.func156 ?_
 refine Z ?_
 refine Ap h (fun _ h=>?_) (fun _ h=>?_)
 exact Y
 refine Z ?_
 refine Bb h (fun v5=>[(4,(O .i64 0)),(5,(O .i64 v5))]) (fun v5=>[]) ?_
 rintro v5 _ _ _ h _ _
 exact Y⟩
instance {a0 a1:List Int}:OK (Mj a0 a1) fun r=>Aw Tryz.prog 154 [(Ao 1 (O .u32)) a0,(Ao 1 (O .u32)) a1] ((Ao 1 (O .u32)) r):=⟨fun {r} h=>by
 refine pw {T:=Cg,an:=(fun _=>.ask),nl:=(fun s=>bif Nat.beq s 4 then [(0,1)] else [])} Tryz.func154 ?_
 refine Z ?_
 refine G2 h (fun o1 h=>?_)
 refine Z ?_
 refine Er h (fun (v25,o26)=>[(6,(O .i64 v25))]) (fun (v25,o26)=>[(0,.rows 107 1 (List.map (O .u32) o26))]) (fun (v25,o26)=>o1.length=o26.length) ?_
 rintro ⟨v25,o26⟩ _ _ _ h _ _ q26
 refine Z ?_
 refine Ap h (fun _ h=>?_) (fun _ h=>?_)
 refine Z ?_
 refine Er h (fun (v35,v36,o37)=>[(7,(O .u64 v35)),(8,(O .i64 v36))]) (fun (v35,v36,o37)=>[(0,.rows 107 1 (List.map (O .u32) o37))]) (fun (v35,v36,o37)=>o1.length=o37.length) ?_
 rintro ⟨v35,v36,o37⟩ _ _ _ h _ _ q37
 refine Ay (Ay ?_)
 refine Cq h (fun v38=>[(29,(As v38))]) (fun v38=>[]) ?_ ?_
 intro _ h _ _ _
 exact Y
 rintro v38 _ h
 refine Ap h (fun _ h=>?_) (fun _ h=>?_)
 refine Z ?_
 refine Ja h (fun _ _ _ _ h=>?_)
 refine ZS ?_
 refine Cm ?_
 refine ZO ?_
 refine Cq h (fun v42=>[(7,(O .u64 v42))]) (fun v42=>[]) ?_ ?_
 intro _ h _ _ _
 exact Y
 rintro v42 _ h
 exact Y
 exact Y
 replace h:=Cs h
 refine F6 (F5 rfl (Ay ?_))
 refine Dw [.fz 5] ?_
 exact Y⟩
instance {a0:List Int} {a1:Int}:OK (Vy a0 a1) fun r=>Aw Tryz.prog 160 [(Ao 1 (O .u32)) a0,(O .u64) a1] (.tup [(Ao 1 (O .u32)) r.1,(O .u64) r.2]):=⟨fun {r} h=>by
 refine pw {T:=Cg,an:=(fun _=>.ask),nl:=(fun s=>bif Nat.beq s 4 then [(0,1)] else [])} Tryz.func160 ?_
 refine Z ?_
 refine G2 h (fun o1 h=>?_)
 refine Z ?_
 refine Er h (fun (v7,v8,o9)=>[(7,(O .u64 v7)),(8,(O .i64 v8))]) (fun (v7,v8,o9)=>[(0,.rows 107 1 (List.map (O .u32) o9))]) (fun (v7,v8,o9)=>o1.length=o9.length) ?_
 rintro ⟨v7,v8,o9⟩ _ _ _ h _ _ q9
 refine Z ?_
 refine Ap h (fun _ h=>?_) (fun _ h=>?_)
 exact Y
 replace h:=Cs h
 refine F6 (F5 rfl (Ay ?_))
 refine Dw [.fz 6] ?_
 exact Y⟩
instance {a0 a1:List Int}:OK (Oh a0 a1) fun r=>Aw Tryz.prog 157 [(Ao 1 (O .u32)) a0,(Ao 1 (O .u32)) a1] ((Ao 1 (O .u32)) r):=⟨fun {r} h=>by
 refine pw {T:=Cg,an:=(fun _=>.ask),nl:=(fun s=>bif Nat.beq s 4 then [(0,1)] else [])} Tryz.func157 ?_
 refine Z ?_
 refine G2 h (fun o1 h=>?_)
 refine Z ?_
 refine Er h (fun (v10,v11,o12)=>[(6,(O .u32 v10)),(7,(O .i64 v11))]) (fun (v10,v11,o12)=>[(0,.rows 107 1 (List.map (O .u32) o12))]) (fun (v10,v11,o12)=>o1.length=o12.length) ?_
 rintro ⟨v10,v11,o12⟩ _ _ _ h _ _ q12
 refine Z ?_
 refine Ap h (fun _ h=>?_) (fun _ h=>?_)
 refine ZS ?_
 refine Cm ?_
 refine ZS ?_
 refine Cm ?_
 refine ZO ?_
 refine Cq h (fun v14=>[(8,(O .u32 v14))]) (fun v14=>[]) ?_ ?_
 intro _ h _ _ _
 exact Y
 rintro v14 _ h
 exact Y
 replace h:=Cs h
 refine F6 (F5 rfl (Ay ?_))
 refine Dw [.fz 5] ?_
 exact Y⟩
instance {a0 a1:List Int}:OK (P6 a0 a1) fun r=>Aw Tryz.prog 107 [(Ao 1 (O .u32)) a0,(Ao 1 (O .u32)) a1] (.tup [(Ao 1 (O .u32)) r.1,(Ao 1 (O .u32)) r.2]):=⟨fun {r} h=>by
 refine pw {T:=Cg,an:=(fun s=>bif Nat.beq s 50 then .frz 0 else bif Nat.beq s 47 then .own else .ask),nl:=(fun s=>bif Nat.beq s 9 then [(0,1)] else bif Nat.beq s 5 then [(0,1)] else bif Nat.beq s 4 then [(0,1)] else [])} Tryz.func107 ?_
 refine Z ?_
 refine Bl h (fun _ h=>?_)
 refine Z ?_
 refine Ap h (fun _ h=>?_) (fun _ h=>?_)
 exact Y
 refine Z ?_
 refine Ap h (fun _ h=>?_) (fun _ h=>?_)
 exact Y
 refine Z ?_
 refine G2 h (fun o6 h=>?_)
 refine Z ?_
 refine Er h (fun (v33,v34,o35)=>[(9,(.sl 1 (List.map (O .u32) v33))),(10,(O .i64 v34))]) (fun (v33,v34,o35)=>[(0,.rows 107 1 (List.map (O .u32) o35))]) (fun (v33,v34,o35)=>o6.length=o35.length) ?_
 rintro ⟨v33,v34,o35⟩ _ _ _ h _ _ q35
 refine Z ?_
 refine Ap h (fun _ h=>?_) (fun _ h=>?_)
 refine Z ?_
 refine Ca h (fun _ _ _ _ h=>?_)
 refine Z ?_
 refine Lo h (fun o38 h=>?_)
 refine Z ?_
 refine C5 h (fun v39 hcv39 h=>?_)
 refine Ac0.mk _ (OK.ok hcv39 :) rfl ?_
 refine Z ?_
 refine Bl h (fun _ h=>?_)
 refine Z ?_
 refine Bb h (fun v44=>[(11,(O .u64 v44))]) (fun v44=>[]) ?_
 rintro v44 _ _ _ h _ _
 refine Z ?_
 refine F1 h (fun _ h=>?_) (fun _ h=>?_)
 refine Z ?_
 refine Bl h (fun _ h=>?_)
 refine Z ?_
 refine Bl h (fun _ h=>?_)
 refine Z ?_
 refine Bl h (fun _ h=>?_)
 refine Z ?_
 refine Ap h (fun _ h=>?_) (fun _ h=>?_)
 exact Y
 replace h:=Cs h
 refine Z ?_
 refine Bl h (fun _ h=>?_)
 refine Z ?_
 refine Bl h (fun _ h=>?_)
 refine Z ?_
 refine Bl h (fun _ h=>?_)
 refine Z ?_
 refine Bb h (fun (v54,v55)=>[(9,(.sl 1 (List.map (O .u32) v54))),(11,(O .u64 v55))]) (fun (v54,v55)=>[]) ?_
 rintro ⟨v54,v55⟩ _ _ _ h _ _
 exact Y
 replace h:=Cs h
 refine Z ?_
 refine Bl h (fun _ h=>?_)
 refine Z ?_
 refine Bl h (fun _ h=>?_)
 refine Z ?_
 refine Bl h (fun _ h=>?_)
 refine Z ?_
 refine Bb h (fun (v54,v55)=>[(9,(.sl 1 (List.map (O .u32) v54))),(11,(O .u64 v55))]) (fun (v54,v55)=>[]) ?_
 rintro ⟨v54,v55⟩ _ _ _ h _ _
 exact Y
 replace h:=Cs h
 refine F6 (F5 rfl (Ay ?_))
 refine Dw [.fz 8] ?_
 exact Y⟩
instance {a0 a1:List Int}:OK (Vp a0 a1) fun r=>Aw Tryz.prog 106 [(Ao 1 (O .u32)) a0,(Ao 1 (O .u32)) a1] ((Ao 1 (O .u32)) r):=⟨fun {r} h=>by
 refine pw {T:=Cg,an:=(fun _=>.ask),nl:=(fun s=>bif Nat.beq s 4 then [(0,1)] else [])} Tryz.func106 ?_
 refine Z ?_
 refine Bb h (fun (v2,v3)=>[(0,(.sl 1 (List.map (O .u32) v2))),(1,(.sl 1 (List.map (O .u32) v3)))]) (fun (v2,v3)=>[]) ?_
 rintro ⟨v2,v3⟩ _ _ _ h _ _
 exact Y⟩
instance {a0:Bool} {a1 a2:List Int}:OK (Lh a0 a1 a2) fun r=>Aw Tryz.prog 62 [As a0,(Ao 1 (O .u32)) a1,(Ao 1 (O .u32)) a2] (Cn r):=⟨fun {r} h=>by
 refine pw {T:=Cg,an:=(fun _=>.ask),nl:=(fun s=>bif Nat.beq s 21 then [(1,1)] else [])} Tryz.func62 ?_
 refine Z ?_
 refine Bl h (fun _ h=>?_)
 refine Z ?_
 refine Bl h (fun _ h=>?_)
 refine ZO ?_
 refine Ay (Ay ?_)
 refine Cq h (fun v4=>[(19,(As v4))]) (fun v4=>[]) ?_ ?_
 intro _ h _ _ _
 exact Y
 rintro v4 _ h
 refine Ap h (fun _ h=>?_) (fun _ h=>?_)
 exact Y
 refine Z ?_
 refine Bl h (fun _ h=>?_)
 refine ZO ?_
 refine Ay (Ay ?_)
 refine Cq h (fun v7=>[(33,(As v7))]) (fun v7=>[]) ?_ ?_
 intro _ h _ _ _
 exact Y
 rintro v7 _ h
 exact Y⟩
instance {a0:Int}:OK (Zd a0) fun r=>Aw Tryz.prog 30 [(O .i64) a0] (Cn r):=⟨fun {r} h=>by
 refine pw C0 Tryz.func30 ?_
 exact Y⟩
instance {a0:Nat} {b0:List Int}:OK (S0 a0 b0) fun r=>Bp Tryz.prog 109 [(.arr 0 b0.length 0 a0)] [.rows 3 1 (List.map (O .i64) b0)] (.arr 0 r.2.length 0 r.1) [.rows 3 1 (List.map (O .i64) r.2)]:=⟨fun {r} h=>by
 refine aw {T:=Cg,an:=(fun _=>.ask),nl:=(fun s=>bif Nat.beq s 2 then [(0,1)] else [])} false Tryz.func109 ?_
 refine Z ?_
 refine Ap h (fun _ h=>?_) (fun _ h=>?_)
 exact Y
 refine Z ?_
 refine Bb h (fun v23=>[(2,(.sl 1 (List.map (O .i64) []))),(3,(O .i64 v23))]) (fun v23=>[]) ?_
 rintro v23 _ _ _ h _ _
 refine Z ?_
 refine Ap h (fun _ h=>?_) (fun _ h=>?_)
 refine Z ?_
 refine Kt h (fun _ _ _ _ h=>?_)
 refine Z ?_
 refine Kt h (fun _ _ _ _ h=>?_)
 refine Z ?_
 refine Ap h (fun _ h=>?_) (fun _ h=>?_)
 refine Z ?_
 refine Ai5 (f:=(O .i64)) (l:=b0) rfl rfl h (fun v26 h=>?_)
 refine Z ?_
 refine Er h (fun (v31,v32,o33)=>[(3,(O .i64 v31)),(5,(O .i64 v32))]) (fun (v31,v32,o33)=>[(0,.rows 3 1 (List.map (O .i64) o33))]) (fun (v31,v32,o33)=>b0.length=o33.length) ?_
 rintro ⟨v31,v32,o33⟩ _ _ _ h _ _ q33
 refine Z ?_
 refine Ap h (fun _ h=>?_) (fun _ h=>?_)
 refine Z ?_
 refine Kt h (fun _ _ _ _ h=>?_)
 refine Z ?_
 refine Kt h (fun _ _ _ _ h=>?_)
 refine Z ?_
 refine Ap h (fun _ h=>?_) (fun _ h=>?_)
 refine Z ?_
 refine Kt h (fun _ v36 _ _ h=>?_)
 refine Z ?_
 refine Kt h (fun _ _ hiv37 _ h=>?_)
 refine Z ?_
 refine Mb (f:=(O .i64)) (x:=v36) (j:=(((0:Nat):Int)+v31)) rfl rfl rfl (Ai0 _ hiv37) ?_
 exact Y
 exact Y
 replace h:=Cs h
 refine Z ?_
 refine At2 (f:=(O .i64)) (l:=o33) rfl q33 h (fun v42 h=>?_) (fun h=>?_)
 refine Z ?_
 refine At0 (f:=(O .i64)) (l:=o33) (z:=(0:Int)) rfl rfl q33 h (fun o43 hco43 h=>?_)
 refine Z ?_
 refine Ai7 (f:=(O .i64)) (l:=o43) rfl (Ai6 q33 hco43) h (fun v44 h=>?_)
 replace h:=Cs h
 refine Z ?_
 cases h
 exact ⟨congrArg (fun q_=>AV.arr 0 q_ 0 _) (Ai6 q33 hco43),rfl,trivial⟩
 refine Z ?_
 refine Ai7 (f:=(O .i64)) (l:=o33) rfl q33 h (fun v45 h=>?_)
 replace h:=Cs h
 refine Z ?_
 cases h
 exact ⟨congrArg (fun q_=>AV.arr 0 q_ 0 _) q33,rfl,trivial⟩
 exact Y
 exact Y⟩
instance {a0:Int}:OK (Zo a0) fun r=>Aw Tryz.prog 201 [(O .u64) a0] ((O .i64) r):=⟨fun {r} h=>by
 refine pw C0 Tryz.func201 ?_
 refine ZS ?_
 refine Cm ?_
 refine ZS ?_
 refine Cm ?_
 refine ZO ?_
 refine Cq h (fun (v2,v3)=>[(0,(O .u64 v2)),(2,(O .i64 v3))]) (fun (v2,v3)=>[]) ?_ ?_
 intro _ h _ _ _
 exact Y
 rintro ⟨v2,v3⟩ _ h
 refine ZS ?_
 refine Cm ?_
 refine ZO ?_
 refine Cq h (fun (v5,v6)=>[(0,(O .u64 v5)),(2,(O .i64 v6))]) (fun (v5,v6)=>[]) ?_ ?_
 intro _ h _ _ _
 exact Y
 rintro ⟨v5,v6⟩ _ h
 refine ZS ?_
 refine Cm ?_
 refine ZO ?_
 refine Cq h (fun (v8,v9)=>[(0,(O .u64 v8)),(2,(O .i64 v9))]) (fun (v8,v9)=>[]) ?_ ?_
 intro _ h _ _ _
 exact Y
 rintro ⟨v8,v9⟩ _ h
 exact Y⟩
instance {a0:Int}:OK (P7 a0) fun r=>Aw Tryz.prog 135 [(O .u64) a0] ((O .i64) r):=⟨fun {r} h=>by
 refine pw C0 Tryz.func135 ?_
 exact Y⟩
instance {a0:Int}:OK (Qf a0) fun r=>Aw Tryz.prog 202 [(O .i64) a0] (As r):=⟨fun {r} h=>by
 refine pw C0 Tryz.func202 ?_
 exact Y⟩
instance {a0 a1:Int}:OK (Ad7 a0 a1) fun r=>Aw Tryz.prog 219 [(O .i64) a0,(O .i64) a1] (As r):=⟨fun {r} h=>by
 refine pw C0 Tryz.func219 ?_
 exact Y⟩
instance {a0 a1:Int} {b0:List Int}:OK (Ad6 a0 a1 b0) fun r=>Bp Tryz.prog 213 [(.arr 0 b0.length 0 b0.length),(O .i64) a0,(O .i64) a1] [.rows 3 1 (List.map (O .i64) b0)] (.tup []) [.rows 3 1 (List.map (O .i64) r)]:=⟨fun {r} h=>by
 refine aw C0 true Tryz.func213 ?_
 refine Z ?_
 refine Er h (fun (v21,o22)=>[(6,(O .i64 v21))]) (fun (v21,o22)=>[(0,.rows 3 1 (List.map (O .i64) o22))]) (fun (v21,o22)=>b0.length=o22.length) ?_
 rintro ⟨v21,o22⟩ _ _ _ h _ _ q22
 refine Z ?_
 refine Ap h (fun _ h=>?_) (fun _ h=>?_)
 refine Z ?_
 refine Er h (fun (v31,o32)=>[(7,(O .i64 v31))]) (fun (v31,o32)=>[(0,.rows 3 1 (List.map (O .i64) o32))]) (fun (v31,o32)=>b0.length=o32.length) ?_
 rintro ⟨v31,o32⟩ _ _ _ h _ _ q32
 refine Ay (Ay ?_)
 refine Cq h (fun v36=>[(30,(As v36))]) (fun v36=>[]) ?_ ?_
 intro _ h _ _ _
 exact Y
 rintro v36 _ h
 exact Y
 exact Y⟩
instance {a0 a1 a2:Int} {b0:List Int}:OK (Ad3 a0 a1 a2 b0) fun r=>Bp Tryz.prog 162 [(.arr 0 b0.length 0 b0.length),(O .i64) a0,(O .i64) a1,(O .i64) a2] [.rows 3 1 (List.map (O .i64) b0)] (.tup []) [.rows 3 1 (List.map (O .i64) r)]:=⟨fun {r} h=>by
 refine aw C0 true Tryz.func162 ?_
 refine Z ?_
 refine Bb h (fun _=>[(1,(O .i64 a0)),(2,(O .i64 a1)),(3,(O .i64 a2)),(8,(As true)),(9,(As true))]) (fun _=>[]) ?_
 rintro _ _ _ _ h _ _
 refine Z ?_
 refine Ap h (fun _ h=>?_) (fun _ h=>?_)
 refine Z ?_
 refine A7 [0] h (fun _ h=>?_)
 refine C5 h (fun v2 hgv2 h=>?_)
 exact Y
 exact Y⟩
theorem Avi {b0:List Int} {r:(List Int)} (h:Ajp b0=some r):Bp Tryz.prog 108 [(.arr 0 b0.length 0 b0.length)] [.rows 3 1 (List.map (O .i64) b0)] (.tup []) [.rows 3 1 (List.map (O .i64) r)]:=by
 refine aw C0 true Tryz.func108 ?_
 refine Z ?_
 refine Bl h (fun _ h=>?_)
 refine Z ?_
 refine A7 [0] h (fun _ h=>?_)
 refine C5 h (fun v3 hgv3 h=>?_)
 exact Y
instance {b0:List Int}:OK (Vq b0) fun r=>Bp Tryz.prog 108 [(.arr 0 b0.length 0 b0.length)] [.rows 3 1 (List.map (O .i64) b0)] (.tup []) [.rows 3 1 (List.map (O .i64) r)]:=⟨fun {r} h=>by
 cases b0 with
 | nil=>exact Avi h
 | cons b l=>exact Auy h (by simp)⟩
instance {a0:List Ar}:OK (Su a0) fun r=>Aw Tryz.prog 67 [(Ao 2 De) a0] ((Ao 1 (O .i64)) r):=⟨fun {r} h=>by
 refine pw {T:=Cg,an:=(fun s=>bif Nat.beq s 3 then .own else .ask),nl:=(fun s=>bif Nat.beq s 3 then [(0,1)] else bif Nat.beq s 2 then [(0,1)] else [])} Tryz.func67 ?_
 refine Z ?_
 refine Bb h (fun (v38,o39)=>[(3,(.arr 0 o39.length 0 o39.length)),(10,(O .i64 v38))]) (fun (v38,o39)=>[(0,.rows 3 1 (List.map (O .i64) o39))]) ?_
 rintro ⟨v38,o39⟩ _ _ _ h _ _
 refine Z ?_
 refine Ap h (fun _ h=>?_) (fun _ h=>?_)
 refine Z ?_
 refine Ca h (fun _ _ _ _ h=>?_)
 refine Z ?_
 refine Bb h (fun (v50,o51)=>[(3,(.arr 0 o51.length 0 o51.length)),(17,(O .i64 v50))]) (fun (v50,o51)=>[(0,.rows 3 1 (List.map (O .i64) o51))]) ?_
 rintro ⟨v50,o51⟩ _ _ _ h _ _
 exact Y
 replace h:=Cs h
 refine Z ?_
 refine A7 [0] h (fun v58 h=>?_)
 refine C5 h (fun v59 hgv59 h=>?_)
 refine Z ?_
 refine C5 h (fun v60 hcv60 h=>?_)
 have okv60:=(OK.ok hcv60 :)
 rw [<-(Ic hgv59)] at okv60
 refine Fh.act [0] _ _ _ _ okv60 rfl rfl ⟨rfl,trivial⟩ ?_
 refine ZO ?_
 refine Dw [.fzp 2] ?_
 refine At1 (f:=(O .i64)) (l:=v60.2) rfl rfl h (fun o61 h=>?_)
 exact Y⟩
instance {a0:Int}:OK (Sw a0) fun r=>Aw Tryz.prog 86 [(O .i64) a0] (As r):=⟨fun {r} h=>by
 refine pw C0 Tryz.func86 ?_
 exact Y⟩
instance {a0:Int}:OK (Vg a0) fun r=>Aw Tryz.prog 87 [(O .i64) a0] (As r):=⟨fun {r} h=>by
 refine pw C0 Tryz.func87 ?_
 exact Y⟩
instance {a0:Ar}:OK (Hm a0) fun r=>Aw Tryz.prog 48 [De a0] (As r):=⟨fun {r} h=>by
 refine pw C0 Tryz.func48 ?_
 refine ZS ?_
 refine Cm ?_
 refine ZO ?_
 refine Ay (Ay ?_)
 refine Cq h (fun v3=>[(14,(As v3))]) (fun v3=>[]) ?_ ?_
 intro _ h _ _ _
 exact Y
 rintro v3 _ h
 refine Ap h (fun _ h=>?_) (fun _ h=>?_)
 exact Y
 refine Z ?_
 refine Bb h (fun v8=>[(2,(As false)),(18,(O .i64 v8))]) (fun v8=>[]) ?_
 rintro v8 _ _ _ h _ _
 exact Y⟩
instance {a0:List Ar}:OK (P3 a0) fun r=>Aw Tryz.prog 36 [(Ao 2 De) a0] (As r):=⟨fun {r} h=>by
 refine pw C0 Tryz.func36 ?_
 refine Z ?_
 refine Ap h (fun _ h=>?_) (fun _ h=>?_)
 exact Y
 refine Z ?_
 refine Bb h (fun v4=>[(2,(As false)),(10,(O .i64 v4))]) (fun v4=>[]) ?_
 rintro v4 _ _ _ h _ _
 exact Y⟩
instance {a0:Gf}:OK (Va a0) fun r=>Aw Tryz.prog 69 [Ou a0] ((O .i64) r):=⟨fun {r} h=>by
 refine pw C0 Tryz.func69 ?_
 exact Y⟩
instance {a0:List Int}:OK (I7 a0) fun r=>Aw Tryz.prog 163 [(Ao 1 (O .u32)) a0] ((Ao 1 (O .u32)) r):=⟨fun {r} h=>by
 refine pw {T:=Cg,an:=(fun _=>.ask),nl:=(fun s=>bif Nat.beq s 2 then [(0,1)] else [])} Tryz.func163 ?_
 refine Z ?_
 refine Bb h (fun v2=>[(3,(O .i64 v2))]) (fun v2=>[]) ?_
 rintro v2 _ _ _ h _ _
 exact Y⟩
instance {a0:List Int}:OK (S3 a0) fun r=>Aw Tryz.prog 110 [(Ao 1 (O .u32)) a0] ((Ao 1 (O .u32)) r):=⟨fun {r} h=>by
 refine pw {T:=Cg,an:=(fun _=>.ask),nl:=(fun s=>bif Nat.beq s 2 then [(0,1)] else [])} Tryz.func110 ?_
 refine Z ?_
 refine G2 h (fun _ h=>?_)
 refine Z ?_
 refine Bb h (fun (v14,v15,o16)=>[(3,(.arr 0 o16.length 0 o16.length)),(4,(O .u64 v14)),(13,(O .i64 v15))]) (fun (v14,v15,o16)=>[(0,.rows 107 1 (List.map (O .u32) o16))]) ?_
 rintro ⟨v14,v15,o16⟩ _ _ _ h _ _
 refine Z ?_
 refine Ap h (fun _ h=>?_) (fun _ h=>?_)
 exact Y
 replace h:=Cs h
 refine Z ?_
 refine Ap h (fun _ h=>?_) (fun _ h=>?_)
 refine Z ?_
 refine Lo h (fun _ h=>?_)
 refine ZO ?_
 refine Ay ?_
 refine Dw [.fz 3] ?_
 exact Y
 refine Iq (Ay ?_)
 refine Dw [.fz 3] ?_
 exact Y⟩
instance {a0:Ak}:OK (Km a0) fun r=>Aw Tryz.prog 68 [Cn a0] (Ou r):=⟨fun {r} h=>by
 refine pw {T:=Cg,an:=(fun _=>.ask),nl:=(fun s=>bif Nat.beq s 20 then [(1,1)] else [])} Tryz.func68 ?_
 refine Z ?_
 refine Bl h (fun _ h=>?_)
 refine Z ?_
 refine Bl h (fun _ h=>?_)
 refine ZO ?_
 refine Ay (Ay ?_)
 refine Cq h (fun v5=>[(18,(As v5))]) (fun v5=>[]) ?_ ?_
 intro _ h _ _ _
 exact Y
 rintro v5 _ h
 exact Y⟩
instance {a0:Ak}:OK (F7 a0) fun r=>Aw Tryz.prog 38 [Cn a0] ((O .i64) r):=⟨fun {r} h=>by
 refine pw C0 Tryz.func38 ?_
 exact Y⟩
instance {a0:Ah}:OK (Vb a0) fun r=>Aw Tryz.prog 74 [Bn a0] (As r):=⟨fun {r} h=>by
 refine pw C0 Tryz.func74 ?_
 exact Y⟩
instance {a0:List Ah}:OK (Zi a0) fun r=>Aw Tryz.prog 115 [(Ao 5 Bn) a0,(.fn 74 [])] ((O .i64) r):=⟨fun {r} h=>by
 refine pw C0 Tryz.func115 ?_
 refine Z ?_
 refine Bb h (fun v3=>[(4,(O .i64 0)),(8,(O .i64 v3))]) (fun v3=>[]) ?_
 rintro v3 _ _ _ h _ _
 exact Y⟩
instance {a0:List Ah}:OK (Zg a0) fun r=>Aw Tryz.prog 73 [(Ao 5 Bn) a0,(.fn 74 [])] (As r):=⟨fun {r} h=>by
 refine pw C0 Tryz.func73 ?_
 exact Y⟩
instance {a0:List Ah}:OK (Oc a0) fun r=>Aw Tryz.prog 40 [(Ao 5 Bn) a0] (As r):=⟨fun {r} h=>by
 refine pw C0 Tryz.func40 ?_
 exact Y⟩
instance {a0:List A9}:OK (Ad0 a0) fun r=>Aw Tryz.prog 120 [Qz (Ir.mk a0 [] [] [])] (As r):=⟨fun {r} h=>by
 refine pw C0 Tryz.func120 ?_
 refine Z ?_
 refine G2 h (fun _ h=>?_)
 refine Z ?_
 refine Bb h (fun _=>[(2,(As false)),(20,(O .i64 0))]) (fun _=>[]) ?_
 rintro _ _ _ _ h _ _
 replace h:=Cs h
 refine Z ?_
 refine Bb h (fun _=>[(2,(As false)),(40,(O .i64 0))]) (fun _=>[]) ?_
 rintro _ _ _ _ h _ _
 exact Y⟩
instance {a0:List A9}:OK (Ady a0) fun r=>Aw Tryz.prog 118 [Qz (Ir.mk a0 [] [] [])] (As r):=⟨fun {r} h=>by
 refine pw C0 Tryz.func118 ?_
 refine Z ?_
 refine Bb h (fun _=>[(2,(As false)),(4,(As false)),(21,(O .i64 0))]) (fun _=>[]) ?_
 rintro _ _ _ _ h _ _
 exact Y⟩
instance {a0:Int}:OK (Wd a0) fun r=>Aw Tryz.prog 282 [(O .u8) a0] (As r):=⟨fun {r} h=>by
 refine pw C0 Tryz.func282 ?_
 exact Y⟩
instance {a0:ByteArray}:OK (Wk a0) fun r=>Aw Tryz.prog 325 [E5 a0] (As r):=⟨fun {r} h=>by
 refine pw C0 Tryz.func325 ?_
 exact Y⟩
instance {a0:Int}:OK (Oq a0) fun r=>Aw Tryz.prog 326 [(O .u8) a0] (As r):=⟨fun {r} h=>by
 refine pw C0 Tryz.func326 ?_
 exact Y⟩
instance {a0:Int}:OK (Tk a0) fun r=>Aw Tryz.prog 321 [(O .u8) a0] (As r):=⟨fun {r} h=>by
 refine pw C0 Tryz.func321 ?_
 exact Y⟩
instance {a0:Int}:OK (Qt a0) fun r=>Aw Tryz.prog 322 [(O .u8) a0] (As r):=⟨fun {r} h=>by
 refine pw C0 Tryz.func322 ?_
 exact Y⟩
instance {a0:Int}:OK (Tl a0) fun r=>Aw Tryz.prog 324 [(O .u8) a0] (As r):=⟨fun {r} h=>by
 refine pw C0 Tryz.func324 ?_
 exact Y⟩
instance {a0:ByteArray}:OK (Wj a0) fun r=>Aw Tryz.prog 323 [E5 a0,(.fn 324 [])] (E5 r):=⟨fun {r} h=>by
 refine pw C0 Tryz.func323 ?_
 refine Z ?_
 refine Bb h (fun v3=>[(5,(O .i64 v3))]) (fun v3=>[]) ?_
 rintro v3 _ _ _ h _ _
 exact Y⟩
instance {a0:ByteArray}:OK (Z5 a0) fun r=>Aw Tryz.prog 323 [E5 a0,(.fn 326 [])] (E5 r):=⟨fun {r} h=>by
 refine pw C0 Tryz.func323 ?_
 refine Z ?_
 refine Bb h (fun v3=>[(5,(O .i64 v3))]) (fun v3=>[]) ?_
 rintro v3 _ _ _ h _ _
 exact Y⟩
instance {a0:ByteArray}:OK (Wm a0) fun r=>Aw Tryz.prog 328 [E5 a0] (E5 r):=⟨fun {r} h=>by
 refine pw C0 Tryz.func328 ?_
 refine ZS ?_
 refine Cm ?_
 refine ZS ?_
 refine Cm ?_
 refine ZO ?_
 refine Aek (fun (x:Unit)=>(.inr x)) h (fun _=>[(2,(E5 (ByteArray.mk #[])))]) (fun _=>[]) ?_ ?_
 intro _ h _ _ _
 exact Y
 rintro _ _ h
 exact Y⟩
instance {a0:ByteArray}:OK (Wl a0) fun r=>Aw Tryz.prog 327 [E5 a0] (As r):=⟨fun {r} h=>by
 refine pw C0 Tryz.func327 ?_
 refine Z ?_
 refine Bb h (fun (v2,v3)=>[(2,(As false)),(3,(O .i64 v2)),(7,(O .i64 v3))]) (fun (v2,v3)=>[]) ?_
 rintro ⟨v2,v3⟩ _ _ _ h _ _
 exact Y⟩
instance {a0:ByteArray} {a1:Int}:OK (We a0 a1) fun r=>Aw Tryz.prog 283 [E5 a0,(O .i64) a1] (.tup [Z3 r.1,(O .i64) r.2]):=⟨fun {r} h=>by
 refine pw C0 Tryz.func283 ?_
 refine Z ?_
 refine Uz h (fun _ h=>?_)
 refine ZO ?_
 refine Jy (Ay ?_)
 refine Cq h (fun v6=>[(23,(As v6))]) (fun v6=>[]) ?_ ?_
 intro _ h _ _ _
 exact Y
 rintro v6 _ h
 refine Ap h (fun _ h=>?_) (fun _ h=>?_)
 exact Y
 refine Z ?_
 refine Bl h (fun _ h=>?_)
 refine Z ?_
 refine Ap h (fun _ h=>?_) (fun _ h=>?_)
 refine Z ?_
 refine Adn h (fun _ _ _ _ h=>?_)
 refine Z ?_
 refine Bl h (fun _ h=>?_)
 refine ZO ?_
 refine Ay (Ay ?_)
 refine Cq h (fun v14=>[(67,(As v14))]) (fun v14=>[]) ?_ ?_
 intro _ h _ _ _
 exact Y
 rintro v14 _ h
 exact Y
 exact Y⟩
instance {a0:ByteArray}:OK (Zt a0) fun r=>Aw Tryz.prog 236 [E5 a0] (.tup [(Ao 3 Z3) r.1,(O .i64) r.2.1,(O .i64) r.2.2]):=⟨fun {r} h=>by
 refine pw {T:=Cg,an:=(fun s=>bif Nat.beq s 5 then .own else .ask),nl:=(fun s=>bif Nat.beq s 5 then [(0,3)] else bif Nat.beq s 2 then [(0,3)] else [])} Tryz.func236 ?_
 refine Z ?_
 refine Ap h (fun _ h=>?_) (fun _ h=>?_)
 exact Y
 refine Z ?_
 refine Bb h (fun (v26,o27)=>[(2,(.sl 3 (List.map Z3 []))),(3,(O .i64 0)),(4,(O .i64 0)),(5,(.arr 0 o27.length 0 o27.length)),(6,(O .i64 v26))]) (fun (v26,o27)=>[(0,.rows 292 3 (List.map Z3 o27))]) ?_
 rintro ⟨v26,o27⟩ _ _ _ h _ _
 refine Z ?_
 refine Ap h (fun _ h=>?_) (fun _ h=>?_)
 refine Z ?_
 refine Uz h (fun _ h=>?_)
 refine Z ?_
 refine Bl h (fun _ h=>?_)
 refine Z ?_
 refine Ap h (fun _ h=>?_) (fun _ h=>?_)
 exact Y
 refine Z ?_
 refine Uz h (fun _ h=>?_)
 refine Z ?_
 refine Ap h (fun _ h=>?_) (fun _ h=>?_)
 refine Z ?_
 refine Bb h (fun v32=>[(6,(O .i64 v32))]) (fun v32=>[]) ?_
 rintro v32 _ _ _ h _ _
 exact Y
 exact Y
 exact Y⟩
instance {a0:ByteArray}:OK (Qa a0) fun r=>Aw Tryz.prog 168 [E5 a0] (As r):=⟨fun {r} h=>by
 refine pw C0 Tryz.func168 ?_
 exact Y⟩
abbrev Akf (k:Nat):Prop:=∀{a0:Aj} {a1:Int},OK (Qk k a0 a1) fun r=>Aw Tryz.prog 238 [Fx a0,(O .i64) a1] (As r)
abbrev Akg (k:Nat):Prop:=∀{a0:Aj} {b0:Int},OK (Wf k a0 b0) fun r=>Bp Tryz.prog 284 [Fx a0,(.loc 0 0)] [.cells 3 [(O .i64 b0)]] (As r) [.cells 3 [(O .i64 b0)]]
abbrev Akh (k:Nat):Prop:=∀{a0:List Aj} {b0:Int},OK (Tm k a0 b0) fun r=>Bp Tryz.prog 170 [(Kq 3 Bo) a0,(.fn 284 [(.loc 0 0)])] [.cells 3 [(O .i64 b0)]] (As r) [.cells 3 [(O .i64 b0)]]
abbrev Aki (k:Nat):Prop:=∀{a0:List Aj} {b0:Int},OK (Z6 k a0 b0) fun r=>Bp Tryz.prog 239 [(Kq 3 Bo) a0,(.fn 284 [(.loc 0 0)])] [.cells 3 [(O .i64 b0)]] ((O .i64) r) [.cells 3 [(O .i64 b0)]]
theorem Aac (k:Nat):Akf k/\Akg k/\Akh k/\Aki k:=by
 induction k with
 | zero=>exact ⟨okz,okz,okz,okz⟩
 | succ k ih=>
  obtain ⟨i0_,i1_,i2_,i3_⟩:=ih
  refine ⟨@fun a0 a1=>⟨fun {r} h=>?_⟩,@fun a0 b0=>⟨fun {r} h=>?_⟩,@fun a0 b0=>⟨fun {r} h=>?_⟩,@fun a0 b0=>⟨fun {r} h=>?_⟩⟩
  .unfold Qk at h
   refine pw C0 Tryz.func238 ?_
   refine Z ?_
   refine F1 h (fun _ h=>?_) (fun _ h=>?_)
   refine Z ?_
   refine F1 h (fun _ h=>?_) (fun _ h=>?_)
   exact Y
   refine Z ?_
   refine A7 [1] h (fun _ h=>?_)
   exact Y
   refine Z ?_
   refine A7 [1] h (fun _ h=>?_)
   exact Y
  .unfold Wf at h
   refine aw C0 true Tryz.func284 ?_
   exact Y
  .unfold Tm at h
   refine aw C0 true Tryz.func170 ?_
   refine Z ?_
   refine A7 [0] h (fun _ h=>?_)
   exact Y
  .unfold Z6 at h
   refine aw C0 true Tryz.func239 ?_
   refine Z ?_
   refine Bb h (fun v3=>[(4,(O .i64 0)),(8,(O .i64 v3))]) (fun v3=>[]) ?_
   rintro v3 _ _ _ h _ _
   refine Z ?_
   refine Ap h (fun _ h=>?_) (fun _ h=>?_)
   refine Z ?_
   refine Ca h (fun _ _ _ _ h=>?_)
   refine Z ?_
   refine A7 [0] h (fun _ h=>?_)
   exact Y
   exact Y
instance {k:Nat}:Akf k:=(Aac k).1
instance {k:Nat}:Akg k:=(Aac k).2.1
instance {k:Nat}:Akh k:=(Aac k).2.2.1
instance {k:Nat}:Aki k:=(Aac k).2.2.2
end Go.Ab
namespace Go.Ab
open Go Go.Proofs
set_option maxRecDepth 10000
set_option maxHeartbeats 4000000
set_option linter.unusedVariables false
instance {a0:List A9} {a1 a2:Int}:OK (Te a0 a1 a2) fun r=>Aw Tryz.prog 237 [(Ao 3 C2) a0,(O .i64) a1,(O .i64) a2] ((Ao 1 As) r):=⟨fun {r} h=>by
 refine pw {T:=Cg,an:=(fun _=>.ask),nl:=(fun s=>bif Nat.beq s 6 then [(0,1)] else [])} Tryz.func237 ?_
 refine ZS ?_
 refine Cm ?_
 refine ZO ?_
 refine Ay (Ay ?_)
 refine Cq h (fun v2=>[(34,(As v2))]) (fun v2=>[]) ?_ ?_
 intro _ h _ _ _
 exact Y
 rintro v2 _ h
 refine Ap h (fun _ h=>?_) (fun _ h=>?_)
 exact Y
 refine Z ?_
 refine Ca h (fun _ _ _ _ h=>?_)
 refine Z ?_
 refine Ca h (fun _ _ _ _ h=>?_)
 refine Z ?_
 refine G2 h (fun o5 h=>?_)
 refine Z ?_
 refine Er h (fun (v28,o29)=>[(49,(O .i64 v28))]) (fun (v28,o29)=>[(0,.rows 4 1 (List.map As o29))]) (fun (v28,o29)=>o5.length=o29.length) ?_
 rintro ⟨v28,o29⟩ _ _ _ h _ _ q29
 refine Z ?_
 refine Ap h (fun _ h=>?_) (fun _ h=>?_)
 refine Z ?_
 refine Ca h (fun _ v30 _ _ h=>?_)
 refine ZO ?_
 refine Ay ?_
 refine Ai4 h (fun o3_ h hj3=>?_)
 refine Py (fun (o36:(List Bool))=>o36=o3_/\o5.length=o36.length) (fun o36=>[]) (fun o36=>[(0,.rows 4 1 (List.map As o36))]) (fun _=>rfl) ?_ ?_
 intro K3 hK3
 refine Z ?_
 refine F1 h (fun _ h=>?_) (fun _ h=>?_)
 refine Z ?_
 refine F1 h (fun _ h=>?_) (fun _ h=>?_)
 refine Z ?_
 refine Ca h (fun _ v32 _ _ h=>?_)
 refine Z ?_
 refine Ja h (fun _ _ hiv33 _ h=>?_)
 refine Z ?_
 refine Mb (f:=As) (x:=((v30.Args.length:Int)==v32.Vars)) (j:=v28) rfl rfl (Nat.zero_add _) hiv33 ?_
 refine Z ?_
 exact hK3 (Cr o29 v28 ((v30.Args.length:Int)==v32.Vars)) _ _ _ ⟨(Option.some.inj h),Hb (l:=o29) q29 v28 ((v30.Args.length:Int)==v32.Vars)⟩ trivial ⟨⟨rfl,rfl⟩,⟨rfl,rfl⟩,trivial⟩
 refine Z ?_
 refine Ja h (fun _ _ hiv34 _ h=>?_)
 refine Z ?_
 refine Mb (f:=As) (x:=false) (j:=v28) rfl rfl (Nat.zero_add _) hiv34 ?_
 refine Z ?_
 exact hK3 (Cr o29 v28 false) _ _ _ ⟨(Option.some.inj h),Hb (l:=o29) q29 v28 false⟩ trivial ⟨⟨rfl,rfl⟩,⟨rfl,rfl⟩,trivial⟩
 refine Z ?_
 refine Ja h (fun _ _ hiv35 _ h=>?_)
 refine Z ?_
 refine Mb (f:=As) (x:=false) (j:=v28) rfl rfl (Nat.zero_add _) hiv35 ?_
 refine Z ?_
 exact hK3 (Cr o29 v28 false) _ _ _ ⟨(Option.some.inj h),Hb (l:=o29) q29 v28 false⟩ trivial ⟨⟨rfl,rfl⟩,⟨rfl,rfl⟩,trivial⟩
 rintro o36 u3 ⟨hJ3,q36⟩
 have h:=hj3 _ hJ3
 refine Z ?_
 refine Er h (fun (v42,o43)=>[(80,(O .i64 v42))]) (fun (v42,o43)=>[(0,.rows 4 1 (List.map As o43))]) (fun (v42,o43)=>o5.length=o43.length) ?_
 rintro ⟨v42,o43⟩ _ _ _ h _ _ q43
 exact Y
 exact Y⟩
abbrev Akj (k:Nat):Prop:=∀{a0:List Aj} {b1:Fy},OK (Tn k a0 b1) fun r=>Bp Tryz.prog 170 [(Kq 3 Bo) a0,(.fn 178 [(.loc 0 0)])] [.cells 169 [(.loc 1 0)],.cells 171 [(.sl 3 (List.map C2 b1.data)),(O .i64 b1.vars),(O .i64 b1.left)]] (As r.1) [.cells 169 [(.loc 1 0)],.cells 171 [(.sl 3 (List.map C2 r.2.data)),(O .i64 r.2.vars),(O .i64 r.2.left)]]
abbrev Akk (k:Nat):Prop:=∀{a0:List Aj} {b1:Fy},OK (Wo k a0 b1) fun r=>Bp Tryz.prog 239 [(Kq 3 Bo) a0,(.fn 178 [(.loc 0 0)])] [.cells 169 [(.loc 1 0)],.cells 171 [(.sl 3 (List.map C2 b1.data)),(O .i64 b1.vars),(O .i64 b1.left)]] ((O .i64) r.1) [.cells 169 [(.loc 1 0)],.cells 171 [(.sl 3 (List.map C2 r.2.data)),(O .i64 r.2.vars),(O .i64 r.2.left)]]
abbrev Akl (k:Nat):Prop:=∀{a0:Aj} {b0:Fy},OK (Lj k a0 b0) fun r=>Bp Tryz.prog 123 [(.loc 0 0),Fx a0] [.cells 171 [(.sl 3 (List.map C2 b0.data)),(O .i64 b0.vars),(O .i64 b0.left)]] (As r.1) [.cells 171 [(.sl 3 (List.map C2 r.2.data)),(O .i64 r.2.vars),(O .i64 r.2.left)]]
abbrev Akm (k:Nat):Prop:=∀{a0:Aj} {b1:Fy},OK (V1 k a0 b1) fun r=>Bp Tryz.prog 178 [Fx a0,(.loc 0 0)] [.cells 169 [(.loc 1 0)],.cells 171 [(.sl 3 (List.map C2 b1.data)),(O .i64 b1.vars),(O .i64 b1.left)]] (As r.1) [.cells 169 [(.loc 1 0)],.cells 171 [(.sl 3 (List.map C2 r.2.data)),(O .i64 r.2.vars),(O .i64 r.2.left)]]
theorem Aad (k:Nat):Akj k/\Akk k/\Akl k/\Akm k:=by
 induction k with
 | zero=>exact ⟨okz,okz,okz,okz⟩
 | succ k ih=>
  obtain ⟨i0_,i1_,i2_,i3_⟩:=ih
  refine ⟨@fun a0 b1=>⟨fun {r} h=>?_⟩,@fun a0 b1=>⟨fun {r} h=>?_⟩,@fun a0 b0=>⟨fun {r} h=>?_⟩,@fun a0 b1=>⟨fun {r} h=>?_⟩⟩
  .unfold Tn at h
   refine aw C0 true Tryz.func170 ?_
   refine Z ?_
   refine A7 [0,1] h (fun _ h=>?_)
   exact Y
  .unfold Wo at h
   refine aw C0 true Tryz.func239 ?_
   refine Z ?_
   refine Bb h (fun (v3,v4,v5,v6)=>[(4,(O .i64 0)),(8,(O .i64 v3))]) (fun (v3,v4,v5,v6)=>[(1,.cells 171 [(.sl 3 (List.map C2 v4)),(O .i64 v5),(O .i64 v6)])]) ?_
   rintro ⟨v3,v4,v5,v6⟩ _ _ _ h _ _
   refine Z ?_
   refine Ap h (fun _ h=>?_) (fun _ h=>?_)
   refine Z ?_
   refine Ca h (fun _ _ _ _ h=>?_)
   refine Z ?_
   refine A7 [0,1] h (fun _ h=>?_)
   exact Y
   exact Y
  .unfold Lj at h
   refine aw C0 true Tryz.func123 ?_
   refine Z ?_
   refine Ap h (fun _ h=>?_) (fun _ h=>?_)
   exact Y
   refine ZS ?_
   refine Cm ?_
   refine ZS ?_
   refine Cm ?_
   refine ZO ?_
   refine Aek (fun (x:(Int×Int))=>(.inl x)) h (fun (v8,v9)=>[(4,(As false)),(5,(O .i64 v8)),(6,(O .i64 v9))]) (fun (v8,v9)=>[]) ?_ ?_
   intro _ h _ _ _
   refine ZS ?_
   refine Cm ?_
   refine ZO ?_
   refine Cq h (fun v3=>[(21,(As v3))]) (fun v3=>[]) ?_ ?_
   intro _ h _ _ _
   exact Y
   rintro v3 _ h
   refine Ap h (fun _ h=>?_) (fun _ h=>?_)
   exact Y
   refine Z ?_
   refine Ap h (fun _ h=>?_) (fun _ h=>?_)
   exact Y
   refine Z ?_
   refine Ap h (fun _ h=>?_) (fun _ h=>?_)
   refine Ay (Ay ?_)
   refine Cq h (fun v4=>[(53,(As v4))]) (fun v4=>[]) ?_ ?_
   intro _ h _ _ _
   exact Y
   rintro v4 _ h
   exact Y
   refine Z ?_
   refine Ap h (fun _ h=>?_) (fun _ h=>?_)
   exact Y
   refine ZS ?_
   refine Cm ?_
   refine ZO ?_
   refine Cq h (fun v7=>[(74,(As v7))]) (fun v7=>[]) ?_ ?_
   intro _ h _ _ _
   exact Y
   rintro v7 _ h
   exact Y
   rintro ⟨v8,v9⟩ _ h
   refine Ay (Ay ?_)
   refine Cq h (fun v10=>[(91,(As v10))]) (fun v10=>[]) ?_ ?_
   intro _ h _ _ _
   exact Y
   rintro v10 _ h
   refine Ap h (fun _ h=>?_) (fun _ h=>?_)
   exact Y
   refine Iq (Ay (Ay ?_))
   refine Cq h (fun v11=>[(103,(As v11))]) (fun v11=>[]) ?_ ?_
   intro _ h _ _ _
   exact Y
   rintro v11 _ h
   refine Ap h (fun _ h=>?_) (fun _ h=>?_)
   exact Y
   refine Z ?_
   refine A7 [1,0] h (fun _ h=>?_)
   exact Y
  .unfold V1 at h
   refine aw C0 true Tryz.func178 ?_
   refine Z ?_
   refine A7 [1] h (fun _ h=>?_)
   exact Y
instance {k:Nat}:Akj k:=(Aad k).1
instance {k:Nat}:Akk k:=(Aad k).2.1
instance {k:Nat}:Akl k:=(Aad k).2.2.1
instance {k:Nat}:Akm k:=(Aad k).2.2.2
instance {a0:List A9} {a1:Aj} {a2:Int}:OK (Od a0 a1 a2) fun r=>Aw Tryz.prog 76 [(Ao 3 C2) a0,Fx a1,(O .i64) a2] (As r):=⟨fun {r} h=>by
 refine pw C0 Tryz.func76 ?_
 refine Z ?_
 refine A7 [1] h (fun _ h=>?_)
 exact Y⟩
instance {a0:List A9} {a1 a2:Int}:OK (Oj a0 a1 a2) fun r=>Aw Tryz.prog 169 [(Ao 3 C2) a0,(O .i64) a1,(O .i64) a2] (As r):=⟨fun {r} h=>by
 refine pw C0 Tryz.func169 ?_
 refine Z ?_
 refine Ca h (fun _ _ _ _ h=>?_)
 refine Z ?_
 refine Ca h (fun _ _ _ _ h=>?_)
 refine Z ?_
 refine Ap h (fun _ h=>?_) (fun _ h=>?_)
 exact Y
 refine Z ?_
 refine Bl h (fun _ h=>?_)
 refine Z ?_
 refine Bb h (fun v11=>[(6,(As false)),(29,(O .i64 v11))]) (fun v11=>[]) ?_
 rintro v11 _ _ _ h _ _
 exact Y⟩
instance {a0:List A9}:OK (Vr a0) fun r=>Aw Tryz.prog 116 [(Ao 3 C2) a0] (As r):=⟨fun {r} h=>by
 refine pw C0 Tryz.func116 ?_
 refine Z ?_
 refine Ap h (fun _ h=>?_) (fun _ h=>?_)
 exact Y
 refine Z ?_
 refine Bb h (fun (v31,o32,o33)=>[(2,(As false)),(15,(O .i64 v31))]) (fun (v31,o32,o33)=>[(0,.map (Bi As o32)),(1,.map (Bi As o33))]) ?_
 rintro ⟨v31,o32,o33⟩ _ _ _ h _ _
 refine Z ?_
 refine Ap h (fun _ h=>?_) (fun _ h=>?_)
 refine ZS ?_
 refine Cm ?_
 refine ZO ?_
 refine Ay (Ay ?_)
 refine Cq h (fun v41=>[(49,(As v41))]) (fun v41=>[]) ?_ ?_
 intro _ h _ _ _
 refine Z ?_
 refine Ca h (fun _ _ _ _ h=>?_)
 refine Z ?_
 refine Bl h (fun _ h=>?_)
 refine Z ?_
 refine F1 h (fun _ h=>?_) (fun _ h=>?_)
 exact Y
 refine Z ?_
 refine Ca h (fun _ _ _ _ h=>?_)
 refine Z ?_
 refine Si (f:=As) (l:=o32) rfl (false:Bool) h (fun j_ hb h=>?_) (fun hb h=>?_)
 exact Y
 exact Y
 rintro v41 _ h
 refine Ap h (fun _ h=>?_) (fun _ h=>?_)
 exact Y
 refine Z ?_
 refine Ca h (fun _ _ _ _ h=>?_)
 refine Z ?_
 refine Px (f:=As) (l:=o32) (x:=true) rfl rfl ?_
 refine ZO ?_
 refine Ay (Ay ?_)
 refine Cq h (fun v45=>[(71,(As v45))]) (fun v45=>[]) ?_ ?_
 intro _ h _ _ _
 exact Y
 rintro v45 _ h
 refine Ap h (fun _ h=>?_) (fun _ h=>?_)
 exact Y
 refine Z ?_
 refine Ca h (fun _ _ _ _ h=>?_)
 refine Z ?_
 refine Bb h (fun (v52,o53)=>[(2,(As false)),(78,(O .i64 v52))]) (fun (v52,o53)=>[(1,.map (Bi As o53))]) ?_
 rintro ⟨v52,o53⟩ _ _ _ h _ _
 refine Z ?_
 refine Ap h (fun _ h=>?_) (fun _ h=>?_)
 refine Z ?_
 refine Ca h (fun _ _ _ _ h=>?_)
 refine Z ?_
 refine Bl h (fun _ h=>?_)
 refine Z ?_
 refine F1 h (fun _ h=>?_) (fun _ h=>?_)
 exact Y
 refine Z ?_
 refine Si (f:=As) (l:=o53) rfl (false:Bool) h (fun j_ hb h=>?_) (fun hb h=>?_)
 refine Z ?_
 refine F1 h (fun _ h=>?_) (fun _ h=>?_)
 exact Y
 refine Z ?_
 refine Bl h (fun _ h=>?_)
 refine Z ?_
 refine Ap h (fun _ h=>?_) (fun _ h=>?_)
 exact Y
 refine Z ?_
 refine Px (f:=As) (l:=o53) (x:=true) rfl rfl ?_
 exact Y
 refine Z ?_
 refine Bl h (fun _ h=>?_)
 refine Z ?_
 refine Ap h (fun _ h=>?_) (fun _ h=>?_)
 exact Y
 refine Z ?_
 refine Px (f:=As) (l:=o53) (x:=true) rfl rfl ?_
 exact Y
 exact Y
 exact Y⟩
instance {a0:List A9}:OK (Ad2 a0) fun r=>Aw Tryz.prog 122 [Qz (Ir.mk a0 [] [] [])] (As r):=⟨fun {r} h=>by
 refine pw C0 Tryz.func122 ?_
 refine Z ?_
 refine G2 h (fun _ h=>?_)
 refine Z ?_
 refine Bb h (fun _=>[(2,(As false)),(18,(O .i64 0))]) (fun _=>[]) ?_
 rintro _ _ _ _ h _ _
 replace h:=Cs h
 refine Z ?_
 refine Bb h (fun _=>[(2,(As false)),(30,(O .i64 0))]) (fun _=>[]) ?_
 rintro _ _ _ _ h _ _
 exact Y⟩
instance {a0:List A9}:OK (Ad1 a0) fun r=>Aw Tryz.prog 121 [Qz (Ir.mk a0 [] [] [])] (As r):=⟨fun {r} h=>by
 refine pw C0 Tryz.func121 ?_
 refine Z ?_
 refine G2 h (fun _ h=>?_)
 refine Z ?_
 refine Bb h (fun _=>[(2,(As false)),(17,(O .i64 0))]) (fun _=>[]) ?_
 rintro _ _ _ _ h _ _
 exact Y⟩
instance {a0:List A9}:OK (Adz a0) fun r=>Aw Tryz.prog 119 [Qz (Ir.mk a0 [] [] [])] (As r):=⟨fun {r} h=>by
 refine pw C0 Tryz.func119 ?_
 refine Z ?_
 refine G2 h (fun _ h=>?_)
 refine Z ?_
 refine Bb h (fun _=>[(2,(As false)),(20,(O .i64 0))]) (fun _=>[]) ?_
 rintro _ _ _ _ h _ _
 replace h:=Cs h
 refine Z ?_
 refine Bb h (fun _=>[(2,(As false)),(33,(O .i64 0))]) (fun _=>[]) ?_
 rintro _ _ _ _ h _ _
 exact Y⟩
instance {a0:Aj} {b0:Ir}:OK (Ad5 a0 b0) fun r=>Bp Tryz.prog 171 [Fx a0,(.loc 0 0)] [.cells 131 [(.sl 3 (List.map C2 b0.Data)),(.sl 7 (List.map Qx b0.Codes)),(.sl 3 (Bo b0.Vars)),(.sl 8 (List.map Qy b0.Exprs))]] (As r) [.cells 131 [(.sl 3 (List.map C2 b0.Data)),(.sl 7 (List.map Qx b0.Codes)),(.sl 3 (Bo b0.Vars)),(.sl 8 (List.map Qy b0.Exprs))]]:=⟨fun {r} h=>by
 refine aw C0 true Tryz.func171 ?_
 exact Y⟩
instance {a0:List Aj} {b0:Ir}:OK (Ad8 a0 b0) fun r=>Bp Tryz.prog 239 [(Kq 3 Bo) a0,(.fn 171 [(.loc 0 0)])] [.cells 131 [(.sl 3 (List.map C2 b0.Data)),(.sl 7 (List.map Qx b0.Codes)),(.sl 3 (Bo b0.Vars)),(.sl 8 (List.map Qy b0.Exprs))]] ((O .i64) r) [.cells 131 [(.sl 3 (List.map C2 b0.Data)),(.sl 7 (List.map Qx b0.Codes)),(.sl 3 (Bo b0.Vars)),(.sl 8 (List.map Qy b0.Exprs))]]:=⟨fun {r} h=>by
 refine aw C0 true Tryz.func239 ?_
 refine Z ?_
 refine Bb h (fun v3=>[(4,(O .i64 0)),(8,(O .i64 v3))]) (fun v3=>[]) ?_
 rintro v3 _ _ _ h _ _
 refine Z ?_
 refine Ap h (fun _ h=>?_) (fun _ h=>?_)
 refine Z ?_
 refine Ca h (fun _ _ _ _ h=>?_)
 refine Z ?_
 refine A7 [0] h (fun _ h=>?_)
 exact Y
 exact Y⟩
instance {a0:List Aj} {b0:Ir}:OK (Ad4 a0 b0) fun r=>Bp Tryz.prog 170 [(Kq 3 Bo) a0,(.fn 171 [(.loc 0 0)])] [.cells 131 [(.sl 3 (List.map C2 b0.Data)),(.sl 7 (List.map Qx b0.Codes)),(.sl 3 (Bo b0.Vars)),(.sl 8 (List.map Qy b0.Exprs))]] (As r) [.cells 131 [(.sl 3 (List.map C2 b0.Data)),(.sl 7 (List.map Qx b0.Codes)),(.sl 3 (Bo b0.Vars)),(.sl 8 (List.map Qy b0.Exprs))]]:=⟨fun {r} h=>by
 refine aw C0 true Tryz.func170 ?_
 refine Z ?_
 refine A7 [0] h (fun _ h=>?_)
 exact Y⟩
instance {a0:List A9}:OK (Adx a0) fun r=>Aw Tryz.prog 117 [Qz (Ir.mk a0 [] [] [])] (As r):=⟨fun {r} h=>by
 refine pw C0 Tryz.func117 ?_
 refine Z ?_
 refine A7 [0] h (fun _ h=>?_)
 exact Y⟩
instance {a0:List A9}:OK (Vc a0) fun r=>Aw Tryz.prog 75 [Qz (Ir.mk a0 [] [] [])] (As r):=⟨fun {r} h=>by
 refine pw C0 Tryz.func75 ?_
 exact Y⟩
instance {a0 a1:Int}:OK (J2 a0 a1) fun r=>Aw Tryz.prog 136 [(O .i64) a0,(O .i64) a1] ((O .i64) r):=⟨fun {r} h=>by
 refine pw C0 Tryz.func136 ?_
 exact Y⟩
instance {a0:List Int}:OK (Mi a0) fun r=>Aw Tryz.prog 139 [(Ao 1 (O .i64)) a0] ((O .i64) r):=⟨fun {r} h=>by
 refine pw C0 Tryz.func139 ?_
 refine Z ?_
 refine Bb h (fun v2=>[(2,(O .i64 0)),(8,(O .i64 v2))]) (fun v2=>[]) ?_
 rintro v2 _ _ _ h _ _
 exact Y⟩
instance {a0:Int}:OK (Zu a0) fun r=>Aw Tryz.prog 262 [(O .i64) a0] (As r):=⟨fun {r} h=>by
 refine pw C0 Tryz.func262 ?_
 exact Y⟩
instance {a0 a1:Int}:OK (V8 a0 a1) fun r=>Aw Tryz.prog 206 [(O .i64) a0,(O .i64) a1] ((O .i64) r):=⟨fun {r} h=>by
 refine pw C0 Tryz.func206 ?_
 exact Y⟩
instance {a0 a1:Bf}:OK (V7 a0 a1) fun r=>Aw Tryz.prog 205 [Dd a0,Dd a1] ((O .i64) r):=⟨fun {r} h=>by
 refine pw C0 Tryz.func205 ?_
 exact Y⟩
instance {a0 a1:List Bf}:OK (Zp a0 a1) fun r=>Aw Tryz.prog 204 [(Ao 2 Dd) a0,(Ao 2 Dd) a1,(.fn 205 [])] ((O .i64) r):=⟨fun {r} h=>by
 refine pw C0 Tryz.func204 ?_
 refine Z ?_
 refine Bb h (fun v6=>[(6,(O .i64 0)),(13,(O .i64 v6))]) (fun v6=>[]) ?_
 rintro v6 _ _ _ h _ _
 exact Y⟩
instance {a0 a1:Ar}:OK (Ko a0 a1) fun r=>Aw Tryz.prog 143 [De a0,De a1] ((O .i64) r):=⟨fun {r} h=>by
 refine pw C0 Tryz.func143 ?_
 exact Y⟩
instance {a0 a1:A6}:OK (Vu a0 a1) fun r=>Aw Tryz.prog 142 [Ed a0,Ed a1] ((O .i64) r):=⟨fun {r} h=>by
 refine pw C0 Tryz.func142 ?_
 exact Y⟩
instance {a0 a1:List A6}:OK (Zk a0 a1) fun r=>Aw Tryz.prog 141 [(Ao 3 Ed) a0,(Ao 3 Ed) a1,(.fn 142 [])] ((O .i64) r):=⟨fun {r} h=>by
 refine pw C0 Tryz.func141 ?_
 refine Z ?_
 refine Bb h (fun v6=>[(6,(O .i64 0)),(13,(O .i64 v6))]) (fun v6=>[]) ?_
 rintro v6 _ _ _ h _ _
 exact Y⟩
abbrev Akn (k:Nat):Prop:=∀{a0 a1:Bs},OK (Of k a0 a1) fun r=>Aw Tryz.prog 140 [Gk a0,Gk a1] ((O .i64) r)
abbrev Ako (k:Nat):Prop:=∀{a0 a1:List Bs},OK (V6 k a0 a1) fun r=>Aw Tryz.prog 203 [(Kq 2 Kr) a0,(Kq 2 Kr) a1,(.fn 140 [])] ((O .i64) r)
theorem Akp (k:Nat):Akn k/\Ako k:=by
 induction k with
 | zero=>exact ⟨okz,okz⟩
 | succ k ih=>
  obtain ⟨i0_,i1_⟩:=ih
  refine ⟨@fun a0 a1=>⟨fun {r} h=>?_⟩,@fun a0 a1=>⟨fun {r} h=>?_⟩⟩
  .unfold Of at h
   refine pw C0 Tryz.func140 ?_
   exact Y
  .unfold V6 at h
   refine pw C0 Tryz.func203 ?_
   refine Z ?_
   refine Bb h (fun v6=>[(6,(O .i64 0)),(13,(O .i64 v6))]) (fun v6=>[]) ?_
   rintro v6 _ _ _ h _ _
   exact Y
instance {k:Nat}:Akn k:=(Akp k).1
instance {k:Nat}:Ako k:=(Akp k).2
instance {a0 a1:Bz}:OK (Vt a0 a1) fun r=>Aw Tryz.prog 138 [Ec a0,Ec a1] ((O .i64) r):=⟨fun {r} h=>by
 refine pw C0 Tryz.func138 ?_
 exact Y⟩
instance {a0 a1:List Bz}:OK (Zj a0 a1) fun r=>Aw Tryz.prog 137 [(Ao 3 Ec) a0,(Ao 3 Ec) a1,(.fn 138 [])] ((O .i64) r):=⟨fun {r} h=>by
 refine pw C0 Tryz.func137 ?_
 refine Z ?_
 refine Bb h (fun v6=>[(6,(O .i64 0)),(13,(O .i64 v6))]) (fun v6=>[]) ?_
 rintro v6 _ _ _ h _ _
 exact Y⟩
instance {a0 a1:Ba}:OK (Oe a0 a1) fun r=>Aw Tryz.prog 82 [Gl a0,Gl a1] ((O .i64) r):=⟨fun {r} h=>by
 refine pw C0 Tryz.func82 ?_
 exact Y⟩
instance {a0:Int}:OK (He a0) fun r=>Aw Tryz.prog 129 [(O .i64) a0] (E5 r):=⟨fun {r} h=>by
 exact Auk h⟩
instance {b1:List Int}:OK (To b1) fun r=>Bp Tryz.prog 182 [(.loc 0 0)] [.cells 178 [(.loc 0 0),(.arr 1 b1.length 0 b1.length)],.rows 5 1 (List.map (O .u8) b1)] (.tup []) [.cells 178 [(.loc 0 0),(.arr 1 b1.length 0 b1.length)],.rows 5 1 (List.map (O .u8) b1)]:=⟨fun {r} h=>by
 cases h
 exact Aun _ _⟩
instance {a0:Int} {b1:List Int}:OK (Tf a0 b1) fun r=>Bp Tryz.prog 252 [(.loc 0 0),(O .u8) a0] [.cells 178 [(.loc 0 0),(.arr 1 b1.length 0 b1.length)],.rows 5 1 (List.map (O .u8) b1)] (.val .nilIface) [.cells 178 [(.loc 0 0),(.arr 1 r.length 0 r.length)],.rows 5 1 (List.map (O .u8) r)]:=⟨fun {r} h=>by
 refine aw C0 true Tryz.func252 ?_
 refine Z ?_
 refine A7 [0,1] h (fun _ h=>?_)
 exact Y⟩
instance {a0:ByteArray} {b1:List Int}:OK (Fz a0 b1) fun r=>Bp Tryz.prog 127 [(.loc 0 0),E5 a0] [.cells 178 [(.loc 0 0),(.arr 1 b1.length 0 b1.length)],.rows 5 1 (List.map (O .u8) b1)] (.tup [(O .i64) r.1,.val .nilIface]) [.cells 178 [(.loc 0 0),(.arr 1 r.2.length 0 r.2.length)],.rows 5 1 (List.map (O .u8) r.2)]:=⟨fun {r} h=>by
 refine aw C0 true Tryz.func127 ?_
 refine Z ?_
 refine A7 [0,1] h (fun _ h=>?_)
 exact Y⟩
abbrev Akq (k:Nat):Prop:=∀{a0:Bs} {b1:List Int},OK (Qb k a0 b1) fun r=>Bp Tryz.prog 183 [(.loc 0 0),Gk a0] [.cells 178 [(.loc 0 0),(.arr 1 b1.length 0 b1.length)],.rows 5 1 (List.map (O .u8) b1)] (.tup []) [.cells 178 [(.loc 0 0),(.arr 1 r.length 0 r.length)],.rows 5 1 (List.map (O .u8) r)]
theorem Avj (k:Nat):Akq k:=by
 induction k with
 | zero=>exact okz
 | succ k ih=>
  refine @fun a0 b1=>⟨fun {r} h=>?_⟩
  .unfold Qb at h
   refine aw C0 true Tryz.func183 ?_
   refine Z ?_
   refine Bl h (fun _ h=>?_)
   refine Z ?_
   refine A7 [0,1] h (fun _ h=>?_)
   refine Z ?_
   refine Ap h (fun _ h=>?_) (fun _ h=>?_)
   refine Z ?_
   refine A7 [0,1] h (fun _ h=>?_)
   refine Z ?_
   refine Bb h (fun (v15,o16)=>[(20,(O .i64 v15))]) (fun (v15,o16)=>[(0,.cells 178 [(.loc 0 0),(.arr 1 o16.length 0 o16.length)]),(1,.rows 5 1 (List.map (O .u8) o16))]) ?_
   rintro ⟨v15,o16⟩ _ _ _ h _ _
   refine Z ?_
   refine Ap h (fun _ h=>?_) (fun _ h=>?_)
   refine Z ?_
   refine Ca h (fun _ _ _ _ h=>?_)
   refine Z ?_
   refine A7 [0,1] h (fun _ h=>?_)
   refine Z ?_
   refine A7 [0,1] h (fun _ h=>?_)
   exact Y
   replace h:=Cs h
   refine Z ?_
   refine A7 [0,1] h (fun _ h=>?_)
   exact Y
   exact Y
instance {k:Nat}:Akq k:=(Avj k)
instance {b1:List Int}:OK (J1 b1) fun r=>Bp Tryz.prog 131 [(.loc 0 0)] [.cells 178 [(.loc 0 0),(.arr 1 b1.length 0 b1.length)],.rows 5 1 (List.map (O .u8) b1)] (E5 r) [.cells 178 [(.loc 0 0),(.fb r)],.dead]:=⟨fun {r} h=>by
 exact Aj4 h⟩
instance {b1:List Int}:OK (V3 b1) fun r=>Bp Tryz.prog 182 [(.loc 0 0)] [.cells 178 [(.val (.pointer none)),(.arr 1 b1.length 0 b1.length)],.rows 5 1 (List.map (O .u8) b1)] (.tup []) [.cells 178 [(.loc 0 0),(.arr 1 b1.length 0 b1.length)],.rows 5 1 (List.map (O .u8) b1)]:=⟨fun {r} h=>by
 cases h
 exact Auo _ _⟩
instance {a0:ByteArray} {b1:List Int}:OK (Hn a0 b1) fun r=>Bp Tryz.prog 127 [(.loc 0 0),E5 a0] [.cells 178 [(.val (.pointer none)),(.arr 1 b1.length 0 b1.length)],.rows 5 1 (List.map (O .u8) b1)] (.tup [(O .i64) r.1,(.val .nilIface)]) [.cells 178 [(.loc 0 0),(.arr 1 r.2.length 0 r.2.length)],.rows 5 1 (List.map (O .u8) r.2)]:=⟨fun {r} h=>by
 refine aw C0 true Tryz.func127 ?_
 refine Z ?_
 refine A7 [0,1] h (fun _ h=>?_)
 exact Y⟩
instance {a0:Int} {a1:Bs}:OK (J0 a0 a1) fun r=>Aw Tryz.prog 128 [(O .i64) a0,Gk a1] (E5 r):=⟨fun {r} h=>by
 refine pw C0 Tryz.func128 ?_
 refine ZS ?_
 refine Cm ?_
 refine ZS ?_
 refine Cm ?_
 refine ZO ?_
 refine Ay ?_
 refine Dw [.own 5 1 5 1] ?_
 refine Z ?_
 refine Bl h (fun _ h=>?_)
 refine Z ?_
 refine Gg h (fun h=>?_)
 refine Z ?_
 refine Gg h (fun h=>?_)
 refine Z ?_
 refine A7 [1,2] h (fun _ h=>?_)
 refine Z ?_
 refine A7 [1,2] h (fun _ h=>?_)
 refine Z ?_
 refine A7 [1,2] h (fun _ h=>?_)
 exact Y⟩
abbrev Akr (k:Nat):Prop:=∀{a0:Aj},OK (Qu k a0) fun r=>Aw Tryz.prog 329 [Fx a0] ((O .i64) r)
theorem Avk (k:Nat):Akr k:=by
 induction k with
 | zero=>exact okz
 | succ k ih=>
  refine @fun a0=>⟨fun {r} h=>?_⟩
  .unfold Qu at h
   refine pw C0 Tryz.func329 ?_
   refine Z ?_
   refine Bb h (fun (v5,v6)=>[(3,(O .i64 v5)),(9,(O .i64 v6))]) (fun (v5,v6)=>[]) ?_
   rintro ⟨v5,v6⟩ _ _ _ h _ _
   exact Y
instance {k:Nat}:Akr k:=(Avk k)
abbrev Aks (k:Nat):Prop:=∀{a0:Aj} {a1:List Aj},OK (Ot k a0 a1) fun r=>Aw Tryz.prog 331 [Fx a0,(Kq 3 Bo) a1] (Fx r)
theorem Avl (k:Nat):Aks k:=by
 induction k with
 | zero=>exact okz
 | succ k ih=>
  refine @fun a0 a1=>⟨fun {r} h=>?_⟩
  .unfold Ot at h
   refine pw {T:=Cg,an:=(fun _=>.ask),nl:=(fun s=>bif Nat.beq s 42 then [(0,3)] else [])} Tryz.func331 ?_
   refine ZS ?_
   refine Cm ?_
   refine ZO ?_
   refine Ay (Ay ?_)
   refine Cq h (fun v3=>[(22,(As v3))]) (fun v3=>[]) ?_ ?_
   intro _ h _ _ _
   exact Y
   rintro v3 _ h
   refine Ap h (fun _ h=>?_) (fun _ h=>?_)
   exact Y
   refine ZS ?_
   refine Cm ?_
   refine ZO ?_
   refine Ay (Ay ?_)
   refine Dw [.own 5 2 37 3] ?_
   refine Z ?_
   refine Bb h (fun (v18,o19)=>[(37,(O .i64 v18))]) (fun (v18,o19)=>[(2,.cells 37 [(O .i64 a0.Kind),(O .i64 a0.Num),(.arr 3 o19.length 0 o19.length)]),(3,.rows 37 3 (Bo o19))]) ?_
   rintro ⟨v18,o19⟩ _ _ _ h _ _
   exact Y
instance {k:Nat}:Aks k:=(Avl k)
abbrev Akt (k:Nat):Prop:=∀{a0:Aj} {a1:List Int},OK (Qv k a0 a1) fun r=>Aw Tryz.prog 330 [Fx a0,(Ao 1 (O .i64)) a1] ((O .i64) r)
theorem Avm (k:Nat):Akt k:=by
 induction k with
 | zero=>exact okz
 | succ k ih=>
  refine @fun a0 a1=>⟨fun {r} h=>?_⟩
  .unfold Qv at h
   refine pw C0 Tryz.func330 ?_
   refine ZS ?_
   refine Cm ?_
   refine ZO ?_
   refine Ay (Ay ?_)
   refine Cq h (fun v2=>[(22,(As v2))]) (fun v2=>[]) ?_ ?_
   intro _ h _ _ _
   exact Y
   rintro v2 _ h
   refine Ap h (fun _ h=>?_) (fun _ h=>?_)
   exact Y
   refine Z ?_
   refine Bb h (fun (v7,v8)=>[(5,(O .i64 v7)),(31,(O .i64 v8))]) (fun (v7,v8)=>[]) ?_
   rintro ⟨v7,v8⟩ _ _ _ h _ _
   exact Y
instance {k:Nat}:Akt k:=(Avm k)
instance {a0:List A9} {a1:Aj} {a2:Int}:OK (Wg a0 a1 a2) fun r=>Aw Tryz.prog 285 [(Ao 3 C2) a0,Fx a1,(O .i64) a2] (.tup [(Kq 3 Bo) r.1,As r.2]):=⟨fun {r} h=>by
 refine pw {T:=Cg,an:=(fun s=>bif Nat.beq s 14 then .own else .ask),nl:=(fun s=>bif Nat.beq s 14 then [(0,3)] else bif Nat.beq s 6 then [(0,3)] else [])} Tryz.func285 ?_
 refine ZS ?_
 refine Cm ?_
 refine ZO ?_
 refine Ay (Ay ?_)
 refine Cq h (fun v2=>[(31,(As v2))]) (fun v2=>[]) ?_ ?_
 intro _ h _ _ _
 exact Y
 rintro v2 _ h
 refine Ap h (fun _ h=>?_) (fun _ h=>?_)
 exact Y
 refine Z ?_
 refine Ca h (fun _ _ _ _ h=>?_)
 refine ZO ?_
 refine Ay (Ay ?_)
 refine Cq h (fun v5=>[(53,(As v5))]) (fun v5=>[]) ?_ ?_
 intro _ h _ _ _
 exact Y
 rintro v5 _ h
 refine Ap h (fun _ h=>?_) (fun _ h=>?_)
 exact Y
 refine Z ?_
 refine G2 h (fun o6 h=>?_)
 refine Z ?_
 refine Er h (fun (v12,o13)=>[(61,(O .i64 v12))]) (fun (v12,o13)=>[(2,.rows 3 1 (List.map (O .i64) o13))]) (fun (v12,o13)=>o6.length=o13.length) ?_
 rintro ⟨v12,o13⟩ _ _ _ h _ _ q13
 refine Z ?_
 refine Ap h (fun _ h=>?_) (fun _ h=>?_)
 exact Y
 replace h:=Cs h
 refine Z ?_
 refine Ca h (fun _ _ _ _ h=>?_)
 refine ZO ?_
 refine Jy ?_
 refine Dw [.fz 9] ?_
 refine Z ?_
 refine Bb h (fun v23=>[(6,(.sl 3 (Bo []))),(7,(As false)),(79,(O .i64 v23))]) (fun v23=>[]) ?_
 rintro v23 _ _ _ h _ _
 refine Z ?_
 refine Ap h (fun _ h=>?_) (fun _ h=>?_)
 exact Y
 replace h:=Cs h
 refine Z ?_
 refine Ca h (fun _ _ _ _ h=>?_)
 refine Z ?_
 refine Bb h (fun (v41,o42)=>[(14,(.arr 3 o42.length 0 o42.length)),(95,(O .i64 v41))]) (fun (v41,o42)=>[(3,.rows 37 3 (Bo o42))]) ?_
 rintro ⟨v41,o42⟩ _ _ _ h _ _
 exact Y⟩
abbrev Aku (k:Nat):Prop:=∀{a0:Aj} {a1:Bs} {b1:List (ByteArray×Int)} {b2:List (ByteArray×(List B4))} {b0_0:List A9} {b0_1:List Aj} {b0_2 b0_3:Int} {b0_4:List Aj},OK (Qp k a0 a1 b1 b2 b0_0 b0_1 b0_2 b0_3 b0_4) fun r=>Bp Tryz.prog 290 [(.loc 0 0),Fx a0,Gk a1] [.cells 136 [(.sl 3 (List.map C2 b0_0)),(.sl 3 (Bo b0_1)),(O .i64 b0_2),(O .i64 b0_3),(.sl 3 (Bo b0_4)),(.mp 1),(.mp 2)],.map (Bi (O .i64) b1),.map (Bi (Ao 5 Df) b2)] ((O .i64) r) [.cells 136 [(.sl 3 (List.map C2 b0_0)),(.sl 3 (Bo b0_1)),(O .i64 b0_2),(O .i64 b0_3),(.sl 3 (Bo b0_4)),(.mp 1),(.mp 2)],.map (Bi (O .i64) b1),.map (Bi (Ao 5 Df) b2)]
abbrev Akv (k:Nat):Prop:=∀{a0:Aj} {a1:Bs} {b1:List (ByteArray×Int)} {b2:List (ByteArray×(List B4))} {b0_0:List A9} {b0_1:List Aj} {b0_2 b0_3:Int} {b0_4:List Aj},OK (Oo k a0 a1 b1 b2 b0_0 b0_1 b0_2 b0_3 b0_4) fun r=>Bp Tryz.prog 250 [(.loc 0 0),Fx a0,Gk a1] [.cells 136 [(.sl 3 (List.map C2 b0_0)),(.sl 3 (Bo b0_1)),(O .i64 b0_2),(O .i64 b0_3),(.sl 3 (Bo b0_4)),(.mp 1),(.mp 2)],.map (Bi (O .i64) b1),.map (Bi (Ao 5 Df) b2)] ((O .i64) r) [.cells 136 [(.sl 3 (List.map C2 b0_0)),(.sl 3 (Bo b0_1)),(O .i64 b0_2),(O .i64 b0_3),(.sl 3 (Bo b0_4)),(.mp 1),(.mp 2)],.map (Bi (O .i64) b1),.map (Bi (Ao 5 Df) b2)]
abbrev Akw (k:Nat):Prop:=∀{a0:List Aj} {a1:List Bs} {b1:List (ByteArray×Int)} {b2:List (ByteArray×(List B4))} {b0_0:List A9} {b0_1:List Aj} {b0_2 b0_3:Int} {b0_4:List Aj},OK (Qo k a0 a1 b1 b2 b0_0 b0_1 b0_2 b0_3 b0_4) fun r=>Bp Tryz.prog 289 [(.loc 0 0),(Kq 3 Bo) a0,(Kq 2 Kr) a1] [.cells 136 [(.sl 3 (List.map C2 b0_0)),(.sl 3 (Bo b0_1)),(O .i64 b0_2),(O .i64 b0_3),(.sl 3 (Bo b0_4)),(.mp 1),(.mp 2)],.map (Bi (O .i64) b1),.map (Bi (Ao 5 Df) b2)] ((O .i64) r) [.cells 136 [(.sl 3 (List.map C2 b0_0)),(.sl 3 (Bo b0_1)),(O .i64 b0_2),(O .i64 b0_3),(.sl 3 (Bo b0_4)),(.mp 1),(.mp 2)],.map (Bi (O .i64) b1),.map (Bi (Ao 5 Df) b2)]
theorem Aem (k:Nat):Aku k/\Akv k/\Akw k:=by
 induction k with
 | zero=>exact ⟨okz,okz,okz⟩
 | succ k ih=>
  obtain ⟨i0_,i1_,i2_⟩:=ih
  refine ⟨@fun a0 a1 b1 b2 b0_0 b0_1 b0_2 b0_3 b0_4=>⟨fun {r} h=>?_⟩,@fun a0 a1 b1 b2 b0_0 b0_1 b0_2 b0_3 b0_4=>⟨fun {r} h=>?_⟩,@fun a0 a1 b1 b2 b0_0 b0_1 b0_2 b0_3 b0_4=>⟨fun {r} h=>?_⟩⟩
  .unfold Qp at h
   refine aw {T:=Cg,an:=(fun s=>bif Nat.beq s 9 then .own else .ask),nl:=(fun s=>bif Nat.beq s 9 then [(0,3)] else [])} true Tryz.func290 ?_
   refine Z ?_
   refine Bl h (fun _ h=>?_)
   refine Z ?_
   refine Ap h (fun _ h=>?_) (fun _ h=>?_)
   exact Y
   refine Z ?_
   refine Bl h (fun _ h=>?_)
   refine Z ?_
   refine Bb h (fun (v14,o15)=>[(9,(.arr 5 o15.length 0 o15.length)),(38,(O .i64 v14))]) (fun (v14,o15)=>[(5,.rows 37 3 (Bo o15))]) ?_
   rintro ⟨v14,o15⟩ _ _ _ h _ _
   refine Z ?_
   refine Ap h (fun _ h=>?_) (fun _ h=>?_)
   exact Y
   replace h:=Cs h
   refine F6 (F5 rfl (Ay ?_))
   refine Dw [.fz 9] ?_
   refine Z ?_
   refine A7 [0,1,2] h (fun _ h=>?_)
   exact Y
  .unfold Oo at h
   refine aw C0 true Tryz.func250 ?_
   refine Z ?_
   refine Ap h (fun _ h=>?_) (fun _ h=>?_)
   refine Z ?_
   refine Ap h (fun _ h=>?_) (fun _ h=>?_)
   refine Z ?_
   refine A7 [0,1,2] h (fun _ h=>?_)
   exact Y
   exact Y
   refine Z ?_
   refine Ap h (fun _ h=>?_) (fun _ h=>?_)
   exact Y
   refine Z ?_
   refine Ap h (fun _ h=>?_) (fun _ h=>?_)
   refine Z ?_
   refine Ap h (fun _ h=>?_) (fun _ h=>?_)
   exact Y
   refine Z ?_
   refine Bb h (fun (v7,v8)=>[(6,(O .i64 0)),(7,(O .i64 v7)),(50,(O .i64 v8))]) (fun (v7,v8)=>[]) ?_
   rintro ⟨v7,v8⟩ _ _ _ h _ _
   refine Z ?_
   refine Ap h (fun _ h=>?_) (fun _ h=>?_)
   refine Z ?_
   refine Ca h (fun _ _ _ _ h=>?_)
   refine Z ?_
   refine A7 [0,1,2] h (fun _ h=>?_)
   exact Y
   exact Y
   exact Y
  .unfold Qo at h
   refine aw C0 true Tryz.func289 ?_
   refine Z ?_
   refine Ap h (fun _ h=>?_) (fun _ h=>?_)
   exact Y
   refine Z ?_
   refine Bb h (fun (v5,v6)=>[(6,(O .i64 0)),(7,(O .i64 v5)),(18,(O .i64 v6))]) (fun (v5,v6)=>[]) ?_
   rintro ⟨v5,v6⟩ _ _ _ h _ _
   refine Z ?_
   refine Ap h (fun _ h=>?_) (fun _ h=>?_)
   refine Z ?_
   refine Ca h (fun _ _ _ _ h=>?_)
   refine Z ?_
   refine Ca h (fun _ _ _ _ h=>?_)
   refine Z ?_
   refine A7 [0,1,2] h (fun _ h=>?_)
   exact Y
   exact Y
instance {k:Nat}:Aku k:=(Aem k).1
instance {k:Nat}:Akv k:=(Aem k).2.1
instance {k:Nat}:Akw k:=(Aem k).2.2
end Go.Ab
namespace Go.Ab
open Go Go.Proofs
set_option maxRecDepth 10000
set_option maxHeartbeats 4000000
set_option linter.unusedVariables false
instance {a0:Int} {b1:List (ByteArray×Int)} {b2:List (ByteArray×(List B4))} {b0_0:List A9} {b0_1:List Aj} {b0_2 b0_3:Int} {b0_4:List Aj}:OK (Lm a0 b1 b2 b0_0 b0_1 b0_2 b0_3 b0_4) fun r=>Bp Tryz.prog 211 [(.loc 0 0),(O .i64) a0] [.cells 136 [(.sl 3 (List.map C2 b0_0)),(.sl 3 (Bo b0_1)),(O .i64 b0_2),(O .i64 b0_3),(.sl 3 (Bo b0_4)),(.mp 1),(.mp 2)],.map (Bi (O .i64) b1),.map (Bi (Ao 5 Df) b2)] (Fx r) [.cells 136 [(.sl 3 (List.map C2 b0_0)),(.sl 3 (Bo b0_1)),(O .i64 b0_2),(O .i64 b0_3),(.sl 3 (Bo b0_4)),(.mp 1),(.mp 2)],.map (Bi (O .i64) b1),.map (Bi (Ao 5 Df) b2)]:=⟨fun {r} h=>by
 refine aw C0 true Tryz.func211 ?_
 exact Y⟩
instance {a0:Int} {a1:Bs} {b1:List (ByteArray×Int)} {b2:List (ByteArray×(List B4))} {b0_0:List A9} {b0_1:List Aj} {b0_2 b0_3:Int} {b0_4:List Aj}:OK (Lk a0 a1 b1 b2 b0_0 b0_1 b0_2 b0_3 b0_4) fun r=>Bp Tryz.prog 181 [(.loc 0 0),(O .i64) a0,Gk a1] [.cells 136 [(.sl 3 (List.map C2 b0_0)),(.sl 3 (Bo b0_1)),(O .i64 b0_2),(O .i64 b0_3),(.sl 3 (Bo b0_4)),(.mp 1),(.mp 2)],.map (Bi (O .i64) b1),.map (Bi (Ao 5 Df) b2)] ((O .i64) r.1) [.cells 136 [(.sl 3 (List.map C2 b0_0)),(.sl 3 (Bo b0_1)),(O .i64 b0_2),(O .i64 b0_3),(.sl 3 (Bo b0_4)),(.mp 1),(.mp 2)],.map (Bi (O .i64) r.2),.map (Bi (Ao 5 Df) b2)]:=⟨fun {r} h=>by
 refine aw C0 true Tryz.func181 ?_
 refine Z ?_
 refine Bl h (fun _ h=>?_)
 refine ZO ?_
 refine Ay ?_
 refine Cq h (fun (v3,v4)=>[(8,(O .i64 v3)),(9,(As v4))]) (fun (v3,v4)=>[]) ?_ ?_
 intro _ h _ _ _
 refine Z ?_
 refine Si (f:=(O .i64)) (l:=b1) rfl (0:Int) h (fun j_ hb h=>?_) (fun hb h=>?_)
 exact Y
 exact Y
 rintro ⟨v3,v4⟩ _ h
 refine Z ?_
 refine Ap h (fun _ h=>?_) (fun _ h=>?_)
 refine Z ?_
 refine A7 [0,1,2] h (fun _ h=>?_)
 refine Z ?_
 refine A7 [0,1,2] h (fun _ h=>?_)
 refine ZS ?_
 refine Cm ?_
 refine ZO ?_
 refine Cq h (fun v7=>[(8,(O .i64 v7))]) (fun v7=>[]) ?_ ?_
 intro _ h _ _ _
 exact Y
 rintro v7 _ h
 refine Z ?_
 refine Px (f:=(O .i64)) (l:=b1) (x:=v7) rfl rfl ?_
 exact Y
 exact Y⟩
instance {a0:Ba} {b1:List (ByteArray×Int)} {b2:List (ByteArray×(List B4))} {b0_0:List A9} {b0_1:List Aj} {b0_2 b0_3:Int} {b0_4:List Aj}:OK (Kp a0 b1 b2 b0_0 b0_1 b0_2 b0_3 b0_4) fun r=>Bp Tryz.prog 180 [(.loc 0 0),Gl a0] [.cells 136 [(.sl 3 (List.map C2 b0_0)),(.sl 3 (Bo b0_1)),(O .i64 b0_2),(O .i64 b0_3),(.sl 3 (Bo b0_4)),(.mp 1),(.mp 2)],.map (Bi (O .i64) b1),.map (Bi (Ao 5 Df) b2)] ((O .i64) r.1) [.cells 136 [(.sl 3 (List.map C2 b0_0)),(.sl 3 (Bo b0_1)),(O .i64 b0_2),(O .i64 b0_3),(.sl 3 (Bo b0_4)),(.mp 1),(.mp 2)],.map (Bi (O .i64) r.2),.map (Bi (Ao 5 Df) b2)]:=⟨fun {r} h=>by
 refine aw C0 true Tryz.func180 ?_
 refine Z ?_
 refine Bb h (fun (v5,v6,o7)=>[(5,(O .i64 v5)),(13,(O .i64 v6))]) (fun (v5,v6,o7)=>[(1,.map (Bi (O .i64) o7))]) ?_
 rintro ⟨v5,v6,o7⟩ _ _ _ h _ _
 refine Z ?_
 refine Ap h (fun _ h=>?_) (fun _ h=>?_)
 refine Z ?_
 refine Ca h (fun _ _ _ _ h=>?_)
 refine Z ?_
 refine Ap h (fun _ h=>?_) (fun _ h=>?_)
 refine Z ?_
 refine A7 [0,1,2] h (fun _ h=>?_)
 exact Y
 exact Y
 replace h:=Cs h
 refine Z ?_
 refine Bb h (fun (v15,v16)=>[(5,(O .i64 v15)),(31,(O .i64 v16))]) (fun (v15,v16)=>[]) ?_
 rintro ⟨v15,v16⟩ _ _ _ h _ _
 exact Y⟩
instance {a0:Int} {b1:List (ByteArray×Int)} {b2:List (ByteArray×(List B4))} {b0_0:List A9} {b0_1:List Aj} {b0_2 b0_3:Int} {b0_4:List Aj}:OK (Qh a0 b1 b2 b0_0 b0_1 b0_2 b0_3 b0_4) fun r=>Bp Tryz.prog 210 [(.loc 0 0),(O .i64) a0] [.cells 136 [(.sl 3 (List.map C2 b0_0)),(.sl 3 (Bo b0_1)),(O .i64 b0_2),(O .i64 b0_3),(.sl 3 (Bo b0_4)),(.mp 1),(.mp 2)],.map (Bi (O .i64) b1),.map (Bi (Ao 5 Df) b2)] (As r) [.cells 136 [(.sl 3 (List.map C2 b0_0)),(.sl 3 (Bo b0_1)),(O .i64 b0_2),(O .i64 b0_3),(.sl 3 (Bo b0_4)),(.mp 1),(.mp 2)],.map (Bi (O .i64) b1),.map (Bi (Ao 5 Df) b2)]:=⟨fun {r} h=>by
 refine aw C0 true Tryz.func210 ?_
 exact Y⟩
instance {a0:Bf} {b2:List (ByteArray×Int)} {b3:List (ByteArray×(List B4))} {b1_0:List A9} {b1_1:List Aj} {b1_2 b1_3:Int} {b1_4:List Aj}:OK (Ta a0 b2 b3 b1_0 b1_1 b1_2 b1_3 b1_4) fun r=>Bp Tryz.prog 209 [Dd a0,(.loc 0 0)] [.cells 86 [(.loc 1 0)],.cells 136 [(.sl 3 (List.map C2 b1_0)),(.sl 3 (Bo b1_1)),(O .i64 b1_2),(O .i64 b1_3),(.sl 3 (Bo b1_4)),(.mp 2),(.mp 3)],.map (Bi (O .i64) b2),.map (Bi (Ao 5 Df) b3)] (As r) [.cells 86 [(.loc 1 0)],.cells 136 [(.sl 3 (List.map C2 b1_0)),(.sl 3 (Bo b1_1)),(O .i64 b1_2),(O .i64 b1_3),(.sl 3 (Bo b1_4)),(.mp 2),(.mp 3)],.map (Bi (O .i64) b2),.map (Bi (Ao 5 Df) b3)]:=⟨fun {r} h=>by
 refine aw C0 true Tryz.func209 ?_
 refine Z ?_
 refine A7 [1,2,3] h (fun _ h=>?_)
 refine Z ?_
 refine F1 h (fun _ h=>?_) (fun _ h=>?_)
 exact Y
 refine Z ?_
 refine A7 [1,2,3] h (fun _ h=>?_)
 refine Z ?_
 refine Acz.mk 3 (by kernel_rfl) ?_
 exact Y⟩
instance {a0:List Bf} {b2:List (ByteArray×Int)} {b3:List (ByteArray×(List B4))} {b1_0:List A9} {b1_1:List Aj} {b1_2 b1_3:Int} {b1_4:List Aj}:OK (Zv a0 b2 b3 b1_0 b1_1 b1_2 b1_3 b1_4) fun r=>Bp Tryz.prog 263 [(Ao 2 Dd) a0,(.fn 209 [(.loc 0 0)])] [.cells 86 [(.loc 1 0)],.cells 136 [(.sl 3 (List.map C2 b1_0)),(.sl 3 (Bo b1_1)),(O .i64 b1_2),(O .i64 b1_3),(.sl 3 (Bo b1_4)),(.mp 2),(.mp 3)],.map (Bi (O .i64) b2),.map (Bi (Ao 5 Df) b3)] ((O .i64) r) [.cells 86 [(.loc 1 0)],.cells 136 [(.sl 3 (List.map C2 b1_0)),(.sl 3 (Bo b1_1)),(O .i64 b1_2),(O .i64 b1_3),(.sl 3 (Bo b1_4)),(.mp 2),(.mp 3)],.map (Bi (O .i64) b2),.map (Bi (Ao 5 Df) b3)]:=⟨fun {r} h=>by
 refine aw C0 true Tryz.func263 ?_
 refine Z ?_
 refine Bb h (fun v3=>[(4,(O .i64 0)),(8,(O .i64 v3))]) (fun v3=>[]) ?_
 rintro v3 _ _ _ h _ _
 refine Z ?_
 refine Ap h (fun _ h=>?_) (fun _ h=>?_)
 refine Z ?_
 refine Ca h (fun _ _ _ _ h=>?_)
 refine Z ?_
 refine A7 [0,1,2,3] h (fun _ h=>?_)
 exact Y
 exact Y⟩
instance {a0:List Bf} {b2:List (ByteArray×Int)} {b3:List (ByteArray×(List B4))} {b1_0:List A9} {b1_1:List Aj} {b1_2 b1_3:Int} {b1_4:List Aj}:OK (Zq a0 b2 b3 b1_0 b1_1 b1_2 b1_3 b1_4) fun r=>Bp Tryz.prog 208 [(Ao 2 Dd) a0,(.fn 209 [(.loc 0 0)])] [.cells 86 [(.loc 1 0)],.cells 136 [(.sl 3 (List.map C2 b1_0)),(.sl 3 (Bo b1_1)),(O .i64 b1_2),(O .i64 b1_3),(.sl 3 (Bo b1_4)),(.mp 2),(.mp 3)],.map (Bi (O .i64) b2),.map (Bi (Ao 5 Df) b3)] (As r) [.cells 86 [(.loc 1 0)],.cells 136 [(.sl 3 (List.map C2 b1_0)),(.sl 3 (Bo b1_1)),(O .i64 b1_2),(O .i64 b1_3),(.sl 3 (Bo b1_4)),(.mp 2),(.mp 3)],.map (Bi (O .i64) b2),.map (Bi (Ao 5 Df) b3)]:=⟨fun {r} h=>by
 refine aw C0 true Tryz.func208 ?_
 refine Z ?_
 refine A7 [0,1,2,3] h (fun _ h=>?_)
 exact Y⟩
instance {a0:Ar} {b1:List (ByteArray×Int)} {b2:List (ByteArray×(List B4))} {b0_0:List A9} {b0_1:List Aj} {b0_2 b0_3:Int} {b0_4:List Aj}:OK (P8 a0 b1 b2 b0_0 b0_1 b0_2 b0_3 b0_4) fun r=>Bp Tryz.prog 145 [(.loc 0 0),De a0] [.cells 136 [(.sl 3 (List.map C2 b0_0)),(.sl 3 (Bo b0_1)),(O .i64 b0_2),(O .i64 b0_3),(.sl 3 (Bo b0_4)),(.mp 1),(.mp 2)],.map (Bi (O .i64) b1),.map (Bi (Ao 5 Df) b2)] (As r) [.cells 136 [(.sl 3 (List.map C2 b0_0)),(.sl 3 (Bo b0_1)),(O .i64 b0_2),(O .i64 b0_3),(.sl 3 (Bo b0_4)),(.mp 1),(.mp 2)],.map (Bi (O .i64) b1),.map (Bi (Ao 5 Df) b2)]:=⟨fun {r} h=>by
 refine aw C0 true Tryz.func145 ?_
 refine Z ?_
 refine A7 [3,0,1,2] h (fun _ h=>?_)
 exact Y⟩
instance {a0:Ba} {b1:List (ByteArray×Int)} {b2:List (ByteArray×(List B4))} {b0_0:List A9} {b0_1:List Aj} {b0_2 b0_3:Int} {b0_4:List Aj}:OK (V2 a0 b1 b2 b0_0 b0_1 b0_2 b0_3 b0_4) fun r=>Bp Tryz.prog 179 [(.loc 0 0),Gl a0] [.cells 136 [(.sl 3 (List.map C2 b0_0)),(.sl 3 (Bo b0_1)),(O .i64 b0_2),(O .i64 b0_3),(.sl 3 (Bo b0_4)),(.mp 1),(.mp 2)],.map (Bi (O .i64) b1),.map (Bi (Ao 5 Df) b2)] (As r.1) [.cells 136 [(.sl 3 (List.map C2 b0_0)),(.sl 3 (Bo b0_1)),(O .i64 b0_2),(O .i64 b0_3),(.sl 3 (Bo b0_4)),(.mp 1),(.mp 2)],.map (Bi (O .i64) r.2),.map (Bi (Ao 5 Df) b2)]:=⟨fun {r} h=>by
 refine aw C0 true Tryz.func179 ?_
 refine Z ?_
 refine Bb h (fun (v6,o7)=>[(4,(As false)),(12,(O .i64 v6))]) (fun (v6,o7)=>[(1,.map (Bi (O .i64) o7))]) ?_
 rintro ⟨v6,o7⟩ _ _ _ h _ _
 refine Z ?_
 refine Ap h (fun _ h=>?_) (fun _ h=>?_)
 refine Z ?_
 refine Ca h (fun _ _ _ _ h=>?_)
 refine Z ?_
 refine A7 [0,1,2] h (fun _ h=>?_)
 refine Z ?_
 refine F1 h (fun _ h=>?_) (fun _ h=>?_)
 exact Y
 refine Z ?_
 refine A7 [0,1,2] h (fun _ h=>?_)
 exact Y
 replace h:=Cs h
 refine Z ?_
 refine Bb h (fun v18=>[(4,(As false)),(34,(O .i64 v18))]) (fun v18=>[]) ?_
 rintro v18 _ _ _ h _ _
 refine Z ?_
 refine Ap h (fun _ h=>?_) (fun _ h=>?_)
 refine Z ?_
 refine Ca h (fun _ _ _ _ h=>?_)
 refine Z ?_
 refine F1 h (fun _ h=>?_) (fun _ h=>?_)
 exact Y
 refine Z ?_
 refine A7 [0,1,2] h (fun _ h=>?_)
 exact Y
 exact Y⟩
instance {a0:Ba} {b1:List (ByteArray×Int)} {b2:List (ByteArray×(List B4))} {b0_0:List A9} {b0_1:List Aj} {b0_2 b0_3:Int} {b0_4:List Aj}:OK (S5 a0 b1 b2 b0_0 b0_1 b0_2 b0_3 b0_4) fun r=>Bp Tryz.prog 126 [(.loc 0 0),Gl a0] [.cells 136 [(.sl 3 (List.map C2 b0_0)),(.sl 3 (Bo b0_1)),(O .i64 b0_2),(O .i64 b0_3),(.sl 3 (Bo b0_4)),(.mp 1),(.mp 2)],.map (Bi (O .i64) b1),.map (Bi (Ao 5 Df) b2)] (As r.1) [.cells 136 [(.sl 3 (List.map C2 b0_0)),(.sl 3 (Bo b0_1)),(O .i64 b0_2),(O .i64 b0_3),(.sl 3 (Bo b0_4)),(.mp 1),(.mp 2)],.map (Bi (O .i64) r.2),.map (Bi (Ao 5 Df) b2)]:=⟨fun {r} h=>by
 refine aw C0 true Tryz.func126 ?_
 refine ZS ?_
 refine Cm ?_
 refine ZO ?_
 refine Ay (Ay ?_)
 refine Cq h (fun (v4,o5)=>[(18,(As v4))]) (fun (v4,o5)=>[(1,.map (Bi (O .i64) o5))]) ?_ ?_
 intro _ h _ _ _
 refine Z ?_
 refine A7 [0,1,2] h (fun _ h=>?_)
 refine Z ?_
 refine F1 h (fun _ h=>?_) (fun _ h=>?_)
 exact Y
 refine Z ?_
 refine A7 [0,1,2] h (fun _ h=>?_)
 exact Y
 rintro ⟨v4,o5⟩ _ h
 refine Ap h (fun _ h=>?_) (fun _ h=>?_)
 exact Y
 refine Z ?_
 refine Bb h (fun (v9,o10)=>[(4,(As false)),(22,(O .i64 v9))]) (fun (v9,o10)=>[(1,.map (Bi (O .i64) o10))]) ?_
 rintro ⟨v9,o10⟩ _ _ _ h _ _
 refine Z ?_
 refine Ap h (fun _ h=>?_) (fun _ h=>?_)
 refine Z ?_
 refine Ca h (fun _ _ _ _ h=>?_)
 refine Z ?_
 refine A7 [0,1,2] h (fun _ h=>?_)
 exact Y
 replace h:=Cs h
 refine Z ?_
 refine Bb h (fun v22=>[(4,(As false)),(54,(O .i64 v22))]) (fun v22=>[]) ?_
 rintro v22 _ _ _ h _ _
 refine Z ?_
 refine Ap h (fun _ h=>?_) (fun _ h=>?_)
 refine Z ?_
 refine Ca h (fun _ _ _ _ h=>?_)
 refine ZO ?_
 refine Ay (Ay ?_)
 refine Cq h (fun v26=>[(74,(As v26))]) (fun v26=>[]) ?_ ?_
 intro _ h _ _ _
 exact Y
 rintro v26 _ h
 exact Y
 exact Y⟩
instance {a0 a1:List Int}:OK (Qd a0 a1) fun r=>Aw Tryz.prog 189 [(Ao 1 (O .u32)) a0,(Ao 1 (O .u32)) a1] ((O .i64) r):=⟨fun {r} h=>by
 refine pw C0 Tryz.func189 ?_
 refine Z ?_
 refine Ap h (fun _ h=>?_) (fun _ h=>?_)
 exact Y
 refine Z ?_
 refine Bb h (fun v5=>[(4,(O .i64 0)),(5,(O .i64 v5))]) (fun v5=>[]) ?_
 rintro v5 _ _ _ h _ _
 exact Y⟩
instance {a0:List Int} {a1:Int}:OK (Qq a0 a1) fun r=>Aw Tryz.prog 296 [(Ao 1 (O .u32)) a0,(O .u64) a1] (.tup [(Ao 1 (O .u32)) r.1,(O .u64) r.2]):=⟨fun {r} h=>by
 refine pw {T:=Cg,an:=(fun _=>.ask),nl:=(fun s=>bif Nat.beq s 4 then [(0,1)] else [])} Tryz.func296 ?_
 refine Z ?_
 refine G2 h (fun o1 h=>?_)
 refine Z ?_
 refine Er h (fun (v7,v8,o9)=>[(7,(O .u64 v7)),(8,(O .i64 v8))]) (fun (v7,v8,o9)=>[(0,.rows 107 1 (List.map (O .u32) o9))]) (fun (v7,v8,o9)=>o1.length=o9.length) ?_
 rintro ⟨v7,v8,o9⟩ _ _ _ h _ _ q9
 refine Z ?_
 refine Ap h (fun _ h=>?_) (fun _ h=>?_)
 exact Y
 replace h:=Cs h
 refine F6 (F5 rfl (Ay ?_))
 refine Dw [.fz 6] ?_
 exact Y⟩
instance {a0:Int}:OK (Nk a0) fun r=>Aw Tryz.prog 222 [(O .u64) a0] ((Ao 1 (O .u32)) r):=⟨fun {r} h=>by
 refine pw {T:=Cg,an:=(fun s=>bif Nat.beq s 3 then .own else .ask),nl:=(fun s=>bif Nat.beq s 3 then [(0,1)] else bif Nat.beq s 2 then [(0,1)] else [])} Tryz.func222 ?_
 refine Z ?_
 refine Bb h (fun (v10,o11)=>[(0,(O .u64 v10)),(3,(.arr 0 o11.length 0 o11.length))]) (fun (v10,o11)=>[(0,.rows 107 1 (List.map (O .u32) o11))]) ?_
 rintro ⟨v10,o11⟩ _ _ _ h _ _
 exact Y⟩
instance {a0:List Int} {a1:Int}:OK (Th a0 a1) fun r=>Bp Tryz.prog 297 [(Ao 1 (O .u32)) a0,(O .u64) a1] [] (.arr 0 r.length 0 r.length) [.rows 107 1 (List.map (O .u32) r)]:=⟨fun {r} h=>by
 refine aw {T:=Cg,an:=(fun _=>.ask),nl:=(fun s=>bif Nat.beq s 4 then [(0,1)] else [])} false Tryz.func297 ?_
 refine Z ?_
 refine G2 h (fun o1 h=>?_)
 refine Z ?_
 refine Er h (fun (v7,v8,o9)=>[(6,(O .u64 v7)),(15,(O .i64 v8))]) (fun (v7,v8,o9)=>[(0,.rows 107 1 (List.map (O .u32) o9))]) (fun (v7,v8,o9)=>o1.length=o9.length) ?_
 rintro ⟨v7,v8,o9⟩ _ _ _ h _ _ q9
 refine Z ?_
 refine Ap h (fun _ h=>?_) (fun _ h=>?_)
 exact Y
 replace h:=Cs h
 refine Z ?_
 refine Ja h (fun _ _ hiv16 _ h=>?_)
 refine Z ?_
 refine Mb (f:=(O .u32)) (x:=(Cf v7)) (j:=(a0.length:Int)) rfl rfl (Nat.zero_add _) hiv16 ?_
 refine Z ?_
 cases h
 exact ⟨congrArg (fun q_=>AV.arr 0 q_ 0 q_) (Hb (l:=o9) q9 (a0.length:Int) (Cf v7)),rfl,trivial⟩⟩
instance {a0:List Int} {a1:Int}:OK (Aec a0 a1) fun r=>Aw Tryz.prog 297 [(Ao 1 (O .u32)) a0,(O .u64) a1] ((Ao 1 (O .u32)) r):=⟨fun {r} h=>by
 refine pw {T:=Cg,an:=(fun _=>.ask),nl:=(fun s=>bif Nat.beq s 4 then [(0,1)] else [])} Tryz.func297 ?_
 refine Z ?_
 refine G2 h (fun o1 h=>?_)
 refine Z ?_
 refine Er h (fun (v7,v8,o9)=>[(6,(O .u64 v7)),(15,(O .i64 v8))]) (fun (v7,v8,o9)=>[(0,.rows 107 1 (List.map (O .u32) o9))]) (fun (v7,v8,o9)=>o1.length=o9.length) ?_
 rintro ⟨v7,v8,o9⟩ _ _ _ h _ _ q9
 exact Y⟩
instance {a0 a1:Nat} {a2 b0:List Int}:OK (Wh a0 a1 a2 b0) fun r=>Bp Tryz.prog 298 [(.arr 0 b0.length a0 a1),(Ao 1 (O .u32)) a2] [.rows 107 1 (List.map (O .u32) b0)] ((O .u32) r.1) [.rows 107 1 (List.map (O .u32) r.2)]:=⟨fun {r} h=>by
 refine aw C0 true Tryz.func298 ?_
 refine Z ?_
 refine Ca h (fun _ _ _ _ h=>?_)
 refine Z ?_
 refine Ca h (fun _ _ _ _ h=>?_)
 refine Z ?_
 refine Kt h (fun _ _ _ _ h=>?_)
 refine Z ?_
 refine Kt h (fun _ _ _ _ h=>?_)
 refine Z ?_
 refine Uy h (fun _ h=>?_)
 refine Z ?_
 refine Y8 h (fun _ h=>?_)
 refine Z ?_
 refine Bb h (fun (v9,v10)=>[(9,(O .u64 v9)),(10,(O .u64 v10))]) (fun (v9,v10)=>[]) ?_
 rintro ⟨v9,v10⟩ _ _ _ h _ _
 refine Ay (Ay ?_)
 refine Cq h (fun v12=>[(71,(As v12))]) (fun v12=>[]) ?_ ?_
 intro _ h _ _ _
 exact Y
 rintro v12 _ h
 refine Ap h (fun _ h=>?_) (fun _ h=>?_)
 exact Y
 replace h:=Cs h
 refine Z ?_
 refine Er h (fun (v24,v25,o26)=>[(11,(O .i64 v24)),(78,(O .i64 v25))]) (fun (v24,v25,o26)=>[(0,.rows 107 1 (List.map (O .u32) o26))]) (fun (v24,v25,o26)=>b0.length=o26.length) ?_
 rintro ⟨v24,v25,o26⟩ _ _ _ h _ _ q26
 refine Z ?_
 refine Ap h (fun _ h=>?_) (fun _ h=>?_)
 refine Z ?_
 refine Kt h (fun _ _ _ _ h=>?_)
 refine Z ?_
 refine Ca h (fun _ _ _ _ h=>?_)
 refine Z ?_
 refine Y8 h (fun _ h=>?_)
 refine Z ?_
 refine Ca h (fun _ _ _ _ h=>?_)
 refine Z ?_
 refine Uy h (fun _ h=>?_)
 refine Z ?_
 refine Bb h (fun (v32,v33)=>[(11,(O .i64 v32)),(13,(O .i64 v33))]) (fun (v32,v33)=>[]) ?_
 rintro ⟨v32,v33⟩ _ _ _ h _ _
 exact Y
 replace h:=Cs h
 refine Z ?_
 refine Kt h (fun _ _ _ _ h=>?_)
 refine Z ?_
 refine Ap h (fun _ h=>?_) (fun _ h=>?_)
 exact Y
 refine Z ?_
 refine Er h (fun (v46,v47,o48)=>[(15,(O .u32 v46)),(136,(O .i64 v47))]) (fun (v46,v47,o48)=>[(0,.rows 107 1 (List.map (O .u32) o48))]) (fun (v46,v47,o48)=>b0.length=o48.length) ?_
 rintro ⟨v46,v47,o48⟩ _ _ _ h _ _ q48
 exact Y⟩
instance {a0 a1:List Int}:OK (Qm a0 a1) fun r=>Aw Tryz.prog 256 [(Ao 1 (O .u32)) a0,(Ao 1 (O .u32)) a1] (.tup [(Ao 1 (O .u32)) r.1,(Ao 1 (O .u32)) r.2]):=⟨fun {r} h=>by
 refine pw {T:=Cg,an:=(fun _=>.ask),nl:=(fun s=>bif Nat.beq s 5 then [(0,1)] else bif Nat.beq s 4 then [(0,1)] else [])} Tryz.func256 ?_
 refine Z ?_
 refine Bl h (fun _ h=>?_)
 refine Z ?_
 refine Ap h (fun _ h=>?_) (fun _ h=>?_)
 exact Y
 refine Z ?_
 refine Ap h (fun _ h=>?_) (fun _ h=>?_)
 exact Y
 refine Z ?_
 refine Ca h (fun _ _ _ _ h=>?_)
 refine Z ?_
 refine Uy h (fun _ h=>?_)
 refine Z ?_
 refine A7 [] h (fun v9 h=>?_)
 refine Z ?_
 refine Bl h (fun _ h=>?_)
 refine Z ?_
 refine Lp h (fun v12 h=>?_)
 refine Z ?_
 refine G2 h (fun o13 h=>?_)
 refine Z ?_
 refine Er h (fun (v19,o20,o21)=>[(13,(O .i64 v19))]) (fun (v19,o20,o21)=>[(0,.rows 107 1 (List.map (O .u32) o20)),(1,.rows 107 1 (List.map (O .u32) o21))]) (fun (v19,o20,o21)=>v9.length=o20.length/\o13.length=o21.length) ?_ (h0:=(⟨rfl,rfl⟩))
 rintro ⟨v19,o20,o21⟩ _ _ _ h _ hn1 ⟨q20,q21⟩
 refine Z ?_
 refine Ap h (fun _ h=>?_) (fun _ h=>?_)
 refine Z ?_
 refine Ai5 (f:=(O .u32)) rfl q20 h (fun v22 h=>?_)
 refine Z ?_
 refine C5 h (fun v23 hcv23 h=>?_)
 have okv23:=(OK.ok hcv23 :)
 rw [<-q20] at okv23
 refine Fh.act [0] _ _ _ _ okv23 rfl rfl ⟨rfl,trivial⟩ ?_
 refine C5 h (fun v24 hgv24 h=>?_)
 refine Z ?_
 refine Ja h (fun _ _ hiv25 _ h=>?_)
 refine Z ?_
 refine Mb (f:=(O .u32)) (x:=v23.1) (j:=v19) rfl rfl (Nat.zero_add _) hiv25 ?_
 refine Z ?_
 exact hn1 _ _ _ _ (Option.some.inj h) ⟨rfl,trivial⟩ ⟨⟨rfl,rfl⟩,⟨rfl,rfl⟩,trivial⟩ (⟨Ic hgv24,Hb (l:=o21) q21 v19 v23.1⟩)
 replace h:=Cs h
 refine F6 (F5 rfl (Ay ?_))
 refine Dw [.fz 10] ?_
 refine Z ?_
 refine Bl h (fun _ h=>?_)
 refine Z ?_
 refine Bl h (fun _ h=>?_)
 refine ZO ?_
 refine Ay ?_
 refine Dw [.fz 12] ?_
 exact Y⟩
instance {a0:List Int}:OK (Tg a0) fun r=>Aw Tryz.prog 295 [(Ao 1 (O .u32)) a0] (.tup [(O .u64) r.1,As r.2]):=⟨fun {r} h=>by
 refine pw C0 Tryz.func295 ?_
 refine Z ?_
 refine Bb h (fun (v3,v4)=>[(2,(O .u64 0)),(3,(As false)),(4,(O .u64 v3)),(9,(O .i64 v4))]) (fun (v3,v4)=>[]) ?_
 rintro ⟨v3,v4⟩ _ _ _ h _ _
 exact Y⟩
instance {a0 a1:List Int}:OK (Wa a0 a1) fun r=>Aw Tryz.prog 255 [(Ao 1 (O .u32)) a0,(Ao 1 (O .u32)) a1] ((Ao 1 (O .u32)) r):=⟨fun {r} h=>by
 refine pw {T:=Cg,an:=(fun _=>.ask),nl:=(fun s=>bif Nat.beq s 4 then [(0,1)] else [])} Tryz.func255 ?_
 refine Z ?_
 refine Bb h (fun (v12,v13)=>[(0,(.sl 1 (List.map (O .u32) v12))),(1,(.sl 1 (List.map (O .u32) v13))),(4,(.sl 1 (List.map (O .u32) [])))]) (fun (v12,v13)=>[]) ?_
 rintro ⟨v12,v13⟩ _ _ _ h _ _
 refine Z ?_
 refine Ap h (fun _ h=>?_) (fun _ h=>?_)
 refine Iq (Jy (Ay (Ay ?_)))
 refine Cq h (fun v14=>[(21,(As v14))]) (fun v14=>[]) ?_ ?_
 intro _ h _ _ _
 exact Y
 rintro v14 _ h
 refine Ap h (fun _ h=>?_) (fun _ h=>?_)
 refine Z ?_
 refine Bl h (fun _ h=>?_)
 refine Z ?_
 refine Bl h (fun _ h=>?_)
 refine Z ?_
 refine Bb h (fun (v18,v19)=>[(5,(O .u64 v18)),(7,(O .u64 v19))]) (fun (v18,v19)=>[]) ?_
 rintro ⟨v18,v19⟩ _ _ _ h _ _
 exact Y
 exact Y
 exact Y⟩
instance {a0:List Int}:OK (Ql a0) fun r=>Aw Tryz.prog 254 [(Ao 1 (O .u32)) a0] (As r):=⟨fun {r} h=>by
 refine pw C0 Tryz.func254 ?_
 exact Y⟩
instance {a0:Gf}:OK (Zn a0) fun r=>Aw Tryz.prog 191 [Ou a0] (Ou r):=⟨fun {r} h=>by
 refine pw {T:=Cg,an:=(fun _=>.ask),nl:=(fun s=>bif Nat.beq s 13 then [(1,1)] else [])} Tryz.func191 ?_
 exact Y⟩
instance {a0:Gf}:OK (Mh a0) fun r=>Aw Tryz.prog 133 [Ou a0] (Cn r):=⟨fun {r} h=>by
 refine pw C0 Tryz.func133 ?_
 exact Y⟩
instance {a0:Ak}:OK (Nd a0) fun r=>Aw Tryz.prog 124 [Cn a0] (Cn r):=⟨fun {r} h=>by
 refine pw C0 Tryz.func124 ?_
 exact Y⟩
instance {a0 a1:List Int}:OK (Mf a0 a1) fun r=>Aw Tryz.prog 125 [(Ao 1 (O .u32)) a0,(Ao 1 (O .u32)) a1] (As r):=⟨fun {r} h=>by
 refine pw C0 Tryz.func125 ?_
 refine Z ?_
 refine Ap h (fun _ h=>?_) (fun _ h=>?_)
 exact Y
 refine Z ?_
 refine Bb h (fun v3=>[(4,(As false)),(13,(O .i64 v3))]) (fun v3=>[]) ?_
 rintro v3 _ _ _ h _ _
 exact Y⟩
instance {a0:List Ah} {b1:List (ByteArray×Int)} {b2:List (ByteArray×(List B4))} {b0_0:List A9} {b0_1:List Aj} {b0_2 b0_3:Int} {b0_4:List Aj}:OK (Vd a0 b1 b2 b0_0 b0_1 b0_2 b0_3 b0_4) fun r=>Bp Tryz.prog 77 [(.loc 0 0),(Ao 5 Bn) a0] [.cells 136 [(.sl 3 (List.map C2 b0_0)),(.sl 3 (Bo b0_1)),(O .i64 b0_2),(O .i64 b0_3),(.sl 3 (Bo b0_4)),(.mp 1),(.mp 2)],.map (Bi (O .i64) b1),.map (Bi (Ao 5 Df) b2)] (As r.1) [.cells 136 [(.sl 3 (List.map C2 b0_0)),(.sl 3 (Bo b0_1)),(O .i64 b0_2),(O .i64 b0_3),(.sl 3 (Bo b0_4)),(.mp 1),(.mp 2)],.map (Bi (O .i64) r.2),.map (Bi (Ao 5 Df) b2)]:=⟨fun {r} h=>by
 refine aw C0 true Tryz.func77 ?_
 refine Z ?_
 refine Ap h (fun _ h=>?_) (fun _ h=>?_)
 exact Y
 refine Z ?_
 refine Bb h (fun (v10,o11)=>[(4,(As false)),(14,(O .i64 v10))]) (fun (v10,o11)=>[(1,.map (Bi (O .i64) o11))]) ?_
 rintro ⟨v10,o11⟩ _ _ _ h _ _
 refine Z ?_
 refine Ap h (fun _ h=>?_) (fun _ h=>?_)
 refine Z ?_
 refine Ca h (fun _ _ _ _ h=>?_)
 refine Z ?_
 refine Bl h (fun _ h=>?_)
 refine ZO ?_
 refine Ay ?_
 refine Cq h (fun v18=>[(8,(As v18))]) (fun v18=>[]) ?_ ?_
 intro _ h _ _ _
 exact Y
 rintro v18 _ h
 refine Z ?_
 refine F1 h (fun _ h=>?_) (fun _ h=>?_)
 exact Y
 refine Z ?_
 refine Bl h (fun _ h=>?_)
 refine Z ?_
 refine F1 h (fun _ h=>?_) (fun _ h=>?_)
 exact Y
 refine Z ?_
 refine A7 [0,1,2] h (fun _ h=>?_)
 exact Y
 exact Y⟩
theorem Tp {a0:Bj} {a1:List (List Ah)} {r:(Bool×Bj×(List (ByteArray×Int))×(List (ByteArray×(List B4)))×(List A9)×(List Aj)×Int×Int×(List Aj))} (h:I5 a0 a1=some (.inl r)):Bp Tryz.prog 41 [Gy a0,(Ao 1 (Ao 5 Bn)) a1] [] (.tup [.loc 3 0,As r.1]) [.cells 39 [(.sl 3 (List.map C2 r.2.1.Data)),(.sl 3 (Bo r.2.1.Vars)),(O .i64 r.2.1.Res.Kind),(O .i64 r.2.1.Res.Num),(.sl 3 (Bo r.2.1.Res.Args))],.map (Bi (O .i64) r.2.2.1),.map (Bi (Ao 5 Df) r.2.2.2.1),.cells 136 [(.sl 3 (List.map C2 r.2.2.2.2.1)),(.sl 3 (Bo r.2.2.2.2.2.1)),(O .i64 r.2.2.2.2.2.2.1),(O .i64 r.2.2.2.2.2.2.2.1),(.sl 3 (Bo r.2.2.2.2.2.2.2.2)),(.mp 1),(.mp 2)]]:=by
 refine aw {T:=Cg,an:=(fun _=>.ask),nl:=(fun s=>bif Nat.beq s 18 then [(1,7),(2,3),(3,8)] else [])} true Tryz.func41 ?_
 refine ZS ?_
 refine Cm ?_
 refine ZO ?_
 refine Ay (Ay ?_)
 refine Cq h (fun v4=>[(29,(As v4))]) (fun v4=>[]) ?_ ?_
 intro _ h _ _ _
 exact Y
 rintro v4 _ h
 refine Ap h (fun _ h=>?_) (fun _ h=>?_)
 exact Y
 refine Z ?_
 refine Bb h (fun v8=>[(4,(.val (.pointer none))),(5,(As false)),(33,(O .i64 v8))]) (fun v8=>[]) ?_
 rintro v8 _ _ _ h _ _
 refine Z ?_
 refine Ap h (fun _ h=>?_) (fun _ h=>?_)
 exact Y
 replace h:=Cs h
 refine Z ?_
 refine Bb h (fun (v18,o19)=>[(4,(.val (.pointer none))),(5,(As false)),(50,(O .i64 v18))]) (fun (v18,o19)=>[(1,.map (Bi (O .i64) o19))]) ?_
 rintro ⟨v18,o19⟩ _ _ _ h _ _
 refine Z ?_
 refine Ap h (fun _ h=>?_) (fun _ h=>?_)
 refine Z ?_
 refine Ca h (fun _ _ _ _ h=>?_)
 refine Z ?_
 refine A7 [3,1,2] h (fun _ h=>?_)
 exact Y
 exact Y
theorem Tq {a0:Bj} {a1:List (List Ah)} {r:Bool} (h:I5 a0 a1=some (.inr r)):Bp Tryz.prog 41 [Gy a0,(Ao 1 (Ao 5 Bn)) a1] [] (.tup [.val (.pointer none),As r]) []:=by
 refine aw {T:=Cg,an:=(fun _=>.ask),nl:=(fun s=>bif Nat.beq s 18 then [(1,7),(2,3),(3,8)] else [])} true Tryz.func41 ?_
 refine ZS ?_
 refine Cm ?_
 refine ZO ?_
 refine Ay (Ay ?_)
 refine Cq h (fun v4=>[(29,(As v4))]) (fun v4=>[]) ?_ ?_
 intro _ h _ _ _
 exact Y
 rintro v4 _ h
 refine Ap h (fun _ h=>?_) (fun _ h=>?_)
 exact Y
 refine Z ?_
 refine Bb h (fun v8=>[(4,(.val (.pointer none))),(5,(As false)),(33,(O .i64 v8))]) (fun v8=>[]) ?_
 rintro v8 _ _ _ h _ _
 refine Z ?_
 refine Ap h (fun _ h=>?_) (fun _ h=>?_)
 exact Y
 replace h:=Cs h
 refine Z ?_
 refine Bb h (fun (v18,o19)=>[(4,(.val (.pointer none))),(5,(As false)),(50,(O .i64 v18))]) (fun (v18,o19)=>[(1,.map (Bi (O .i64) o19))]) ?_
 rintro ⟨v18,o19⟩ _ _ _ h _ _
 refine Z ?_
 refine Ap h (fun _ h=>?_) (fun _ h=>?_)
 refine Z ?_
 refine Ca h (fun _ _ _ _ h=>?_)
 refine Z ?_
 refine A7 [3,1,2] h (fun _ h=>?_)
 exact Y
 exact Y
instance {a0:Bj} {a1:List Ah}:OK (Jz a0 a1) fun r=>Aw Tryz.prog 35 [Gy a0,(Ao 5 Bn) a1] (As r):=⟨fun {r} h=>by
 refine pw C0 Tryz.func35 ?_
 refine Z ?_
 refine C5 h (fun v2 hcv2 h=>?_)
 rcases v2 with v3 | v8
 refine Fh.act [] _ _ _ _ (Tp (a0:=a0) (a1:=[a1]) hcv2) rfl rfl trivial ?_
 exact Y
 refine Fh.act [] _ _ _ _ (Tq (a0:=a0) (a1:=[a1]) hcv2) rfl rfl trivial ?_
 exact Y⟩
instance  : OK (Hz) fun r=>Bp Tryz.prog 42 [] [] (.loc 1 0) [.map (Bi (O .i64) r.1),.cells 138 [(.mp 0),(.arr 2 r.2.length 0 r.2.length)],.rows 75 5 (List.map Bn r.2)]:=⟨fun {r} h=>by
 refine aw C0 true Tryz.func42 ?_
 refine ZS ?_
 refine Cm ?_
 refine ZS ?_
 refine Cm ?_
 refine ZO ?_
 refine Dw [.own 3 1 75 5] ?_
 exact Y⟩
instance {a0 a1:List Int}:OK (Nj a0 a1) fun r=>Aw Tryz.prog 187 [(Ao 1 (O .u32)) a0,(Ao 1 (O .u32)) a1] ((Ao 1 (O .u32)) r):=⟨fun {r} h=>by
 refine pw {T:=Cg,an:=(fun _=>.ask),nl:=(fun s=>bif Nat.beq s 4 then [(0,1)] else [])} Tryz.func187 ?_
 refine ZS ?_
 refine Cm ?_
 refine ZO ?_
 refine Ay (Ay ?_)
 refine Cq h (fun v1=>[(17,(As v1))]) (fun v1=>[]) ?_ ?_
 intro _ h _ _ _
 exact Y
 rintro v1 _ h
 refine Ap h (fun _ h=>?_) (fun _ h=>?_)
 exact Y
 refine Z ?_
 refine G2 h (fun o2 h=>?_)
 refine Z ?_
 refine Er h (fun (v23,o24)=>[(26,(O .i64 v23))]) (fun (v23,o24)=>[(0,.rows 107 1 (List.map (O .u32) o24))]) (fun (v23,o24)=>o2.length=o24.length) ?_
 rintro ⟨v23,o24⟩ _ _ _ h _ _ q24
 refine Z ?_
 refine Ap h (fun _ h=>?_) (fun _ h=>?_)
 refine Z ?_
 refine Er h (fun (v31,v32,o33)=>[(7,(O .u64 v31)),(31,(O .i64 v32))]) (fun (v31,v32,o33)=>[(0,.rows 107 1 (List.map (O .u32) o33))]) (fun (v31,v32,o33)=>o2.length=o33.length) ?_
 rintro ⟨v31,v32,o33⟩ _ _ _ h _ _ q33
 exact Y
 replace h:=Cs h
 refine F6 (F5 rfl (Ay ?_))
 refine Dw [.fz 5] ?_
 exact Y⟩
instance {a0 a1:Ak}:OK (Gi a0 a1) fun r=>Aw Tryz.prog 151 [Cn a0,Cn a1] (Cn r):=⟨fun {r} h=>by
 refine pw C0 Tryz.func151 ?_
 exact Y⟩
instance {a0:List Ah} {a1:Ak}:OK (S4 a0 a1) fun r=>Aw Tryz.prog 111 [(Ao 5 Bn) a0,Cn a1] ((Ao 5 Bn) r):=⟨fun {r} h=>by
 refine pw {T:=Cg,an:=(fun s=>bif Nat.beq s 5 then .own else .ask),nl:=(fun s=>bif Nat.beq s 5 then [(0,5)] else bif Nat.beq s 4 then [(0,5)] else [])} Tryz.func111 ?_
 refine Z ?_
 refine Bb h (fun (v13,o14)=>[(5,(.arr 1 o14.length 0 o14.length)),(10,(O .i64 v13))]) (fun (v13,o14)=>[(1,.rows 75 5 (List.map Bn o14))]) ?_
 rintro ⟨v13,o14⟩ _ _ _ h _ _
 exact Y⟩
theorem Akx {a0:Int} {a1:Bool} {b1:List Int} {r:(Int×(List Int))} (h:Qc a0 a1 b1=some (.inl r)):Bp Tryz.prog 185 [(.loc 0 0),(O .i64) a0,As a1] [.cells 178 [(.val (.pointer none)),(.arr 1 b1.length 0 b1.length)],.rows 5 1 (List.map (O .u8) b1)] ((O .i64) r.1) [.cells 178 [(.loc 0 0),(.arr 1 r.2.length 0 r.2.length)],.rows 5 1 (List.map (O .u8) r.2)]:=by
 refine aw C0 true Tryz.func185 ?_
 refine ZS ?_
 refine Cm ?_
 refine ZO ?_
 refine Ay (Jy (Ay ?_))
 refine Cq h (fun v1=>[(7,(As v1))]) (fun v1=>[]) ?_ ?_
 intro _ h _ _ _
 exact Y
 rintro v1 _ h
 refine Ap h (fun _ h=>?_) (fun _ h=>?_)
 refine Z ?_
 refine A7 [0,1] h (fun _ h=>?_)
 exact Y
 refine Z ?_
 refine Ap h (fun _ h=>?_) (fun _ h=>?_)
 refine Z ?_
 refine A7 [0,1] h (fun _ h=>?_)
 exact Y
 refine Z ?_
 refine Ap h (fun _ h=>?_) (fun _ h=>?_)
 refine Z ?_
 refine A7 [0,1] h (fun _ h=>?_)
 exact Y
 exact Y
theorem Aky {a0:Int} {a1:Bool} {b1:List Int} {r:(Int×(List Int))} (h:Qc a0 a1 b1=some (.inr r)):Bp Tryz.prog 185 [(.loc 0 0),(O .i64) a0,As a1] [.cells 178 [(.val (.pointer none)),(.arr 1 b1.length 0 b1.length)],.rows 5 1 (List.map (O .u8) b1)] ((O .i64) r.1) [.cells 178 [(.val (.pointer none)),(.arr 1 r.2.length 0 r.2.length)],.rows 5 1 (List.map (O .u8) r.2)]:=by
 refine aw C0 true Tryz.func185 ?_
 refine ZS ?_
 refine Cm ?_
 refine ZO ?_
 refine Ay (Jy (Ay ?_))
 refine Cq h (fun v1=>[(7,(As v1))]) (fun v1=>[]) ?_ ?_
 intro _ h _ _ _
 exact Y
 rintro v1 _ h
 refine Ap h (fun _ h=>?_) (fun _ h=>?_)
 refine Z ?_
 refine A7 [0,1] h (fun _ h=>?_)
 exact Y
 refine Z ?_
 refine Ap h (fun _ h=>?_) (fun _ h=>?_)
 refine Z ?_
 refine A7 [0,1] h (fun _ h=>?_)
 exact Y
 refine Z ?_
 refine Ap h (fun _ h=>?_) (fun _ h=>?_)
 refine Z ?_
 refine A7 [0,1] h (fun _ h=>?_)
 exact Y
 exact Y
instance {a0:Int} {a1:Bool} {b1:List Int}:OK (Wq a0 a1 b1) fun r=>Bp Tryz.prog 185 [(.loc 0 0),(O .i64) a0,As a1] [.cells 178 [(.loc 0 0),(.arr 1 b1.length 0 b1.length)],.rows 5 1 (List.map (O .u8) b1)] ((O .i64) r.1) [.cells 178 [(.loc 0 0),(.arr 1 r.2.length 0 r.2.length)],.rows 5 1 (List.map (O .u8) r.2)]:=⟨fun {r} h=>by
 refine aw C0 true Tryz.func185 ?_
 refine ZS ?_
 refine Cm ?_
 refine ZO ?_
 refine Ay (Jy (Ay ?_))
 refine Cq h (fun v1=>[(7,(As v1))]) (fun v1=>[]) ?_ ?_
 intro _ h _ _ _
 exact Y
 rintro v1 _ h
 refine Ap h (fun _ h=>?_) (fun _ h=>?_)
 refine Z ?_
 refine A7 [0,1] h (fun _ h=>?_)
 exact Y
 refine Z ?_
 refine Ap h (fun _ h=>?_) (fun _ h=>?_)
 refine Z ?_
 refine A7 [0,1] h (fun _ h=>?_)
 exact Y
 refine Z ?_
 refine Ap h (fun _ h=>?_) (fun _ h=>?_)
 refine Z ?_
 refine A7 [0,1] h (fun _ h=>?_)
 exact Y
 exact Y⟩
instance {a0 a1:Int}:OK (Ll a0 a1) fun r=>Aw Tryz.prog 186 [(O .i64) a0,(O .i64) a1] (E5 r):=⟨fun {r} h=>by
 exact Aum h⟩
instance {b1:List Int}:OK (Wp b1) fun r=>Bp Tryz.prog 131 [(.loc 0 0)] [.cells 178 [(.val (.pointer none)),(.arr 1 b1.length 0 b1.length)],.rows 5 1 (List.map (O .u8) b1)] (E5 r) [.cells 178 [(.val (.pointer none)),(.fb r)],.dead]:=⟨fun {r} h=>by
 exact Aj4 h⟩
end Go.Ab
namespace Go.Ab
open Go Go.Proofs
set_option maxRecDepth 10000
set_option maxHeartbeats 4000000
set_option linter.unusedVariables false
instance {a0:Ar}:OK (Nf a0) fun r=>Aw Tryz.prog 130 [De a0] (E5 r):=⟨fun {r} h=>by
 refine pw C0 Tryz.func130 ?_
 refine Z ?_
 refine Bl h (fun _ h=>?_)
 refine Z ?_
 refine Ap h (fun _ h=>?_) (fun _ h=>?_)
 exact Y
 refine ZS ?_
 refine Cm ?_
 refine ZO ?_
 refine Ay (Ay ?_)
 refine Dw [.own 3 1 5 1] ?_
 refine Z ?_
 refine Sj ?_
 refine Z ?_
 refine Ap h (fun _ h=>?_) (fun _ h=>?_)
 refine Iq (Ay ?_)
 refine Cq h (fun (v30,o31)=>[(4,(O .i64 0)),(6,(O .i64 v30))]) (fun (v30,o31)=>[(1,.cells 178 [(.loc 1 0),(.arr 2 o31.length 0 o31.length)]),(2,.rows 5 1 (List.map (O .u8) o31))]) ?_ ?_
 intro _ h _ _ _
 refine Z ?_
 refine Ca h (fun _ v5 _ _ h=>?_)
 refine Z ?_
 refine C5 h (fun v7 hcv7 h=>?_)
 rcases v7 with v8 | v9
 refine Fh.act [1,2] _ _ _ _ (Akx (a0:=v5.Coef) (a1:=true) (b1:=[]) hcv7) rfl rfl ⟨rfl,rfl,trivial⟩ ?_
 refine ZS ?_
 refine Cm ?_
 refine ZO ?_
 refine Cq h (fun o14=>[]) (fun o14=>[(1,.cells 178 [(.loc 1 0),(.arr 2 o14.length 0 o14.length)]),(2,.rows 5 1 (List.map (O .u8) o14))]) ?_ ?_
 intro _ h _ _ _
 refine Ap h (fun _ h=>?_) (fun _ h=>?_)
 refine Z ?_
 refine Bl h (fun _ h=>?_)
 refine Z ?_
 refine Gg h (fun h=>?_)
 refine Z ?_
 refine A7 [1,2] h (fun _ h=>?_)
 exact Y
 exact Y
 rintro o14 _ h
 refine Z ?_
 refine Ap h (fun _ h=>?_) (fun _ h=>?_)
 refine Z ?_
 refine A7 [1,2] h (fun _ h=>?_)
 exact Y
 refine Z ?_
 refine Bl h (fun _ h=>?_)
 refine Z ?_
 refine Gg h (fun h=>?_)
 refine Z ?_
 refine A7 [1,2] h (fun _ h=>?_)
 exact Y
 refine Fh.act [1,2] _ _ _ _ (Aky (a0:=v5.Coef) (a1:=true) (b1:=[]) hcv7) rfl rfl ⟨rfl,rfl,trivial⟩ ?_
 refine Z ?_
 refine Ap h (fun _ h=>?_) (fun _ h=>?_)
 refine Z ?_
 refine Bl h (fun _ h=>?_)
 refine Z ?_
 refine Gg h (fun h=>?_)
 refine Z ?_
 refine A7 [1,2] h (fun _ h=>?_)
 refine Z ?_
 refine Ap h (fun _ h=>?_) (fun _ h=>?_)
 refine Z ?_
 refine A7 [1,2] h (fun _ h=>?_)
 exact Y
 refine Z ?_
 refine Bl h (fun _ h=>?_)
 refine Z ?_
 refine Gg h (fun h=>?_)
 refine Z ?_
 refine A7 [1,2] h (fun _ h=>?_)
 exact Y
 refine Z ?_
 refine Ap h (fun _ h=>?_) (fun _ h=>?_)
 refine Z ?_
 refine A7 [1,2] h (fun _ h=>?_)
 exact Y
 refine Z ?_
 refine Bl h (fun _ h=>?_)
 refine Z ?_
 refine Gg h (fun h=>?_)
 refine Z ?_
 refine A7 [1,2] h (fun _ h=>?_)
 exact Y
 rintro ⟨v30,o31⟩ _ h
 refine Z ?_
 refine Bb h (fun (v43,o44)=>[(13,(O .i64 v43))]) (fun (v43,o44)=>[(1,.cells 178 [(.loc 1 0),(.arr 2 o44.length 0 o44.length)]),(2,.rows 5 1 (List.map (O .u8) o44))]) ?_
 rintro ⟨v43,o44⟩ _ _ _ h _ _
 refine Z ?_
 refine Ap h (fun _ h=>?_) (fun _ h=>?_)
 refine Z ?_
 refine Ca h (fun _ _ _ _ h=>?_)
 refine Z ?_
 refine A7 [1,2] h (fun _ h=>?_)
 refine ZS ?_
 refine Cm ?_
 refine ZO ?_
 refine Cq h (fun o51=>[]) (fun o51=>[(1,.cells 178 [(.loc 1 0),(.arr 2 o51.length 0 o51.length)]),(2,.rows 5 1 (List.map (O .u8) o51))]) ?_ ?_
 intro _ h _ _ _
 refine Ap h (fun _ h=>?_) (fun _ h=>?_)
 refine Z ?_
 refine Bl h (fun _ h=>?_)
 refine Z ?_
 refine Gg h (fun h=>?_)
 refine Z ?_
 refine A7 [1,2] h (fun _ h=>?_)
 exact Y
 exact Y
 rintro o51 _ h
 refine Z ?_
 refine Ap h (fun _ h=>?_) (fun _ h=>?_)
 refine Z ?_
 refine A7 [1,2] h (fun _ h=>?_)
 exact Y
 refine Z ?_
 refine Bl h (fun _ h=>?_)
 refine Z ?_
 refine Gg h (fun h=>?_)
 refine Z ?_
 refine A7 [1,2] h (fun _ h=>?_)
 exact Y
 replace h:=Cs h
 refine F6 (F5 rfl (Ay (Ay ?_)))
 refine Cq h (fun v57=>[(47,(As v57))]) (fun v57=>[]) ?_ ?_
 intro _ h _ _ _
 exact Y
 rintro v57 _ h
 refine Ap h (fun _ h=>?_) (fun _ h=>?_)
 refine Z ?_
 refine A7 [1,2] h (fun _ h=>?_)
 refine Z ?_
 refine Bl h (fun _ h=>?_)
 refine Z ?_
 refine A7 [1,2] h (fun _ h=>?_)
 refine Z ?_
 refine A7 [1,2] h (fun _ h=>?_)
 exact Y
 refine Z ?_
 refine A7 [1,2] h (fun _ h=>?_)
 exact Y
 refine F6 (F5 rfl (Ay (Ay ?_)))
 refine Cq h (fun v63=>[(47,(As v63))]) (fun v63=>[]) ?_ ?_
 intro _ h _ _ _
 exact Y
 rintro v63 _ h
 refine Ap h (fun _ h=>?_) (fun _ h=>?_)
 refine Z ?_
 refine C5 h (fun v64 hcv64 h=>?_)
 rcases v64 with v65 | v66
 refine Fh.act [1,2] _ _ _ _ (Akx (a0:=a0.Const) (a1:=((a0.Terms.length:Int)==(0:Int))) (b1:=[]) hcv64) rfl rfl ⟨rfl,rfl,trivial⟩ ?_
 refine Z ?_
 refine Bl h (fun _ h=>?_)
 refine Z ?_
 refine A7 [1,2] h (fun _ h=>?_)
 refine Z ?_
 refine A7 [1,2] h (fun _ h=>?_)
 exact Y
 refine Fh.act [1,2] _ _ _ _ (Aky (a0:=a0.Const) (a1:=((a0.Terms.length:Int)==(0:Int))) (b1:=[]) hcv64) rfl rfl ⟨rfl,rfl,trivial⟩ ?_
 refine Z ?_
 refine Bl h (fun _ h=>?_)
 refine Z ?_
 refine A7 [1,2] h (fun _ h=>?_)
 refine Z ?_
 refine A7 [1,2] h (fun _ h=>?_)
 exact Y
 refine Z ?_
 refine A7 [1,2] h (fun _ h=>?_)
 exact Y⟩
instance {a0:Ba}:OK (Ve a0) fun r=>Aw Tryz.prog 78 [Gl a0] (E5 r):=⟨fun {r} h=>by
 refine pw C0 Tryz.func78 ?_
 refine ZS ?_
 refine Cm ?_
 refine ZS ?_
 refine Cm ?_
 refine ZO ?_
 refine Ay (Ay ?_)
 refine Dw [.own 3 1 5 1] ?_
 refine Z ?_
 refine Sj ?_
 refine Z ?_
 refine Ap h (fun _ h=>?_) (fun _ h=>?_)
 refine Z ?_
 refine Ca h (fun _ _ _ _ h=>?_)
 refine Z ?_
 refine Bl h (fun _ h=>?_)
 refine Z ?_
 refine A7 [1,2] h (fun _ h=>?_)
 refine Z ?_
 refine Bb h (fun (v18,o19)=>[(11,(O .i64 v18))]) (fun (v18,o19)=>[(1,.cells 178 [(.loc 1 0),(.arr 2 o19.length 0 o19.length)]),(2,.rows 5 1 (List.map (O .u8) o19))]) ?_
 rintro ⟨v18,o19⟩ _ _ _ h _ _
 refine Z ?_
 refine Ap h (fun _ h=>?_) (fun _ h=>?_)
 refine Z ?_
 refine Ca h (fun _ _ _ _ h=>?_)
 refine Z ?_
 refine Bl h (fun _ h=>?_)
 refine Z ?_
 refine A7 [1,2] h (fun _ h=>?_)
 exact Y
 replace h:=Cs h
 refine Z ?_
 refine Sj ?_
 refine Z ?_
 refine Ap h (fun _ h=>?_) (fun _ h=>?_)
 refine Z ?_
 refine Ca h (fun _ _ _ _ h=>?_)
 refine Z ?_
 refine Bl h (fun _ h=>?_)
 refine Z ?_
 refine Gg h (fun h=>?_)
 refine Z ?_
 refine Gg h (fun h=>?_)
 refine Z ?_
 refine Bl h (fun _ h=>?_)
 refine Z ?_
 refine Gg h (fun h=>?_)
 refine Z ?_
 refine A7 [1,2] h (fun _ h=>?_)
 refine Z ?_
 refine Bb h (fun (v51,o52)=>[(25,(O .i64 v51))]) (fun (v51,o52)=>[(1,.cells 178 [(.loc 1 0),(.arr 2 o52.length 0 o52.length)]),(2,.rows 5 1 (List.map (O .u8) o52))]) ?_
 rintro ⟨v51,o52⟩ _ _ _ h _ _
 refine Z ?_
 refine Ap h (fun _ h=>?_) (fun _ h=>?_)
 refine Z ?_
 refine Ca h (fun _ _ _ _ h=>?_)
 refine Z ?_
 refine Bl h (fun _ h=>?_)
 refine Z ?_
 refine Gg h (fun h=>?_)
 refine Z ?_
 refine Gg h (fun h=>?_)
 refine Z ?_
 refine Bl h (fun _ h=>?_)
 refine Z ?_
 refine Gg h (fun h=>?_)
 refine Z ?_
 refine A7 [1,2] h (fun _ h=>?_)
 exact Y
 replace h:=Cs h
 refine Z ?_
 refine A7 [1,2] h (fun _ h=>?_)
 exact Y
 refine Z ?_
 refine A7 [1,2] h (fun _ h=>?_)
 exact Y
 refine Z ?_
 refine Sj ?_
 refine Z ?_
 refine Ap h (fun _ h=>?_) (fun _ h=>?_)
 refine Z ?_
 refine Ca h (fun _ _ _ _ h=>?_)
 refine Z ?_
 refine Bl h (fun _ h=>?_)
 refine Z ?_
 refine Gg h (fun h=>?_)
 refine Z ?_
 refine Gg h (fun h=>?_)
 refine Z ?_
 refine Bl h (fun _ h=>?_)
 refine Z ?_
 refine Gg h (fun h=>?_)
 refine Z ?_
 refine A7 [1,2] h (fun _ h=>?_)
 refine Z ?_
 refine Bb h (fun (v90,o91)=>[(25,(O .i64 v90))]) (fun (v90,o91)=>[(1,.cells 178 [(.loc 1 0),(.arr 2 o91.length 0 o91.length)]),(2,.rows 5 1 (List.map (O .u8) o91))]) ?_
 rintro ⟨v90,o91⟩ _ _ _ h _ _
 refine Z ?_
 refine Ap h (fun _ h=>?_) (fun _ h=>?_)
 refine Z ?_
 refine Ca h (fun _ _ _ _ h=>?_)
 refine Z ?_
 refine Bl h (fun _ h=>?_)
 refine Z ?_
 refine Gg h (fun h=>?_)
 refine Z ?_
 refine Gg h (fun h=>?_)
 refine Z ?_
 refine Bl h (fun _ h=>?_)
 refine Z ?_
 refine Gg h (fun h=>?_)
 refine Z ?_
 refine A7 [1,2] h (fun _ h=>?_)
 exact Y
 replace h:=Cs h
 refine Z ?_
 refine A7 [1,2] h (fun _ h=>?_)
 exact Y
 refine Z ?_
 refine A7 [1,2] h (fun _ h=>?_)
 exact Y⟩
instance {a0 a1:List Int}:OK (V4 a0 a1) fun r=>Aw Tryz.prog 188 [(Ao 1 (O .u32)) a0,(Ao 1 (O .u32)) a1] ((Ao 1 (O .u32)) r):=⟨fun {r} h=>by
 refine pw {T:=Cg,an:=(fun _=>.ask),nl:=(fun s=>bif Nat.beq s 4 then [(0,1)] else [])} Tryz.func188 ?_
 refine ZS ?_
 refine Cm ?_
 refine ZS ?_
 refine Cm ?_
 refine ZO ?_
 refine Cq h (fun (v1,v2)=>[(0,(.sl 1 (List.map (O .u32) v1))),(1,(.sl 1 (List.map (O .u32) v2)))]) (fun (v1,v2)=>[]) ?_ ?_
 intro _ h _ _ _
 exact Y
 rintro ⟨v1,v2⟩ _ h
 refine Z ?_
 refine G2 h (fun _ h=>?_)
 refine Z ?_
 refine Bb h (fun (v20,v21,o22)=>[(5,(.arr 0 o22.length 0 o22.length)),(6,(O .u32 v20)),(22,(O .i64 v21))]) (fun (v20,v21,o22)=>[(0,.rows 107 1 (List.map (O .u32) o22))]) ?_
 rintro ⟨v20,v21,o22⟩ _ _ _ h _ _
 refine Z ?_
 refine Ap h (fun _ h=>?_) (fun _ h=>?_)
 refine Z ?_
 refine Ca h (fun _ _ _ _ h=>?_)
 refine ZS ?_
 refine Cm ?_
 refine ZO ?_
 refine Cq h (fun v25=>[(8,(O .u32 v25))]) (fun v25=>[]) ?_ ?_
 intro _ h _ _ _
 exact Y
 rintro v25 _ h
 exact Y
 exact Y⟩
instance {a0 a1:List Int}:OK (S9 a0 a1) fun r=>Aw Tryz.prog 190 [(Ao 1 (O .u32)) a0,(Ao 1 (O .u32)) a1] ((Ao 1 (O .u32)) r):=⟨fun {r} h=>by
 refine pw {T:=Cg,an:=(fun _=>.ask),nl:=(fun s=>bif Nat.beq s 4 then [(0,1)] else [])} Tryz.func190 ?_
 refine Z ?_
 refine G2 h (fun _ h=>?_)
 refine Z ?_
 refine Bb h (fun (v8,v9,o10)=>[(5,(.arr 0 o10.length 0 o10.length)),(6,(O .i64 v8)),(14,(O .i64 v9))]) (fun (v8,v9,o10)=>[(0,.rows 107 1 (List.map (O .u32) o10))]) ?_
 rintro ⟨v8,v9,o10⟩ _ _ _ h _ _
 refine Z ?_
 refine Ap h (fun _ h=>?_) (fun _ h=>?_)
 refine Z ?_
 refine Ca h (fun _ _ _ _ h=>?_)
 refine ZS ?_
 refine Cm ?_
 refine ZO ?_
 refine Cq h (fun v13=>[(8,(O .i64 v13))]) (fun v13=>[]) ?_ ?_
 intro _ h _ _ _
 exact Y
 rintro v13 _ h
 exact Y
 replace h:=Cs h
 refine F6 (F5 rfl (Ay ?_))
 refine Dw [.fz 5] ?_
 exact Y⟩
instance {a0 a1:Gf}:OK (S6 a0 a1) fun r=>Aw Tryz.prog 132 [Ou a0,Ou a1] (Ou r):=⟨fun {r} h=>by
 refine pw C0 Tryz.func132 ?_
 exact Y⟩
instance {a0 a1:Ak}:OK (Na a0 a1) fun r=>Aw Tryz.prog 79 [Cn a0,Cn a1] (Cn r):=⟨fun {r} h=>by
 refine pw C0 Tryz.func79 ?_
 exact Y⟩
instance {a0:List Ah} {b1:List (ByteArray×Int)} {b2:List Ah}:OK (Hc a0 b1 b2) fun r=>Bp Tryz.prog 43 [(.loc 0 0),(Ao 5 Bn) a0] [.cells 138 [(.mp 1),(.arr 2 b2.length 0 b2.length)],.map (Bi (O .i64) b1),.rows 75 5 (List.map Bn b2)] (.tup []) [.cells 138 [(.mp 1),(.arr 2 r.2.length 0 r.2.length)],.map (Bi (O .i64) r.1),.rows 75 5 (List.map Bn r.2)]:=⟨fun {r} h=>by
 refine aw C0 true Tryz.func43 ?_
 refine Z ?_
 refine Bb h (fun (v10,o11,o12)=>[(11,(O .i64 v10))]) (fun (v10,o11,o12)=>[(0,.cells 138 [(.mp 1),(.arr 2 o12.length 0 o12.length)]),(1,.map (Bi (O .i64) o11)),(2,.rows 75 5 (List.map Bn o12))]) ?_
 rintro ⟨v10,o11,o12⟩ _ _ _ h _ hn1
 refine Z ?_
 refine Ap h (fun _ h=>?_) (fun _ h=>?_)
 refine Z ?_
 refine Ca h (fun _ _ _ _ h=>?_)
 refine Z ?_
 refine Bl h (fun _ h=>?_)
 refine ZO ?_
 refine Ay (Ay ?_)
 refine Cq h (fun (v16,v17)=>[(7,(O .i64 v16)),(8,(As v17))]) (fun (v16,v17)=>[]) ?_ ?_
 intro _ h _ _ _
 refine Z ?_
 refine Si (f:=(O .i64)) (l:=o11) rfl (0:Int) h (fun j_ hb h=>?_) (fun hb h=>?_)
 exact Y
 exact Y
 rintro ⟨v16,v17⟩ _ h
 refine Z ?_
 refine Ap h (fun _ h=>?_) (fun _ h=>?_)
 refine Z ?_
 refine Ja h (fun _ _ _ _ h=>?_)
 refine Z ?_
 refine Bl h (fun v19 h=>?_)
 refine Z ?_
 refine Ja h (fun _ v20 hiv20 _ h=>?_)
 refine Z ?_
 refine Mb (f:=Bn) (x:=(Ah.mk v19 v20.Mono)) (j:=v16) rfl rfl (Nat.zero_add _) hiv20 ?_
 refine Z ?_
 exact hn1 _ _ _ _ (Option.some.inj h) ⟨rfl,trivial⟩ ⟨⟨rfl,rfl⟩,⟨rfl,rfl⟩,⟨congrArg (fun q_=>Bm.cells 138 [(.mp 1),(.arr 2 q_ 0 q_)]) (Hb (l:=o12) rfl v16 (Ah.mk v19 v20.Mono)),rfl⟩,trivial⟩ trivial
 refine Z ?_
 refine Px (f:=(O .i64)) (l:=o11) (x:=((o12.length:Nat):Int)) rfl rfl ?_
 exact Y
 exact Y⟩
abbrev Akz (k:Nat):Prop:=∀{a0:Bs},OK (Qg k a0) fun r=>Aw Tryz.prog 207 [Gk a0] (Gk r)
theorem Avn (k:Nat):Akz k:=by
 induction k with
 | zero=>exact okz
 | succ k ih=>
  refine @fun a0=>⟨fun {r} h=>?_⟩
  .unfold Qg at h
   refine pw {T:=Cg,an:=(fun _=>.ask),nl:=(fun s=>bif Nat.beq s 17 then [(0,2)] else [])} Tryz.func207 ?_
   refine ZS ?_
   refine Cm ?_
   refine ZS ?_
   refine Cm ?_
   refine ZO ?_
   refine Ay (Ay ?_)
   refine Dw [.own 3 1 111 2] ?_
   refine Z ?_
   refine Bb h (fun (v15,o16)=>[(12,(O .i64 v15))]) (fun (v15,o16)=>[(2,.cells 111 [(O .i64 a0.Num),(.arr 3 o16.length 0 o16.length)]),(3,.rows 111 2 (Kr o16))]) ?_
   rintro ⟨v15,o16⟩ _ _ _ h _ _
   exact Y
instance {k:Nat}:Akz k:=(Avn k)
instance {a0:List Bf}:OK (Sy a0) fun r=>Aw Tryz.prog 91 [(Ao 2 Dd) a0] ((Ao 2 Dd) r):=⟨fun {r} h=>by
 exact Aur h⟩
instance {a0:Ba}:OK (Vv a0) fun r=>Aw Tryz.prog 144 [Gl a0] (Gl r):=⟨fun {r} h=>by
 refine pw {T:=Cg,an:=(fun _=>.ask),nl:=(fun s=>bif Nat.beq s 44 then [(0,3)] else bif Nat.beq s 17 then [(0,3)] else [])} Tryz.func144 ?_
 refine ZS ?_
 refine Cm ?_
 refine ZS ?_
 refine Cm ?_
 refine ZO ?_
 refine Ay (Ay ?_)
 refine Dw [.own 3 0 113 3,.own 3 1 73 3] ?_
 refine Z ?_
 refine Bb h (fun (v16,o17)=>[(12,(O .i64 v16))]) (fun (v16,o17)=>[(2,.cells 54 [(.arr 3 o17.length 0 o17.length),(.arr 4 0 0 0)]),(3,.rows 113 3 (List.map Ec o17))]) ?_
 rintro ⟨v16,o17⟩ _ _ _ h _ _
 refine Z ?_
 refine Ap h (fun _ h=>?_) (fun _ h=>?_)
 exact Y
 replace h:=Cs h
 refine Z ?_
 refine Bb h (fun (v35,o36)=>[(31,(O .i64 v35))]) (fun (v35,o36)=>[(2,.cells 54 [(.arr 3 o17.length 0 o17.length),(.arr 4 o36.length 0 o36.length)]),(4,.rows 73 3 (List.map Ed o36))]) ?_
 rintro ⟨v35,o36⟩ _ _ _ h _ _
 exact Y⟩
instance {a0:List Ah}:OK (Vf a0) fun r=>Aw Tryz.prog 83 [(Ao 5 Bn) a0] ((Ao 5 Bn) r):=⟨fun {r} h=>by
 refine pw {T:=Cg,an:=(fun s=>bif Nat.beq s 3 then .own else .ask),nl:=(fun s=>bif Nat.beq s 3 then [(0,5)] else bif Nat.beq s 2 then [(0,5)] else [])} Tryz.func83 ?_
 refine Z ?_
 refine Bb h (fun (v14,o15)=>[(3,(.arr 0 o15.length 0 o15.length)),(8,(O .i64 v14))]) (fun (v14,o15)=>[(0,.rows 75 5 (List.map Bn o15))]) ?_
 rintro ⟨v14,o15⟩ _ _ _ h _ _
 exact Y⟩
instance {a0 a1:Ah}:OK (Nc a0 a1) fun r=>Aw Tryz.prog 81 [Bn a0,Bn a1] ((O .i64) r):=⟨fun {r} h=>by
 refine pw C0 Tryz.func81 ?_
 exact Y⟩
instance {a0 a1:Int} {b0:List Ah}:OK (V5 a0 a1 b0) fun r=>Bp Tryz.prog 192 [(.arr 0 b0.length 0 b0.length),(O .i64) a0,(O .i64) a1,(.fn 81 [])] [.rows 75 5 (List.map Bn b0)] (.tup []) [.rows 75 5 (List.map Bn r)]:=⟨fun {r} h=>by
 refine aw C0 true Tryz.func192 ?_
 refine Z ?_
 refine Er h (fun (v21,o22)=>[(8,(O .i64 v21))]) (fun (v21,o22)=>[(0,.rows 75 5 (List.map Bn o22))]) (fun (v21,o22)=>b0.length=o22.length) ?_
 rintro ⟨v21,o22⟩ _ _ _ h _ _ q22
 refine Z ?_
 refine Ap h (fun _ h=>?_) (fun _ h=>?_)
 refine Z ?_
 refine Er h (fun (v31,o32)=>[(9,(O .i64 v31))]) (fun (v31,o32)=>[(0,.rows 75 5 (List.map Bn o32))]) (fun (v31,o32)=>b0.length=o32.length) ?_
 rintro ⟨v31,o32⟩ _ _ _ h _ _ q32
 refine Ay (Ay ?_)
 refine Cq h (fun v36=>[(34,(As v36))]) (fun v36=>[]) ?_ ?_
 intro _ h _ _ _
 exact Y
 rintro v36 _ h
 exact Y
 exact Y⟩
instance {a0 a1 a2:Int} {b0:List Ah}:OK (Vs a0 a1 a2 b0) fun r=>Bp Tryz.prog 134 [(.arr 0 b0.length 0 b0.length),(O .i64) a0,(O .i64) a1,(O .i64) a2,(.fn 81 [])] [.rows 75 5 (List.map Bn b0)] (.tup []) [.rows 75 5 (List.map Bn r)]:=⟨fun {r} h=>by
 refine aw C0 true Tryz.func134 ?_
 refine Z ?_
 refine Bb h (fun _=>[(1,(O .i64 a0)),(2,(O .i64 a1)),(3,(O .i64 a2)),(10,(As true)),(11,(As true))]) (fun _=>[]) ?_
 rintro _ _ _ _ h _ _
 refine Z ?_
 refine Ap h (fun _ h=>?_) (fun _ h=>?_)
 refine Z ?_
 refine A7 [0] h (fun _ h=>?_)
 refine C5 h (fun v2 hgv2 h=>?_)
 exact Y
 exact Y⟩
theorem Avo {b0:List Ah} {r:(List Ah)} (h:Aee b0=some r):Bp Tryz.prog 80 [(.arr 0 b0.length 0 b0.length),(.fn 81 [])] [.rows 75 5 (List.map Bn b0)] (.tup []) [.rows 75 5 (List.map Bn r)]:=by
 refine aw C0 true Tryz.func80 ?_
 refine Z ?_
 refine Bl h (fun _ h=>?_)
 refine Z ?_
 refine A7 [0] h (fun _ h=>?_)
 refine C5 h (fun v3 hgv3 h=>?_)
 exact Y
instance {b0:List Ah}:OK (Nb b0) fun r=>Bp Tryz.prog 80 [(.arr 0 b0.length 0 b0.length),(.fn 81 [])] [.rows 75 5 (List.map Bn b0)] (.tup []) [.rows 75 5 (List.map Bn r)]:=⟨fun {r} h=>by
 unfold Nb at h
 cases hb:Nat.ble b0.length 12 with
 | true=>rw [hb] at h; exact Avo h
 | false=>rw [hb] at h; exact Au4 (eA:=Bn) (cmp:=Nc) (g:=81) (enters_of Tryz.func81 (by kernel_rfl) rfl) (fun x y n h=>(OK.ok h :)) (fun x=>⟨_,rfl⟩) h (by rintro rfl; cases hb)⟩
instance {b1:List (ByteArray×Int)} {b2:List Ah}:OK (Ie b1 b2) fun r=>Bp Tryz.prog 44 [(.loc 0 0)] [.cells 138 [(.mp 1),(.arr 2 b2.length 0 b2.length)],.map (Bi (O .i64) b1),.rows 75 5 (List.map Bn b2)] (.tup [(Ao 5 Bn) r.1,(O .i64) r.2]) [.cells 138 [(.mp 1),(.arr 2 b2.length 0 b2.length)],.map (Bi (O .i64) b1),.rows 75 5 (List.map Bn b2)]:=⟨fun {r} h=>by
 refine aw {T:=Cg,an:=(fun s=>bif Nat.beq s 4 then .own else .ask),nl:=(fun s=>bif Nat.beq s 4 then [(0,5)] else bif Nat.beq s 2 then [(0,5)] else [])} true Tryz.func44 ?_
 refine Z ?_
 refine Bb h (fun (v12,o13)=>[(4,(.arr 3 o13.length 0 o13.length)),(12,(O .i64 v12))]) (fun (v12,o13)=>[(3,.rows 75 5 (List.map Bn o13))]) ?_
 rintro ⟨v12,o13⟩ _ _ _ h _ _
 refine Z ?_
 refine Ap h (fun _ h=>?_) (fun _ h=>?_)
 exact Y
 replace h:=Cs h
 refine Z ?_
 refine Ap h (fun _ h=>?_) (fun _ h=>?_)
 exact Y
 refine Z ?_
 refine A7 [3] h (fun _ h=>?_)
 refine C5 h (fun v20 hgv20 h=>?_)
 refine ZO ?_
 refine Ay ?_
 refine Dw [.fz 4] ?_
 exact Y⟩
instance {a0:Bj} {a1:List Ah} {a2:Ak}:OK (P4 a0 a1 a2) fun r=>Aw Tryz.prog 72 [Gy a0,(Ao 5 Bn) a1,Cn a2] (.tup [(Ao 5 Bn) r.1,(O .i64) r.2]):=⟨fun {r} h=>by
 refine pw {T:=Cg,an:=(fun _=>.ask),nl:=(fun s=>bif Nat.beq s 6 then [(0,5)] else [])} Tryz.func72 ?_
 refine ZS ?_
 refine Cm ?_
 refine ZO ?_
 refine Ay (Ay ?_)
 refine Cq h (fun v10=>[(9,(As v10))]) (fun v10=>[]) ?_ ?_
 intro _ h _ _ _
 refine Z ?_
 refine C5 h (fun v3 hcv3 h=>?_)
 rcases v3 with v4 | v9
 refine Fh.act [] _ _ _ _ (Tp (a0:=a0) (a1:=[a1]) hcv3) rfl rfl trivial ?_
 exact Y
 refine Fh.act [] _ _ _ _ (Tq (a0:=a0) (a1:=[a1]) hcv3) rfl rfl trivial ?_
 exact Y
 rintro v10 _ h
 refine Z ?_
 refine Ap h (fun _ h=>?_) (fun _ h=>?_)
 exact Y
 refine Z ?_
 refine A7 [] h (fun _ h=>?_)
 refine Z ?_
 refine Bl h (fun _ h=>?_)
 refine Z ?_
 refine A7 [3,2,4] h (fun _ h=>?_)
 refine Z ?_
 refine A7 [3,2,4] h (fun _ h=>?_)
 exact Y⟩
instance {a0:Int}:OK (P9 a0) fun r=>Aw Tryz.prog 164 [(O .i64) a0] ((Ao 1 (O .u32)) r):=⟨fun {r} h=>by
 refine pw {T:=Cg,an:=(fun _=>.ask),nl:=(fun s=>bif Nat.beq s 2 then [(0,1)] else [])} Tryz.func164 ?_
 exact Y⟩
instance {a0:Int}:OK (Ep a0) fun r=>Aw Tryz.prog 112 [(O .i64) a0] (Cn r):=⟨fun {r} h=>by
 refine pw C0 Tryz.func112 ?_
 exact Y⟩
instance {a0:Bj} {a1 a2:List Ah}:OK (Kn a0 a1 a2) fun r=>Aw Tryz.prog 70 [Gy a0,(Ao 5 Bn) a1,(Ao 5 Bn) a2] (.tup [(Ao 5 Bn) r.1,(O .i64) r.2]):=⟨fun {r} h=>by
 refine pw {T:=Cg,an:=(fun _=>.ask),nl:=(fun s=>bif Nat.beq s 6 then [(0,5)] else [])} Tryz.func70 ?_
 refine ZS ?_
 refine Cm ?_
 refine ZO ?_
 refine Ay (Ay ?_)
 refine Cq h (fun v9=>[(9,(As v9))]) (fun v9=>[]) ?_ ?_
 intro _ h _ _ _
 refine Z ?_
 refine C5 h (fun v2 hcv2 h=>?_)
 rcases v2 with v3 | v8
 refine Fh.act [] _ _ _ _ (Tp (a0:=a0) (a1:=[a1,a2]) hcv2) rfl rfl trivial ?_
 exact Y
 refine Fh.act [] _ _ _ _ (Tq (a0:=a0) (a1:=[a1,a2]) hcv2) rfl rfl trivial ?_
 exact Y
 rintro v9 _ h
 refine Z ?_
 refine Ap h (fun _ h=>?_) (fun _ h=>?_)
 exact Y
 refine Z ?_
 refine A7 [] h (fun _ h=>?_)
 refine Z ?_
 refine A7 [2,1,3] h (fun _ h=>?_)
 refine Z ?_
 refine Bl h (fun _ h=>?_)
 refine Z ?_
 refine Bl h (fun _ h=>?_)
 refine Z ?_
 refine A7 [2,1,3] h (fun _ h=>?_)
 refine Z ?_
 refine A7 [2,1,3] h (fun _ h=>?_)
 exact Y⟩
instance {a0:List Bf}:OK (Q2 a0) fun r=>Bp Tryz.prog 91 [(Ao 2 Dd) a0] [] (.arr 1 r.2.length 0 r.2.length) [.rows 71 2 (List.map Dd r.1),.rows 71 2 (List.map Dd r.2)]:=⟨fun {r} h=>by
 exact Aus h⟩
instance {a0 a1:Bf}:OK (Ng a0 a1) fun r=>Aw Tryz.prog 148 [Dd a0,Dd a1] ((O .i64) r):=⟨fun {r} h=>by
 refine pw C0 Tryz.func148 ?_
 exact Y⟩
instance {a0 a1:Int} {b0:List Bf}:OK (Zw a0 a1 b0) fun r=>Bp Tryz.prog 264 [(.arr 0 b0.length 0 b0.length),(O .i64) a0,(O .i64) a1,(.fn 148 [])] [.rows 71 2 (List.map Dd b0)] (.tup []) [.rows 71 2 (List.map Dd r)]:=⟨fun {r} h=>by
 refine aw C0 true Tryz.func264 ?_
 refine Z ?_
 refine Er h (fun (v21,o22)=>[(8,(O .i64 v21))]) (fun (v21,o22)=>[(0,.rows 71 2 (List.map Dd o22))]) (fun (v21,o22)=>b0.length=o22.length) ?_
 rintro ⟨v21,o22⟩ _ _ _ h _ _ q22
 refine Z ?_
 refine Ap h (fun _ h=>?_) (fun _ h=>?_)
 refine Z ?_
 refine Er h (fun (v31,o32)=>[(9,(O .i64 v31))]) (fun (v31,o32)=>[(0,.rows 71 2 (List.map Dd o32))]) (fun (v31,o32)=>b0.length=o32.length) ?_
 rintro ⟨v31,o32⟩ _ _ _ h _ _ q32
 refine Ay (Ay ?_)
 refine Cq h (fun v36=>[(34,(As v36))]) (fun v36=>[]) ?_ ?_
 intro _ h _ _ _
 exact Y
 rintro v36 _ h
 exact Y
 exact Y⟩
instance {a0 a1 a2:Int} {b0:List Bf}:OK (V9 a0 a1 a2 b0) fun r=>Bp Tryz.prog 212 [(.arr 0 b0.length 0 b0.length),(O .i64) a0,(O .i64) a1,(O .i64) a2,(.fn 148 [])] [.rows 71 2 (List.map Dd b0)] (.tup []) [.rows 71 2 (List.map Dd r)]:=⟨fun {r} h=>by
 refine aw C0 true Tryz.func212 ?_
 refine Z ?_
 refine Bb h (fun _=>[(1,(O .i64 a0)),(2,(O .i64 a1)),(3,(O .i64 a2)),(10,(As true)),(11,(As true))]) (fun _=>[]) ?_
 rintro _ _ _ _ h _ _
 refine Z ?_
 refine Ap h (fun _ h=>?_) (fun _ h=>?_)
 refine Z ?_
 refine A7 [0] h (fun _ h=>?_)
 refine C5 h (fun v2 hgv2 h=>?_)
 exact Y
 exact Y⟩
theorem Avp {b0:List Bf} {r:(List Bf)} (h:Aeb b0=some r):Bp Tryz.prog 147 [(.arr 0 b0.length 0 b0.length),(.fn 148 [])] [.rows 71 2 (List.map Dd b0)] (.tup []) [.rows 71 2 (List.map Dd r)]:=by
 refine aw C0 true Tryz.func147 ?_
 refine Z ?_
 refine Bl h (fun _ h=>?_)
 refine Z ?_
 refine A7 [0] h (fun _ h=>?_)
 refine C5 h (fun v3 hgv3 h=>?_)
 exact Y
instance {b0:List Bf}:OK (S7 b0) fun r=>Bp Tryz.prog 147 [(.arr 0 b0.length 0 b0.length),(.fn 148 [])] [.rows 71 2 (List.map Dd b0)] (.tup []) [.rows 71 2 (List.map Dd r)]:=⟨fun {r} h=>by
 unfold S7 at h
 cases hb:Nat.ble b0.length 12 with
 | true=>rw [hb] at h; exact Avp h
 | false=>rw [hb] at h; exact Au7 (eA:=Dd) (cmp:=Ng) (g:=148) (enters_of Tryz.func148 (by kernel_rfl) rfl) (fun x y n h=>(OK.ok h :)) (fun x=>⟨_,rfl⟩) h (by rintro rfl; cases hb)⟩
instance {a0:Int} {a1:List Bf}:OK (Sx a0 a1) fun r=>Aw Tryz.prog 88 [(O .i64) a0,(Ao 2 Dd) a1] (.tup [De r.1,(O .i64) r.2]):=⟨fun {r} h=>by
 refine pw {T:=Cg,an:=(fun _=>.ask),nl:=(fun s=>bif Nat.beq s 63 then [(1,2)] else bif Nat.beq s 55 then [(0,2)] else [])} Tryz.func88 ?_
 refine ZS ?_
 refine Cm ?_
 refine ZS ?_
 refine Cm ?_
 refine ZO ?_
 refine Ay ?_
 refine Dw [.own 6 1 71 2] ?_
 refine Z ?_
 refine A7 [] h (fun _ h=>?_)
 refine Z ?_
 refine A7 [4] h (fun _ h=>?_)
 refine C5 h (fun v8 hgv8 h=>?_)
 refine Z ?_
 refine Bb h (fun (v37,o38)=>[(8,(O .i64 v37))]) (fun (v37,o38)=>[(1,.cells 25 [(O .i64 a0),(.arr 2 o38.length 0 o38.length)]),(2,.rows 71 2 (List.map Dd o38))]) ?_
 rintro ⟨v37,o38⟩ _ _ _ h _ _
 refine Z ?_
 refine Ap h (fun _ h=>?_) (fun _ h=>?_)
 refine Z ?_
 refine Ja h (fun _ v39 _ _ h=>?_)
 refine Z ?_
 refine Bb h (fun (v44,v45)=>[(8,(O .i64 v44))]) (fun (v44,v45)=>[(5,.cells 71 [(O .i64 v39.Var),(O .i64 v45)])]) ?_
 rintro ⟨v44,v45⟩ _ _ _ h _ _
 refine Ay (Ay ?_)
 refine Cq h (fun v47=>[(39,(As v47))]) (fun v47=>[]) ?_ ?_
 intro _ h _ _ _
 exact Y
 rintro v47 _ h
 exact Y
 replace h:=Cs h
 refine F6 (F5 rfl (Ay (Ay ?_)))
 refine Dw [.fzc 6 1] ?_
 exact Y⟩
instance {a0:Int}:OK (Zl a0) fun r=>Bp Tryz.prog 149 [(.val (.slice none 0 0)),(O .i64) a0] [] (.arr 0 r.length 0 r.length) [.rows 71 2 (List.map Dd r)]:=⟨fun {r} h=>by
 exact Ava h⟩
instance {a0:List (List Bf)}:OK (Vh a0) fun r=>Aw Tryz.prog 89 [(Ao 1 (Ao 2 Dd)) a0] ((Ao 2 Dd) r):=⟨fun {r} h=>by
 refine pw {T:=Cg,an:=(fun _=>.ask),nl:=(fun s=>bif Nat.beq s 2 then [(0,2)] else [])} Tryz.func89 ?_
 refine Z ?_
 refine Bb h (fun (v2,v3)=>[(3,(O .i64 v2)),(11,(O .i64 v3))]) (fun (v2,v3)=>[]) ?_
 rintro ⟨v2,v3⟩ _ _ _ h _ _
 refine Z ?_
 refine Ap h (fun _ h=>?_) (fun _ h=>?_)
 exact Y
 replace h:=Cs h
 refine Z ?_
 refine A7 [] h (fun _ h=>?_)
 refine Z ?_
 refine Bb h (fun (v14,o15)=>[(6,(.arr 0 o15.length 0 o15.length)),(27,(O .i64 v14))]) (fun (v14,o15)=>[(0,.rows 71 2 (List.map Dd o15))]) ?_
 rintro ⟨v14,o15⟩ _ _ _ h _ _
 exact Y⟩
instance {a0 a1:Ar}:OK (Lg a0 a1) fun r=>Aw Tryz.prog 49 [De a0,De a1] (.tup [De r.1,(O .i64) r.2]):=⟨fun {r} h=>by
 refine pw {T:=Cg,an:=(fun _=>.ask),nl:=(fun s=>bif Nat.beq s 14 then [(1,2)] else [])} Tryz.func49 ?_
 refine ZS ?_
 refine Cm ?_
 refine ZO ?_
 refine Ay (Ay ?_)
 refine Cq h (fun v6=>[(13,(As v6))]) (fun v6=>[]) ?_ ?_
 intro _ h _ _ _
 exact Y
 rintro v6 _ h
 exact Y⟩
instance {a0:List Bf} {a1:Int}:OK (Vi a0 a1) fun r=>Aw Tryz.prog 90 [(Ao 2 Dd) a0,(O .i64) a1] ((Ao 2 Dd) r):=⟨fun {r} h=>by
 refine pw {T:=Cg,an:=(fun _=>.ask),nl:=(fun s=>bif Nat.beq s 4 then [(0,2)] else [])} Tryz.func90 ?_
 refine Z ?_
 refine A7 [] h (fun v1 h=>?_)
 refine Z ?_
 refine Er h (fun (v6,o7)=>[(11,(O .i64 v6))]) (fun (v6,o7)=>[(1,.rows 71 2 (List.map Dd o7))]) (fun (v6,o7)=>v1.2.length=o7.length) ?_
 rintro ⟨v6,o7⟩ _ _ _ h _ _ q7
 refine Z ?_
 refine Ap h (fun _ h=>?_) (fun _ h=>?_)
 refine Z ?_
 refine Ja h (fun _ v8 _ _ h=>?_)
 refine Z ?_
 refine Ja h (fun _ v9 hiv9 _ h=>?_)
 refine Z ?_
 refine Mb (f:=Dd) (x:=(Bf.mk v9.Var (Ac (v8.Coef*a1)))) (j:=v6) rfl rfl (Nat.zero_add _) hiv9 ?_
 exact Y
 exact Y⟩
instance {a0 a1:Ar}:OK (M7 a0 a1) fun r=>Aw Tryz.prog 50 [De a0,De a1] (.tup [De r.1,(O .i64) r.2]):=⟨fun {r} h=>by
 refine pw {T:=Cg,an:=(fun _=>.ask),nl:=(fun s=>bif Nat.beq s 14 then [(1,2)] else [])} Tryz.func50 ?_
 refine ZS ?_
 refine Cm ?_
 refine ZO ?_
 refine Ay (Ay ?_)
 refine Cq h (fun v6=>[(13,(As v6))]) (fun v6=>[]) ?_ ?_
 intro _ h _ _ _
 exact Y
 rintro v6 _ h
 exact Y⟩
instance {a0:Gj}:OK (P1 a0) fun r=>Aw Tryz.prog 24 [Mm a0] (As r):=⟨fun {r} h=>by
 refine pw C0 Tryz.func24 ?_
 refine ZS ?_
 refine Cm ?_
 refine ZO ?_
 refine Ay (Ay ?_)
 refine Cq h (fun v4=>[(26,(As v4))]) (fun v4=>[]) ?_ ?_
 intro _ h _ _ _
 exact Y
 rintro v4 _ h
 exact Y⟩
instance {a0:Int}:OK (Ajq a0) fun r=>Aw Tryz.prog 211 [(.val (.pointer none)),(O .i64) a0] (Fx r):=⟨fun {r} h=>by
 refine pw C0 Tryz.func211 ?_
 exact Y⟩
instance {a0:Int}:OK (Ajr a0) fun r=>Aw Tryz.prog 210 [(.val (.pointer none)),(O .i64) a0] (As r):=⟨fun {r} h=>by
 refine pw C0 Tryz.func210 ?_
 exact Y⟩
instance {a0:Bf}:OK (Ajs a0) fun r=>Bp Tryz.prog 209 [Dd a0,(.loc 0 0)] [.cells 86 [(.val (.pointer none))]] (As r) [.cells 86 [(.val (.pointer none))]]:=⟨fun {r} h=>by
 refine aw C0 true Tryz.func209 ?_
 refine Z ?_
 refine Bl h (fun _ h=>?_)
 refine Z ?_
 refine F1 h (fun _ h=>?_) (fun _ h=>?_)
 exact Y
 refine Z ?_
 refine Bl h (fun _ h=>?_)
 refine Z ?_
 refine Acz.mk 3 (by kernel_rfl) ?_
 exact Y⟩
instance {a0:List Bf}:OK (Ajt a0) fun r=>Bp Tryz.prog 263 [(Ao 2 Dd) a0,(.fn 209 [(.loc 0 0)])] [.cells 86 [(.val (.pointer none))]] ((O .i64) r) [.cells 86 [(.val (.pointer none))]]:=⟨fun {r} h=>by
 refine aw C0 true Tryz.func263 ?_
 refine Z ?_
 refine Bb h (fun v3=>[(4,(O .i64 0)),(8,(O .i64 v3))]) (fun v3=>[]) ?_
 rintro v3 _ _ _ h _ _
 refine Z ?_
 refine Ap h (fun _ h=>?_) (fun _ h=>?_)
 refine Z ?_
 refine Ca h (fun _ _ _ _ h=>?_)
 refine Z ?_
 refine A7 [0] h (fun _ h=>?_)
 exact Y
 exact Y⟩
instance {a0:List Bf}:OK (Aju a0) fun r=>Bp Tryz.prog 208 [(Ao 2 Dd) a0,(.fn 209 [(.loc 0 0)])] [.cells 86 [(.val (.pointer none))]] (As r) [.cells 86 [(.val (.pointer none))]]:=⟨fun {r} h=>by
 refine aw C0 true Tryz.func208 ?_
 refine Z ?_
 refine A7 [0] h (fun _ h=>?_)
 exact Y⟩
instance {a0:Ar}:OK (Ajv a0) fun r=>Aw Tryz.prog 145 [(.val (.pointer none)),De a0] (As r):=⟨fun {r} h=>by
 refine pw C0 Tryz.func145 ?_
 refine Z ?_
 refine A7 [0] h (fun _ h=>?_)
 exact Y⟩
instance {a0:Ar} {a1:Int}:OK (Qj a0 a1) fun r=>Aw Tryz.prog 233 [De a0,(O .i64) a1] ((Ao 3 Ed) r):=⟨fun {r} h=>by
 refine pw {T:=Cg,an:=(fun _=>.ask),nl:=(fun s=>bif Nat.beq s 4 then [(0,3)] else [])} Tryz.func233 ?_
 exact Y⟩
instance {a0 a1:Int}:OK (Qw a0 a1) fun r=>Aw Tryz.prog 355 [(O .i64) a0,(O .i64) a1] (Cn r):=⟨fun {r} h=>by
 refine pw C0 Tryz.func355 ?_
 exact Y⟩
instance {a0 a1:Int}:OK (Ti a0 a1) fun r=>Aw Tryz.prog 316 [(O .i64) a0,(O .i64) a1] (Cn r):=⟨fun {r} h=>by
 refine pw C0 Tryz.func316 ?_
 refine Z ?_
 refine Bl h (fun _ h=>?_)
 refine Z ?_
 refine Bb h (fun (v7,v8,v9,v10)=>[(9,(O .i64 v7))]) (fun (v7,v8,v9,v10)=>[(1,.cells 50 [(As v8),(.sl 1 (List.map (O .u32) v9)),(.sl 1 (List.map (O .u32) v10))])]) ?_
 rintro ⟨v7,v8,v9,v10⟩ _ _ _ h _ _
 exact Y⟩
instance {a0 a1:Int}:OK (Nl a0 a1) fun r=>Aw Tryz.prog 278 [(O .i64) a0,(O .i64) a1] (.tup [Cn r.1,As r.2]):=⟨fun {r} h=>by
 refine pw C0 Tryz.func278 ?_
 refine ZS ?_
 refine Cm ?_
 refine ZO ?_
 refine Ay (Ay ?_)
 refine Cq h (fun v2=>[(11,(As v2))]) (fun v2=>[]) ?_ ?_
 intro _ h _ _ _
 exact Y
 rintro v2 _ h
 exact Y⟩
end Go.Ab
