/- The contracts of the functions, each by its walk (made by a program). -/
import Derived.Test.YtpgmgplnkdhlbaaGreatDoorPtV0
namespace Go.Ab
open Go Go.Proofs
set_option maxRecDepth 10000
set_option maxHeartbeats 4000000
set_option linter.unusedVariables false
instance {a0:List Int}:OK (Qt a0) fun r=>Aq Tryz.prog 99 [(Av 1 (O .u32)) a0] ((Av 1 (O .u32)) r):=⟨fun {r} h=>by
 refine pw {T:=Ci,an:=(fun s=>bif Nat.beq s 3 then .own else .ask),nl:=(fun s=>bif Nat.beq s 3 then [(0,1)] else bif Nat.beq s 2 then [(0,1)] else [])} Tryz.func99 ?_
 refine Z ?_
 refine A2 h (fun (v13,v14,o15)=>[(3,(.arr 0 o15.length 0 o15.length)),(4,(O .u64 v13)),(5,(O .i64 v14))]) (fun (v13,v14,o15)=>[(0,.rows 119 1 (List.map (O .u32) o15))]) ?_
 rintro ⟨v13,v14,o15⟩ _ _ _ h _ _
 refine Z ?_
 refine Ai h (fun _ h=>?_) (fun _ h=>?_)
 exact Y
 replace h:=B9 h
 refine Z ?_
 refine Ai h (fun _ h=>?_) (fun _ h=>?_)
 refine Z ?_
 refine Kb h (fun _ h=>?_)
 refine ZO ?_
 refine As ?_
 refine C6 [.fz 3] ?_
 exact Y
 refine Hk (As ?_)
 refine C6 [.fz 3] ?_
 exact Y⟩
instance {a0 a1:List Int}:OK (Ti a0 a1) fun r=>Aq Tryz.prog 162 [(Av 1 (O .u32)) a0,(Av 1 (O .u32)) a1] ((O .u64) r):=⟨fun {r} h=>by
 refine pw C0 Tryz.func162 ?_
 exact Y⟩
instance {a0:Int}:OK (Lm a0) fun r=>Aq Tryz.prog 63 [(O .u64) a0] ((Av 1 (O .u32)) r):=⟨fun {r} h=>by
 refine pw {T:=Ci,an:=(fun s=>bif Nat.beq s 3 then .own else .ask),nl:=(fun s=>bif Nat.beq s 3 then [(0,1)] else bif Nat.beq s 2 then [(0,1)] else [])} Tryz.func63 ?_
 refine Z ?_
 refine A2 h (fun (v10,o11)=>[(0,(O .u64 v10)),(3,(.arr 0 o11.length 0 o11.length))]) (fun (v10,o11)=>[(0,.rows 119 1 (List.map (O .u32) o11))]) ?_
 rintro ⟨v10,o11⟩ _ _ _ h _ _
 exact Y⟩
instance {a0 a1:List Int}:OK (Om a0 a1) fun r=>Aq Tryz.prog 160 [(Av 1 (O .u32)) a0,(Av 1 (O .u32)) a1] ((O .i64) r):=⟨fun {r} h=>by
 refine pw C0 Tryz.func160 ?_
 refine Z ?_
 refine Ai h (fun _ h=>?_) (fun _ h=>?_)
 exact Y
 refine Z ?_
 refine A2 h (fun v5=>[(4,(O .i64 0)),(5,(O .i64 v5))]) (fun v5=>[]) ?_
 rintro v5 _ _ _ h _ _
 exact Y⟩
instance {a0 a1:List Int}:OK (On a0 a1) fun r=>Aq Tryz.prog 163 [(Av 1 (O .u32)) a0,(Av 1 (O .u32)) a1] ((Av 1 (O .u32)) r):=⟨fun {r} h=>by
 refine pw {T:=Ci,an:=(fun _=>.ask),nl:=(fun s=>bif Nat.beq s 4 then [(0,1)] else [])} Tryz.func163 ?_
 refine Z ?_
 refine Gg h (fun o1 h=>?_)
 refine Z ?_
 refine En h (fun (v25,o26)=>[(6,(O .i64 v25))]) (fun (v25,o26)=>[(0,.rows 119 1 (List.map (O .u32) o26))]) (fun (v25,o26)=>o1.length=o26.length) ?_
 rintro ⟨v25,o26⟩ _ _ _ h _ _ q26
 refine Z ?_
 refine Ai h (fun _ h=>?_) (fun _ h=>?_)
 refine Z ?_
 refine En h (fun (v35,v36,o37)=>[(7,(O .u64 v35)),(8,(O .i64 v36))]) (fun (v35,v36,o37)=>[(0,.rows 119 1 (List.map (O .u32) o37))]) (fun (v35,v36,o37)=>o1.length=o37.length) ?_
 rintro ⟨v35,v36,o37⟩ _ _ _ h _ _ q37
 refine As (As ?_)
 refine Bg h (fun v38=>[(29,(Am v38))]) (fun v38=>[]) ?_ ?_
 intro _ h _ _ _
 exact Y
 rintro v38 _ h
 refine Ai h (fun _ h=>?_) (fun _ h=>?_)
 refine Z ?_
 refine H8 h (fun _ _ _ _ h=>?_)
 refine ZS ?_
 refine Bn ?_
 refine ZO ?_
 refine Bg h (fun v42=>[(7,(O .u64 v42))]) (fun v42=>[]) ?_ ?_
 intro _ h _ _ _
 exact Y
 rintro v42 _ h
 exact Y
 exact Y
 replace h:=B9 h
 refine Ff (Fd rfl (As ?_))
 refine C6 [.fz 5] ?_
 exact Y⟩
instance {a0:List Int} {a1:Int}:OK (Th a0 a1) fun r=>Aq Tryz.prog 161 [(Av 1 (O .u32)) a0,(O .u64) a1] (.tup [(Av 1 (O .u32)) r.1,(O .u64) r.2]):=⟨fun {r} h=>by
 refine pw {T:=Ci,an:=(fun _=>.ask),nl:=(fun s=>bif Nat.beq s 4 then [(0,1)] else [])} Tryz.func161 ?_
 refine Z ?_
 refine Gg h (fun o1 h=>?_)
 refine Z ?_
 refine En h (fun (v7,v8,o9)=>[(7,(O .u64 v7)),(8,(O .i64 v8))]) (fun (v7,v8,o9)=>[(0,.rows 119 1 (List.map (O .u32) o9))]) (fun (v7,v8,o9)=>o1.length=o9.length) ?_
 rintro ⟨v7,v8,o9⟩ _ _ _ h _ _ q9
 refine Z ?_
 refine Ai h (fun _ h=>?_) (fun _ h=>?_)
 exact Y
 replace h:=B9 h
 refine Ff (Fd rfl (As ?_))
 refine C6 [.fz 6] ?_
 exact Y⟩
instance {a0 a1:List Int}:OK (Qz a0 a1) fun r=>Aq Tryz.prog 164 [(Av 1 (O .u32)) a0,(Av 1 (O .u32)) a1] ((Av 1 (O .u32)) r):=⟨fun {r} h=>by
 refine pw {T:=Ci,an:=(fun _=>.ask),nl:=(fun s=>bif Nat.beq s 4 then [(0,1)] else [])} Tryz.func164 ?_
 refine Z ?_
 refine Gg h (fun o1 h=>?_)
 refine Z ?_
 refine En h (fun (v10,v11,o12)=>[(6,(O .u32 v10)),(7,(O .i64 v11))]) (fun (v10,v11,o12)=>[(0,.rows 119 1 (List.map (O .u32) o12))]) (fun (v10,v11,o12)=>o1.length=o12.length) ?_
 rintro ⟨v10,v11,o12⟩ _ _ _ h _ _ q12
 refine Z ?_
 refine Ai h (fun _ h=>?_) (fun _ h=>?_)
 refine ZS ?_
 refine Bn ?_
 refine ZS ?_
 refine Bn ?_
 refine ZO ?_
 refine Bg h (fun v14=>[(8,(O .u32 v14))]) (fun v14=>[]) ?_ ?_
 intro _ h _ _ _
 exact Y
 rintro v14 _ h
 exact Y
 replace h:=B9 h
 refine Ff (Fd rfl (As ?_))
 refine C6 [.fz 5] ?_
 exact Y⟩
instance {a0 a1:List Int}:OK (Oe a0 a1) fun r=>Aq Tryz.prog 101 [(Av 1 (O .u32)) a0,(Av 1 (O .u32)) a1] (.tup [(Av 1 (O .u32)) r.1,(Av 1 (O .u32)) r.2]):=⟨fun {r} h=>by
 refine pw {T:=Ci,an:=(fun s=>bif Nat.beq s 50 then .frz 0 else bif Nat.beq s 47 then .own else .ask),nl:=(fun s=>bif Nat.beq s 9 then [(0,1)] else bif Nat.beq s 5 then [(0,1)] else bif Nat.beq s 4 then [(0,1)] else [])} Tryz.func101 ?_
 refine Z ?_
 refine A7 h (fun _ h=>?_)
 refine Z ?_
 refine Ai h (fun _ h=>?_) (fun _ h=>?_)
 exact Y
 refine Z ?_
 refine Ai h (fun _ h=>?_) (fun _ h=>?_)
 exact Y
 refine Z ?_
 refine Gg h (fun o6 h=>?_)
 refine Z ?_
 refine En h (fun (v33,v34,o35)=>[(9,(.sl 1 (List.map (O .u32) v33))),(10,(O .i64 v34))]) (fun (v33,v34,o35)=>[(0,.rows 119 1 (List.map (O .u32) o35))]) (fun (v33,v34,o35)=>o6.length=o35.length) ?_
 rintro ⟨v33,v34,o35⟩ _ _ _ h _ _ q35
 refine Z ?_
 refine Ai h (fun _ h=>?_) (fun _ h=>?_)
 refine Z ?_
 refine Bm h (fun _ _ _ _ h=>?_)
 refine Z ?_
 refine Kb h (fun o38 h=>?_)
 refine Z ?_
 refine C5 h (fun v39 hcv39 h=>?_)
 refine Afs.mk _ (OK.ok hcv39 :) rfl ?_
 refine Z ?_
 refine A7 h (fun _ h=>?_)
 refine Z ?_
 refine A2 h (fun v44=>[(11,(O .u64 v44))]) (fun v44=>[]) ?_
 rintro v44 _ _ _ h _ _
 refine Z ?_
 refine Er h (fun _ h=>?_) (fun _ h=>?_)
 refine Z ?_
 refine A7 h (fun _ h=>?_)
 refine Z ?_
 refine A7 h (fun _ h=>?_)
 refine Z ?_
 refine A7 h (fun _ h=>?_)
 refine Z ?_
 refine Ai h (fun _ h=>?_) (fun _ h=>?_)
 exact Y
 replace h:=B9 h
 refine Z ?_
 refine A7 h (fun _ h=>?_)
 refine Z ?_
 refine A7 h (fun _ h=>?_)
 refine Z ?_
 refine A7 h (fun _ h=>?_)
 refine Z ?_
 refine A2 h (fun (v54,v55)=>[(9,(.sl 1 (List.map (O .u32) v54))),(11,(O .u64 v55))]) (fun (v54,v55)=>[]) ?_
 rintro ⟨v54,v55⟩ _ _ _ h _ _
 exact Y
 replace h:=B9 h
 refine Z ?_
 refine A7 h (fun _ h=>?_)
 refine Z ?_
 refine A7 h (fun _ h=>?_)
 refine Z ?_
 refine A7 h (fun _ h=>?_)
 refine Z ?_
 refine A2 h (fun (v54,v55)=>[(9,(.sl 1 (List.map (O .u32) v54))),(11,(O .u64 v55))]) (fun (v54,v55)=>[]) ?_
 rintro ⟨v54,v55⟩ _ _ _ h _ _
 exact Y
 replace h:=B9 h
 refine Ff (Fd rfl (As ?_))
 refine C6 [.fz 8] ?_
 exact Y⟩
instance {a0 a1:List Int}:OK (S5 a0 a1) fun r=>Aq Tryz.prog 100 [(Av 1 (O .u32)) a0,(Av 1 (O .u32)) a1] ((Av 1 (O .u32)) r):=⟨fun {r} h=>by
 refine pw {T:=Ci,an:=(fun _=>.ask),nl:=(fun s=>bif Nat.beq s 4 then [(0,1)] else [])} Tryz.func100 ?_
 refine Z ?_
 refine A2 h (fun (v2,v3)=>[(0,(.sl 1 (List.map (O .u32) v2))),(1,(.sl 1 (List.map (O .u32) v3)))]) (fun (v2,v3)=>[]) ?_
 rintro ⟨v2,v3⟩ _ _ _ h _ _
 exact Y⟩
instance {a0:Bool} {a1 a2:List Int}:OK (Lk a0 a1 a2) fun r=>Aq Tryz.prog 54 [Am a0,(Av 1 (O .u32)) a1,(Av 1 (O .u32)) a2] (Cb r):=⟨fun {r} h=>by
 refine pw {T:=Ci,an:=(fun _=>.ask),nl:=(fun s=>bif Nat.beq s 21 then [(1,1)] else [])} Tryz.func54 ?_
 refine Z ?_
 refine A7 h (fun _ h=>?_)
 refine Z ?_
 refine A7 h (fun _ h=>?_)
 refine ZO ?_
 refine As (As ?_)
 refine Bg h (fun v4=>[(19,(Am v4))]) (fun v4=>[]) ?_ ?_
 intro _ h _ _ _
 exact Y
 rintro v4 _ h
 refine Ai h (fun _ h=>?_) (fun _ h=>?_)
 exact Y
 refine Z ?_
 refine A7 h (fun _ h=>?_)
 refine ZO ?_
 refine As (As ?_)
 refine Bg h (fun v7=>[(33,(Am v7))]) (fun v7=>[]) ?_ ?_
 intro _ h _ _ _
 exact Y
 rintro v7 _ h
 exact Y⟩
instance {a0:Int}:OK (Aa1 a0) fun r=>Aq Tryz.prog 26 [(O .i64) a0] (Cb r):=⟨fun {r} h=>by
 refine pw C0 Tryz.func26 ?_
 exact Y⟩
instance  : OK (Wl) fun r=>Aq Tryz.prog 7 [] (Am r):=⟨fun {r} h=>by
 refine pw {T:=Ci,an:=(fun _=>.ask),nl:=(fun s=>bif Nat.beq s 28 then [(0,3),(1,3),(4,3)] else bif Nat.beq s 8 then [(1,2)] else bif Nat.beq s 7 then [(0,3),(1,3),(4,3)] else [])} Tryz.func7 ?_
 exact Y⟩
abbrev Aic (k:Nat):Prop:=∀{a0:Af} {b0:Int},OK (Mk k a0 b0) fun r=>Bq Tryz.prog 66 [Cv a0,(.loc 0 0)] [.cells 3 [(O .i64 b0)]] (Am r.1) [.cells 3 [(O .i64 r.2)]]
theorem Art (k:Nat):Aic k:=by
 induction k with
 | zero=>exact okz
 | succ k ih=>
  refine @fun a0 b0=>⟨fun {r} h=>?_⟩
  .unfold Mk at h
   refine aw C0 true Tryz.func66 ?_
   refine Z ?_
   refine Ai h (fun _ h=>?_) (fun _ h=>?_)
   exact Y
   refine Z ?_
   refine A2 h (fun (v4,v5)=>[(4,(Am false)),(5,(O .i64 v4))]) (fun (v4,v5)=>[(0,.cells 3 [(O .i64 v5)])]) ?_
   rintro ⟨v4,v5⟩ _ _ _ h _ _
   refine Z ?_
   refine Ai h (fun _ h=>?_) (fun _ h=>?_)
   refine Z ?_
   refine Bm h (fun _ _ _ _ h=>?_)
   refine Z ?_
   refine A1 [0] h (fun _ h=>?_)
   exact Y
   exact Y
instance {k:Nat}:Aic k:=(Art k)
instance {a0:List Ao}:OK (Sp a0) fun r=>Aq Tryz.prog 30 [(Av 3 Bt) a0] (Am r):=⟨fun {r} h=>by
 refine pw C0 Tryz.func30 ?_
 refine Z ?_
 refine Ai h (fun _ h=>?_) (fun _ h=>?_)
 exact Y
 refine Z ?_
 refine A2 h (fun v37=>[(2,(Am false)),(15,(O .i64 v37))]) (fun v37=>[]) ?_
 rintro v37 _ _ _ h _ _
 refine Z ?_
 refine Ai h (fun _ h=>?_) (fun _ h=>?_)
 refine Z ?_
 refine Bm h (fun _ _ _ _ h=>?_)
 refine ZO ?_
 refine As (As ?_)
 refine Bg h (fun v40=>[(28,(Am v40))]) (fun v40=>[]) ?_ ?_
 intro _ h _ _ _
 exact Y
 rintro v40 _ h
 refine Ai h (fun _ h=>?_) (fun _ h=>?_)
 exact Y
 refine Z ?_
 refine A2 h (fun v56=>[(2,(Am false)),(32,(O .i64 v56))]) (fun v56=>[]) ?_
 rintro v56 _ _ _ h _ _
 refine Z ?_
 refine Ai h (fun _ h=>?_) (fun _ h=>?_)
 refine Z ?_
 refine Bm h (fun _ _ _ _ h=>?_)
 refine ZO ?_
 refine As (As ?_)
 refine Bg h (fun v59=>[(45,(Am v59))]) (fun v59=>[]) ?_ ?_
 intro _ h _ _ _
 exact Y
 rintro v59 _ h
 refine Ai h (fun _ h=>?_) (fun _ h=>?_)
 exact Y
 refine Z ?_
 refine A2 h (fun (v64,v65)=>[(2,(Am false)),(49,(O .i64 v64))]) (fun (v64,v65)=>[(2,.cells 3 [(O .i64 v65)])]) ?_
 rintro ⟨v64,v65⟩ _ _ _ h _ _
 refine Z ?_
 refine Ai h (fun _ h=>?_) (fun _ h=>?_)
 refine Z ?_
 refine Bm h (fun _ _ _ _ h=>?_)
 refine Z ?_
 refine A1 [2] h (fun _ h=>?_)
 exact Y
 exact Y
 exact Y
 exact Y⟩
instance {a0:Af}:OK (Qd a0) fun r=>Aq Tryz.prog 32 [Cv a0] (Am r):=⟨fun {r} h=>by
 refine pw C0 Tryz.func32 ?_
 refine Z ?_
 refine A1 [1] h (fun _ h=>?_)
 exact Y⟩
instance {a0:List Af} {a1:Int}:OK (Sq a0 a1) fun r=>Aq Tryz.prog 31 [(Ep 3 Bd) a0,(O .i64) a1] (Am r):=⟨fun {r} h=>by
 refine pw C0 Tryz.func31 ?_
 refine Z ?_
 refine A2 h (fun v4=>[(4,(Am false)),(5,(O .i64 v4))]) (fun v4=>[]) ?_
 rintro v4 _ _ _ h _ _
 refine As (As ?_)
 refine Bg h (fun v5=>[(14,(Am v5))]) (fun v5=>[]) ?_ ?_
 intro _ h _ _ _
 exact Y
 rintro v5 _ h
 exact Y⟩
instance {a0:Ck}:OK (Sl a0) fun r=>Aq Tryz.prog 9 [G8 a0] (Am r):=⟨fun {r} h=>by
 refine pw C0 Tryz.func9 ?_
 exact Y⟩
abbrev Aid (k:Nat):Prop:=∀{a0:Az} {b0:Int},OK (Og k a0 b0) fun r=>Bq Tryz.prog 115 [D7 a0,(.loc 0 0)] [.cells 3 [(O .i64 b0)]] (Am r.1) [.cells 3 [(O .i64 r.2)]]
theorem Aru (k:Nat):Aid k:=by
 induction k with
 | zero=>exact okz
 | succ k ih=>
  refine @fun a0 b0=>⟨fun {r} h=>?_⟩
  .unfold Og at h
   refine aw C0 true Tryz.func115 ?_
   refine Z ?_
   refine Ai h (fun _ h=>?_) (fun _ h=>?_)
   exact Y
   refine Z ?_
   refine A2 h (fun (v4,v5)=>[(4,(Am false)),(5,(O .i64 v4))]) (fun (v4,v5)=>[(0,.cells 3 [(O .i64 v5)])]) ?_
   rintro ⟨v4,v5⟩ _ _ _ h _ _
   refine Z ?_
   refine Ai h (fun _ h=>?_) (fun _ h=>?_)
   refine Z ?_
   refine Bm h (fun _ _ _ _ h=>?_)
   refine Z ?_
   refine A1 [0] h (fun _ h=>?_)
   exact Y
   exact Y
instance {k:Nat}:Aid k:=(Aru k)
instance {a0:Az}:OK (Sy a0) fun r=>Aq Tryz.prog 64 [D7 a0] (Am r):=⟨fun {r} h=>by
 refine pw C0 Tryz.func64 ?_
 refine Z ?_
 refine A1 [1] h (fun _ h=>?_)
 exact Y⟩
instance {a0:C2}:OK (Wo a0) fun r=>Aq Tryz.prog 65 [G9 a0] (Am r):=⟨fun {r} h=>by
 refine pw C0 Tryz.func65 ?_
 exact Y⟩
instance {a0:B8}:OK (Sn a0) fun r=>Aq Tryz.prog 28 [F0 a0] (Am r):=⟨fun {r} h=>by
 refine pw C0 Tryz.func28 ?_
 refine ZS ?_
 refine Bn ?_
 refine ZO ?_
 refine As (As ?_)
 refine Bg h (fun v2=>[(16,(Am v2))]) (fun v2=>[]) ?_ ?_
 intro _ h _ _ _
 exact Y
 rintro v2 _ h
 refine Ai h (fun _ h=>?_) (fun _ h=>?_)
 exact Y
 refine Z ?_
 refine A2 h (fun v6=>[(2,(Am false)),(20,(O .i64 v6))]) (fun v6=>[]) ?_
 rintro v6 _ _ _ h _ _
 refine Z ?_
 refine Ai h (fun _ h=>?_) (fun _ h=>?_)
 exact Y
 replace h:=B9 h
 refine Z ?_
 refine A2 h (fun v14=>[(2,(Am false)),(32,(O .i64 v14))]) (fun v14=>[]) ?_
 rintro v14 _ _ _ h _ _
 exact Y⟩
instance {a0:A4}:OK (So a0) fun r=>Aq Tryz.prog 29 [Cb a0] (Am r):=⟨fun {r} h=>by
 refine pw C0 Tryz.func29 ?_
 exact Y⟩
instance {a0:List A6} {a1:Int}:OK (Sk a0 a1) fun r=>Aq Tryz.prog 8 [(Av 5 Cq) a0,(O .i64) a1] (Am r):=⟨fun {r} h=>by
 refine pw C0 Tryz.func8 ?_
 refine Z ?_
 refine A2 h (fun v6=>[(4,(Am false)),(5,(O .i64 v6))]) (fun v6=>[]) ?_
 rintro v6 _ _ _ h _ _
 refine As (As ?_)
 refine Bg h (fun v7=>[(14,(Am v7))]) (fun v7=>[]) ?_ ?_
 intro _ h _ _ _
 exact Y
 rintro v7 _ h
 exact Y⟩
instance {a0:Ck} {a1:List (List A6)}:OK (Sj a0 a1) fun r=>Aq Tryz.prog 4 [G8 a0,(Av 1 (Av 5 Cq)) a1] (Am r):=⟨fun {r} h=>by
 refine pw C0 Tryz.func4 ?_
 refine Z ?_
 refine A2 h (fun v4=>[(4,(Am false)),(9,(O .i64 v4))]) (fun v4=>[]) ?_
 rintro v4 _ _ _ h _ _
 exact Y⟩
instance {a0:List Ao} {a1:Af} {a2:Int}:OK (J9 a0 a1 a2) fun r=>Aq Tryz.prog 141 [(Av 3 Bt) a0,Cv a1,(O .i64) a2] (.tup [(Ep 3 Bd) r.1,Am r.2]):=⟨fun {r} h=>by
 refine pw {T:=Ci,an:=(fun s=>bif Nat.beq s 10 then .own else .ask),nl:=(fun s=>bif Nat.beq s 10 then [(0,3)] else bif Nat.beq s 6 then [(0,3)] else [])} Tryz.func141 ?_
 refine Z ?_
 refine A7 h (fun _ h=>?_)
 refine Z ?_
 refine Ai h (fun _ h=>?_) (fun _ h=>?_)
 exact Y
 refine Z ?_
 refine A7 h (fun _ h=>?_)
 refine Z ?_
 refine A2 h (fun (v13,o14)=>[(10,(.arr 1 o14.length 0 o14.length)),(28,(O .i64 v13))]) (fun (v13,o14)=>[(1,.rows 25 3 (Bd o14))]) ?_
 rintro ⟨v13,o14⟩ _ _ _ h _ _
 exact Y⟩
abbrev Aie (k:Nat):Prop:=∀{a0:List Ao} {a1:Af} {a2:Az},OK (Mw k a0 a1 a2) fun r=>Aq Tryz.prog 208 [(Av 3 Bt) a0,Cv a1,D7 a2] (.tup [(O .i64) r.1,Am r.2])
abbrev Aif (k:Nat):Prop:=∀{a0:List Ao} {a1:List Af} {a2:List Az},OK (Mz k a0 a1 a2) fun r=>Aq Tryz.prog 251 [(Av 3 Bt) a0,(Ep 3 Bd) a1,(Ep 2 Gr) a2] (.tup [(O .i64) r.1,Am r.2])
theorem Aig (k:Nat):Aie k/\Aif k:=by
 induction k with
 | zero=>exact ⟨okz,okz⟩
 | succ k ih=>
  obtain ⟨i0_,i1_⟩:=ih
  refine ⟨@fun a0 a1 a2=>⟨fun {r} h=>?_⟩,@fun a0 a1 a2=>⟨fun {r} h=>?_⟩⟩
  .unfold Mw at h
   refine pw C0 Tryz.func208 ?_
   refine Z ?_
   refine Ai h (fun _ h=>?_) (fun _ h=>?_)
   exact Y
   refine Z ?_
   refine Ai h (fun _ h=>?_) (fun _ h=>?_)
   exact Y
   refine Z ?_
   refine Ai h (fun _ h=>?_) (fun _ h=>?_)
   refine Z ?_
   refine Ai h (fun _ h=>?_) (fun _ h=>?_)
   exact Y
   refine Z ?_
   refine A2 h (fun (v8,v9)=>[(6,(O .i64 0)),(7,(Am false)),(8,(O .i64 v8)),(55,(O .i64 v9))]) (fun (v8,v9)=>[]) ?_
   rintro ⟨v8,v9⟩ _ _ _ h _ _
   exact Y
   exact Y
  .unfold Mz at h
   refine pw C0 Tryz.func251 ?_
   refine Z ?_
   refine Ai h (fun _ h=>?_) (fun _ h=>?_)
   exact Y
   refine Z ?_
   refine A2 h (fun (v5,v6)=>[(6,(O .i64 0)),(7,(Am false)),(8,(O .i64 v5)),(20,(O .i64 v6))]) (fun (v5,v6)=>[]) ?_
   rintro ⟨v5,v6⟩ _ _ _ h _ _
   exact Y
instance {k:Nat}:Aie k:=(Aig k).1
instance {k:Nat}:Aif k:=(Aig k).2
instance {a0:List Ao} {a1:Af}:OK (W8 a0 a1) fun r=>Aq Tryz.prog 207 [(Av 3 Bt) a0,Cv a1] (Am r):=⟨fun {r} h=>by
 refine pw {T:=Ci,an:=(fun _=>.ask),nl:=(fun s=>bif Nat.beq s 6 then [(1,7),(2,3),(3,8)] else [])} Tryz.func207 ?_
 exact Y⟩
instance {a0:List Ao} {a1:Af} {a2:Az}:OK (Te a0 a1 a2) fun r=>Aq Tryz.prog 139 [(Av 3 Bt) a0,Cv a1,D7 a2] ((O .i64) r):=⟨fun {r} h=>by
 refine pw C0 Tryz.func139 ?_
 exact Y⟩
instance {a0:List Ao} {a1:Af} {a2:Az}:OK (Wp a0 a1 a2) fun r=>Aq Tryz.prog 81 [(Av 3 Bt) a0,Cv a1,D7 a2] (Am r):=⟨fun {r} h=>by
 refine pw C0 Tryz.func81 ?_
 exact Y⟩
abbrev Aih (k:Nat):Prop:=∀{a0:List Ao} {a1:List Af} {a2:List Az} {b1:List Int},OK (O7 k a0 a1 a2 b1) fun r=>Bq Tryz.prog 140 [(.loc 0 0),(Av 3 Bt) a0,(Ep 3 Bd) a1,(Ep 2 Gr) a2] [.cells 42 [(.loc 0 0),(.arr 1 b1.length 0 b1.length)],.rows 5 1 (List.map (O .u8) b1)] (.tup []) [.cells 42 [(.loc 0 0),(.arr 1 r.length 0 r.length)],.rows 5 1 (List.map (O .u8) r)]
abbrev Aii (k:Nat):Prop:=∀{a0:List Ao} {a1:Af} {a2:Az} {b1:List Int},OK (Rh k a0 a1 a2 b1) fun r=>Bq Tryz.prog 82 [(.loc 0 0),(Av 3 Bt) a0,Cv a1,D7 a2] [.cells 42 [(.loc 0 0),(.arr 1 b1.length 0 b1.length)],.rows 5 1 (List.map (O .u8) b1)] (.tup []) [.cells 42 [(.loc 0 0),(.arr 1 r.length 0 r.length)],.rows 5 1 (List.map (O .u8) r)]
theorem Aij (k:Nat):Aih k/\Aii k:=by
 induction k with
 | zero=>exact ⟨okz,okz⟩
 | succ k ih=>
  obtain ⟨i0_,i1_⟩:=ih
  refine ⟨@fun a0 a1 a2 b1=>⟨fun {r} h=>?_⟩,@fun a0 a1 a2 b1=>⟨fun {r} h=>?_⟩⟩
  .unfold O7 at h
   refine aw C0 true Tryz.func140 ?_
   refine Z ?_
   refine A1 [0,1] h (fun _ h=>?_)
   refine Z ?_
   refine A2 h (fun (v14,o15)=>[(14,(O .i64 v14))]) (fun (v14,o15)=>[(0,.cells 42 [(.loc 0 0),(.arr 1 o15.length 0 o15.length)]),(1,.rows 5 1 (List.map (O .u8) o15))]) ?_
   rintro ⟨v14,o15⟩ _ _ _ h _ _
   refine Z ?_
   refine Ai h (fun _ h=>?_) (fun _ h=>?_)
   refine Z ?_
   refine Bm h (fun _ _ _ _ h=>?_)
   refine ZS ?_
   refine Bn ?_
   refine ZO ?_
   refine Bg h (fun o19=>[]) (fun o19=>[(0,.cells 42 [(.loc 0 0),(.arr 1 o19.length 0 o19.length)]),(1,.rows 5 1 (List.map (O .u8) o19))]) ?_ ?_
   intro _ h _ _ _
   refine Ai h (fun _ h=>?_) (fun _ h=>?_)
   refine Z ?_
   refine A1 [0,1] h (fun _ h=>?_)
   exact Y
   exact Y
   rintro o19 _ h
   refine Z ?_
   refine Bm h (fun _ _ _ _ h=>?_)
   refine Z ?_
   refine A1 [0,1] h (fun _ h=>?_)
   exact Y
   replace h:=B9 h
   refine Z ?_
   refine A1 [0,1] h (fun _ h=>?_)
   exact Y
  .unfold Rh at h
   refine aw C0 true Tryz.func82 ?_
   refine Z ?_
   refine Ai h (fun _ h=>?_) (fun _ h=>?_)
   refine Z ?_
   refine A1 [0,1] h (fun _ h=>?_)
   exact Y
   refine Z ?_
   refine Ai h (fun _ h=>?_) (fun _ h=>?_)
   refine Z ?_
   refine A7 h (fun _ h=>?_)
   refine Z ?_
   refine A1 [0,1] h (fun _ h=>?_)
   exact Y
   refine Z ?_
   refine Ai h (fun _ h=>?_) (fun _ h=>?_)
   refine Z ?_
   refine A1 [0,1] h (fun _ h=>?_)
   refine Z ?_
   refine A2 h (fun (v14,o15)=>[(39,(O .i64 v14))]) (fun (v14,o15)=>[(0,.cells 42 [(.loc 0 0),(.arr 1 o15.length 0 o15.length)]),(1,.rows 5 1 (List.map (O .u8) o15))]) ?_
   rintro ⟨v14,o15⟩ _ _ _ h _ _
   refine Z ?_
   refine Ai h (fun _ h=>?_) (fun _ h=>?_)
   refine Z ?_
   refine Bm h (fun _ _ _ _ h=>?_)
   refine ZS ?_
   refine Bn ?_
   refine ZO ?_
   refine Bg h (fun o19=>[]) (fun o19=>[(0,.cells 42 [(.loc 0 0),(.arr 1 o19.length 0 o19.length)]),(1,.rows 5 1 (List.map (O .u8) o19))]) ?_ ?_
   intro _ h _ _ _
   refine Ai h (fun _ h=>?_) (fun _ h=>?_)
   refine Z ?_
   refine A1 [0,1] h (fun _ h=>?_)
   exact Y
   exact Y
   rintro o19 _ h
   refine Z ?_
   refine Bm h (fun _ _ _ _ h=>?_)
   refine Z ?_
   refine Bm h (fun _ _ _ _ h=>?_)
   refine Z ?_
   refine A1 [0,1] h (fun _ h=>?_)
   refine Z ?_
   refine A7 h (fun _ h=>?_)
   refine Z ?_
   refine Ai h (fun _ h=>?_) (fun _ h=>?_)
   refine Z ?_
   refine A1 [0,1] h (fun _ h=>?_)
   exact Y
   exact Y
   replace h:=B9 h
   refine Z ?_
   refine A1 [0,1] h (fun _ h=>?_)
   exact Y
   refine Z ?_
   refine A1 [0,1] h (fun _ h=>?_)
   exact Y
instance {k:Nat}:Aih k:=(Aij k).1
instance {k:Nat}:Aii k:=(Aij k).2
instance {a0:List Ao} {a1:List Af} {a2:List Az} {b1:List Int}:OK (Ww a0 a1 a2 b1) fun r=>Bq Tryz.prog 140 [(.loc 0 0),(Av 3 Bt) a0,(Ep 3 Bd) a1,(Ep 2 Gr) a2] [.cells 42 [(.val (.pointer none)),(.arr 1 b1.length 0 b1.length)],.rows 5 1 (List.map (O .u8) b1)] (.tup []) [.cells 42 [(.loc 0 0),(.arr 1 r.length 0 r.length)],.rows 5 1 (List.map (O .u8) r)]:=⟨fun {r} h=>by
 refine aw C0 true Tryz.func140 ?_
 refine Z ?_
 refine A1 [0,1] h (fun _ h=>?_)
 refine Z ?_
 refine A2 h (fun (v14,o15)=>[(14,(O .i64 v14))]) (fun (v14,o15)=>[(0,.cells 42 [(.loc 0 0),(.arr 1 o15.length 0 o15.length)]),(1,.rows 5 1 (List.map (O .u8) o15))]) ?_
 rintro ⟨v14,o15⟩ _ _ _ h _ _
 refine Z ?_
 refine Ai h (fun _ h=>?_) (fun _ h=>?_)
 refine Z ?_
 refine Bm h (fun _ _ _ _ h=>?_)
 refine ZS ?_
 refine Bn ?_
 refine ZO ?_
 refine Bg h (fun o19=>[]) (fun o19=>[(0,.cells 42 [(.loc 0 0),(.arr 1 o19.length 0 o19.length)]),(1,.rows 5 1 (List.map (O .u8) o19))]) ?_ ?_
 intro _ h _ _ _
 refine Ai h (fun _ h=>?_) (fun _ h=>?_)
 refine Z ?_
 refine A1 [0,1] h (fun _ h=>?_)
 exact Y
 exact Y
 rintro o19 _ h
 refine Z ?_
 refine Bm h (fun _ _ _ _ h=>?_)
 refine Z ?_
 refine A1 [0,1] h (fun _ h=>?_)
 exact Y
 replace h:=B9 h
 refine Z ?_
 refine A1 [0,1] h (fun _ h=>?_)
 exact Y⟩
instance {a0:List Ao} {a1:Af} {a2:Az} {b1:List Int}:OK (S0 a0 a1 a2 b1) fun r=>Bq Tryz.prog 82 [(.loc 0 0),(Av 3 Bt) a0,Cv a1,D7 a2] [.cells 42 [(.val (.pointer none)),(.arr 1 b1.length 0 b1.length)],.rows 5 1 (List.map (O .u8) b1)] (.tup []) [.cells 42 [(.loc 0 0),(.arr 1 r.length 0 r.length)],.rows 5 1 (List.map (O .u8) r)]:=⟨fun {r} h=>by
 refine aw C0 true Tryz.func82 ?_
 refine Z ?_
 refine Ai h (fun _ h=>?_) (fun _ h=>?_)
 refine Z ?_
 refine A1 [0,1] h (fun _ h=>?_)
 exact Y
 refine Z ?_
 refine Ai h (fun _ h=>?_) (fun _ h=>?_)
 refine Z ?_
 refine A7 h (fun _ h=>?_)
 refine Z ?_
 refine A1 [0,1] h (fun _ h=>?_)
 exact Y
 refine Z ?_
 refine Ai h (fun _ h=>?_) (fun _ h=>?_)
 refine Z ?_
 refine A1 [0,1] h (fun _ h=>?_)
 refine Z ?_
 refine A2 h (fun (v14,o15)=>[(39,(O .i64 v14))]) (fun (v14,o15)=>[(0,.cells 42 [(.loc 0 0),(.arr 1 o15.length 0 o15.length)]),(1,.rows 5 1 (List.map (O .u8) o15))]) ?_
 rintro ⟨v14,o15⟩ _ _ _ h _ _
 refine Z ?_
 refine Ai h (fun _ h=>?_) (fun _ h=>?_)
 refine Z ?_
 refine Bm h (fun _ _ _ _ h=>?_)
 refine ZS ?_
 refine Bn ?_
 refine ZO ?_
 refine Bg h (fun o19=>[]) (fun o19=>[(0,.cells 42 [(.loc 0 0),(.arr 1 o19.length 0 o19.length)]),(1,.rows 5 1 (List.map (O .u8) o19))]) ?_ ?_
 intro _ h _ _ _
 refine Ai h (fun _ h=>?_) (fun _ h=>?_)
 refine Z ?_
 refine A1 [0,1] h (fun _ h=>?_)
 exact Y
 exact Y
 rintro o19 _ h
 refine Z ?_
 refine Bm h (fun _ _ _ _ h=>?_)
 refine Z ?_
 refine Bm h (fun _ _ _ _ h=>?_)
 refine Z ?_
 refine A1 [0,1] h (fun _ h=>?_)
 refine Z ?_
 refine A7 h (fun _ h=>?_)
 refine Z ?_
 refine Ai h (fun _ h=>?_) (fun _ h=>?_)
 refine Z ?_
 refine A1 [0,1] h (fun _ h=>?_)
 exact Y
 exact Y
 replace h:=B9 h
 refine Z ?_
 refine A1 [0,1] h (fun _ h=>?_)
 exact Y
 refine Z ?_
 refine A1 [0,1] h (fun _ h=>?_)
 exact Y⟩
instance {a0:List Ao} {a1:Af} {a2:Az}:OK (Qh a0 a1 a2) fun r=>Aq Tryz.prog 40 [(Av 3 Bt) a0,Cv a1,D7 a2] (Bk r):=⟨fun {r} h=>by
 refine pw C0 Tryz.func40 ?_
 refine Z ?_
 refine A7 h (fun _ h=>?_)
 refine Z ?_
 refine Ai h (fun _ h=>?_) (fun _ h=>?_)
 exact Y
 refine ZS ?_
 refine Bn ?_
 refine ZO ?_
 refine As ?_
 refine C6 [.own 7 1 5 1] ?_
 refine Z ?_
 refine A1 [2,3] h (fun _ h=>?_)
 refine Z ?_
 refine A1 [2,3] h (fun _ h=>?_)
 exact Y⟩
instance {a0:Int}:OK (Qg a0) fun r=>Aq Tryz.prog 39 [(O .i64) a0] (Bk r):=⟨fun {r} h=>by
 refine pw C0 Tryz.func39 ?_
 exact Y⟩
instance {a0:A4}:OK (Qi a0) fun r=>Aq Tryz.prog 44 [Cb a0] (Cb r):=⟨fun {r} h=>by
 refine pw C0 Tryz.func44 ?_
 exact Y⟩
instance {a0 a1:A4}:OK (N9 a0 a1) fun r=>Aq Tryz.prog 45 [Cb a0,Cb a1] ((O .i64) r):=⟨fun {r} h=>by
 refine pw C0 Tryz.func45 ?_
 exact Y⟩
instance {a0 a1:Int}:OK (W9 a0 a1) fun r=>Aq Tryz.prog 218 [(O .u64) a0,(O .i64) a1] (Bk r):=⟨fun {r} h=>by
 exact Arl h⟩
instance {a0 a1:Int}:OK (Qw a0 a1) fun r=>Aq Tryz.prog 146 [(O .u64) a0,(O .i64) a1] (Bk r):=⟨fun {r} h=>by
 refine pw C0 Tryz.func146 ?_
 exact Y⟩
instance {a0:ByteArray} {a1:Int}:OK (Tg a0 a1) fun r=>Aq Tryz.prog 147 [Bk a0,(O .i64) a1] (Bk r):=⟨fun {r} h=>by
 exact Ark h⟩
instance {a0:List Int}:OK (Qp a0) fun r=>Aq Tryz.prog 91 [(Av 1 (O .u32)) a0] (Bk r):=⟨fun {r} h=>by
 refine pw C0 Tryz.func91 ?_
 refine Z ?_
 refine Ai h (fun _ h=>?_) (fun _ h=>?_)
 exact Y
 refine ZS ?_
 refine Bn ?_
 refine ZO ?_
 refine As (As ?_)
 refine C6 [.own 3 1 5 1] ?_
 refine Z ?_
 refine N4 ?_
 refine Z ?_
 refine Ai h (fun _ h=>?_) (fun _ h=>?_)
 refine Z ?_
 refine Bm h (fun _ _ _ _ h=>?_)
 refine Z ?_
 refine A7 h (fun _ h=>?_)
 refine Z ?_
 refine A1 [0,1] h (fun _ h=>?_)
 refine Z ?_
 refine A2 h (fun (v12,o13)=>[(11,(O .i64 v12))]) (fun (v12,o13)=>[(0,.cells 42 [(.loc 0 0),(.arr 1 o13.length 0 o13.length)]),(1,.rows 5 1 (List.map (O .u8) o13))]) ?_
 rintro ⟨v12,o13⟩ _ _ _ h _ _
 refine Z ?_
 refine Ai h (fun _ h=>?_) (fun _ h=>?_)
 refine Z ?_
 refine Bm h (fun _ _ _ _ h=>?_)
 refine Z ?_
 refine A7 h (fun _ h=>?_)
 refine Z ?_
 refine Ai h (fun _ h=>?_) (fun _ h=>?_)
 refine Z ?_
 refine A7 h (fun _ h=>?_)
 refine Z ?_
 refine A1 [0,1] h (fun _ h=>?_)
 refine Z ?_
 refine A1 [0,1] h (fun _ h=>?_)
 exact Y
 refine Z ?_
 refine A1 [0,1] h (fun _ h=>?_)
 exact Y
 replace h:=B9 h
 refine Z ?_
 refine A1 [0,1] h (fun _ h=>?_)
 exact Y
 refine Z ?_
 refine A1 [0,1] h (fun _ h=>?_)
 exact Y⟩
instance {a0:A4}:OK (Qj a0) fun r=>Aq Tryz.prog 47 [Cb a0] (Bk r):=⟨fun {r} h=>by
 refine pw C0 Tryz.func47 ?_
 refine Z ?_
 refine A7 h (fun _ h=>?_)
 refine Z ?_
 refine A7 h (fun _ h=>?_)
 refine Z ?_
 refine A7 h (fun _ h=>?_)
 refine ZS ?_
 refine Bn ?_
 refine ZO ?_
 refine Bg h (fun v7=>[(4,(Bk v7))]) (fun v7=>[]) ?_ ?_
 intro _ h _ _ _
 exact Y
 rintro v7 _ h
 exact Y⟩
instance {a0:List ByteArray} {a1:ByteArray}:OK (Mi a0 a1) fun r=>Aq Tryz.prog 48 [(Av 1 Bk) a0,Bk a1] (Bk r):=⟨fun {r} h=>by
 exact Arj h⟩
instance {a0:A6} {b1:List (ByteArray×Int)} {b2:List (ByteArray×(List Dh))} {b0_0:List Ao} {b0_1:List Af} {b0_2 b0_3:Int} {b0_4:List Af}:OK (Jb a0 b1 b2 b0_0 b0_1 b0_2 b0_3 b0_4) fun r=>Bq Tryz.prog 13 [(.loc 0 0),Cq a0] [.cells 96 [(.sl 3 (List.map Bt b0_0)),(.sl 3 (Bd b0_1)),(O .i64 b0_2),(O .i64 b0_3),(.sl 3 (Bd b0_4)),(.mp 1),(.mp 2)],.map (Bh (O .i64) b1),.map (Bh (Av 5 D8) b2)] (Bk r) [.cells 96 [(.sl 3 (List.map Bt b0_0)),(.sl 3 (Bd b0_1)),(O .i64 b0_2),(O .i64 b0_3),(.sl 3 (Bd b0_4)),(.mp 1),(.mp 2)],.map (Bh (O .i64) b1),.map (Bh (Av 5 D8) b2)]:=⟨fun {r} h=>by
 refine aw {T:=Ci,an:=(fun s=>bif Nat.beq s 87 then .own else bif Nat.beq s 5 then .own else .ask),nl:=(fun s=>bif Nat.beq s 5 then [(0,1)] else [])} true Tryz.func13 ?_
 refine Z ?_
 refine A2 h (fun (v21,o22)=>[(5,(.arr 4 o22.length 0 o22.length)),(15,(O .i64 v21))]) (fun (v21,o22)=>[(4,.rows 9 1 (List.map Bk o22))]) ?_
 rintro ⟨v21,o22⟩ _ _ _ h _ _
 refine Z ?_
 refine Ai h (fun _ h=>?_) (fun _ h=>?_)
 refine Z ?_
 refine Bm h (fun _ _ _ _ h=>?_)
 refine Z ?_
 refine A7 h (fun _ h=>?_)
 refine Z ?_
 refine Ft h (fun h=>?_)
 refine Z ?_
 refine Aq8 [0,1,2] h (fun _ h=>?_)
 exact Y
 replace h:=B9 h
 refine Z ?_
 refine A2 h (fun (v45,o46)=>[(5,(.arr 4 o46.length 0 o46.length)),(44,(O .i64 v45))]) (fun (v45,o46)=>[(4,.rows 9 1 (List.map Bk o46))]) ?_
 rintro ⟨v45,o46⟩ _ _ _ h _ _
 refine Z ?_
 refine Ai h (fun _ h=>?_) (fun _ h=>?_)
 exact Y
 replace h:=B9 h
 refine Z ?_
 refine A7 h (fun _ h=>?_)
 refine ZO ?_
 refine As (As ?_)
 refine Bg h (fun v65=>[(84,(Am v65))]) (fun v65=>[]) ?_ ?_
 intro _ h _ _ _
 exact Y
 rintro v65 _ h
 refine Ai h (fun _ h=>?_) (fun _ h=>?_)
 refine C6 [.fz 5] ?_
 refine Z ?_
 refine A7 h (fun _ h=>?_)
 refine Z ?_
 refine Kb h (fun _ h=>?_)
 refine ZO ?_
 refine As ?_
 refine C6 [.fz 5] ?_
 exact Y
 refine Hk (As ?_)
 refine C6 [.fz 5] ?_
 exact Y⟩
instance {a0:A6}:OK (Lt a0) fun r=>Aq Tryz.prog 13 [(.val (.pointer none)),Cq a0] (Bk r):=⟨fun {r} h=>by
 refine pw {T:=Ci,an:=(fun s=>bif Nat.beq s 87 then .own else bif Nat.beq s 5 then .own else .ask),nl:=(fun s=>bif Nat.beq s 5 then [(0,1)] else [])} Tryz.func13 ?_
 refine Z ?_
 refine A2 h (fun _=>[(5,(.arr 1 0 0 0)),(15,(O .i64 0))]) (fun _=>[]) ?_
 rintro _ _ _ _ h _ _
 refine Z ?_
 refine Ai h (fun _ h=>?_) (fun _ h=>?_)
 exact Y
 replace h:=B9 h
 refine Z ?_
 refine A2 h (fun (v20,o21)=>[(5,(.arr 1 o21.length 0 o21.length)),(44,(O .i64 v20))]) (fun (v20,o21)=>[(1,.rows 9 1 (List.map Bk o21))]) ?_
 rintro ⟨v20,o21⟩ _ _ _ h _ _
 refine Z ?_
 refine Ai h (fun _ h=>?_) (fun _ h=>?_)
 exact Y
 replace h:=B9 h
 refine Z ?_
 refine A7 h (fun _ h=>?_)
 refine ZO ?_
 refine As (As ?_)
 refine Bg h (fun v40=>[(84,(Am v40))]) (fun v40=>[]) ?_ ?_
 intro _ h _ _ _
 exact Y
 rintro v40 _ h
 refine Ai h (fun _ h=>?_) (fun _ h=>?_)
 refine C6 [.fz 5] ?_
 refine Z ?_
 refine A7 h (fun _ h=>?_)
 refine Z ?_
 refine Kb h (fun _ h=>?_)
 refine ZO ?_
 refine As ?_
 refine C6 [.fz 5] ?_
 exact Y
 refine Hk (As ?_)
 refine C6 [.fz 5] ?_
 exact Y⟩
end Go.Ab
namespace Go.Ab
open Go Go.Proofs
set_option maxRecDepth 10000
set_option maxHeartbeats 4000000
set_option linter.unusedVariables false
instance {a0:Ck} {a1:List A6}:OK (N5 a0 a1) fun r=>Aq Tryz.prog 5 [G8 a0,(Av 5 Cq) a1] (Bk r):=⟨fun {r} h=>by
 refine pw C0 Tryz.func5 ?_
 refine Z ?_
 refine C5 h (fun v2 hcv2 h=>?_)
 rcases v2 with v3 | v8
 refine Fc.act [] _ _ _ _ (Acg (a0:=a0) (a1:=[a1]) hcv2) rfl rfl trivial ?_
 refine Z ?_
 refine Ai h (fun _ h=>?_) (fun _ h=>?_)
 exact Y
 refine Z ?_
 refine Ai h (fun _ h=>?_) (fun _ h=>?_)
 exact Y
 refine ZS ?_
 refine Bn ?_
 refine ZO ?_
 refine As (As ?_)
 refine C6 [.own 7 1 5 1] ?_
 refine Z ?_
 refine N4 ?_
 refine Z ?_
 refine Ai h (fun _ h=>?_) (fun _ h=>?_)
 refine Hk (As ?_)
 refine Bg h (fun (v19,o20)=>[(8,(O .i64 0)),(10,(Am v19))]) (fun (v19,o20)=>[(5,.cells 42 [(.loc 5 0),(.arr 6 o20.length 0 o20.length)]),(6,.rows 5 1 (List.map (O .u8) o20))]) ?_ ?_
 intro _ h _ _ _
 refine Z ?_
 refine Bm h (fun _ _ _ _ h=>?_)
 refine Z ?_
 refine A7 h (fun _ h=>?_)
 refine Z ?_
 refine Ai h (fun _ h=>?_) (fun _ h=>?_)
 refine Z ?_
 refine A1 [5,6] h (fun _ h=>?_)
 refine Z ?_
 refine A1 [4,2,3] h (fun _ h=>?_)
 refine Z ?_
 refine A1 [5,6] h (fun _ h=>?_)
 exact Y
 refine Z ?_
 refine A1 [4,2,3] h (fun _ h=>?_)
 refine Z ?_
 refine A1 [5,6] h (fun _ h=>?_)
 exact Y
 rintro ⟨v19,o20⟩ _ h
 refine Z ?_
 refine A2 h (fun (v41,o42)=>[(25,(O .i64 v41))]) (fun (v41,o42)=>[(5,.cells 42 [(.loc 5 0),(.arr 6 o42.length 0 o42.length)]),(6,.rows 5 1 (List.map (O .u8) o42))]) ?_
 rintro ⟨v41,o42⟩ _ _ _ h _ _
 refine Z ?_
 refine Ai h (fun _ h=>?_) (fun _ h=>?_)
 refine Z ?_
 refine Bm h (fun _ _ _ _ h=>?_)
 refine Z ?_
 refine A7 h (fun _ h=>?_)
 refine ZO ?_
 refine As (G6 (As ?_))
 refine Bg h (fun v46=>[(34,(Am v46))]) (fun v46=>[]) ?_ ?_
 intro _ h _ _ _
 exact Y
 rintro v46 _ h
 refine Ai h (fun _ h=>?_) (fun _ h=>?_)
 refine Z ?_
 refine A1 [5,6] h (fun _ h=>?_)
 refine Z ?_
 refine A1 [4,2,3] h (fun _ h=>?_)
 refine Z ?_
 refine A1 [5,6] h (fun _ h=>?_)
 exact Y
 refine Z ?_
 refine Er h (fun _ h=>?_) (fun _ h=>?_)
 refine Z ?_
 refine Ai h (fun _ h=>?_) (fun _ h=>?_)
 refine Z ?_
 refine A1 [5,6] h (fun _ h=>?_)
 refine Z ?_
 refine A1 [4,2,3] h (fun _ h=>?_)
 refine Z ?_
 refine A1 [5,6] h (fun _ h=>?_)
 exact Y
 refine Z ?_
 refine Ai h (fun _ h=>?_) (fun _ h=>?_)
 refine Z ?_
 refine A1 [5,6] h (fun _ h=>?_)
 refine Z ?_
 refine A1 [4,2,3] h (fun _ h=>?_)
 refine Z ?_
 refine A1 [5,6] h (fun _ h=>?_)
 exact Y
 refine Z ?_
 refine A1 [4,2,3] h (fun _ h=>?_)
 refine Z ?_
 refine A1 [5,6] h (fun _ h=>?_)
 exact Y
 refine Z ?_
 refine Ai h (fun _ h=>?_) (fun _ h=>?_)
 refine Z ?_
 refine A1 [5,6] h (fun _ h=>?_)
 refine Z ?_
 refine A1 [4,2,3] h (fun _ h=>?_)
 refine Z ?_
 refine A1 [5,6] h (fun _ h=>?_)
 exact Y
 refine Z ?_
 refine A1 [4,2,3] h (fun _ h=>?_)
 refine Z ?_
 refine A1 [5,6] h (fun _ h=>?_)
 exact Y
 replace h:=B9 h
 refine Z ?_
 refine A1 [5,6] h (fun _ h=>?_)
 exact Y
 refine Z ?_
 refine A1 [5,6] h (fun _ h=>?_)
 exact Y
 refine Fc.act [] _ _ _ _ (Ach (a0:=a0) (a1:=[a1]) hcv2) rfl rfl trivial ?_
 refine Z ?_
 refine Ai h (fun _ h=>?_) (fun _ h=>?_)
 exact Y
 refine Z ?_
 refine Ai h (fun _ h=>?_) (fun _ h=>?_)
 exact Y
 refine ZS ?_
 refine Bn ?_
 refine ZO ?_
 refine As (As ?_)
 refine C6 [.own 7 1 5 1] ?_
 refine Z ?_
 refine N4 ?_
 refine Z ?_
 refine Ai h (fun _ h=>?_) (fun _ h=>?_)
 refine Hk (As ?_)
 refine Bg h (fun (v76,o77)=>[(8,(O .i64 0)),(10,(Am v76))]) (fun (v76,o77)=>[(1,.cells 42 [(.loc 1 0),(.arr 2 o77.length 0 o77.length)]),(2,.rows 5 1 (List.map (O .u8) o77))]) ?_ ?_
 intro _ h _ _ _
 refine Z ?_
 refine Bm h (fun _ _ _ _ h=>?_)
 refine Z ?_
 refine A7 h (fun _ h=>?_)
 refine Z ?_
 refine Ai h (fun _ h=>?_) (fun _ h=>?_)
 refine Z ?_
 refine A1 [1,2] h (fun _ h=>?_)
 refine Z ?_
 refine A7 h (fun _ h=>?_)
 refine Z ?_
 refine A1 [1,2] h (fun _ h=>?_)
 exact Y
 refine Z ?_
 refine A7 h (fun _ h=>?_)
 refine Z ?_
 refine A1 [1,2] h (fun _ h=>?_)
 exact Y
 rintro ⟨v76,o77⟩ _ h
 refine Z ?_
 refine A2 h (fun (v98,o99)=>[(25,(O .i64 v98))]) (fun (v98,o99)=>[(1,.cells 42 [(.loc 1 0),(.arr 2 o99.length 0 o99.length)]),(2,.rows 5 1 (List.map (O .u8) o99))]) ?_
 rintro ⟨v98,o99⟩ _ _ _ h _ _
 refine Z ?_
 refine Ai h (fun _ h=>?_) (fun _ h=>?_)
 refine Z ?_
 refine Bm h (fun _ _ _ _ h=>?_)
 refine Z ?_
 refine A7 h (fun _ h=>?_)
 refine ZO ?_
 refine As (G6 (As ?_))
 refine Bg h (fun v103=>[(34,(Am v103))]) (fun v103=>[]) ?_ ?_
 intro _ h _ _ _
 exact Y
 rintro v103 _ h
 refine Ai h (fun _ h=>?_) (fun _ h=>?_)
 refine Z ?_
 refine A1 [1,2] h (fun _ h=>?_)
 refine Z ?_
 refine A7 h (fun _ h=>?_)
 refine Z ?_
 refine A1 [1,2] h (fun _ h=>?_)
 exact Y
 refine Z ?_
 refine Er h (fun _ h=>?_) (fun _ h=>?_)
 refine Z ?_
 refine Ai h (fun _ h=>?_) (fun _ h=>?_)
 refine Z ?_
 refine A1 [1,2] h (fun _ h=>?_)
 refine Z ?_
 refine A7 h (fun _ h=>?_)
 refine Z ?_
 refine A1 [1,2] h (fun _ h=>?_)
 exact Y
 refine Z ?_
 refine Ai h (fun _ h=>?_) (fun _ h=>?_)
 refine Z ?_
 refine A1 [1,2] h (fun _ h=>?_)
 refine Z ?_
 refine A7 h (fun _ h=>?_)
 refine Z ?_
 refine A1 [1,2] h (fun _ h=>?_)
 exact Y
 refine Z ?_
 refine A7 h (fun _ h=>?_)
 refine Z ?_
 refine A1 [1,2] h (fun _ h=>?_)
 exact Y
 refine Z ?_
 refine Ai h (fun _ h=>?_) (fun _ h=>?_)
 refine Z ?_
 refine A1 [1,2] h (fun _ h=>?_)
 refine Z ?_
 refine A7 h (fun _ h=>?_)
 refine Z ?_
 refine A1 [1,2] h (fun _ h=>?_)
 exact Y
 refine Z ?_
 refine A7 h (fun _ h=>?_)
 refine Z ?_
 refine A1 [1,2] h (fun _ h=>?_)
 exact Y
 replace h:=B9 h
 refine Z ?_
 refine A1 [1,2] h (fun _ h=>?_)
 exact Y
 refine Z ?_
 refine A1 [1,2] h (fun _ h=>?_)
 exact Y⟩
abbrev Aik (k:Nat):Prop:=∀{a0:Af},OK (Lp k a0) fun r=>Aq Tryz.prog 152 [Cv a0] ((O .i64) r)
theorem Arv (k:Nat):Aik k:=by
 induction k with
 | zero=>exact okz
 | succ k ih=>
  refine @fun a0=>⟨fun {r} h=>?_⟩
  .unfold Lp at h
   refine pw C0 Tryz.func152 ?_
   refine Z ?_
   refine A2 h (fun (v4,v5)=>[(3,(O .i64 v4)),(4,(O .i64 v5))]) (fun (v4,v5)=>[]) ?_
   rintro ⟨v4,v5⟩ _ _ _ h _ _
   exact Y
instance {k:Nat}:Aik k:=(Arv k)
abbrev Ail (k:Nat):Prop:=∀{a0:List Ao} {a1:Af} {a2:Int},OK (Mt k a0 a1 a2) fun r=>Aq Tryz.prog 153 [(Av 3 Bt) a0,Cv a1,(O .i64) a2] (Am r)
theorem Arw (k:Nat):Ail k:=by
 induction k with
 | zero=>exact okz
 | succ k ih=>
  refine @fun a0 a1 a2=>⟨fun {r} h=>?_⟩
  .unfold Mt at h
   refine pw C0 Tryz.func153 ?_
   refine ZS ?_
   refine Bn ?_
   refine ZS ?_
   refine Bn ?_
   refine ZS ?_
   refine Bn ?_
   refine ZO ?_
   refine Ua (fun (x:Unit)=>(.inr x)) h (fun _=>[(6,(Am false))]) (fun _=>[]) ?_ ?_
   intro _ h _ _ _
   refine ZS ?_
   refine Bn ?_
   refine ZO ?_
   refine Bg h (fun v2=>[(14,(Am v2))]) (fun v2=>[]) ?_ ?_
   intro _ h _ _ _
   exact Y
   rintro v2 _ h
   refine Ai h (fun _ h=>?_) (fun _ h=>?_)
   exact Y
   refine Z ?_
   refine Ai h (fun _ h=>?_) (fun _ h=>?_)
   exact Y
   refine Z ?_
   refine Ai h (fun _ h=>?_) (fun _ h=>?_)
   exact Y
   refine Z ?_
   refine Ai h (fun _ h=>?_) (fun _ h=>?_)
   exact Y
   refine ZS ?_
   refine Bn ?_
   refine ZO ?_
   refine Bg h (fun v4=>[(75,(Am v4))]) (fun v4=>[]) ?_ ?_
   intro _ h _ _ _
   exact Y
   rintro v4 _ h
   exact Y
   rintro _ _ h
   refine Z ?_
   refine A2 h (fun v8=>[(6,(Am false)),(8,(O .i64 v8))]) (fun v8=>[]) ?_
   rintro v8 _ _ _ h _ _
   exact Y
instance {k:Nat}:Ail k:=(Arw k)
instance {a0:List Ao} {a1:Af} {a2:Int}:OK (Ku a0 a1 a2) fun r=>Aq Tryz.prog 95 [(Av 3 Bt) a0,Cv a1,(O .i64) a2] (Am r):=⟨fun {r} h=>by
 refine pw C0 Tryz.func95 ?_
 exact Y⟩
instance {a0:Af} {a1 a2:Int}:OK (Ms a0 a1 a2) fun r=>Aq Tryz.prog 150 [Cv a0,(O .i64) a1,(O .i64) a2] (Am r):=⟨fun {r} h=>by
 refine pw C0 Tryz.func150 ?_
 refine ZS ?_
 refine Bn ?_
 refine ZO ?_
 refine As (As ?_)
 refine Bg h (fun v2=>[(23,(Am v2))]) (fun v2=>[]) ?_ ?_
 intro _ h _ _ _
 exact Y
 rintro v2 _ h
 refine Ai h (fun _ h=>?_) (fun _ h=>?_)
 exact Y
 refine Z ?_
 refine A2 h (fun v6=>[(6,(Am false)),(7,(O .i64 v6))]) (fun v6=>[]) ?_
 rintro v6 _ _ _ h _ _
 exact Y⟩
instance {a0:List ByteArray}:OK (Qx a0) fun r=>Aq Tryz.prog 151 [(Av 1 Bk) a0] (Am r):=⟨fun {r} h=>by
 refine pw C0 Tryz.func151 ?_
 refine Z ?_
 refine A2 h (fun v1=>[(2,(Am false)),(3,(O .i64 v1))]) (fun v1=>[]) ?_
 rintro v1 _ _ _ h _ _
 refine Z ?_
 refine Ai h (fun _ h=>?_) (fun _ h=>?_)
 refine Z ?_
 refine A2 h (fun v4=>[(2,(Am false)),(4,(O .i64 v4))]) (fun v4=>[]) ?_
 rintro v4 _ _ _ h _ _
 exact Y
 exact Y⟩
instance {a0:ByteArray}:OK (Xc a0) fun r=>Aq Tryz.prog 266 [Bk a0] (Am r):=⟨fun {r} h=>by
 refine pw C0 Tryz.func266 ?_
 refine Z ?_
 refine A2 h (fun v2=>[(2,(Am false)),(4,(O .i64 v2))]) (fun v2=>[]) ?_
 rintro v2 _ _ _ h _ _
 refine Z ?_
 refine Ags (f:=Bk) (l:=[(ByteArray.mk #[97,114,114,97,121]),(ByteArray.mk #[98,111,111,108]),(ByteArray.mk #[99,97,116,99,104]),(ByteArray.mk #[100,97,116,97]),(ByteArray.mk #[101,108,115,101]),(ByteArray.mk #[101,110,100]),(ByteArray.mk #[102,97,108,115,101]),(ByteArray.mk #[102,110]),(ByteArray.mk #[102,117,110]),(ByteArray.mk #[103,101,116]),(ByteArray.mk #[105,102]),(ByteArray.mk #[105,110]),(ByteArray.mk #[105,110,116]),(ByteArray.mk #[108,101,110]),(ByteArray.mk #[108,101,116]),(ByteArray.mk #[109,97,116,99,104]),(ByteArray.mk #[110,101,119]),(ByteArray.mk #[114,97,105,115,101]),(ByteArray.mk #[114,101,97,100]),(ByteArray.mk #[114,101,102]),(ByteArray.mk #[115,101,116]),(ByteArray.mk #[116,104,101,110]),(ByteArray.mk #[116,105,99,107]),(ByteArray.mk #[116,114,117,101]),(ByteArray.mk #[116,114,121]),(ByteArray.mk #[117,110,105,116]),(ByteArray.mk #[119,105,116,104]),(ByteArray.mk #[119,114,105,116,101])]) rfl ?_
 refine Z ?_
 refine Ai h (fun _ h=>?_) (fun _ h=>?_)
 refine Z ?_
 refine Agn (f:=Bk) rfl h (fun nv3 v3 hiv3 hxv3 h=>?_)
 exact Y
 exact Y⟩
instance {a0:ByteArray}:OK (Tw a0) fun r=>Aq Tryz.prog 267 [Bk a0] (.tup [(O .i64) r.1,Am r.2]):=⟨fun {r} h=>by
 refine pw C0 Tryz.func267 ?_
 refine Z ?_
 refine A2 h (fun (v2,v3)=>[(2,(O .i64 0)),(3,(Am false)),(4,(O .i64 v2)),(5,(O .i64 v3))]) (fun (v2,v3)=>[]) ?_
 rintro ⟨v2,v3⟩ _ _ _ h _ _
 exact Y⟩
instance {a0:Int}:OK (Q8 a0) fun r=>Aq Tryz.prog 265 [(O .u8) a0] (Am r):=⟨fun {r} h=>by
 refine pw C0 Tryz.func265 ?_
 exact Y⟩
instance {a0:Int}:OK (Tv a0) fun r=>Aq Tryz.prog 263 [(O .u8) a0] (Am r):=⟨fun {r} h=>by
 refine pw C0 Tryz.func263 ?_
 exact Y⟩
instance {a0:ByteArray}:OK (Tx a0) fun r=>Aq Tryz.prog 268 [Bk a0] ((O .i64) r):=⟨fun {r} h=>by
 refine pw C0 Tryz.func268 ?_
 refine ZS ?_
 refine Bn ?_
 refine ZO ?_
 refine As (As ?_)
 refine Bg h (fun v4=>[(22,(Am v4))]) (fun v4=>[]) ?_ ?_
 intro _ h _ _ _
 exact Y
 rintro v4 _ h
 refine Ai h (fun _ h=>?_) (fun _ h=>?_)
 exact Y
 refine Z ?_
 refine A2 h (fun v7=>[(2,(O .i64 0)),(4,(O .i64 v7))]) (fun v7=>[]) ?_
 rintro v7 _ _ _ h _ _
 exact Y⟩
instance {a0:Int}:OK (Q7 a0) fun r=>Aq Tryz.prog 264 [(O .u8) a0] (Am r):=⟨fun {r} h=>by
 refine pw C0 Tryz.func264 ?_
 exact Y⟩
instance {a0:ByteArray}:OK (Xa a0) fun r=>Aq Tryz.prog 223 [Bk a0] (.tup [(Av 3 Ab8) r.1,(O .i64) r.2.1,(O .i64) r.2.2]):=⟨fun {r} h=>by
 refine pw {T:=Ci,an:=(fun s=>bif Nat.beq s 5 then .own else .ask),nl:=(fun s=>bif Nat.beq s 5 then [(0,3)] else bif Nat.beq s 2 then [(0,3)] else [])} Tryz.func223 ?_
 refine Z ?_
 refine Ai h (fun _ h=>?_) (fun _ h=>?_)
 exact Y
 refine Z ?_
 refine A2 h (fun (v49,o50)=>[(2,(.sl 3 (List.map Ab8 []))),(3,(O .i64 0)),(4,(O .i64 0)),(5,(.arr 0 o50.length 0 o50.length)),(6,(O .i64 v49))]) (fun (v49,o50)=>[(0,.rows 274 3 (List.map Ab8 o50))]) ?_
 rintro ⟨v49,o50⟩ _ _ _ h _ _
 refine Z ?_
 refine Ai h (fun _ h=>?_) (fun _ h=>?_)
 refine Z ?_
 refine J2 h (fun _ h=>?_)
 refine ZO ?_
 refine As (As ?_)
 refine Bg h (fun v52=>[(35,(Am v52))]) (fun v52=>[]) ?_ ?_
 intro _ h _ _ _
 exact Y
 rintro v52 _ h
 refine Ai h (fun _ h=>?_) (fun _ h=>?_)
 exact Y
 refine Z ?_
 refine Ai h (fun _ h=>?_) (fun _ h=>?_)
 refine Z ?_
 refine A2 h (fun v54=>[(6,(O .i64 v54))]) (fun v54=>[]) ?_
 rintro v54 _ _ _ h _ _
 exact Y
 refine ZS ?_
 refine Bn ?_
 refine ZO ?_
 refine As (G6 (As ?_))
 refine Bg h (fun v59=>[(70,(Am v59))]) (fun v59=>[]) ?_ ?_
 intro _ h _ _ _
 exact Y
 rintro v59 _ h
 refine Ai h (fun _ h=>?_) (fun _ h=>?_)
 refine Z ?_
 refine A2 h (fun v67=>[(8,(O .i64 v67))]) (fun v67=>[]) ?_
 rintro v67 _ _ _ h _ _
 refine Z ?_
 refine Er h (fun _ h=>?_) (fun _ h=>?_)
 refine Z ?_
 refine J2 h (fun _ h=>?_)
 refine Z ?_
 refine A7 h (fun _ h=>?_)
 refine Z ?_
 refine Er h (fun _ h=>?_) (fun _ h=>?_)
 exact Y
 refine Z ?_
 refine J2 h (fun _ h=>?_)
 refine Z ?_
 refine A7 h (fun _ h=>?_)
 refine Z ?_
 refine Er h (fun _ h=>?_) (fun _ h=>?_)
 exact Y
 refine Z ?_
 refine J2 h (fun _ h=>?_)
 refine Z ?_
 refine A7 h (fun _ h=>?_)
 refine Z ?_
 refine Er h (fun _ h=>?_) (fun _ h=>?_)
 exact Y
 refine Z ?_
 refine J2 h (fun _ h=>?_)
 refine Z ?_
 refine Ai h (fun _ h=>?_) (fun _ h=>?_)
 exact Y
 replace h:=B9 h
 refine Z ?_
 refine Ai h (fun _ h=>?_) (fun _ h=>?_)
 exact Y
 refine Z ?_
 refine A7 h (fun _ h=>?_)
 refine ZO ?_
 refine Bg h (fun v79=>[(9,(O .i64 v79))]) (fun v79=>[]) ?_ ?_
 intro _ h _ _ _
 exact Y
 rintro v79 _ h
 exact Y
 replace h:=B9 h
 refine Z ?_
 refine Ai h (fun _ h=>?_) (fun _ h=>?_)
 exact Y
 refine Z ?_
 refine A7 h (fun _ h=>?_)
 refine ZO ?_
 refine Bg h (fun v79=>[(9,(O .i64 v79))]) (fun v79=>[]) ?_ ?_
 intro _ h _ _ _
 exact Y
 rintro v79 _ h
 exact Y
 refine Z ?_
 refine A7 h (fun _ h=>?_)
 refine Z ?_
 refine Ai h (fun _ h=>?_) (fun _ h=>?_)
 refine Z ?_
 refine A2 h (fun v85=>[(8,(O .i64 v85))]) (fun v85=>[]) ?_
 rintro v85 _ _ _ h _ _
 refine Z ?_
 refine Er h (fun _ h=>?_) (fun _ h=>?_)
 refine Z ?_
 refine J2 h (fun _ h=>?_)
 refine Z ?_
 refine A7 h (fun _ h=>?_)
 refine Z ?_
 refine Ai h (fun _ h=>?_) (fun _ h=>?_)
 exact Y
 replace h:=B9 h
 refine Ff (Fd rfl (As (As ?_)))
 refine Bg h (fun v89=>[(165,(Am v89))]) (fun v89=>[]) ?_ ?_
 intro _ h _ _ _
 exact Y
 rintro v89 _ h
 exact Y
 replace h:=B9 h
 refine ZO ?_
 refine N3 (Ff (Fd rfl (As (As ?_))))
 refine Bg h (fun v89=>[(165,(Am v89))]) (fun v89=>[]) ?_ ?_
 intro _ h _ _ _
 exact Y
 rintro v89 _ h
 exact Y
 exact Y
 exact Y⟩
instance {a0:ByteArray}:OK (Oj a0) fun r=>Aq Tryz.prog 149 [Bk a0] (Am r):=⟨fun {r} h=>by
 refine pw C0 Tryz.func149 ?_
 exact Y⟩
instance {a0:List Ao}:OK (Qq a0) fun r=>Aq Tryz.prog 94 [(Av 3 Bt) a0] (Am r):=⟨fun {r} h=>by
 refine pw {T:=Ci,an:=(fun s=>bif Nat.beq s 4 then .own else bif Nat.beq s 3 then .own else .ask),nl:=(fun s=>bif Nat.beq s 4 then [(0,1)] else bif Nat.beq s 3 then [(0,1)] else [])} Tryz.func94 ?_
 refine Z ?_
 refine Ai h (fun _ h=>?_) (fun _ h=>?_)
 exact Y
 refine Z ?_
 refine A2 h (fun (v150,o151,o152)=>[(2,(Am false)),(3,(.arr 0 o151.length 0 o151.length)),(4,(.arr 1 o152.length 0 o152.length)),(5,(O .i64 v150))]) (fun (v150,o151,o152)=>[(0,.rows 9 1 (List.map Bk o151)),(1,.rows 9 1 (List.map Bk o152))]) ?_
 rintro ⟨v150,o151,o152⟩ _ _ _ h _ _
 refine Z ?_
 refine Ai h (fun _ h=>?_) (fun _ h=>?_)
 refine Z ?_
 refine Bm h (fun _ _ _ _ h=>?_)
 refine ZO ?_
 refine As (As ?_)
 refine Bg h (fun v156=>[(48,(Am v156))]) (fun v156=>[]) ?_ ?_
 intro _ h _ _ _
 exact Y
 rintro v156 _ h
 refine Ai h (fun _ h=>?_) (fun _ h=>?_)
 exact Y
 refine Z ?_
 refine Kb h (fun _ h=>?_)
 refine Z ?_
 refine A2 h (fun (v200,o201)=>[(2,(Am false)),(4,(.arr 1 o201.length 0 o201.length)),(7,(O .i64 v200))]) (fun (v200,o201)=>[(1,.rows 9 1 (List.map Bk o201))]) ?_
 rintro ⟨v200,o201⟩ _ _ _ h _ _
 refine Z ?_
 refine Ai h (fun _ h=>?_) (fun _ h=>?_)
 refine Hk (As (G6 (As (As ?_))))
 refine Bg h (fun v205=>[(78,(Am v205))]) (fun v205=>[]) ?_ ?_
 intro _ h _ _ _
 exact Y
 rintro v205 _ h
 refine Ai h (fun _ h=>?_) (fun _ h=>?_)
 exact Y
 refine Z ?_
 refine Bm h (fun _ _ _ _ h=>?_)
 refine Z ?_
 refine Kb h (fun _ h=>?_)
 refine Z ?_
 refine Bm h (fun _ _ _ _ h=>?_)
 refine Z ?_
 refine A2 h (fun v214=>[(2,(Am false)),(95,(O .i64 v214))]) (fun v214=>[]) ?_
 rintro v214 _ _ _ h _ _
 exact Y
 exact Y
 replace h:=B9 h
 refine Ff (Fd rfl (As ?_))
 refine C6 [.fz 3,.fz 4] ?_
 exact Y⟩
instance {a0:List Ao} {a1:Af}:OK (Wx a0 a1) fun r=>Aq Tryz.prog 165 [(Av 3 Bt) a0,Cv a1] (Am r):=⟨fun {r} h=>by
 refine pw C0 Tryz.func165 ?_
 exact Y⟩
instance {a0:List Ao} {a1 a2:Int}:OK (Q6 a0 a1 a2) fun r=>Aq Tryz.prog 229 [(Av 3 Bt) a0,(O .i64) a1,(O .i64) a2] ((Av 1 Am) r):=⟨fun {r} h=>by
 refine pw {T:=Ci,an:=(fun s=>bif Nat.beq s 7 then .own else .ask),nl:=(fun s=>bif Nat.beq s 7 then [(0,1)] else bif Nat.beq s 6 then [(0,1)] else [])} Tryz.func229 ?_
 refine ZS ?_
 refine Bn ?_
 refine ZO ?_
 refine As (As ?_)
 refine Bg h (fun v2=>[(31,(Am v2))]) (fun v2=>[]) ?_ ?_
 intro _ h _ _ _
 exact Y
 rintro v2 _ h
 refine Ai h (fun _ h=>?_) (fun _ h=>?_)
 exact Y
 refine Z ?_
 refine Bm h (fun _ _ _ _ h=>?_)
 refine Z ?_
 refine Bm h (fun _ _ _ _ h=>?_)
 refine Z ?_
 refine A2 h (fun (v18,o19)=>[(7,(.arr 0 o19.length 0 o19.length)),(42,(O .i64 v18))]) (fun (v18,o19)=>[(0,.rows 4 1 (List.map Am o19))]) ?_
 rintro ⟨v18,o19⟩ _ _ _ h _ _
 exact Y⟩
abbrev Aim (k:Nat):Prop:=∀{a0:Af},OK (O2 k a0) fun r=>Aq Tryz.prog 269 [Cv a0] (Cv r)
theorem Arx (k:Nat):Aim k:=by
 induction k with
 | zero=>exact okz
 | succ k ih=>
  refine @fun a0=>⟨fun {r} h=>?_⟩
  .unfold O2 at h
   refine pw {T:=Ci,an:=(fun _=>.ask),nl:=(fun s=>bif Nat.beq s 18 then [(0,3)] else [])} Tryz.func269 ?_
   refine ZS ?_
   refine Bn ?_
   refine ZS ?_
   refine Bn ?_
   refine ZO ?_
   refine As (As ?_)
   refine C6 [.own 3 2 25 3] ?_
   refine Z ?_
   refine A2 h (fun (v13,o14)=>[(4,(O .i64 v13))]) (fun (v13,o14)=>[(2,.cells 25 [(O .i64 a0.Kind),(O .i64 a0.Num),(.arr 3 o14.length 0 o14.length)]),(3,.rows 25 3 (Bd o14))]) ?_
   rintro ⟨v13,o14⟩ _ _ _ h _ _
   exact Y
instance {k:Nat}:Aim k:=(Arx k)
abbrev Ain (k:Nat):Prop:=∀{a0:Af} {a1:List Af},OK (My k a0 a1) fun r=>Aq Tryz.prog 228 [Cv a0,(Ep 3 Bd) a1] (Cv r)
theorem Ary (k:Nat):Ain k:=by
 induction k with
 | zero=>exact okz
 | succ k ih=>
  refine @fun a0 a1=>⟨fun {r} h=>?_⟩
  .unfold My at h
   refine pw {T:=Ci,an:=(fun _=>.ask),nl:=(fun s=>bif Nat.beq s 41 then [(0,3)] else [])} Tryz.func228 ?_
   refine ZS ?_
   refine Bn ?_
   refine ZO ?_
   refine As (As ?_)
   refine Bg h (fun v3=>[(21,(Am v3))]) (fun v3=>[]) ?_ ?_
   intro _ h _ _ _
   exact Y
   rintro v3 _ h
   refine Ai h (fun _ h=>?_) (fun _ h=>?_)
   exact Y
   refine ZS ?_
   refine Bn ?_
   refine ZO ?_
   refine As (As ?_)
   refine C6 [.own 5 2 25 3] ?_
   refine Z ?_
   refine A2 h (fun (v16,o17)=>[(6,(O .i64 v16))]) (fun (v16,o17)=>[(2,.cells 25 [(O .i64 a0.Kind),(O .i64 a0.Num),(.arr 3 o17.length 0 o17.length)]),(3,.rows 25 3 (Bd o17))]) ?_
   rintro ⟨v16,o17⟩ _ _ _ h _ _
   exact Y
instance {k:Nat}:Ain k:=(Ary k)
instance {a0:List Ao} {a1:Af} {a2:Int}:OK (Oo a0 a1 a2) fun r=>Aq Tryz.prog 167 [(Av 3 Bt) a0,Cv a1,(O .i64) a2] (.tup [(Ep 3 Bd) r.1,Am r.2]):=⟨fun {r} h=>by
 refine pw {T:=Ci,an:=(fun s=>bif Nat.beq s 8 then .own else .ask),nl:=(fun s=>bif Nat.beq s 8 then [(0,3)] else bif Nat.beq s 6 then [(0,3)] else [])} Tryz.func167 ?_
 refine ZS ?_
 refine Bn ?_
 refine ZO ?_
 refine As (As ?_)
 refine Bg h (fun v4=>[(53,(Am v4))]) (fun v4=>[]) ?_ ?_
 intro _ h _ _ _
 exact Y
 rintro v4 _ h
 refine Ai h (fun _ h=>?_) (fun _ h=>?_)
 exact Y
 refine Z ?_
 refine Bm h (fun _ _ _ _ h=>?_)
 refine Z ?_
 refine Bm h (fun _ _ _ _ h=>?_)
 refine Z ?_
 refine A2 h (fun (v22,o23)=>[(6,(.sl 3 (Bd []))),(7,(Am false)),(8,(.arr 1 o23.length 0 o23.length)),(65,(O .i64 v22))]) (fun (v22,o23)=>[(1,.rows 25 3 (Bd o23))]) ?_
 rintro ⟨v22,o23⟩ _ _ _ h _ _
 exact Y⟩
instance {a0:List Ao} {a1:Af} {a2:Int}:OK (Tj a0 a1 a2) fun r=>Aq Tryz.prog 168 [(Av 3 Bt) a0,Cv a1,(O .i64) a2] (.tup [(Av 1 (O .i64)) r.1,(Av 1 (O .i64)) r.2.1,Am r.2.2]):=⟨fun {r} h=>by
 refine pw {T:=Ci,an:=(fun s=>bif Nat.beq s 12 then .own else bif Nat.beq s 11 then .own else .ask),nl:=(fun s=>bif Nat.beq s 12 then [(0,1)] else bif Nat.beq s 11 then [(0,1)] else bif Nat.beq s 7 then [(0,1)] else bif Nat.beq s 6 then [(0,1)] else [])} Tryz.func168 ?_
 refine Z ?_
 refine A7 h (fun _ h=>?_)
 refine Z ?_
 refine Ai h (fun _ h=>?_) (fun _ h=>?_)
 exact Y
 refine Z ?_
 refine A7 h (fun _ h=>?_)
 refine Z ?_
 refine A2 h (fun (v15,o16,o17)=>[(11,(.arr 1 o16.length 0 o16.length)),(12,(.arr 2 o17.length 0 o17.length)),(30,(O .i64 v15))]) (fun (v15,o16,o17)=>[(1,.rows 3 1 (List.map (O .i64) o16)),(2,.rows 3 1 (List.map (O .i64) o17))]) ?_
 rintro ⟨v15,o16,o17⟩ _ _ _ h _ _
 exact Y⟩
instance {a0:List Ao} {a1:Af} {a2:Int}:OK (Mp a0 a1 a2) fun r=>Aq Tryz.prog 105 [(Av 3 Bt) a0,Cv a1,(O .i64) a2] (.tup [(Ep 3 Bd) r.1,Am r.2]):=⟨fun {r} h=>by
 refine pw {T:=Ci,an:=(fun s=>bif Nat.beq s 13 then .own else .ask),nl:=(fun s=>bif Nat.beq s 13 then [(0,3)] else bif Nat.beq s 6 then [(0,3)] else [])} Tryz.func105 ?_
 refine Z ?_
 refine A7 h (fun _ h=>?_)
 refine Z ?_
 refine Ai h (fun _ h=>?_) (fun _ h=>?_)
 exact Y
 refine Z ?_
 refine A7 h (fun _ h=>?_)
 refine Z ?_
 refine A2 h (fun (v13,o14)=>[(13,(.arr 1 o14.length 0 o14.length)),(35,(O .i64 v13))]) (fun (v13,o14)=>[(1,.rows 25 3 (Bd o14))]) ?_
 rintro ⟨v13,o14⟩ _ _ _ h _ _
 exact Y⟩
abbrev Aio (k:Nat):Prop:=∀{a0:List Ao} {a1:Af} {a2:Az},OK (Lr k a0 a1 a2) fun r=>Aq Tryz.prog 166 [(Av 3 Bt) a0,Cv a1,D7 a2] ((O .i64) r)
abbrev Aip (k:Nat):Prop:=∀{a0:List Ao} {a1:List Af} {a2:List Az},OK (Mx k a0 a1 a2) fun r=>Aq Tryz.prog 227 [(Av 3 Bt) a0,(Ep 3 Bd) a1,(Ep 2 Gr) a2] ((O .i64) r)
theorem Aiq (k:Nat):Aio k/\Aip k:=by
 induction k with
 | zero=>exact ⟨okz,okz⟩
 | succ k ih=>
  obtain ⟨i0_,i1_⟩:=ih
  refine ⟨@fun a0 a1 a2=>⟨fun {r} h=>?_⟩,@fun a0 a1 a2=>⟨fun {r} h=>?_⟩⟩
  .unfold Lr at h
   refine pw C0 Tryz.func166 ?_
   refine Z ?_
   refine Ai h (fun _ h=>?_) (fun _ h=>?_)
   exact Y
   refine Z ?_
   refine Ai h (fun _ h=>?_) (fun _ h=>?_)
   exact Y
   refine Z ?_
   refine Ai h (fun _ h=>?_) (fun _ h=>?_)
   refine As (As ?_)
   refine Bg h (fun v4=>[(54,(Am v4))]) (fun v4=>[]) ?_ ?_
   intro _ h _ _ _
   exact Y
   rintro v4 _ h
   refine Ai h (fun _ h=>?_) (fun _ h=>?_)
   exact Y
   refine Z ?_
   refine A2 h (fun (v10,v11)=>[(6,(O .i64 0)),(7,(O .i64 v10)),(58,(O .i64 v11))]) (fun (v10,v11)=>[]) ?_
   rintro ⟨v10,v11⟩ _ _ _ h _ _
   refine Z ?_
   refine Ai h (fun _ h=>?_) (fun _ h=>?_)
   refine Z ?_
   refine Bm h (fun _ _ _ _ h=>?_)
   refine ZO ?_
   refine As (As ?_)
   refine Bg h (fun v14=>[(69,(Am v14))]) (fun v14=>[]) ?_ ?_
   intro _ h _ _ _
   exact Y
   rintro v14 _ h
   exact Y
   exact Y
   exact Y
  .unfold Mx at h
   refine pw C0 Tryz.func227 ?_
   refine Z ?_
   refine Ai h (fun _ h=>?_) (fun _ h=>?_)
   exact Y
   refine Z ?_
   refine A2 h (fun (v4,v5)=>[(6,(O .i64 0)),(7,(O .i64 v4)),(17,(O .i64 v5))]) (fun (v4,v5)=>[]) ?_
   rintro ⟨v4,v5⟩ _ _ _ h _ _
   exact Y
instance {k:Nat}:Aio k:=(Aiq k).1
instance {k:Nat}:Aip k:=(Aiq k).2
instance {a0:List Ao} {a1:Af} {a2:Az}:OK (S6 a0 a1 a2) fun r=>Aq Tryz.prog 102 [(Av 3 Bt) a0,Cv a1,D7 a2] ((O .i64) r):=⟨fun {r} h=>by
 refine pw C0 Tryz.func102 ?_
 exact Y⟩
instance {a0:List Ao} {a1:Af} {a2:Az}:OK (Wm a0 a1 a2) fun r=>Aq Tryz.prog 55 [(Av 3 Bt) a0,Cv a1,D7 a2] (Am r):=⟨fun {r} h=>by
 refine pw C0 Tryz.func55 ?_
 exact Y⟩
instance {a0:Int}:OK (S7 a0) fun r=>Aq Tryz.prog 104 [(O .i64) a0] (Bk r):=⟨fun {r} h=>by
 refine pw C0 Tryz.func104 ?_
 refine Z ?_
 refine Iy h (fun _ h=>?_)
 refine Z ?_
 refine J3 h (fun v2 h=>?_)
 refine Z ?_
 refine Lc h (fun _ h=>?_)
 refine Z ?_
 refine A2 h (fun (v8,v9)=>[(0,(O .i64 v8)),(3,(Bk v9))]) (fun (v8,v9)=>[]) ?_
 rintro ⟨v8,v9⟩ _ _ _ h _ _
 refine Z ?_
 refine Ai h (fun _ h=>?_) (fun _ h=>?_)
 refine Z ?_
 refine Iy h (fun _ h=>?_)
 refine Z ?_
 refine J3 h (fun v11 h=>?_)
 exact Y
 exact Y⟩
abbrev Air (k:Nat):Prop:=∀{a0:List Ao} {a1:Af} {a2:Az},OK (Oa k a0 a1 a2) fun r=>Aq Tryz.prog 56 [(Av 3 Bt) a0,Cv a1,D7 a2] (Bk r)
abbrev Ais (k:Nat):Prop:=∀{a0:List Ao} {a1:List Af} {a2:List Az},OK (Mo k a0 a1 a2) fun r=>Aq Tryz.prog 103 [(Av 3 Bt) a0,(Ep 3 Bd) a1,(Ep 2 Gr) a2] (Bk r)
theorem Ait (k:Nat):Air k/\Ais k:=by
 induction k with
 | zero=>exact ⟨okz,okz⟩
 | succ k ih=>
  obtain ⟨i0_,i1_⟩:=ih
  refine ⟨@fun a0 a1 a2=>⟨fun {r} h=>?_⟩,@fun a0 a1 a2=>⟨fun {r} h=>?_⟩⟩
  .unfold Oa at h
   refine pw C0 Tryz.func56 ?_
   refine Z ?_
   refine Ai h (fun _ h=>?_) (fun _ h=>?_)
   exact Y
   refine Z ?_
   refine Ai h (fun _ h=>?_) (fun _ h=>?_)
   exact Y
   refine Z ?_
   refine Ai h (fun _ h=>?_) (fun _ h=>?_)
   refine Z ?_
   refine A2 h (fun (v17,v18)=>[(7,(Bk v17)),(34,(O .i64 v18))]) (fun (v17,v18)=>[]) ?_
   rintro ⟨v17,v18⟩ _ _ _ h _ _
   refine Z ?_
   refine Ai h (fun _ h=>?_) (fun _ h=>?_)
   refine Z ?_
   refine Bm h (fun _ _ _ _ h=>?_)
   refine ZS ?_
   refine Bn ?_
   refine ZO ?_
   refine Bg h (fun v22=>[(7,(Bk v22))]) (fun v22=>[]) ?_ ?_
   intro _ h _ _ _
   exact Y
   rintro v22 _ h
   exact Y
   exact Y
   exact Y
  .unfold Mo at h
   refine pw C0 Tryz.func103 ?_
   refine Z ?_
   refine A2 h (fun (v5,v6)=>[(7,(Bk v5)),(11,(O .i64 v6))]) (fun (v5,v6)=>[]) ?_
   rintro ⟨v5,v6⟩ _ _ _ h _ _
   refine Z ?_
   refine Ai h (fun _ h=>?_) (fun _ h=>?_)
   refine ZS ?_
   refine Bn ?_
   refine ZS ?_
   refine Bn ?_
   refine ZO ?_
   refine Bg h (fun v8=>[(7,(Bk v8))]) (fun v8=>[]) ?_ ?_
   intro _ h _ _ _
   exact Y
   rintro v8 _ h
   exact Y
   exact Y
instance {k:Nat}:Air k:=(Ait k).1
instance {k:Nat}:Ais k:=(Ait k).2
instance {a0:List Ao} {a1:Af} {a2:Az}:OK (N7 a0 a1 a2) fun r=>Aq Tryz.prog 22 [(Av 3 Bt) a0,Cv a1,D7 a2] (Bk r):=⟨fun {r} h=>by
 refine pw C0 Tryz.func22 ?_
 exact Y⟩
instance {a0:C2}:OK (Mj a0) fun r=>Aq Tryz.prog 57 [G9 a0] (Am r):=⟨fun {r} h=>by
 refine pw C0 Tryz.func57 ?_
 refine ZS ?_
 refine Bn ?_
 refine ZO ?_
 refine As (As ?_)
 refine Bg h (fun v2=>[(18,(Am v2))]) (fun v2=>[]) ?_ ?_
 intro _ h _ _ _
 exact Y
 rintro v2 _ h
 refine Ai h (fun _ h=>?_) (fun _ h=>?_)
 exact Y
 refine Z ?_
 refine A2 h (fun v5=>[(2,(Am false)),(22,(O .i64 v5))]) (fun v5=>[]) ?_
 rintro v5 _ _ _ h _ _
 exact Y⟩
instance {a0:Int}:OK (Sx a0) fun r=>Aq Tryz.prog 58 [(O .i64) a0] (Bk r):=⟨fun {r} h=>by
 refine pw C0 Tryz.func58 ?_
 refine Z ?_
 refine Iy h (fun _ h=>?_)
 refine Z ?_
 refine J3 h (fun v2 h=>?_)
 refine Z ?_
 refine Lc h (fun _ h=>?_)
 refine Z ?_
 refine A2 h (fun (v8,v9)=>[(0,(O .i64 v8)),(3,(Bk v9))]) (fun (v8,v9)=>[]) ?_
 rintro ⟨v8,v9⟩ _ _ _ h _ _
 refine Z ?_
 refine Ai h (fun _ h=>?_) (fun _ h=>?_)
 refine Z ?_
 refine Iy h (fun _ h=>?_)
 refine Z ?_
 refine J3 h (fun v11 h=>?_)
 exact Y
 exact Y⟩
instance {a0:Int}:OK (Xl a0) fun r=>Aq Tryz.prog 58 [(O .i64) a0] (Bk r):=⟨fun {r} h=>by
 refine pw C0 Tryz.func58 ?_
 refine Z ?_
 refine Iy h (fun _ h=>?_)
 refine Z ?_
 refine J3 h (fun v2 h=>?_)
 refine Z ?_
 refine Lc h (fun _ h=>?_)
 refine Z ?_
 refine A2 h (fun (v8,v9)=>[(0,(O .i64 v8)),(3,(Bk v9))]) (fun (v8,v9)=>[]) ?_
 rintro ⟨v8,v9⟩ _ _ _ h _ _
 refine Z ?_
 refine Ai h (fun _ h=>?_) (fun _ h=>?_)
 refine Z ?_
 refine Iy h (fun _ h=>?_)
 refine Z ?_
 refine J3 h (fun v11 h=>?_)
 exact Y
 exact Y⟩
instance {a0:C2}:OK (Lg a0) fun r=>Aq Tryz.prog 23 [G9 a0] (Bk r):=⟨fun {r} h=>by
 refine pw C0 Tryz.func23 ?_
 refine Z ?_
 refine A7 h (fun _ h=>?_)
 refine Z ?_
 refine Ai h (fun _ h=>?_) (fun _ h=>?_)
 exact Y
 refine Z ?_
 refine A2 h (fun (v20,v21)=>[(3,(Bk v20)),(4,(O .i64 v21))]) (fun (v20,v21)=>[]) ?_
 rintro ⟨v20,v21⟩ _ _ _ h _ _
 refine Z ?_
 refine Ai h (fun _ h=>?_) (fun _ h=>?_)
 refine ZS ?_
 refine Bn ?_
 refine ZS ?_
 refine Bn ?_
 refine ZO ?_
 refine Ua (fun (x:(Int×ByteArray))=>(.inl x)) h (fun (v27,v28)=>[(5,(O .i64 v27)),(6,(Bk v28))]) (fun (v27,v28)=>[]) ?_ ?_
 intro _ h _ _ _
 exact Y
 rintro ⟨v27,v28⟩ _ h
 refine As ?_
 refine Bg h (fun v34=>[(3,(Bk v34))]) (fun v34=>[]) ?_ ?_
 intro _ h _ _ _
 refine G6 (As ?_)
 refine Bg h (fun v29=>[(52,(Am v29))]) (fun v29=>[]) ?_ ?_
 intro _ h _ _ _
 exact Y
 rintro v29 _ h
 refine Ai h (fun _ h=>?_) (fun _ h=>?_)
 exact Y
 refine As ?_
 refine Bg h (fun v31=>[(61,(Am v31))]) (fun v31=>[]) ?_ ?_
 intro _ h _ _ _
 exact Y
 rintro v31 _ h
 exact Y
 rintro v34 _ h
 refine ZS ?_
 refine Bn ?_
 refine ZS ?_
 refine Bn ?_
 refine ZO ?_
 refine Bg h (fun v35=>[(7,(O .i64 v35))]) (fun v35=>[]) ?_ ?_
 intro _ h _ _ _
 exact Y
 rintro v35 _ h
 exact Y
 exact Y⟩
instance {a0:A4}:OK (Qc a0) fun r=>Aq Tryz.prog 18 [Cb a0] (Cb r):=⟨fun {r} h=>by
 refine pw C0 Tryz.func18 ?_
 exact Y⟩
instance {a0:A4}:OK (Lj a0) fun r=>Aq Tryz.prog 51 [Cb a0] (Cb r):=⟨fun {r} h=>by
 refine pw C0 Tryz.func51 ?_
 exact Y⟩
instance {a0:A4}:OK (Sw a0) fun r=>Aq Tryz.prog 53 [Cb a0] (Am r):=⟨fun {r} h=>by
 refine pw C0 Tryz.func53 ?_
 exact Y⟩
end Go.Ab
namespace Go.Ab
open Go Go.Proofs
set_option maxRecDepth 10000
set_option maxHeartbeats 4000000
set_option linter.unusedVariables false
instance {a0:List Int}:OK (Qk a0) fun r=>Aq Tryz.prog 52 [(Av 1 (O .u32)) a0] (Bk r):=⟨fun {r} h=>by
 refine pw C0 Tryz.func52 ?_
 refine Z ?_
 refine A2 h (fun (v19,v20)=>[(3,(Bk v19)),(4,(O .i64 v20))]) (fun (v19,v20)=>[]) ?_
 rintro ⟨v19,v20⟩ _ _ _ h _ _
 refine Z ?_
 refine Ai h (fun _ h=>?_) (fun _ h=>?_)
 refine Z ?_
 refine Bm h (fun _ _ _ _ h=>?_)
 refine Z ?_
 refine A2 h (fun (v27,v28,v29)=>[(5,(Bk v27)),(6,(O .u32 v28)),(7,(O .i64 v29))]) (fun (v27,v28,v29)=>[]) ?_
 rintro ⟨v27,v28,v29⟩ _ _ _ h _ _
 refine As (As ?_)
 refine Bg h (fun v30=>[(30,(Am v30))]) (fun v30=>[]) ?_ ?_
 intro _ h _ _ _
 exact Y
 rintro v30 _ h
 refine Ai h (fun _ h=>?_) (fun _ h=>?_)
 refine Z ?_
 refine Iy h (fun _ h=>?_)
 refine Z ?_
 refine J3 h (fun v32 h=>?_)
 exact Y
 exact Y
 exact Y⟩
instance {a0:A4}:OK (Qb a0) fun r=>Aq Tryz.prog 17 [Cb a0] (Bk r):=⟨fun {r} h=>by
 refine pw C0 Tryz.func17 ?_
 refine Z ?_
 refine A7 h (fun _ h=>?_)
 refine Z ?_
 refine A7 h (fun _ h=>?_)
 refine ZS ?_
 refine Bn ?_
 refine ZO ?_
 refine Bg h (fun v5=>[(3,(Bk v5))]) (fun v5=>[]) ?_ ?_
 intro _ h _ _ _
 exact Y
 rintro v5 _ h
 exact Y⟩
instance {a0:A4}:OK (Qa a0) fun r=>Aq Tryz.prog 16 [Cb a0] ((O .i64) r):=⟨fun {r} h=>by
 refine pw C0 Tryz.func16 ?_
 exact Y⟩
instance {a0:Ck}:OK (Su a0) fun r=>Aq Tryz.prog 49 [G8 a0] (Am r):=⟨fun {r} h=>by
 refine pw C0 Tryz.func49 ?_
 refine ZS ?_
 refine Bn ?_
 refine ZO ?_
 refine As (As ?_)
 refine Bg h (fun v4=>[(22,(Am v4))]) (fun v4=>[]) ?_ ?_
 intro _ h _ _ _
 exact Y
 rintro v4 _ h
 refine Ai h (fun _ h=>?_) (fun _ h=>?_)
 exact Y
 refine Z ?_
 refine A2 h (fun v8=>[(2,(Am false)),(26,(O .i64 v8))]) (fun v8=>[]) ?_
 rintro v8 _ _ _ h _ _
 exact Y⟩
instance {a0 a1:A4}:OK (S4 a0 a1) fun r=>Aq Tryz.prog 97 [Cb a0,Cb a1] (Am r):=⟨fun {r} h=>by
 refine pw C0 Tryz.func97 ?_
 refine ZS ?_
 refine Bn ?_
 refine ZO ?_
 refine As (As ?_)
 refine Bg h (fun v3=>[(29,(Am v3))]) (fun v3=>[]) ?_ ?_
 intro _ h _ _ _
 exact Y
 rintro v3 _ h
 refine Ai h (fun _ h=>?_) (fun _ h=>?_)
 exact Y
 refine Z ?_
 refine A2 h (fun v6=>[(4,(Am false)),(5,(O .i64 v6))]) (fun v6=>[]) ?_
 rintro v6 _ _ _ h _ _
 refine Z ?_
 refine Ai h (fun _ h=>?_) (fun _ h=>?_)
 exact Y
 replace h:=B9 h
 refine Z ?_
 refine A2 h (fun v12=>[(4,(Am false)),(6,(O .i64 v12))]) (fun v12=>[]) ?_
 rintro v12 _ _ _ h _ _
 exact Y⟩
instance {a0:Bool}:OK (Q5 a0) fun r=>Aq Tryz.prog 225 [Am a0] ((O .i64) r):=⟨fun {r} h=>by
 refine pw C0 Tryz.func225 ?_
 exact Y⟩
abbrev Aiu (k:Nat):Prop:=∀{a0 a1:Az},OK (Mu k a0 a1) fun r=>Aq Tryz.prog 158 [D7 a0,D7 a1] ((O .i64) r)
abbrev Aiv (k:Nat):Prop:=∀{a0 a1:List Az},OK (Tq k a0 a1) fun r=>Aq Tryz.prog 226 [(Ep 2 Gr) a0,(Ep 2 Gr) a1] ((O .i64) r)
theorem Aiw (k:Nat):Aiu k/\Aiv k:=by
 induction k with
 | zero=>exact ⟨okz,okz⟩
 | succ k ih=>
  obtain ⟨i0_,i1_⟩:=ih
  refine ⟨@fun a0 a1=>⟨fun {r} h=>?_⟩,@fun a0 a1=>⟨fun {r} h=>?_⟩⟩
  .unfold Mu at h
   refine pw C0 Tryz.func158 ?_
   exact Y
  .unfold Tq at h
   refine pw C0 Tryz.func226 ?_
   refine Z ?_
   refine Ai h (fun _ h=>?_) (fun _ h=>?_)
   exact Y
   refine Z ?_
   refine A2 h (fun v5=>[(4,(O .i64 0)),(20,(O .i64 v5))]) (fun v5=>[]) ?_
   rintro v5 _ _ _ h _ _
   exact Y
instance {k:Nat}:Aiu k:=(Aiw k).1
instance {k:Nat}:Aiv k:=(Aiw k).2
instance {a0:Bool}:OK (Ow a0) fun r=>Aq Tryz.prog 224 [Am a0] ((O .i64) r):=⟨fun {r} h=>by
 refine pw C0 Tryz.func224 ?_
 exact Y⟩
instance {a0 a1:C2}:OK (Lq a0 a1) fun r=>Aq Tryz.prog 156 [G9 a0,G9 a1] ((O .i64) r):=⟨fun {r} h=>by
 refine pw C0 Tryz.func156 ?_
 refine Z ?_
 refine Ai h (fun _ h=>?_) (fun _ h=>?_)
 exact Y
 refine Z ?_
 refine A2 h (fun v14=>[(4,(O .i64 0)),(24,(O .i64 v14))]) (fun v14=>[]) ?_
 rintro v14 _ _ _ h _ _
 exact Y⟩
instance {a0:Bool}:OK (Ol a0) fun r=>Aq Tryz.prog 157 [Am a0] ((O .i64) r):=⟨fun {r} h=>by
 refine pw C0 Tryz.func157 ?_
 exact Y⟩
instance {a0 a1:B8}:OK (Qs a0 a1) fun r=>Aq Tryz.prog 98 [F0 a0,F0 a1] ((O .i64) r):=⟨fun {r} h=>by
 refine pw C0 Tryz.func98 ?_
 refine Z ?_
 refine Ai h (fun _ h=>?_) (fun _ h=>?_)
 exact Y
 refine Z ?_
 refine A2 h (fun v12=>[(4,(O .i64 0)),(27,(O .i64 v12))]) (fun v12=>[]) ?_
 rintro v12 _ _ _ h _ _
 refine Z ?_
 refine Ai h (fun _ h=>?_) (fun _ h=>?_)
 exact Y
 replace h:=B9 h
 refine Z ?_
 refine Ai h (fun _ h=>?_) (fun _ h=>?_)
 exact Y
 refine Z ?_
 refine A2 h (fun v31=>[(4,(O .i64 0)),(92,(O .i64 v31))]) (fun v31=>[]) ?_
 rintro v31 _ _ _ h _ _
 exact Y⟩
instance {a0:List Ao} {a1:Af} {a2:Az}:OK (Qy a0 a1 a2) fun r=>Aq Tryz.prog 154 [(Av 3 Bt) a0,Cv a1,D7 a2] ((O .i64) r):=⟨fun {r} h=>by
 refine pw C0 Tryz.func154 ?_
 exact Y⟩
instance {a0:Ck} {a1:Int}:OK (Ld a0 a1) fun r=>Aq Tryz.prog 19 [G8 a0,(O .i64) a1] (.tup [Cv r.1,Am r.2]):=⟨fun {r} h=>by
 refine pw {T:=Ci,an:=(fun _=>.ask),nl:=(fun s=>bif Nat.beq s 19 then [(2,3)] else [])} Tryz.func19 ?_
 refine Z ?_
 refine Ai h (fun _ h=>?_) (fun _ h=>?_)
 exact Y
 refine Hk (As (As ?_))
 refine Bg h (fun v3=>[(18,(Am v3))]) (fun v3=>[]) ?_ ?_
 intro _ h _ _ _
 exact Y
 rintro v3 _ h
 exact Y⟩
instance {a0:Ck} {a1:C2}:OK (Ok a0 a1) fun r=>Aq Tryz.prog 155 [G8 a0,G9 a1] (Am r):=⟨fun {r} h=>by
 refine pw C0 Tryz.func155 ?_
 refine Z ?_
 refine A2 h (fun v7=>[(4,(Am false)),(12,(O .i64 v7))]) (fun v7=>[]) ?_
 rintro v7 _ _ _ h _ _
 exact Y⟩
instance {a0:Ck} {a1:B8}:OK (S3 a0 a1) fun r=>Aq Tryz.prog 96 [G8 a0,F0 a1] ((O .i64) r):=⟨fun {r} h=>by
 refine pw C0 Tryz.func96 ?_
 refine Z ?_
 refine A2 h (fun (v9,v10)=>[(4,(O .i64 0)),(5,(O .i64 v9)),(16,(O .i64 v10))]) (fun (v9,v10)=>[]) ?_
 rintro ⟨v9,v10⟩ _ _ _ h _ _
 refine Z ?_
 refine Ai h (fun _ h=>?_) (fun _ h=>?_)
 refine Z ?_
 refine Bm h (fun _ _ _ _ h=>?_)
 refine Z ?_
 refine A7 h (fun _ h=>?_)
 refine ZO ?_
 refine As (As ?_)
 refine Bg h (fun v16=>[(45,(Am v16))]) (fun v16=>[]) ?_ ?_
 intro _ h _ _ _
 exact Y
 rintro v16 _ h
 exact Y
 replace h:=B9 h
 refine Z ?_
 refine A2 h (fun (v24,v25)=>[(4,(O .i64 0)),(5,(O .i64 v24)),(61,(O .i64 v25))]) (fun (v24,v25)=>[]) ?_
 rintro ⟨v24,v25⟩ _ _ _ h _ _
 exact Y⟩
instance {a0:Ck} {a1:List A6}:OK (Sv a0 a1) fun r=>Aq Tryz.prog 50 [G8 a0,(Av 5 Cq) a1] (Am r):=⟨fun {r} h=>by
 refine pw C0 Tryz.func50 ?_
 refine Z ?_
 refine Ai h (fun _ h=>?_) (fun _ h=>?_)
 exact Y
 refine Z ?_
 refine A2 h (fun v8=>[(4,(Am false)),(12,(O .i64 v8))]) (fun v8=>[]) ?_
 rintro v8 _ _ _ h _ _
 exact Y⟩
instance {a0:Ck} {a1:List A6}:OK (Sm a0 a1) fun r=>Aq Tryz.prog 15 [G8 a0,(Av 5 Cq) a1] (Am r):=⟨fun {r} h=>by
 refine pw C0 Tryz.func15 ?_
 exact Y⟩
instance {a0 a1:ByteArray}:OK (Ih a0 a1) fun r=>Aq Tryz.prog 21 [Bk a0,Bk a1] (Bk r):=⟨fun {r} h=>by
 refine pw C0 Tryz.func21 ?_
 refine ZS ?_
 refine Bn ?_
 refine ZO ?_
 refine As (As ?_)
 refine Bg h (fun v1=>[(10,(Am v1))]) (fun v1=>[]) ?_ ?_
 intro _ h _ _ _
 exact Y
 rintro v1 _ h
 exact Y⟩
instance {a0:Int}:OK (Lf a0) fun r=>Aq Tryz.prog 20 [(O .i64) a0] (Bk r):=⟨fun {r} h=>by
 refine pw C0 Tryz.func20 ?_
 refine Z ?_
 refine Iy h (fun _ h=>?_)
 refine Z ?_
 refine J3 h (fun v2 h=>?_)
 refine Z ?_
 refine Lc h (fun _ h=>?_)
 refine Z ?_
 refine A2 h (fun (v8,v9)=>[(0,(O .i64 v8)),(3,(Bk v9))]) (fun (v8,v9)=>[]) ?_
 rintro ⟨v8,v9⟩ _ _ _ h _ _
 refine Z ?_
 refine Ai h (fun _ h=>?_) (fun _ h=>?_)
 refine Z ?_
 refine Iy h (fun _ h=>?_)
 refine Z ?_
 refine J3 h (fun v11 h=>?_)
 exact Y
 exact Y⟩
instance {a0:Ck} {a1:List A6}:OK (N6 a0 a1) fun r=>Aq Tryz.prog 6 [G8 a0,(Av 5 Cq) a1] (Bk r):=⟨fun {r} h=>by
 refine pw C0 Tryz.func6 ?_
 refine Z ?_
 refine A7 h (fun _ h=>?_)
 refine Z ?_
 refine Ai h (fun _ h=>?_) (fun _ h=>?_)
 exact Y
 refine Z ?_
 refine A2 h (fun (v70,v71)=>[(5,(Bk v70)),(24,(O .i64 v71))]) (fun (v70,v71)=>[]) ?_
 rintro ⟨v70,v71⟩ _ _ _ h _ _
 refine Z ?_
 refine Ai h (fun _ h=>?_) (fun _ h=>?_)
 refine Z ?_
 refine Bm h (fun _ _ _ _ h=>?_)
 refine Z ?_
 refine A7 h (fun _ h=>?_)
 refine ZO ?_
 refine As ?_
 refine Bg h (fun v80=>[(5,(Bk v80))]) (fun v80=>[]) ?_ ?_
 intro _ h _ _ _
 refine G6 (As ?_)
 refine Bg h (fun v75=>[(33,(Am v75))]) (fun v75=>[]) ?_ ?_
 intro _ h _ _ _
 exact Y
 rintro v75 _ h
 refine Ai h (fun _ h=>?_) (fun _ h=>?_)
 exact Y
 refine As ?_
 refine Bg h (fun v77=>[(41,(Am v77))]) (fun v77=>[]) ?_ ?_
 intro _ h _ _ _
 exact Y
 rintro v77 _ h
 exact Y
 rintro v80 _ h
 refine Z ?_
 refine A7 h (fun _ h=>?_)
 refine Z ?_
 refine A7 h (fun _ h=>?_)
 refine Z ?_
 refine A2 h (fun (v94,v95)=>[(10,(Bk v94)),(62,(O .i64 v95))]) (fun (v94,v95)=>[]) ?_
 rintro ⟨v94,v95⟩ _ _ _ h _ _
 refine Z ?_
 refine Ai h (fun _ h=>?_) (fun _ h=>?_)
 refine Z ?_
 refine Bm h (fun _ _ _ _ h=>?_)
 refine Z ?_
 refine A7 h (fun _ h=>?_)
 refine ZS ?_
 refine Bn ?_
 refine ZS ?_
 refine Bn ?_
 refine ZO ?_
 refine Bg h (fun v102=>[(15,(Bk v102))]) (fun v102=>[]) ?_ ?_
 intro _ h _ _ _
 exact Y
 rintro v102 _ h
 exact Y
 replace h:=B9 h
 refine Z ?_
 refine A2 h (fun (v122,v123)=>[(10,(Bk v122)),(96,(O .i64 v123))]) (fun (v122,v123)=>[]) ?_
 rintro ⟨v122,v123⟩ _ _ _ h _ _
 refine Z ?_
 refine Ai h (fun _ h=>?_) (fun _ h=>?_)
 exact Y
 replace h:=B9 h
 refine Ff (Fd rfl (As (As ?_)))
 refine Bg h (fun v139=>[(128,(Am v139))]) (fun v139=>[]) ?_ ?_
 intro _ h _ _ _
 exact Y
 rintro v139 _ h
 exact Y
 exact Y⟩
instance {a0:Ck} {a1:List A6}:OK (Wk a0 a1) fun r=>Aq Tryz.prog 3 [G8 a0,(Av 5 Cq) a1] (Am r):=⟨fun {r} h=>by
 refine pw C0 Tryz.func3 ?_
 exact Y⟩
end Go.Ab
