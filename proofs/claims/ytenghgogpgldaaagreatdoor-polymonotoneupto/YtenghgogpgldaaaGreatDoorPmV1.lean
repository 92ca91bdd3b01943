/- The contracts of the functions, each by its walk (made by a program). -/
import Derived.Test.YtenghgogpgldaaaGreatDoorPmV0
namespace Go.Ab
open Go Go.Proofs
set_option maxRecDepth 10000
set_option maxHeartbeats 4000000
set_option linter.unusedVariables false
instance {a0 a1:List Int}:OK (Ox a0 a1) fun r=>As Tryz.prog 157 [(Av 1 (O .u32)) a0,(Av 1 (O .u32)) a1] (.tup [(Av 1 (O .u32)) r.1,(Av 1 (O .u32)) r.2]):=⟨fun {r} h=>by
 refine pw {T:=Cg,an:=(fun s=>bif Nat.beq s 50 then .frz 0 else bif Nat.beq s 47 then .own else .ask),nl:=(fun s=>bif Nat.beq s 9 then [(0,1)] else bif Nat.beq s 5 then [(0,1)] else bif Nat.beq s 4 then [(0,1)] else [])} Tryz.func157 ?_
 refine Z ?_
 refine Bc h (fun _ h=>?_)
 refine Z ?_
 refine Am h (fun _ h=>?_) (fun _ h=>?_)
 exact Y
 refine Z ?_
 refine Am h (fun _ h=>?_) (fun _ h=>?_)
 exact Y
 refine Z ?_
 refine Ga h (fun o6 h=>?_)
 refine Z ?_
 refine Fc h (fun (v33,v34,o35)=>[(9,(.sl 1 (List.map (O .u32) v33))),(10,(O .i64 v34))]) (fun (v33,v34,o35)=>[(0,.rows 133 1 (List.map (O .u32) o35))]) (fun (v33,v34,o35)=>o6.length=o35.length) ?_
 rintro ⟨v33,v34,o35⟩ _ _ _ h _ _ q35
 refine Z ?_
 refine Am h (fun _ h=>?_) (fun _ h=>?_)
 refine Z ?_
 refine Bn h (fun _ _ _ _ h=>?_)
 refine Z ?_
 refine Uz h (fun o38 h=>?_)
 refine Z ?_
 refine C5 h (fun v39 hcv39 h=>?_)
 refine Age.mk _ (OK.ok hcv39 :) rfl ?_
 refine Z ?_
 refine Bc h (fun _ h=>?_)
 refine Z ?_
 refine A2 h (fun v44=>[(11,(O .u64 v44))]) (fun v44=>[]) ?_
 rintro v44 _ _ _ h _ _
 refine Z ?_
 refine Fx h (fun _ h=>?_) (fun _ h=>?_)
 refine Z ?_
 refine Bc h (fun _ h=>?_)
 refine Z ?_
 refine Bc h (fun _ h=>?_)
 refine Z ?_
 refine Bc h (fun _ h=>?_)
 refine Z ?_
 refine Am h (fun _ h=>?_) (fun _ h=>?_)
 exact Y
 replace h:=Ca h
 refine Z ?_
 refine Bc h (fun _ h=>?_)
 refine Z ?_
 refine Bc h (fun _ h=>?_)
 refine Z ?_
 refine Bc h (fun _ h=>?_)
 refine Z ?_
 refine A2 h (fun (v54,v55)=>[(9,(.sl 1 (List.map (O .u32) v54))),(11,(O .u64 v55))]) (fun (v54,v55)=>[]) ?_
 rintro ⟨v54,v55⟩ _ _ _ h _ _
 exact Y
 replace h:=Ca h
 refine Z ?_
 refine Bc h (fun _ h=>?_)
 refine Z ?_
 refine Bc h (fun _ h=>?_)
 refine Z ?_
 refine Bc h (fun _ h=>?_)
 refine Z ?_
 refine A2 h (fun (v54,v55)=>[(9,(.sl 1 (List.map (O .u32) v54))),(11,(O .u64 v55))]) (fun (v54,v55)=>[]) ?_
 rintro ⟨v54,v55⟩ _ _ _ h _ _
 exact Y
 replace h:=Ca h
 refine Gq (Gn rfl (A4 ?_))
 refine D5 [.fz 8] ?_
 exact Y⟩
instance {a0 a1:List Int}:OK (T0 a0 a1) fun r=>As Tryz.prog 156 [(Av 1 (O .u32)) a0,(Av 1 (O .u32)) a1] ((Av 1 (O .u32)) r):=⟨fun {r} h=>by
 refine pw {T:=Cg,an:=(fun _=>.ask),nl:=(fun s=>bif Nat.beq s 4 then [(0,1)] else [])} Tryz.func156 ?_
 refine Z ?_
 refine A2 h (fun (v2,v3)=>[(0,(.sl 1 (List.map (O .u32) v2))),(1,(.sl 1 (List.map (O .u32) v3)))]) (fun (v2,v3)=>[]) ?_
 rintro ⟨v2,v3⟩ _ _ _ h _ _
 exact Y⟩
instance {a0:Bool} {a1 a2:List Int}:OK (Jb a0 a1 a2) fun r=>As Tryz.prog 87 [An a0,(Av 1 (O .u32)) a1,(Av 1 (O .u32)) a2] (Cq r):=⟨fun {r} h=>by
 refine pw {T:=Cg,an:=(fun _=>.ask),nl:=(fun s=>bif Nat.beq s 21 then [(1,1)] else [])} Tryz.func87 ?_
 refine Z ?_
 refine Bc h (fun _ h=>?_)
 refine Z ?_
 refine Bc h (fun _ h=>?_)
 refine ZO ?_
 refine A4 (A4 ?_)
 refine Bz h (fun v4=>[(19,(An v4))]) (fun v4=>[]) ?_ ?_
 intro _ h _ _ _
 exact Y
 rintro v4 _ h
 refine Am h (fun _ h=>?_) (fun _ h=>?_)
 exact Y
 refine Z ?_
 refine Bc h (fun _ h=>?_)
 refine ZO ?_
 refine A4 (A4 ?_)
 refine Bz h (fun v7=>[(33,(An v7))]) (fun v7=>[]) ?_ ?_
 intro _ h _ _ _
 exact Y
 rintro v7 _ h
 exact Y⟩
instance {a0:Int}:OK (Qu a0) fun r=>As Tryz.prog 43 [(O .i64) a0] (Cq r):=⟨fun {r} h=>by
 refine pw C0 Tryz.func43 ?_
 exact Y⟩
instance  : OK (Oi) fun r=>As Tryz.prog 10 [] (An r):=⟨fun {r} h=>by
 refine pw {T:=Cg,an:=(fun _=>.ask),nl:=(fun s=>bif Nat.beq s 28 then [(0,3),(1,3),(4,3)] else bif Nat.beq s 8 then [(1,2)] else bif Nat.beq s 7 then [(0,3),(1,3),(4,3)] else [])} Tryz.func10 ?_
 exact Y⟩
abbrev Ai4 (k:Nat):Prop:=∀{a0:Ay} {b0:Int},OK (M1 k a0 b0) fun r=>Br Tryz.prog 121 [Ev a0,(.loc 0 0)] [.cells 3 [(O .i64 b0)]] (An r.1) [.cells 3 [(O .i64 r.2)]]
theorem Asv (k:Nat):Ai4 k:=by
 induction k with
 | zero=>exact Dl
 | succ k ih=>
  refine @fun a0 b0=>⟨fun {r} h=>?_⟩
  .unfold M1 at h
   refine aw C0 true Tryz.func121 ?_
   refine Z ?_
   refine Am h (fun _ h=>?_) (fun _ h=>?_)
   exact Y
   refine Z ?_
   refine A2 h (fun (v4,v5)=>[(4,(An false)),(5,(O .i64 v4))]) (fun (v4,v5)=>[(0,.cells 3 [(O .i64 v5)])]) ?_
   rintro ⟨v4,v5⟩ _ _ _ h _ _
   refine Z ?_
   refine Am h (fun _ h=>?_) (fun _ h=>?_)
   refine Z ?_
   refine Bn h (fun _ _ _ _ h=>?_)
   refine Z ?_
   refine A7 [0] h (fun _ h=>?_)
   exact Y
   exact Y
instance {k:Nat}:Ai4 k:=(Asv k)
instance {a0:Ay}:OK (Tk a0) fun r=>As Tryz.prog 64 [Ev a0] (An r):=⟨fun {r} h=>by
 refine pw C0 Tryz.func64 ?_
 refine Z ?_
 refine A7 [1] h (fun _ h=>?_)
 exact Y⟩
instance {a0:List Ay} {a1:Int}:OK (Tj a0 a1) fun r=>As Tryz.prog 63 [(Ej 3 Ez) a0,(O .i64) a1] (An r):=⟨fun {r} h=>by
 refine pw C0 Tryz.func63 ?_
 refine Z ?_
 refine A2 h (fun (v5,v6)=>[(4,(An false)),(6,(O .i64 v5))]) (fun (v5,v6)=>[(0,.cells 3 [(O .i64 v6)])]) ?_
 rintro ⟨v5,v6⟩ _ _ _ h _ _
 refine A4 (A4 ?_)
 refine Bz h (fun v7=>[(15,(An v7))]) (fun v7=>[]) ?_ ?_
 intro _ h _ _ _
 exact Y
 rintro v7 _ h
 refine Am h (fun _ h=>?_) (fun _ h=>?_)
 refine Z ?_
 refine Bn h (fun _ _ _ _ h=>?_)
 refine Z ?_
 refine A7 [0] h (fun _ h=>?_)
 exact Y
 exact Y⟩
abbrev Ai5 (k:Nat):Prop:=∀{a0:Ay},OK (Om k a0) fun r=>As Tryz.prog 65 [Ev a0] ((O .i64) r)
theorem Asw (k:Nat):Ai5 k:=by
 induction k with
 | zero=>exact Dl
 | succ k ih=>
  refine @fun a0=>⟨fun {r} h=>?_⟩
  .unfold Om at h
   refine pw C0 Tryz.func65 ?_
   refine Z ?_
   refine A2 h (fun (v5,v6)=>[(3,(O .i64 v5)),(9,(O .i64 v6))]) (fun (v5,v6)=>[]) ?_
   rintro ⟨v5,v6⟩ _ _ _ h _ _
   exact Y
instance {k:Nat}:Ai5 k:=(Asw k)
instance {a0:List Ay} {a1:Ay}:OK (Tc a0 a1) fun r=>As Tryz.prog 31 [(Ej 3 Ez) a0,Ev a1] (An r):=⟨fun {r} h=>by
 refine pw C0 Tryz.func31 ?_
 exact Y⟩
abbrev Ai6 (k:Nat):Prop:=∀{a0:Ag} {b0:Int},OK (M4 k a0 b0) fun r=>Br Tryz.prog 131 [C6 a0,(.loc 0 0)] [.cells 3 [(O .i64 b0)]] (An r.1) [.cells 3 [(O .i64 r.2)]]
theorem Asx (k:Nat):Ai6 k:=by
 induction k with
 | zero=>exact Dl
 | succ k ih=>
  refine @fun a0 b0=>⟨fun {r} h=>?_⟩
  .unfold M4 at h
   refine aw C0 true Tryz.func131 ?_
   refine Z ?_
   refine Am h (fun _ h=>?_) (fun _ h=>?_)
   exact Y
   refine Z ?_
   refine A2 h (fun (v4,v5)=>[(4,(An false)),(5,(O .i64 v4))]) (fun (v4,v5)=>[(0,.cells 3 [(O .i64 v5)])]) ?_
   rintro ⟨v4,v5⟩ _ _ _ h _ _
   refine Z ?_
   refine Am h (fun _ h=>?_) (fun _ h=>?_)
   refine Z ?_
   refine Bn h (fun _ _ _ _ h=>?_)
   refine Z ?_
   refine A7 [0] h (fun _ h=>?_)
   exact Y
   exact Y
instance {k:Nat}:Ai6 k:=(Asx k)
instance {a0:List Al}:OK (Tm a0) fun r=>As Tryz.prog 74 [(Av 3 Bv) a0] (An r):=⟨fun {r} h=>by
 refine pw C0 Tryz.func74 ?_
 refine Z ?_
 refine Am h (fun _ h=>?_) (fun _ h=>?_)
 exact Y
 refine Z ?_
 refine A2 h (fun v37=>[(2,(An false)),(15,(O .i64 v37))]) (fun v37=>[]) ?_
 rintro v37 _ _ _ h _ _
 refine Z ?_
 refine Am h (fun _ h=>?_) (fun _ h=>?_)
 refine Z ?_
 refine Bn h (fun _ _ _ _ h=>?_)
 refine ZO ?_
 refine A4 (A4 ?_)
 refine Bz h (fun v40=>[(28,(An v40))]) (fun v40=>[]) ?_ ?_
 intro _ h _ _ _
 exact Y
 rintro v40 _ h
 refine Am h (fun _ h=>?_) (fun _ h=>?_)
 exact Y
 refine Z ?_
 refine A2 h (fun v56=>[(2,(An false)),(32,(O .i64 v56))]) (fun v56=>[]) ?_
 rintro v56 _ _ _ h _ _
 refine Z ?_
 refine Am h (fun _ h=>?_) (fun _ h=>?_)
 refine Z ?_
 refine Bn h (fun _ _ _ _ h=>?_)
 refine ZO ?_
 refine A4 (A4 ?_)
 refine Bz h (fun v59=>[(45,(An v59))]) (fun v59=>[]) ?_ ?_
 intro _ h _ _ _
 exact Y
 rintro v59 _ h
 refine Am h (fun _ h=>?_) (fun _ h=>?_)
 exact Y
 refine Z ?_
 refine A2 h (fun (v64,v65)=>[(2,(An false)),(49,(O .i64 v64))]) (fun (v64,v65)=>[(2,.cells 3 [(O .i64 v65)])]) ?_
 rintro ⟨v64,v65⟩ _ _ _ h _ _
 refine Z ?_
 refine Am h (fun _ h=>?_) (fun _ h=>?_)
 refine Z ?_
 refine Bn h (fun _ _ _ _ h=>?_)
 refine Z ?_
 refine A7 [2] h (fun _ h=>?_)
 exact Y
 exact Y
 exact Y
 exact Y⟩
instance {a0:Ag}:OK (Qx a0) fun r=>As Tryz.prog 76 [C6 a0] (An r):=⟨fun {r} h=>by
 refine pw C0 Tryz.func76 ?_
 refine Z ?_
 refine A7 [1] h (fun _ h=>?_)
 exact Y⟩
instance {a0:List Ag} {a1:Int}:OK (Tn a0 a1) fun r=>As Tryz.prog 75 [(Ej 3 Bd) a0,(O .i64) a1] (An r):=⟨fun {r} h=>by
 refine pw C0 Tryz.func75 ?_
 refine Z ?_
 refine A2 h (fun v4=>[(4,(An false)),(5,(O .i64 v4))]) (fun v4=>[]) ?_
 rintro v4 _ _ _ h _ _
 refine A4 (A4 ?_)
 refine Bz h (fun v5=>[(14,(An v5))]) (fun v5=>[]) ?_ ?_
 intro _ h _ _ _
 exact Y
 rintro v5 _ h
 exact Y⟩
instance {a0:Cf}:OK (Te a0) fun r=>As Tryz.prog 35 [Ko a0] (An r):=⟨fun {r} h=>by
 refine pw C0 Tryz.func35 ?_
 exact Y⟩
abbrev Ai7 (k:Nat):Prop:=∀{a0:A5} {b0:Int},OK (Ou k a0 b0) fun r=>Br Tryz.prog 97 [Fb a0,(.loc 0 0)] [.cells 3 [(O .i64 b0)]] (An r.1) [.cells 3 [(O .i64 r.2)]]
theorem Asy (k:Nat):Ai7 k:=by
 induction k with
 | zero=>exact Dl
 | succ k ih=>
  refine @fun a0 b0=>⟨fun {r} h=>?_⟩
  .unfold Ou at h
   refine aw C0 true Tryz.func97 ?_
   refine Z ?_
   refine Am h (fun _ h=>?_) (fun _ h=>?_)
   exact Y
   refine Z ?_
   refine A2 h (fun (v4,v5)=>[(4,(An false)),(5,(O .i64 v4))]) (fun (v4,v5)=>[(0,.cells 3 [(O .i64 v5)])]) ?_
   rintro ⟨v4,v5⟩ _ _ _ h _ _
   refine Z ?_
   refine Am h (fun _ h=>?_) (fun _ h=>?_)
   refine Z ?_
   refine Bn h (fun _ _ _ _ h=>?_)
   refine Z ?_
   refine A7 [0] h (fun _ h=>?_)
   exact Y
   exact Y
instance {k:Nat}:Ai7 k:=(Asy k)
instance {a0:A5}:OK (Tg a0) fun r=>As Tryz.prog 49 [Fb a0] (An r):=⟨fun {r} h=>by
 refine pw C0 Tryz.func49 ?_
 refine Z ?_
 refine A7 [1] h (fun _ h=>?_)
 exact Y⟩
instance {a0:Da}:OK (Xn a0) fun r=>As Tryz.prog 50 [J0 a0] (An r):=⟨fun {r} h=>by
 refine pw C0 Tryz.func50 ?_
 exact Y⟩
instance {a0:Ba}:OK (Tb a0) fun r=>As Tryz.prog 20 [Gk a0] (An r):=⟨fun {r} h=>by
 refine pw C0 Tryz.func20 ?_
 refine ZS ?_
 refine B7 ?_
 refine ZO ?_
 refine A4 (A4 ?_)
 refine Bz h (fun v2=>[(16,(An v2))]) (fun v2=>[]) ?_ ?_
 intro _ h _ _ _
 exact Y
 rintro v2 _ h
 refine Am h (fun _ h=>?_) (fun _ h=>?_)
 exact Y
 refine Z ?_
 refine A2 h (fun v6=>[(2,(An false)),(20,(O .i64 v6))]) (fun v6=>[]) ?_
 rintro v6 _ _ _ h _ _
 refine Z ?_
 refine Am h (fun _ h=>?_) (fun _ h=>?_)
 exact Y
 replace h:=Ca h
 refine Z ?_
 refine A2 h (fun v14=>[(2,(An false)),(32,(O .i64 v14))]) (fun v14=>[]) ?_
 rintro v14 _ _ _ h _ _
 exact Y⟩
instance {a0:Ao}:OK (S9 a0) fun r=>As Tryz.prog 11 [Cq a0] (An r):=⟨fun {r} h=>by
 refine pw C0 Tryz.func11 ?_
 exact Y⟩
instance {a0:List Aq} {a1:Int}:OK (Ta a0 a1) fun r=>As Tryz.prog 19 [(Av 5 B9) a0,(O .i64) a1] (An r):=⟨fun {r} h=>by
 refine pw C0 Tryz.func19 ?_
 refine Z ?_
 refine A2 h (fun v6=>[(4,(An false)),(5,(O .i64 v6))]) (fun v6=>[]) ?_
 rintro v6 _ _ _ h _ _
 refine A4 (A4 ?_)
 refine Bz h (fun v7=>[(14,(An v7))]) (fun v7=>[]) ?_ ?_
 intro _ h _ _ _
 exact Y
 rintro v7 _ h
 exact Y⟩
instance {a0:Cf} {a1:List (List Aq)}:OK (S7 a0 a1) fun r=>As Tryz.prog 7 [Ko a0,(Av 1 (Av 5 B9)) a1] (An r):=⟨fun {r} h=>by
 refine pw C0 Tryz.func7 ?_
 refine Z ?_
 refine A2 h (fun v4=>[(4,(An false)),(9,(O .i64 v4))]) (fun v4=>[]) ?_
 rintro v4 _ _ _ h _ _
 exact Y⟩
instance {a0:Aq}:OK (Th a0) fun r=>As Tryz.prog 57 [B9 a0] (An r):=⟨fun {r} h=>by
 refine pw C0 Tryz.func57 ?_
 exact Y⟩
instance {a0:List Aq}:OK (Xt a0) fun r=>As Tryz.prog 115 [(Av 5 B9) a0,(.fn 57 [])] ((O .i64) r):=⟨fun {r} h=>by
 refine pw C0 Tryz.func115 ?_
 refine Z ?_
 refine A2 h (fun v3=>[(4,(O .i64 0)),(8,(O .i64 v3))]) (fun v3=>[]) ?_
 rintro v3 _ _ _ h _ _
 exact Y⟩
instance {a0:List Aq}:OK (Xo a0) fun r=>As Tryz.prog 56 [(Av 5 B9) a0,(.fn 57 [])] (An r):=⟨fun {r} h=>by
 refine pw C0 Tryz.func56 ?_
 exact Y⟩
instance {a0:List Aq}:OK (Oj a0) fun r=>As Tryz.prog 24 [(Av 5 B9) a0] (An r):=⟨fun {r} h=>by
 refine pw C0 Tryz.func24 ?_
 exact Y⟩
instance {a0:List Aq} {a1:Ao}:OK (Tf a0 a1) fun r=>As Tryz.prog 39 [(Av 5 B9) a0,Cq a1] ((Av 5 B9) r):=⟨fun {r} h=>by
 refine pw {T:=Cg,an:=(fun s=>bif Nat.beq s 5 then .own else .ask),nl:=(fun s=>bif Nat.beq s 5 then [(0,5)] else bif Nat.beq s 4 then [(0,5)] else [])} Tryz.func39 ?_
 refine Z ?_
 refine A2 h (fun (v13,o14)=>[(5,(.arr 1 o14.length 0 o14.length)),(10,(O .i64 v13))]) (fun (v13,o14)=>[(1,.rows 84 5 (List.map B9 o14))]) ?_
 rintro ⟨v13,o14⟩ _ _ _ h _ _
 exact Y⟩
instance {a0:Cf} {a1 a2:List Aq}:OK (S8 a0 a1 a2) fun r=>As Tryz.prog 8 [Ko a0,(Av 5 B9) a1,(Av 5 B9) a2] (An r):=⟨fun {r} h=>by
 refine pw C0 Tryz.func8 ?_
 refine ZS ?_
 refine B7 ?_
 refine ZO ?_
 refine A4 (A4 ?_)
 refine Bz h (fun v9=>[(8,(An v9))]) (fun v9=>[]) ?_ ?_
 intro _ h _ _ _
 refine Z ?_
 refine C5 h (fun v2 hcv2 h=>?_)
 rcases v2 with v3 | v8
 refine Fv.act [] _ _ _ _ (Yp (a0:=a0) (a1:=[a1,a2]) hcv2) rfl rfl trivial ?_
 exact Y
 refine Fv.act [] _ _ _ _ (Yq (a0:=a0) (a1:=[a1,a2]) hcv2) rfl rfl trivial ?_
 exact Y
 rintro v9 _ h
 refine Z ?_
 refine Am h (fun _ h=>?_) (fun _ h=>?_)
 exact Y
 refine Z ?_
 refine A7 [] h (fun _ h=>?_)
 refine Z ?_
 refine A7 [2,1,3] h (fun _ h=>?_)
 refine Z ?_
 refine Bc h (fun _ h=>?_)
 refine Z ?_
 refine Bc h (fun _ h=>?_)
 refine Z ?_
 refine A7 [2,1,3] h (fun _ h=>?_)
 refine ZO ?_
 refine A4 ?_
 refine D5 [.fzc 20 1] ?_
 exact Y⟩
abbrev Ai8 (k:Nat):Prop:=∀{a0:Ay} {b3:List Ay} {b4:List (List Bool)},OK (O8 k a0 b3 b4) fun r=>Br Tryz.prog 307 [Ev a0,(.loc 0 0),(.loc 1 0),(.loc 2 0)] [.cells 55 [(.arr 3 b3.length 0 b3.length)],.cells 350 [(.arr 4 b4.length 0 b4.length)],.cells 351 [(.fn 307 [(.loc 0 0),(.loc 1 0),(.loc 2 0)])],.rows 57 3 (Ez b3),.rows 244 1 (List.map (Av 1 An) b4)] (.tup []) [.cells 55 [(.arr 3 r.length 0 r.length)],.cells 350 [(.arr 4 b4.length 0 b4.length)],.cells 351 [(.fn 307 [(.loc 0 0),(.loc 1 0),(.loc 2 0)])],.rows 57 3 (Ez r),.rows 244 1 (List.map (Av 1 An) b4)]
theorem Asz (k:Nat):Ai8 k:=by
 induction k with
 | zero=>exact Dl
 | succ k ih=>
  refine @fun a0 b3 b4=>⟨fun {r} h=>?_⟩
  .unfold O8 at h
   refine aw {T:=Cg,an:=(fun _=>.ask),nl:=(fun s=>bif Nat.beq s 10 then [(1002,3)] else [])} true Tryz.func307 ?_
   refine Z ?_
   refine Ac2 h (fun o2 h=>?_)
   refine Z ?_
   refine Ic h (fun _ _ hiv3 _ h=>?_)
   refine Z ?_
   refine Arj (g:=Ez) Ia (f:=Ev) (x:=a0) (j:=((b3.length:Nat):Int)) (Ia _) rfl (Nat.zero_add _) hiv3 ?_
   refine Z ?_
   refine Ic h (fun _ _ _ _ h=>?_)
   refine Z ?_
   refine A2 h (fun (v13,o14)=>[(19,(O .i64 v13))]) (fun (v13,o14)=>[(0,.cells 55 [(.arr 3 o14.length 0 o14.length)]),(3,.rows 57 3 (Ez o14))]) ?_ (hh:=⟨⟨rfl,rfl⟩,⟨rfl,rfl⟩,⟨rfl,rfl⟩,⟨rfl,rfl⟩,⟨rfl,rfl⟩,⟨congrArg (fun q_=>Bb.cells 55 [(.arr 3 q_ 0 q_)]) (Gi (l:=o2) rfl ((b3.length:Nat):Int) a0),rfl⟩,trivial⟩)
   rintro ⟨v13,o14⟩ _ _ _ h _ _
   refine Z ?_
   refine Am h (fun _ h=>?_) (fun _ h=>?_)
   refine Z ?_
   refine Bn h (fun _ _ _ _ h=>?_)
   refine Z ?_
   refine Am h (fun _ h=>?_) (fun _ h=>?_)
   refine Z ?_
   refine Bn h (fun _ _ _ _ h=>?_)
   refine Z ?_
   refine A7 [0,1,2,3,4] h (fun _ h=>?_)
   exact Y
   exact Y
   exact Y
instance {k:Nat}:Ai8 k:=(Asz k)
instance {a0:List Al} {a1:Ag} {a2:Ay}:OK (Uk a0 a1 a2) fun r=>As Tryz.prog 272 [(Av 3 Bv) a0,C6 a1,Ev a2] ((Ej 3 Ez) r):=⟨fun {r} h=>by
 refine pw {T:=Cg,an:=(fun _=>.ask),nl:=(fun s=>bif Nat.beq s 21 then [(0,1)] else bif Nat.beq s 6 then [(0,3)] else [])} Tryz.func272 ?_
 refine ZS ?_
 refine B7 ?_
 refine ZS ?_
 refine B7 ?_
 refine ZO ?_
 refine A4 (A4 ?_)
 refine D5 [.own 7 0 244 1] ?_
 refine Z ?_
 refine Bn h (fun _ _ _ _ h=>?_)
 refine Z ?_
 refine A2 h (fun (v12,o13)=>[(18,(O .i64 v12))]) (fun (v12,o13)=>[(2,.cells 350 [(.arr 3 o13.length 0 o13.length)]),(3,.rows 244 1 (List.map (Av 1 An) o13))]) ?_
 rintro ⟨v12,o13⟩ _ _ _ h _ _
 refine Z ?_
 refine Am h (fun _ h=>?_) (fun _ h=>?_)
 exact Y
 replace h:=Ca h
 refine ZS ?_
 refine B7 ?_
 refine ZO ?_
 refine A4 ?_
 refine D5 [.own 9 0 57 3] ?_
 refine Z ?_
 refine A7 [4,2,6,5,3] h (fun _ h=>?_)
 exact Y⟩
instance {a0 a1:Int}:OK (Ua a0 a1) fun r=>As Tryz.prog 196 [(O .i64) a0,(O .i64) a1] (.tup [Cq r.1,An r.2]):=⟨fun {r} h=>by
 refine pw C0 Tryz.func196 ?_
 refine ZS ?_
 refine B7 ?_
 refine ZO ?_
 refine A4 (A4 ?_)
 refine Bz h (fun v2=>[(11,(An v2))]) (fun v2=>[]) ?_ ?_
 intro _ h _ _ _
 exact Y
 rintro v2 _ h
 exact Y⟩
abbrev Ai9 (k:Nat):Prop:=∀{a0:List Al} {a1:Ag} {a2:List A5} {a3:Ay},OK (Q8 k a0 a1 a2 a3) fun r=>As Tryz.prog 197 [(Av 3 Bv) a0,C6 a1,(Ej 2 Ht) a2,Ev a3] (Cq r)
abbrev Aja (k:Nat):Prop:=∀{a0:List Al} {a1:Ag} {a2:A5} {a3:Ay},OK (Kl k a0 a1 a2 a3) fun r=>As Tryz.prog 126 [(Av 3 Bv) a0,C6 a1,Fb a2,Ev a3] (Cq r)
theorem Ajb (k:Nat):Ai9 k/\Aja k:=by
 induction k with
 | zero=>exact ⟨Dl,Dl⟩
 | succ k ih=>
  obtain ⟨i0_,i1_⟩:=ih
  refine ⟨@fun a0 a1 a2 a3=>⟨fun {r} h=>?_⟩,@fun a0 a1 a2 a3=>⟨fun {r} h=>?_⟩⟩
  .unfold Q8 at h
   refine pw {T:=Cg,an:=(fun s=>bif Nat.beq s 9 then .own else .ask),nl:=(fun s=>bif Nat.beq s 66 then [(0,3)] else bif Nat.beq s 60 then [(0,1)] else bif Nat.beq s 9 then [(0,4)] else [])} Tryz.func197 ?_
   refine Z ?_
   refine A2 h (fun (v65,o66)=>[(9,(.arr 3 o66.length 0 o66.length)),(28,(O .i64 v65))]) (fun (v65,o66)=>[(3,.rows 306 4 (List.map Ar1 o66))]) ?_
   rintro ⟨v65,o66⟩ _ _ _ h _ _
   refine Z ?_
   refine Am h (fun _ h=>?_) (fun _ h=>?_)
   refine Z ?_
   refine Bn h (fun _ v67 _ _ h=>?_)
   refine ZS ?_
   refine B7 ?_
   refine ZO ?_
   refine A4 ?_
   refine D5 [.own 12 2 3 1,.own 12 3 25 3] ?_
   refine Z ?_
   refine Bc h (fun _ h=>?_)
   refine Z ?_
   refine Bc h (fun _ h=>?_)
   refine Z ?_
   refine A2 h (fun (v85,o86,o87)=>[(52,(O .i64 v85))]) (fun (v85,o86,o87)=>[(5,.cells 306 [(O .i64 v67.Num),(.sl 2 (Ht v67.Kids)),(.arr 6 o86.length 0 o86.length),(.arr 7 o87.length 0 o87.length)]),(6,.rows 3 1 (List.map (O .i64) o86)),(7,.rows 25 3 (Bd o87))]) ?_
   rintro ⟨v85,o86,o87⟩ _ _ _ h _ _
   refine Z ?_
   refine Am h (fun _ h=>?_) (fun _ h=>?_)
   exact Y
   replace h:=Ca h
   refine Gq (Gn rfl ?_)
   refine D5 [.fzc 12 2,.fzc 12 3] ?_
   exact Y
   replace h:=Ca h
   refine Z ?_
   refine Ahh (f:=Cq) (z:=((Ao.mk false [] []):Ao)) (by repeat (first | exact Hr.nil | apply Hr.sl | apply Hr.same)) h (fun o97 h=>?_)
   refine Z ?_
   refine Fc h (fun (v101,o102)=>[(86,(O .i64 v101))]) (fun (v101,o102)=>[(4,.rows 34 3 (List.map Cq o102))]) (fun (v101,o102)=>o97.length=o102.length) ?_
   rintro ⟨v101,o102⟩ _ _ _ h _ _ q102
   refine Z ?_
   refine Am h (fun _ h=>?_) (fun _ h=>?_)
   exact Y
   replace h:=Ca h
   refine Z ?_
   refine Bc h (fun v106 h=>?_)
   refine Z ?_
   refine Ic h (fun _ _ hiv107 _ h=>?_)
   refine Z ?_
   refine K2 (f:=Cq) (x:=v106) (j:=0) rfl rfl (Nat.zero_add _) hiv107 ?_
   refine Z ?_
   refine Bc h (fun _ h=>?_)
   refine Z ?_
   refine Fc h (fun (v175,o176)=>[(102,(O .i64 v175))]) (fun (v175,o176)=>[(4,.rows 34 3 (List.map Cq o176))]) (fun (v175,o176)=>o97.length=o176.length) ?_
   rintro ⟨v175,o176⟩ _ _ _ h _ _ q176
   refine Z ?_
   refine Am h (fun _ h=>?_) (fun _ h=>?_)
   refine Z ?_
   refine Bn h (fun _ _ _ _ h=>?_)
   refine Z ?_
   refine Fc h (fun (v209,o210)=>[(21,(O .i64 v209))]) (fun (v209,o210)=>[(4,.rows 34 3 (List.map Cq o210))]) (fun (v209,o210)=>o97.length=o210.length) ?_
   rintro ⟨v209,o210⟩ _ _ _ h _ _ q210
   refine Z ?_
   refine Am h (fun _ h=>?_) (fun _ h=>?_)
   refine Z ?_
   refine Ic h (fun _ _ _ _ h=>?_)
   refine ZO ?_
   refine A4 (A4 ?_)
   refine Bz h (fun v215=>[(130,(An v215))]) (fun v215=>[]) ?_ ?_
   intro _ h _ _ _
   exact Y
   rintro v215 _ h
   refine Am h (fun _ h=>?_) (fun _ h=>?_)
   exact Y
   refine Z ?_
   refine Ic h (fun _ _ _ _ h=>?_)
   refine Z ?_
   refine A2 h (fun (v224,v225,v226,v227)=>[(139,(O .i64 v224))]) (fun (v224,v225,v226,v227)=>[(7,.cells 34 [(An v225),(.sl 1 (List.map (O .u32) v226)),(.sl 1 (List.map (O .u32) v227))])]) ?_
   rintro ⟨v224,v225,v226,v227⟩ _ _ _ h _ _
   exact Y
   exact Y
   exact Y
  .unfold Kl at h
   refine pw C0 Tryz.func126 ?_
   refine Z ?_
   refine Bc h (fun _ h=>?_)
   refine Z ?_
   refine Am h (fun _ h=>?_) (fun _ h=>?_)
   refine Z ?_
   refine A2 h (fun (v13,v14,v15,v16)=>[(20,(O .i64 v13))]) (fun (v13,v14,v15,v16)=>[(4,.cells 34 [(An v14),(.sl 1 (List.map (O .u32) v15)),(.sl 1 (List.map (O .u32) v16))])]) ?_
   rintro ⟨v13,v14,v15,v16⟩ _ _ _ h _ _
   exact Y
   exact Y
instance {k:Nat}:Ai9 k:=(Ajb k).1
instance {k:Nat}:Aja k:=(Ajb k).2
instance {a0:List Al} {a1:Ag} {a2:Int}:OK (Ri a0 a1 a2) fun r=>As Tryz.prog 306 [(Av 3 Bv) a0,C6 a1,(O .i64) a2] (.tup [(Ej 3 Bd) r.1,An r.2]):=⟨fun {r} h=>by
 refine pw {T:=Cg,an:=(fun s=>bif Nat.beq s 10 then .own else .ask),nl:=(fun s=>bif Nat.beq s 10 then [(0,3)] else bif Nat.beq s 6 then [(0,3)] else [])} Tryz.func306 ?_
 refine Z ?_
 refine Bc h (fun _ h=>?_)
 refine Z ?_
 refine Am h (fun _ h=>?_) (fun _ h=>?_)
 exact Y
 refine Z ?_
 refine Bc h (fun _ h=>?_)
 refine Z ?_
 refine A2 h (fun (v13,o14)=>[(10,(.arr 1 o14.length 0 o14.length)),(28,(O .i64 v13))]) (fun (v13,o14)=>[(1,.rows 25 3 (Bd o14))]) ?_
 rintro ⟨v13,o14⟩ _ _ _ h _ _
 exact Y⟩
abbrev Ajc (k:Nat):Prop:=∀{a0:List Al} {a1:Ag} {a2:A5},OK (Na k a0 a1 a2) fun r=>As Tryz.prog 269 [(Av 3 Bv) a0,C6 a1,Fb a2] (.tup [(O .i64) r.1,An r.2])
abbrev Ajd (k:Nat):Prop:=∀{a0:List Al} {a1:List Ag} {a2:List A5},OK (Nc k a0 a1 a2) fun r=>As Tryz.prog 305 [(Av 3 Bv) a0,(Ej 3 Bd) a1,(Ej 2 Ht) a2] (.tup [(O .i64) r.1,An r.2])
theorem Aje (k:Nat):Ajc k/\Ajd k:=by
 induction k with
 | zero=>exact ⟨Dl,Dl⟩
 | succ k ih=>
  obtain ⟨i0_,i1_⟩:=ih
  refine ⟨@fun a0 a1 a2=>⟨fun {r} h=>?_⟩,@fun a0 a1 a2=>⟨fun {r} h=>?_⟩⟩
  .unfold Na at h
   refine pw C0 Tryz.func269 ?_
   refine Z ?_
   refine Am h (fun _ h=>?_) (fun _ h=>?_)
   exact Y
   refine Z ?_
   refine Am h (fun _ h=>?_) (fun _ h=>?_)
   exact Y
   refine Z ?_
   refine Am h (fun _ h=>?_) (fun _ h=>?_)
   refine Z ?_
   refine Am h (fun _ h=>?_) (fun _ h=>?_)
   exact Y
   refine Z ?_
   refine A2 h (fun (v8,v9)=>[(6,(O .i64 0)),(7,(An false)),(8,(O .i64 v8)),(55,(O .i64 v9))]) (fun (v8,v9)=>[]) ?_
   rintro ⟨v8,v9⟩ _ _ _ h _ _
   exact Y
   exact Y
  .unfold Nc at h
   refine pw C0 Tryz.func305 ?_
   refine Z ?_
   refine Am h (fun _ h=>?_) (fun _ h=>?_)
   exact Y
   refine Z ?_
   refine A2 h (fun (v5,v6)=>[(6,(O .i64 0)),(7,(An false)),(8,(O .i64 v5)),(20,(O .i64 v6))]) (fun (v5,v6)=>[]) ?_
   rintro ⟨v5,v6⟩ _ _ _ h _ _
   exact Y
instance {k:Nat}:Ajc k:=(Aje k).1
instance {k:Nat}:Ajd k:=(Aje k).2
instance {a0:List Al} {a1:Ag}:OK (Yb a0 a1) fun r=>As Tryz.prog 268 [(Av 3 Bv) a0,C6 a1] (An r):=⟨fun {r} h=>by
 refine pw {T:=Cg,an:=(fun _=>.ask),nl:=(fun s=>bif Nat.beq s 6 then [(1,7),(2,3),(3,8)] else [])} Tryz.func268 ?_
 exact Y⟩
instance {a0:List Al} {a1:Ag} {a2:A5}:OK (T9 a0 a1 a2) fun r=>As Tryz.prog 195 [(Av 3 Bv) a0,C6 a1,Fb a2] ((O .i64) r):=⟨fun {r} h=>by
 refine pw C0 Tryz.func195 ?_
 exact Y⟩
instance {a0:List Al} {a1:Ag} {a2:A5}:OK (Xw a0 a1 a2) fun r=>As Tryz.prog 125 [(Av 3 Bv) a0,C6 a1,Fb a2] (An r):=⟨fun {r} h=>by
 refine pw C0 Tryz.func125 ?_
 exact Y⟩
abbrev Ajf (k:Nat):Prop:=∀{a0:List Ay} {b1:Int},OK (T7 k a0 b1) fun r=>Br Tryz.prog 190 [(Ej 3 Ez) a0,(.fn 191 [(.loc 0 0)])] [.cells 148 [(.loc 1 0)],.cells 3 [(O .i64 b1)]] (An r.1) [.cells 148 [(.loc 1 0)],.cells 3 [(O .i64 r.2)]]
abbrev Ajg (k:Nat):Prop:=∀{a0:List Ay} {b1:Int},OK (Rb k a0 b1) fun r=>Br Tryz.prog 262 [(Ej 3 Ez) a0,(.fn 191 [(.loc 0 0)])] [.cells 148 [(.loc 1 0)],.cells 3 [(O .i64 b1)]] ((O .i64) r.1) [.cells 148 [(.loc 1 0)],.cells 3 [(O .i64 r.2)]]
abbrev Ajh (k:Nat):Prop:=∀{a0:Ay} {b0:Int},OK (K9 k a0 b0) fun r=>Br Tryz.prog 123 [Ev a0,(.loc 0 0)] [.cells 3 [(O .i64 b0)]] (An r.1) [.cells 3 [(O .i64 r.2)]]
abbrev Aji (k:Nat):Prop:=∀{a0:Ay} {b1:Int},OK (T8 k a0 b1) fun r=>Br Tryz.prog 191 [Ev a0,(.loc 0 0)] [.cells 148 [(.loc 1 0)],.cells 3 [(O .i64 b1)]] (An r.1) [.cells 148 [(.loc 1 0)],.cells 3 [(O .i64 r.2)]]
theorem Yr (k:Nat):Ajf k/\Ajg k/\Ajh k/\Aji k:=by
 induction k with
 | zero=>exact ⟨Dl,Dl,Dl,Dl⟩
 | succ k ih=>
  obtain ⟨i0_,i1_,i2_,i3_⟩:=ih
  refine ⟨@fun a0 b1=>⟨fun {r} h=>?_⟩,@fun a0 b1=>⟨fun {r} h=>?_⟩,@fun a0 b0=>⟨fun {r} h=>?_⟩,@fun a0 b1=>⟨fun {r} h=>?_⟩⟩
  .unfold T7 at h
   refine aw C0 true Tryz.func190 ?_
   refine Z ?_
   refine A7 [0,1] h (fun _ h=>?_)
   exact Y
  .unfold Rb at h
   refine aw C0 true Tryz.func262 ?_
   refine Z ?_
   refine A2 h (fun (v3,v4)=>[(4,(O .i64 0)),(8,(O .i64 v3))]) (fun (v3,v4)=>[(1,.cells 3 [(O .i64 v4)])]) ?_
   rintro ⟨v3,v4⟩ _ _ _ h _ _
   refine Z ?_
   refine Am h (fun _ h=>?_) (fun _ h=>?_)
   refine Z ?_
   refine Bn h (fun _ _ _ _ h=>?_)
   refine Z ?_
   refine A7 [0,1] h (fun _ h=>?_)
   exact Y
   exact Y
  .unfold K9 at h
   refine aw C0 true Tryz.func123 ?_
   refine Z ?_
   refine Am h (fun _ h=>?_) (fun _ h=>?_)
   exact Y
   refine Z ?_
   refine A7 [2,0] h (fun _ h=>?_)
   exact Y
  .unfold T8 at h
   refine aw C0 true Tryz.func191 ?_
   refine Z ?_
   refine A7 [1] h (fun _ h=>?_)
   exact Y
instance {k:Nat}:Ajf k:=(Yr k).1
instance {k:Nat}:Ajg k:=(Yr k).2.1
instance {k:Nat}:Ajh k:=(Yr k).2.2.1
instance {k:Nat}:Aji k:=(Yr k).2.2.2
instance {a0:List Al} {a1:Ag} {a2:Int}:OK (X1 a0 a1 a2) fun r=>As Tryz.prog 193 [(Av 3 Bv) a0,C6 a1,(O .i64) a2] (.tup [(Ej 3 Bd) r.1,An r.2]):=⟨fun {r} h=>by
 refine pw {T:=Cg,an:=(fun s=>bif Nat.beq s 14 then .own else .ask),nl:=(fun s=>bif Nat.beq s 14 then [(0,3)] else bif Nat.beq s 6 then [(0,3)] else [])} Tryz.func193 ?_
 refine ZS ?_
 refine B7 ?_
 refine ZO ?_
 refine A4 (A4 ?_)
 refine Bz h (fun v2=>[(31,(An v2))]) (fun v2=>[]) ?_ ?_
 intro _ h _ _ _
 exact Y
 rintro v2 _ h
 refine Am h (fun _ h=>?_) (fun _ h=>?_)
 exact Y
 refine Z ?_
 refine Bn h (fun _ _ _ _ h=>?_)
 refine ZO ?_
 refine A4 (A4 ?_)
 refine Bz h (fun v5=>[(53,(An v5))]) (fun v5=>[]) ?_ ?_
 intro _ h _ _ _
 exact Y
 rintro v5 _ h
 refine Am h (fun _ h=>?_) (fun _ h=>?_)
 exact Y
 refine Z ?_
 refine Ga h (fun o6 h=>?_)
 refine Z ?_
 refine Fc h (fun (v12,o13)=>[(61,(O .i64 v12))]) (fun (v12,o13)=>[(2,.rows 3 1 (List.map (O .i64) o13))]) (fun (v12,o13)=>o6.length=o13.length) ?_
 rintro ⟨v12,o13⟩ _ _ _ h _ _ q13
 refine Z ?_
 refine Am h (fun _ h=>?_) (fun _ h=>?_)
 exact Y
 replace h:=Ca h
 refine Z ?_
 refine Bn h (fun _ _ _ _ h=>?_)
 refine ZO ?_
 refine K5 ?_
 refine D5 [.fz 9] ?_
 refine Z ?_
 refine A2 h (fun v23=>[(6,(.sl 3 (Bd []))),(7,(An false)),(79,(O .i64 v23))]) (fun v23=>[]) ?_
 rintro v23 _ _ _ h _ _
 refine Z ?_
 refine Am h (fun _ h=>?_) (fun _ h=>?_)
 exact Y
 replace h:=Ca h
 refine Z ?_
 refine Bn h (fun _ _ _ _ h=>?_)
 refine Z ?_
 refine A2 h (fun (v41,o42)=>[(14,(.arr 3 o42.length 0 o42.length)),(95,(O .i64 v41))]) (fun (v41,o42)=>[(3,.rows 25 3 (Bd o42))]) ?_
 rintro ⟨v41,o42⟩ _ _ _ h _ _
 exact Y⟩
end Go.Ab
namespace Go.Ab
open Go Go.Proofs
set_option maxRecDepth 10000
set_option maxHeartbeats 4000000
set_option linter.unusedVariables false
abbrev Ajj (k:Nat):Prop:=∀{a0:List Ay} {b0:List Al} {b1:Ag},OK (Uy k a0 b0 b1) fun r=>Br Tryz.prog 190 [(Ej 3 Ez) a0,(.fn 194 [(.loc 0 0),(.loc 1 0)])] [.cells 22 [(.sl 3 (List.map Bv b0))],.cells 25 [(O .i64 b1.Kind),(O .i64 b1.Num),(.sl 3 (Bd b1.Args))]] (An r) [.cells 22 [(.sl 3 (List.map Bv b0))],.cells 25 [(O .i64 b1.Kind),(O .i64 b1.Num),(.sl 3 (Bd b1.Args))]]
abbrev Ajk (k:Nat):Prop:=∀{a0:List Ay} {a1:List Ag} {b0:List Al},OK (Uj k a0 a1 b0) fun r=>Br Tryz.prog 263 [(Ej 3 Ez) a0,(Ej 3 Bd) a1,(.fn 264 [(.loc 0 0)])] [.cells 22 [(.sl 3 (List.map Bv b0))]] (An r) [.cells 22 [(.sl 3 (List.map Bv b0))]]
abbrev Ajl (k:Nat):Prop:=∀{a0:List Ay} {b0:List Al} {b1:Ag},OK (Yl k a0 b0 b1) fun r=>Br Tryz.prog 262 [(Ej 3 Ez) a0,(.fn 194 [(.loc 0 0),(.loc 1 0)])] [.cells 22 [(.sl 3 (List.map Bv b0))],.cells 25 [(O .i64 b1.Kind),(O .i64 b1.Num),(.sl 3 (Bd b1.Args))]] ((O .i64) r) [.cells 22 [(.sl 3 (List.map Bv b0))],.cells 25 [(O .i64 b1.Kind),(O .i64 b1.Num),(.sl 3 (Bd b1.Args))]]
abbrev Ajm (k:Nat):Prop:=∀{a0:List Al} {a1:Ay} {a2:Ag},OK (M2 k a0 a1 a2) fun r=>As Tryz.prog 124 [(Av 3 Bv) a0,Ev a1,C6 a2] (An r)
abbrev Ajn (k:Nat):Prop:=∀{a0:Ay} {b0:List Al} {b1:Ag},OK (Q7 k a0 b0 b1) fun r=>Br Tryz.prog 194 [Ev a0,(.loc 0 0),(.loc 1 0)] [.cells 22 [(.sl 3 (List.map Bv b0))],.cells 25 [(O .i64 b1.Kind),(O .i64 b1.Num),(.sl 3 (Bd b1.Args))]] (An r) [.cells 22 [(.sl 3 (List.map Bv b0))],.cells 25 [(O .i64 b1.Kind),(O .i64 b1.Num),(.sl 3 (Bd b1.Args))]]
abbrev Ajo (k:Nat):Prop:=∀{a0:List Al} {a1:List Ay} {a2:List Ag},OK (M6 k a0 a1 a2) fun r=>As Tryz.prog 192 [(Av 3 Bv) a0,(Ej 3 Ez) a1,(Ej 3 Bd) a2] (An r)
abbrev Ajp (k:Nat):Prop:=∀{a0:Ay} {a1:Ag} {b0:List Al},OK (Rc k a0 a1 b0) fun r=>Br Tryz.prog 264 [Ev a0,C6 a1,(.loc 0 0)] [.cells 22 [(.sl 3 (List.map Bv b0))]] (An r) [.cells 22 [(.sl 3 (List.map Bv b0))]]
theorem Pi (k:Nat):Ajj k/\Ajk k/\Ajl k/\Ajm k/\Ajn k/\Ajo k/\Ajp k:=by
 induction k with
 | zero=>exact ⟨Dl,Dl,Dl,Dl,Dl,Dl,Dl⟩
 | succ k ih=>
  obtain ⟨i0_,i1_,i2_,i3_,i4_,i5_,i6_⟩:=ih
  refine ⟨@fun a0 b0 b1=>⟨fun {r} h=>?_⟩,@fun a0 a1 b0=>⟨fun {r} h=>?_⟩,@fun a0 b0 b1=>⟨fun {r} h=>?_⟩,@fun a0 a1 a2=>⟨fun {r} h=>?_⟩,@fun a0 b0 b1=>⟨fun {r} h=>?_⟩,@fun a0 a1 a2=>⟨fun {r} h=>?_⟩,@fun a0 a1 b0=>⟨fun {r} h=>?_⟩⟩
  .unfold Uy at h
   refine aw C0 true Tryz.func190 ?_
   refine Z ?_
   refine A7 [0,1] h (fun _ h=>?_)
   exact Y
  .unfold Uj at h
   refine aw C0 true Tryz.func263 ?_
   refine Z ?_
   refine Am h (fun _ h=>?_) (fun _ h=>?_)
   exact Y
   refine Z ?_
   refine A2 h (fun v6=>[(6,(An false)),(17,(O .i64 v6))]) (fun v6=>[]) ?_
   rintro v6 _ _ _ h _ _
   refine Z ?_
   refine Am h (fun _ h=>?_) (fun _ h=>?_)
   refine Z ?_
   refine Bn h (fun _ _ _ _ h=>?_)
   refine Z ?_
   refine Bn h (fun _ _ _ _ h=>?_)
   refine Z ?_
   refine A7 [0] h (fun _ h=>?_)
   exact Y
   exact Y
  .unfold Yl at h
   refine aw C0 true Tryz.func262 ?_
   refine Z ?_
   refine A2 h (fun v3=>[(4,(O .i64 0)),(8,(O .i64 v3))]) (fun v3=>[]) ?_
   rintro v3 _ _ _ h _ _
   refine Z ?_
   refine Am h (fun _ h=>?_) (fun _ h=>?_)
   refine Z ?_
   refine Bn h (fun _ _ _ _ h=>?_)
   refine Z ?_
   refine A7 [0,1] h (fun _ h=>?_)
   exact Y
   exact Y
  .unfold M2 at h
   refine pw C0 Tryz.func124 ?_
   refine Z ?_
   refine Am h (fun _ h=>?_) (fun _ h=>?_)
   exact Y
   refine Z ?_
   refine Am h (fun _ h=>?_) (fun _ h=>?_)
   exact Y
   refine Z ?_
   refine Am h (fun _ h=>?_) (fun _ h=>?_)
   exact Y
   refine Z ?_
   refine Am h (fun _ h=>?_) (fun _ h=>?_)
   exact Y
   refine Z ?_
   refine Am h (fun _ h=>?_) (fun _ h=>?_)
   refine A4 (A4 ?_)
   refine Bz h (fun v5=>[(101,(An v5))]) (fun v5=>[]) ?_ ?_
   intro _ h _ _ _
   exact Y
   rintro v5 _ h
   exact Y
   refine Z ?_
   refine Am h (fun _ h=>?_) (fun _ h=>?_)
   refine Z ?_
   refine Fx h (fun _ h=>?_) (fun _ h=>?_)
   refine Z ?_
   refine Fx h (fun _ h=>?_) (fun _ h=>?_)
   refine Z ?_
   refine Fx h (fun _ h=>?_) (fun _ h=>?_)
   refine Z ?_
   refine A7 [0,2] h (fun _ h=>?_)
   exact Y
   exact Y
   exact Y
   exact Y
   exact Y
  .unfold Q7 at h
   refine aw C0 true Tryz.func194 ?_
   exact Y
  .unfold M6 at h
   refine pw C0 Tryz.func192 ?_
   refine Z ?_
   refine A7 [0] h (fun _ h=>?_)
   exact Y
  .unfold Rc at h
   refine aw C0 true Tryz.func264 ?_
   exact Y
instance {k:Nat}:Ajj k:=(Pi k).1
instance {k:Nat}:Ajk k:=(Pi k).2.1
instance {k:Nat}:Ajl k:=(Pi k).2.2.1
instance {k:Nat}:Ajm k:=(Pi k).2.2.2.1
instance {k:Nat}:Ajn k:=(Pi k).2.2.2.2.1
instance {k:Nat}:Ajo k:=(Pi k).2.2.2.2.2.1
instance {k:Nat}:Ajp k:=(Pi k).2.2.2.2.2.2
instance {a0:List Al} {a1:Ag}:OK (Xv a0 a1) fun r=>As Tryz.prog 122 [(Av 3 Bv) a0,C6 a1] (An r):=⟨fun {r} h=>by
 refine pw {T:=Cg,an:=(fun _=>.ask),nl:=(fun s=>bif Nat.beq s 6 then [(1,7),(2,3),(3,8)] else [])} Tryz.func122 ?_
 exact Y⟩
instance {a0:List Al} {a1:Ay} {a2:Ag}:OK (Ls a0 a1 a2) fun r=>As Tryz.prog 67 [(Av 3 Bv) a0,Ev a1,C6 a2] (An r):=⟨fun {r} h=>by
 refine pw C0 Tryz.func67 ?_
 refine Z ?_
 refine Bc h (fun _ h=>?_)
 refine Z ?_
 refine Fx h (fun _ h=>?_) (fun _ h=>?_)
 refine Z ?_
 refine A7 [2] h (fun _ h=>?_)
 exact Y
 exact Y⟩
instance {a0:List Al} {a1:Ag} {a2:A5} {a3:Ay}:OK (On a0 a1 a2 a3) fun r=>As Tryz.prog 69 [(Av 3 Bv) a0,C6 a1,Fb a2,Ev a3] (.tup [Cq r.1,(O .i64) r.2]):=⟨fun {r} h=>by
 refine pw {T:=Cg,an:=(fun _=>.ask),nl:=(fun s=>bif Nat.beq s 21 then [(1,1),(2,1)] else bif Nat.beq s 15 then [(1,1),(2,1)] else [])} Tryz.func69 ?_
 exact Y⟩
instance {a0:Int} {b0:Ay} {b1:List Ay}:OK (Ja a0 b0 b1) fun r=>Br Tryz.prog 66 [(O .i64) a0,(.loc 0 0),(.loc 1 0)] [.cells 57 [(O .i64 b0.Kind),(O .i64 b0.Num),(.sl 3 (Ez b0.Kids))],.cells 55 [(.sl 3 (Ez b1))]] (Ev r) [.cells 57 [(O .i64 b0.Kind),(O .i64 b0.Num),(.sl 3 (Ez b0.Kids))],.cells 55 [(.sl 3 (Ez b1))]]:=⟨fun {r} h=>by
 refine aw C0 true Tryz.func66 ?_
 exact Y⟩
instance {a0:Nat} {b0:List Int}:OK (Qw a0 b0) fun r=>Br Tryz.prog 61 [(.arr 0 b0.length 0 a0)] [.rows 3 1 (List.map (O .i64) b0)] (.arr 0 r.2.length 0 r.1) [.rows 3 1 (List.map (O .i64) r.2)]:=⟨fun {r} h=>by
 refine aw {T:=Cg,an:=(fun _=>.ask),nl:=(fun s=>bif Nat.beq s 2 then [(0,1)] else [])} false Tryz.func61 ?_
 refine Z ?_
 refine Am h (fun _ h=>?_) (fun _ h=>?_)
 exact Y
 refine Z ?_
 refine A2 h (fun v23=>[(2,(.sl 1 (List.map (O .i64) []))),(3,(O .i64 v23))]) (fun v23=>[]) ?_
 rintro v23 _ _ _ h _ _
 refine Z ?_
 refine Am h (fun _ h=>?_) (fun _ h=>?_)
 refine Z ?_
 refine J1 h (fun _ _ _ _ h=>?_)
 refine Z ?_
 refine J1 h (fun _ _ _ _ h=>?_)
 refine Z ?_
 refine Am h (fun _ h=>?_) (fun _ h=>?_)
 refine Z ?_
 refine Ag9 (f:=(O .i64)) (l:=b0) rfl rfl h (fun v26 h=>?_)
 refine Z ?_
 refine Fc h (fun (v31,v32,o33)=>[(3,(O .i64 v31)),(5,(O .i64 v32))]) (fun (v31,v32,o33)=>[(0,.rows 3 1 (List.map (O .i64) o33))]) (fun (v31,v32,o33)=>b0.length=o33.length) ?_
 rintro ⟨v31,v32,o33⟩ _ _ _ h _ _ q33
 refine Z ?_
 refine Am h (fun _ h=>?_) (fun _ h=>?_)
 refine Z ?_
 refine J1 h (fun _ _ _ _ h=>?_)
 refine Z ?_
 refine J1 h (fun _ _ _ _ h=>?_)
 refine Z ?_
 refine Am h (fun _ h=>?_) (fun _ h=>?_)
 refine Z ?_
 refine J1 h (fun _ v36 _ _ h=>?_)
 refine Z ?_
 refine J1 h (fun _ _ hiv37 _ h=>?_)
 refine Z ?_
 refine K2 (f:=(O .i64)) (x:=v36) (j:=(((0:Nat):Int)+v31)) rfl rfl rfl (Ag4 _ hiv37) ?_
 exact Y
 exact Y
 replace h:=Ca h
 refine Z ?_
 refine Arh (f:=(O .i64)) (l:=o33) rfl q33 h (fun v42 h=>?_) (fun h=>?_)
 refine Z ?_
 refine Arf (f:=(O .i64)) (l:=o33) (z:=(0:Int)) rfl rfl q33 h (fun o43 hco43 h=>?_)
 refine Z ?_
 refine Ahb (f:=(O .i64)) (l:=o43) rfl (Aha q33 hco43) h (fun v44 h=>?_)
 replace h:=Ca h
 refine Z ?_
 cases h
 exact ⟨congrArg (fun q_=>AV.arr 0 q_ 0 _) (Aha q33 hco43),rfl,trivial⟩
 refine Z ?_
 refine Ahb (f:=(O .i64)) (l:=o33) rfl q33 h (fun v45 h=>?_)
 replace h:=Ca h
 refine Z ?_
 cases h
 exact ⟨congrArg (fun q_=>AV.arr 0 q_ 0 _) q33,rfl,trivial⟩
 exact Y
 exact Y⟩
instance {a0 a1:Int}:OK (Ab4 a0 a1) fun r=>As Tryz.prog 117 [(O .i64) a0,(O .i64) a1] (An r):=⟨fun {r} h=>by
 refine pw C0 Tryz.func117 ?_
 exact Y⟩
instance {a0 a1:Int} {b0:List Int}:OK (Acg a0 a1 b0) fun r=>Br Tryz.prog 180 [(.arr 0 b0.length 0 b0.length),(O .i64) a0,(O .i64) a1] [.rows 3 1 (List.map (O .i64) b0)] (.tup []) [.rows 3 1 (List.map (O .i64) r)]:=⟨fun {r} h=>by
 refine aw C0 true Tryz.func180 ?_
 refine Z ?_
 refine Fc h (fun (v21,o22)=>[(6,(O .i64 v21))]) (fun (v21,o22)=>[(0,.rows 3 1 (List.map (O .i64) o22))]) (fun (v21,o22)=>b0.length=o22.length) ?_
 rintro ⟨v21,o22⟩ _ _ _ h _ _ q22
 refine Z ?_
 refine Am h (fun _ h=>?_) (fun _ h=>?_)
 refine Z ?_
 refine Fc h (fun (v31,o32)=>[(7,(O .i64 v31))]) (fun (v31,o32)=>[(0,.rows 3 1 (List.map (O .i64) o32))]) (fun (v31,o32)=>b0.length=o32.length) ?_
 rintro ⟨v31,o32⟩ _ _ _ h _ _ q32
 refine A4 (A4 ?_)
 refine Bz h (fun v36=>[(30,(An v36))]) (fun v36=>[]) ?_ ?_
 intro _ h _ _ _
 exact Y
 rintro v36 _ h
 exact Y
 exact Y⟩
instance {a0 a1 a2:Int} {b0:List Int}:OK (Ab5 a0 a1 a2 b0) fun r=>Br Tryz.prog 119 [(.arr 0 b0.length 0 b0.length),(O .i64) a0,(O .i64) a1,(O .i64) a2] [.rows 3 1 (List.map (O .i64) b0)] (.tup []) [.rows 3 1 (List.map (O .i64) r)]:=⟨fun {r} h=>by
 refine aw C0 true Tryz.func119 ?_
 refine Z ?_
 refine A2 h (fun _=>[(1,(O .i64 a0)),(2,(O .i64 a1)),(3,(O .i64 a2)),(8,(An true)),(9,(An true))]) (fun _=>[]) ?_
 rintro _ _ _ _ h _ _
 refine Z ?_
 refine Am h (fun _ h=>?_) (fun _ h=>?_)
 refine Z ?_
 refine A7 [0] h (fun _ h=>?_)
 refine C5 h (fun v2 hgv2 h=>?_)
 exact Y
 exact Y⟩
theorem As0 {b0:List Int} {r:(List Int)} (h:Ah3 b0=some r):Br Tryz.prog 60 [(.arr 0 b0.length 0 b0.length)] [.rows 3 1 (List.map (O .i64) b0)] (.tup []) [.rows 3 1 (List.map (O .i64) r)]:=by
 refine aw C0 true Tryz.func60 ?_
 refine Z ?_
 refine Bc h (fun _ h=>?_)
 refine Z ?_
 refine A7 [0] h (fun _ h=>?_)
 refine C5 h (fun v3 hgv3 h=>?_)
 exact Y
instance {b0:List Int}:OK (Ti b0) fun r=>Br Tryz.prog 60 [(.arr 0 b0.length 0 b0.length)] [.rows 3 1 (List.map (O .i64) b0)] (.tup []) [.rows 3 1 (List.map (O .i64) r)]:=⟨fun {r} h=>by
 cases b0 with
 | nil=>exact As0 h
 | cons b l=>exact Asf h (by simp)⟩
instance {a0:List Aq}:OK (Qs a0) fun r=>As Tryz.prog 29 [(Av 5 B9) a0] ((Av 1 (O .i64)) r):=⟨fun {r} h=>by
 refine pw {T:=Cg,an:=(fun s=>bif Nat.beq s 3 then .own else .ask),nl:=(fun s=>bif Nat.beq s 3 then [(0,1)] else bif Nat.beq s 2 then [(0,1)] else [])} Tryz.func29 ?_
 refine Z ?_
 refine A2 h (fun (v152,o153)=>[(3,(.arr 0 o153.length 0 o153.length)),(14,(O .i64 v152))]) (fun (v152,o153)=>[(0,.rows 3 1 (List.map (O .i64) o153))]) ?_
 rintro ⟨v152,o153⟩ _ _ _ h _ _
 refine Z ?_
 refine Am h (fun _ h=>?_) (fun _ h=>?_)
 refine Z ?_
 refine Bn h (fun _ _ _ _ h=>?_)
 refine Z ?_
 refine A2 h (fun (v164,o165)=>[(3,(.arr 0 o165.length 0 o165.length)),(22,(O .i64 v164))]) (fun (v164,o165)=>[(0,.rows 3 1 (List.map (O .i64) o165))]) ?_
 rintro ⟨v164,o165⟩ _ _ _ h _ _
 refine Z ?_
 refine Am h (fun _ h=>?_) (fun _ h=>?_)
 exact Y
 replace h:=Ca h
 refine Z ?_
 refine A2 h (fun (v207,o208)=>[(3,(.arr 0 o208.length 0 o208.length)),(36,(O .i64 v207))]) (fun (v207,o208)=>[(0,.rows 3 1 (List.map (O .i64) o208))]) ?_
 rintro ⟨v207,o208⟩ _ _ _ h _ _
 refine Z ?_
 refine Am h (fun _ h=>?_) (fun _ h=>?_)
 refine Z ?_
 refine Bn h (fun _ _ _ _ h=>?_)
 refine Z ?_
 refine A2 h (fun (v219,o220)=>[(3,(.arr 0 o220.length 0 o220.length)),(44,(O .i64 v219))]) (fun (v219,o220)=>[(0,.rows 3 1 (List.map (O .i64) o220))]) ?_
 rintro ⟨v219,o220⟩ _ _ _ h _ _
 exact Y
 exact Y
 replace h:=Ca h
 refine Z ?_
 refine A7 [0] h (fun v229 h=>?_)
 refine C5 h (fun v230 hgv230 h=>?_)
 refine Z ?_
 refine C5 h (fun v231 hcv231 h=>?_)
 have okv231:=(OK.ok hcv231 :)
 rw [<-(Ir hgv230)] at okv231
 refine Fv.act [0] _ _ _ _ okv231 rfl rfl ⟨rfl,trivial⟩ ?_
 refine ZO ?_
 refine D5 [.fzp 2] ?_
 refine Arg (f:=(O .i64)) (l:=v231.2) rfl rfl h (fun o232 h=>?_)
 exact Y⟩
instance {a0 a1:Ao}:OK (Ov a0 a1) fun r=>As Tryz.prog 128 [Cq a0,Cq a1] (Cq r):=⟨fun {r} h=>by
 refine pw C0 Tryz.func128 ?_
 exact Y⟩
instance {a0:Ao} {a1:Int}:OK (Mx a0 a1) fun r=>As Tryz.prog 71 [Cq a0,(O .i64) a1] (Cq r):=⟨fun {r} h=>by
 refine pw C0 Tryz.func71 ?_
 refine Z ?_
 refine Bc h (fun _ h=>?_)
 refine ZO ?_
 refine Bz h (fun (v5,v6,v7)=>[]) (fun (v5,v6,v7)=>[(0,.cells 34 [(An v5),(.sl 1 (List.map (O .u32) v6)),(.sl 1 (List.map (O .u32) v7))])]) ?_ ?_
 intro _ h _ _ _
 exact Y
 rintro ⟨v5,v6,v7⟩ _ h
 refine Z ?_
 refine Bc h (fun _ h=>?_)
 refine Z ?_
 refine A2 h (fun (v16,v17,v18,v19)=>[(14,(O .i64 v16))]) (fun (v16,v17,v18,v19)=>[(2,.cells 34 [(An v17),(.sl 1 (List.map (O .u32) v18)),(.sl 1 (List.map (O .u32) v19))])]) ?_
 rintro ⟨v16,v17,v18,v19⟩ _ _ _ h _ _
 exact Y⟩
instance {a0:Cf} {a1:List Aq} {a2:List Ay} {a3:Ay}:OK (Ok a0 a1 a2 a3) fun r=>As Tryz.prog 32 [Ko a0,(Av 5 B9) a1,(Ej 3 Ez) a2,Ev a3] (.tup [Cq r.1,(O .i64) r.2]):=⟨fun {r} h=>by
 refine pw {T:=Cg,an:=(fun _=>.ask),nl:=(fun s=>bif Nat.beq s 100 then [(1,1),(2,1)] else bif Nat.beq s 63 then [(1,1),(2,1)] else bif Nat.beq s 44 then [(1,1),(2,1)] else bif Nat.beq s 37 then [(1,1),(2,1)] else [])} Tryz.func32 ?_
 refine Z ?_
 refine C5 h (fun v5 hcv5 h=>?_)
 rcases v5 with v6 | v11
 refine Fv.act [] _ _ _ _ (Yp (a0:=a0) (a1:=[a1]) hcv5) rfl rfl trivial ?_
 refine Z ?_
 refine Am h (fun _ h=>?_) (fun _ h=>?_)
 exact Y
 refine Z ?_
 refine Am h (fun _ h=>?_) (fun _ h=>?_)
 exact Y
 refine Z ?_
 refine Bc h (fun _ h=>?_)
 refine Z ?_
 refine A2 h (fun v17=>[(9,(O .i64 0)),(49,(O .i64 v17))]) (fun v17=>[]) ?_
 rintro v17 _ _ _ h _ _
 refine Z ?_
 refine Am h (fun _ h=>?_) (fun _ h=>?_)
 refine Z ?_
 refine Bn h (fun _ _ _ _ h=>?_)
 refine Z ?_
 refine A7 [2,1] h (fun _ h=>?_)
 refine Z ?_
 refine A7 [7,5,6] h (fun _ h=>?_)
 exact Y
 replace h:=Ca h
 refine Z ?_
 refine Bc h (fun _ h=>?_)
 refine Z ?_
 refine A2 h (fun (v118,v119,v120,v121)=>[(9,(O .i64 0)),(68,(O .i64 v118))]) (fun (v118,v119,v120,v121)=>[(8,.cells 34 [(An v119),(.sl 1 (List.map (O .u32) v120)),(.sl 1 (List.map (O .u32) v121))])]) ?_
 rintro ⟨v118,v119,v120,v121⟩ _ _ _ h _ _
 refine Z ?_
 refine Am h (fun _ h=>?_) (fun _ h=>?_)
 refine Z ?_
 refine Bn h (fun _ _ _ _ h=>?_)
 refine Z ?_
 refine A2 h (fun (v132,v133,v134,v135)=>[(9,(O .i64 0)),(78,(O .i64 v132))]) (fun (v132,v133,v134,v135)=>[(10,.cells 34 [(An v133),(.sl 1 (List.map (O .u32) v134)),(.sl 1 (List.map (O .u32) v135))])]) ?_
 rintro ⟨v132,v133,v134,v135⟩ _ _ _ h _ _
 refine Z ?_
 refine Am h (fun _ h=>?_) (fun _ h=>?_)
 refine Z ?_
 refine Bn h (fun _ _ _ _ h=>?_)
 refine Z ?_
 refine A7 [7,5,6] h (fun _ h=>?_)
 refine Z ?_
 refine A7 [2,1] h (fun _ h=>?_)
 exact Y
 replace h:=Ca h
 refine Z ?_
 refine A2 h (fun (v177,v178,v179,v180)=>[(110,(O .i64 v177))]) (fun (v177,v178,v179,v180)=>[(10,.cells 34 [(An v178),(.sl 1 (List.map (O .u32) v179)),(.sl 1 (List.map (O .u32) v180))])]) ?_
 rintro ⟨v177,v178,v179,v180⟩ _ _ _ h _ _
 refine Z ?_
 refine Am h (fun _ h=>?_) (fun _ h=>?_)
 refine Z ?_
 refine Bn h (fun _ _ _ _ h=>?_)
 refine Z ?_
 refine Bc h (fun _ h=>?_)
 refine Z ?_
 refine A2 h (fun (v192,v193,v194,v195)=>[(122,(O .i64 v192))]) (fun (v192,v193,v194,v195)=>[(12,.cells 34 [(An v193),(.sl 1 (List.map (O .u32) v194)),(.sl 1 (List.map (O .u32) v195))])]) ?_
 rintro ⟨v192,v193,v194,v195⟩ _ _ _ h _ _
 refine Z ?_
 refine Am h (fun _ h=>?_) (fun _ h=>?_)
 refine Z ?_
 refine Bn h (fun _ _ _ _ h=>?_)
 refine Z ?_
 refine Bc h (fun _ h=>?_)
 refine Z ?_
 refine A7 [2,1] h (fun _ h=>?_)
 refine Z ?_
 refine Sr.mk 2 (by kernel_rfl) ?_
 exact Y
 exact Y
 exact Y
 exact Y
 refine Fv.act [] _ _ _ _ (Yq (a0:=a0) (a1:=[a1]) hcv5) rfl rfl trivial ?_
 refine Z ?_
 refine Am h (fun _ h=>?_) (fun _ h=>?_)
 exact Y
 refine Z ?_
 refine Am h (fun _ h=>?_) (fun _ h=>?_)
 exact Y
 refine Z ?_
 refine Bc h (fun _ h=>?_)
 refine Z ?_
 refine A2 h (fun v224=>[(9,(O .i64 0)),(49,(O .i64 v224))]) (fun v224=>[]) ?_
 rintro v224 _ _ _ h _ _
 refine Z ?_
 refine Am h (fun _ h=>?_) (fun _ h=>?_)
 refine Z ?_
 refine Bn h (fun _ _ _ _ h=>?_)
 refine Z ?_
 refine A7 [2,1] h (fun _ h=>?_)
 exact Y
 replace h:=Ca h
 refine Z ?_
 refine Bc h (fun _ h=>?_)
 refine Z ?_
 refine A2 h (fun (v325,v326,v327,v328)=>[(9,(O .i64 0)),(68,(O .i64 v325))]) (fun (v325,v326,v327,v328)=>[(4,.cells 34 [(An v326),(.sl 1 (List.map (O .u32) v327)),(.sl 1 (List.map (O .u32) v328))])]) ?_
 rintro ⟨v325,v326,v327,v328⟩ _ _ _ h _ _
 refine Z ?_
 refine Am h (fun _ h=>?_) (fun _ h=>?_)
 refine Z ?_
 refine Bn h (fun _ _ _ _ h=>?_)
 refine Z ?_
 refine A2 h (fun (v339,v340,v341,v342)=>[(9,(O .i64 0)),(78,(O .i64 v339))]) (fun (v339,v340,v341,v342)=>[(6,.cells 34 [(An v340),(.sl 1 (List.map (O .u32) v341)),(.sl 1 (List.map (O .u32) v342))])]) ?_
 rintro ⟨v339,v340,v341,v342⟩ _ _ _ h _ _
 refine Z ?_
 refine Am h (fun _ h=>?_) (fun _ h=>?_)
 refine Z ?_
 refine Bn h (fun _ _ _ _ h=>?_)
 refine Z ?_
 refine Bc h (fun _ h=>?_)
 refine Z ?_
 refine A7 [2,1] h (fun _ h=>?_)
 exact Y
 replace h:=Ca h
 refine Z ?_
 refine A2 h (fun (v384,v385,v386,v387)=>[(110,(O .i64 v384))]) (fun (v384,v385,v386,v387)=>[(6,.cells 34 [(An v385),(.sl 1 (List.map (O .u32) v386)),(.sl 1 (List.map (O .u32) v387))])]) ?_
 rintro ⟨v384,v385,v386,v387⟩ _ _ _ h _ _
 refine Z ?_
 refine Am h (fun _ h=>?_) (fun _ h=>?_)
 refine Z ?_
 refine Bn h (fun _ _ _ _ h=>?_)
 refine Z ?_
 refine Bc h (fun _ h=>?_)
 refine Z ?_
 refine A2 h (fun (v399,v400,v401,v402)=>[(122,(O .i64 v399))]) (fun (v399,v400,v401,v402)=>[(8,.cells 34 [(An v400),(.sl 1 (List.map (O .u32) v401)),(.sl 1 (List.map (O .u32) v402))])]) ?_
 rintro ⟨v399,v400,v401,v402⟩ _ _ _ h _ _
 refine Z ?_
 refine Am h (fun _ h=>?_) (fun _ h=>?_)
 refine Z ?_
 refine Bn h (fun _ _ _ _ h=>?_)
 refine Z ?_
 refine Bc h (fun _ h=>?_)
 refine Z ?_
 refine A7 [2,1] h (fun _ h=>?_)
 refine Z ?_
 refine Sr.mk 2 (by kernel_rfl) ?_
 exact Y
 exact Y
 exact Y
 exact Y⟩
instance {a0:Ao}:OK (Lt a0) fun r=>As Tryz.prog 72 [Cq a0] (Cq r):=⟨fun {r} h=>by
 refine pw C0 Tryz.func72 ?_
 exact Y⟩
instance {a0:Ao}:OK (Mv a0) fun r=>As Tryz.prog 33 [Cq a0] ((O .i64) r):=⟨fun {r} h=>by
 refine pw C0 Tryz.func33 ?_
 exact Y⟩
instance {a0 a1:List Int}:OK (Tw a0 a1) fun r=>As Tryz.prog 112 [(Av 1 (O .u32)) a0,(Av 1 (O .u32)) a1] ((Av 1 (O .u32)) r):=⟨fun {r} h=>by
 refine pw {T:=Cg,an:=(fun s=>bif Nat.beq s 5 then .own else .ask),nl:=(fun s=>bif Nat.beq s 5 then [(0,1)] else bif Nat.beq s 4 then [(0,1)] else [])} Tryz.func112 ?_
 refine Z ?_
 refine A2 h (fun (v21,v22,o23)=>[(5,(.arr 0 o23.length 0 o23.length)),(6,(O .u32 v21)),(7,(O .i64 v22))]) (fun (v21,v22,o23)=>[(0,.rows 133 1 (List.map (O .u32) o23))]) ?_
 rintro ⟨v21,v22,o23⟩ _ _ _ h _ _
 refine A4 (A4 ?_)
 refine Bz h (fun v24=>[(22,(An v24))]) (fun v24=>[]) ?_ ?_
 intro _ h _ _ _
 exact Y
 rintro v24 _ h
 refine Am h (fun _ h=>?_) (fun _ h=>?_)
 refine ZS ?_
 refine B7 ?_
 refine ZS ?_
 refine B7 ?_
 refine ZO ?_
 refine Bz h (fun v26=>[(8,(O .u32 v26))]) (fun v26=>[]) ?_ ?_
 intro _ h _ _ _
 exact Y
 rintro v26 _ h
 refine ZS ?_
 refine B7 ?_
 refine ZO ?_
 refine Bz h (fun v28=>[(8,(O .u32 v28))]) (fun v28=>[]) ?_ ?_
 intro _ h _ _ _
 exact Y
 rintro v28 _ h
 exact Y
 exact Y⟩
instance {a0 a1:Ao}:OK (Ol a0 a1) fun r=>As Tryz.prog 55 [Cq a0,Cq a1] (Cq r):=⟨fun {r} h=>by
 refine pw C0 Tryz.func55 ?_
 exact Y⟩
instance {a0:Ao}:OK (Ty a0) fun r=>As Tryz.prog 130 [Cq a0] (Cq r):=⟨fun {r} h=>by
 refine pw C0 Tryz.func130 ?_
 exact Y⟩
instance {a0 a1:Ao}:OK (Tl a0 a1) fun r=>As Tryz.prog 73 [Cq a0,Cq a1] (Cq r):=⟨fun {r} h=>by
 refine pw C0 Tryz.func73 ?_
 exact Y⟩
instance {a0 a1:Ao}:OK (Td a0 a1) fun r=>As Tryz.prog 34 [Cq a0,Cq a1] ((O .i64) r):=⟨fun {r} h=>by
 refine pw C0 Tryz.func34 ?_
 exact Y⟩
instance {a0:Cf} {a1 a2:List Aq} {a3:List Ay} {a4:Ay}:OK (Xj a0 a1 a2 a3 a4) fun r=>As Tryz.prog 6 [Ko a0,(Av 5 B9) a1,(Av 5 B9) a2,(Ej 3 Ez) a3,Ev a4] (An r):=⟨fun {r} h=>by
 refine pw C0 Tryz.func6 ?_
 refine ZS ?_
 refine B7 ?_
 refine ZO ?_
 refine A4 (A4 ?_)
 refine Bz h (fun v5=>[(26,(An v5))]) (fun v5=>[]) ?_ ?_
 intro _ h _ _ _
 exact Y
 rintro v5 _ h
 refine Am h (fun _ h=>?_) (fun _ h=>?_)
 exact Y
 refine Z ?_
 refine Bc h (fun _ h=>?_)
 refine Z ?_
 refine Bc h (fun _ h=>?_)
 refine ZO ?_
 refine A4 (A4 ?_)
 refine Bz h (fun v12=>[(53,(An v12))]) (fun v12=>[]) ?_ ?_
 intro _ h _ _ _
 exact Y
 rintro v12 _ h
 exact Y⟩
end Go.Ab
