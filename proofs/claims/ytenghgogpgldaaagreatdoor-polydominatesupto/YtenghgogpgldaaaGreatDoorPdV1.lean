/- The contracts of the functions, each by its walk (made by a program). -/
import Derived.Test.YtenghgogpgldaaaGreatDoorPdV0
namespace Go.Ab
open Go Go.Proofs
set_option maxRecDepth 10000
set_option maxHeartbeats 4000000
set_option linter.unusedVariables false
instance {a0 a1:List Int}:OK (N3 a0 a1) fun r=>Aq Tryz.prog 157 [(Ar 1 (O .u32)) a0,(Ar 1 (O .u32)) a1] (.tup [(Ar 1 (O .u32)) r.1,(Ar 1 (O .u32)) r.2]):=⟨fun {r} h=>by
 refine pw {T:=Cb,an:=(fun s=>bif Nat.beq s 50 then .frz 0 else bif Nat.beq s 47 then .own else .ask),nl:=(fun s=>bif Nat.beq s 9 then [(0,1)] else bif Nat.beq s 5 then [(0,1)] else bif Nat.beq s 4 then [(0,1)] else [])} Tryz.func157 ?_
 refine Z ?_
 refine Ba h (fun _ h=>?_)
 refine Z ?_
 refine Ao h (fun _ h=>?_) (fun _ h=>?_)
 exact Y
 refine Z ?_
 refine Ao h (fun _ h=>?_) (fun _ h=>?_)
 exact Y
 refine Z ?_
 refine F2 h (fun o6 h=>?_)
 refine Z ?_
 refine F9 h (fun (v33,v34,o35)=>[(9,(.sl 1 (List.map (O .u32) v33))),(10,(O .i64 v34))]) (fun (v33,v34,o35)=>[(0,.rows 133 1 (List.map (O .u32) o35))]) (fun (v33,v34,o35)=>o6.length=o35.length) ?_
 rintro ⟨v33,v34,o35⟩ _ _ _ h _ _ q35
 refine Z ?_
 refine Ao h (fun _ h=>?_) (fun _ h=>?_)
 refine Z ?_
 refine Bz h (fun _ _ _ _ h=>?_)
 refine Z ?_
 refine Oy h (fun o38 h=>?_)
 refine Z ?_
 refine Dj h (fun v39 hcv39 h=>?_)
 refine Aee.mk _ (OK.ok hcv39 :) rfl ?_
 refine Z ?_
 refine Ba h (fun _ h=>?_)
 refine Z ?_
 refine A0 h (fun v44=>[(11,(O .u64 v44))]) (fun v44=>[]) ?_
 rintro v44 _ _ _ h _ _
 refine Z ?_
 refine Fd h (fun _ h=>?_) (fun _ h=>?_)
 refine Z ?_
 refine Ba h (fun _ h=>?_)
 refine Z ?_
 refine Ba h (fun _ h=>?_)
 refine Z ?_
 refine Ba h (fun _ h=>?_)
 refine Z ?_
 refine Ao h (fun _ h=>?_) (fun _ h=>?_)
 exact Y
 replace h:=Ce h
 refine Z ?_
 refine Ba h (fun _ h=>?_)
 refine Z ?_
 refine Ba h (fun _ h=>?_)
 refine Z ?_
 refine Ba h (fun _ h=>?_)
 refine Z ?_
 refine A0 h (fun (v54,v55)=>[(9,(.sl 1 (List.map (O .u32) v54))),(11,(O .u64 v55))]) (fun (v54,v55)=>[]) ?_
 rintro ⟨v54,v55⟩ _ _ _ h _ _
 exact Y
 replace h:=Ce h
 refine Z ?_
 refine Ba h (fun _ h=>?_)
 refine Z ?_
 refine Ba h (fun _ h=>?_)
 refine Z ?_
 refine Ba h (fun _ h=>?_)
 refine Z ?_
 refine A0 h (fun (v54,v55)=>[(9,(.sl 1 (List.map (O .u32) v54))),(11,(O .u64 v55))]) (fun (v54,v55)=>[]) ?_
 rintro ⟨v54,v55⟩ _ _ _ h _ _
 exact Y
 replace h:=Ce h
 refine Fm (Fk rfl (Ay ?_))
 refine D4 [.fz 8] ?_
 exact Y⟩
instance {a0 a1:List Int}:OK (S0 a0 a1) fun r=>Aq Tryz.prog 156 [(Ar 1 (O .u32)) a0,(Ar 1 (O .u32)) a1] ((Ar 1 (O .u32)) r):=⟨fun {r} h=>by
 refine pw {T:=Cb,an:=(fun _=>.ask),nl:=(fun s=>bif Nat.beq s 4 then [(0,1)] else [])} Tryz.func156 ?_
 refine Z ?_
 refine A0 h (fun (v2,v3)=>[(0,(.sl 1 (List.map (O .u32) v2))),(1,(.sl 1 (List.map (O .u32) v3)))]) (fun (v2,v3)=>[]) ?_
 rintro ⟨v2,v3⟩ _ _ _ h _ _
 exact Y⟩
instance {a0:Bool} {a1 a2:List Int}:OK (Iz a0 a1 a2) fun r=>Aq Tryz.prog 87 [Al a0,(Ar 1 (O .u32)) a1,(Ar 1 (O .u32)) a2] (C9 r):=⟨fun {r} h=>by
 refine pw {T:=Cb,an:=(fun _=>.ask),nl:=(fun s=>bif Nat.beq s 21 then [(1,1)] else [])} Tryz.func87 ?_
 refine Z ?_
 refine Ba h (fun _ h=>?_)
 refine Z ?_
 refine Ba h (fun _ h=>?_)
 refine ZO ?_
 refine Ay (Ay ?_)
 refine Bj h (fun v4=>[(19,(Al v4))]) (fun v4=>[]) ?_ ?_
 intro _ h _ _ _
 exact Y
 rintro v4 _ h
 refine Ao h (fun _ h=>?_) (fun _ h=>?_)
 exact Y
 refine Z ?_
 refine Ba h (fun _ h=>?_)
 refine ZO ?_
 refine Ay (Ay ?_)
 refine Bj h (fun v7=>[(33,(Al v7))]) (fun v7=>[]) ?_ ?_
 intro _ h _ _ _
 exact Y
 rintro v7 _ h
 exact Y⟩
instance {a0:Int}:OK (Nv a0) fun r=>Aq Tryz.prog 43 [(O .i64) a0] (C9 r):=⟨fun {r} h=>by
 refine pw C0 Tryz.func43 ?_
 exact Y⟩
instance  : OK (Vz) fun r=>Aq Tryz.prog 10 [] (Al r):=⟨fun {r} h=>by
 refine pw {T:=Cb,an:=(fun _=>.ask),nl:=(fun s=>bif Nat.beq s 28 then [(0,3),(1,3),(4,3)] else bif Nat.beq s 8 then [(1,2)] else bif Nat.beq s 7 then [(0,3),(1,3),(4,3)] else [])} Tryz.func10 ?_
 exact Y⟩
abbrev Agy (k:Nat):Prop:=∀{a0:Ah} {b0:Int},OK (Mh k a0 b0) fun r=>Cd Tryz.prog 131 [C8 a0,(.loc 0 0)] [.cells 3 [(O .i64 b0)]] (Al r.1) [.cells 3 [(O .i64 r.2)]]
theorem Apc (k:Nat):Agy k:=by
 induction k with
 | zero=>exact okz
 | succ k ih=>
  refine @fun a0 b0=>⟨fun {r} h=>?_⟩
  .unfold Mh at h
   refine aw C0 true Tryz.func131 ?_
   refine Z ?_
   refine Ao h (fun _ h=>?_) (fun _ h=>?_)
   exact Y
   refine Z ?_
   refine A0 h (fun (v4,v5)=>[(4,(Al false)),(5,(O .i64 v4))]) (fun (v4,v5)=>[(0,.cells 3 [(O .i64 v5)])]) ?_
   rintro ⟨v4,v5⟩ _ _ _ h _ _
   refine Z ?_
   refine Ao h (fun _ h=>?_) (fun _ h=>?_)
   refine Z ?_
   refine Bz h (fun _ _ _ _ h=>?_)
   refine Z ?_
   refine Bc [0] h (fun _ h=>?_)
   exact Y
   exact Y
instance {k:Nat}:Agy k:=(Apc k)
instance {a0:List Ax}:OK (Sj a0) fun r=>Aq Tryz.prog 74 [(Ar 3 B7) a0] (Al r):=⟨fun {r} h=>by
 refine pw C0 Tryz.func74 ?_
 refine Z ?_
 refine Ao h (fun _ h=>?_) (fun _ h=>?_)
 exact Y
 refine Z ?_
 refine A0 h (fun v37=>[(2,(Al false)),(15,(O .i64 v37))]) (fun v37=>[]) ?_
 rintro v37 _ _ _ h _ _
 refine Z ?_
 refine Ao h (fun _ h=>?_) (fun _ h=>?_)
 refine Z ?_
 refine Bz h (fun _ _ _ _ h=>?_)
 refine ZO ?_
 refine Ay (Ay ?_)
 refine Bj h (fun v40=>[(28,(Al v40))]) (fun v40=>[]) ?_ ?_
 intro _ h _ _ _
 exact Y
 rintro v40 _ h
 refine Ao h (fun _ h=>?_) (fun _ h=>?_)
 exact Y
 refine Z ?_
 refine A0 h (fun v56=>[(2,(Al false)),(32,(O .i64 v56))]) (fun v56=>[]) ?_
 rintro v56 _ _ _ h _ _
 refine Z ?_
 refine Ao h (fun _ h=>?_) (fun _ h=>?_)
 refine Z ?_
 refine Bz h (fun _ _ _ _ h=>?_)
 refine ZO ?_
 refine Ay (Ay ?_)
 refine Bj h (fun v59=>[(45,(Al v59))]) (fun v59=>[]) ?_ ?_
 intro _ h _ _ _
 exact Y
 rintro v59 _ h
 refine Ao h (fun _ h=>?_) (fun _ h=>?_)
 exact Y
 refine Z ?_
 refine A0 h (fun (v64,v65)=>[(2,(Al false)),(49,(O .i64 v64))]) (fun (v64,v65)=>[(2,.cells 3 [(O .i64 v65)])]) ?_
 rintro ⟨v64,v65⟩ _ _ _ h _ _
 refine Z ?_
 refine Ao h (fun _ h=>?_) (fun _ h=>?_)
 refine Z ?_
 refine Bz h (fun _ _ _ _ h=>?_)
 refine Z ?_
 refine Bc [2] h (fun _ h=>?_)
 exact Y
 exact Y
 exact Y
 exact Y⟩
instance {a0:Ah}:OK (P3 a0) fun r=>Aq Tryz.prog 76 [C8 a0] (Al r):=⟨fun {r} h=>by
 refine pw C0 Tryz.func76 ?_
 refine Z ?_
 refine Bc [1] h (fun _ h=>?_)
 exact Y⟩
instance {a0:List Ah} {a1:Int}:OK (Sk a0 a1) fun r=>Aq Tryz.prog 75 [(F0 3 Bd) a0,(O .i64) a1] (Al r):=⟨fun {r} h=>by
 refine pw C0 Tryz.func75 ?_
 refine Z ?_
 refine A0 h (fun v4=>[(4,(Al false)),(5,(O .i64 v4))]) (fun v4=>[]) ?_
 rintro v4 _ _ _ h _ _
 refine Ay (Ay ?_)
 refine Bj h (fun v5=>[(14,(Al v5))]) (fun v5=>[]) ?_ ?_
 intro _ h _ _ _
 exact Y
 rintro v5 _ h
 exact Y⟩
instance {a0:Cm}:OK (Se a0) fun r=>Aq Tryz.prog 35 [Gx a0] (Al r):=⟨fun {r} h=>by
 refine pw C0 Tryz.func35 ?_
 exact Y⟩
abbrev Agz (k:Nat):Prop:=∀{a0:A6} {b0:Int},OK (N1 k a0 b0) fun r=>Cd Tryz.prog 97 [Ev a0,(.loc 0 0)] [.cells 3 [(O .i64 b0)]] (Al r.1) [.cells 3 [(O .i64 r.2)]]
theorem Apd (k:Nat):Agz k:=by
 induction k with
 | zero=>exact okz
 | succ k ih=>
  refine @fun a0 b0=>⟨fun {r} h=>?_⟩
  .unfold N1 at h
   refine aw C0 true Tryz.func97 ?_
   refine Z ?_
   refine Ao h (fun _ h=>?_) (fun _ h=>?_)
   exact Y
   refine Z ?_
   refine A0 h (fun (v4,v5)=>[(4,(Al false)),(5,(O .i64 v4))]) (fun (v4,v5)=>[(0,.cells 3 [(O .i64 v5)])]) ?_
   rintro ⟨v4,v5⟩ _ _ _ h _ _
   refine Z ?_
   refine Ao h (fun _ h=>?_) (fun _ h=>?_)
   refine Z ?_
   refine Bz h (fun _ _ _ _ h=>?_)
   refine Z ?_
   refine Bc [0] h (fun _ h=>?_)
   exact Y
   exact Y
instance {k:Nat}:Agz k:=(Apd k)
instance {a0:A6}:OK (Sh a0) fun r=>Aq Tryz.prog 49 [Ev a0] (Al r):=⟨fun {r} h=>by
 refine pw C0 Tryz.func49 ?_
 refine Z ?_
 refine Bc [1] h (fun _ h=>?_)
 exact Y⟩
instance {a0:Cu}:OK (V2 a0) fun r=>Aq Tryz.prog 50 [Gk a0] (Al r):=⟨fun {r} h=>by
 refine pw C0 Tryz.func50 ?_
 exact Y⟩
instance {a0:Bb}:OK (Sb a0) fun r=>Aq Tryz.prog 20 [E3 a0] (Al r):=⟨fun {r} h=>by
 refine pw C0 Tryz.func20 ?_
 refine ZS ?_
 refine Bp ?_
 refine ZO ?_
 refine Ay (Ay ?_)
 refine Bj h (fun v2=>[(16,(Al v2))]) (fun v2=>[]) ?_ ?_
 intro _ h _ _ _
 exact Y
 rintro v2 _ h
 refine Ao h (fun _ h=>?_) (fun _ h=>?_)
 exact Y
 refine Z ?_
 refine A0 h (fun v6=>[(2,(Al false)),(20,(O .i64 v6))]) (fun v6=>[]) ?_
 rintro v6 _ _ _ h _ _
 refine Z ?_
 refine Ao h (fun _ h=>?_) (fun _ h=>?_)
 exact Y
 replace h:=Ce h
 refine Z ?_
 refine A0 h (fun v14=>[(2,(Al false)),(32,(O .i64 v14))]) (fun v14=>[]) ?_
 rintro v14 _ _ _ h _ _
 exact Y⟩
instance {a0:A5}:OK (R9 a0) fun r=>Aq Tryz.prog 11 [C9 a0] (Al r):=⟨fun {r} h=>by
 refine pw C0 Tryz.func11 ?_
 exact Y⟩
instance {a0:List Ak} {a1:Int}:OK (Sa a0 a1) fun r=>Aq Tryz.prog 19 [(Ar 5 Bl) a0,(O .i64) a1] (Al r):=⟨fun {r} h=>by
 refine pw C0 Tryz.func19 ?_
 refine Z ?_
 refine A0 h (fun v6=>[(4,(Al false)),(5,(O .i64 v6))]) (fun v6=>[]) ?_
 rintro v6 _ _ _ h _ _
 refine Ay (Ay ?_)
 refine Bj h (fun v7=>[(14,(Al v7))]) (fun v7=>[]) ?_ ?_
 intro _ h _ _ _
 exact Y
 rintro v7 _ h
 exact Y⟩
instance {a0:Cm} {a1:List (List Ak)}:OK (R7 a0 a1) fun r=>Aq Tryz.prog 7 [Gx a0,(Ar 1 (Ar 5 Bl)) a1] (Al r):=⟨fun {r} h=>by
 refine pw C0 Tryz.func7 ?_
 refine Z ?_
 refine A0 h (fun v4=>[(4,(Al false)),(9,(O .i64 v4))]) (fun v4=>[]) ?_
 rintro v4 _ _ _ h _ _
 exact Y⟩
instance {a0:Ak}:OK (Si a0) fun r=>Aq Tryz.prog 57 [Bl a0] (Al r):=⟨fun {r} h=>by
 refine pw C0 Tryz.func57 ?_
 exact Y⟩
instance {a0:List Ak}:OK (V8 a0) fun r=>Aq Tryz.prog 115 [(Ar 5 Bl) a0,(.fn 57 [])] ((O .i64) r):=⟨fun {r} h=>by
 refine pw C0 Tryz.func115 ?_
 refine Z ?_
 refine A0 h (fun v3=>[(4,(O .i64 0)),(8,(O .i64 v3))]) (fun v3=>[]) ?_
 rintro v3 _ _ _ h _ _
 exact Y⟩
instance {a0:List Ak}:OK (V4 a0) fun r=>Aq Tryz.prog 56 [(Ar 5 Bl) a0,(.fn 57 [])] (Al r):=⟨fun {r} h=>by
 refine pw C0 Tryz.func56 ?_
 exact Y⟩
instance {a0:List Ak}:OK (Sc a0) fun r=>Aq Tryz.prog 24 [(Ar 5 Bl) a0] (Al r):=⟨fun {r} h=>by
 refine pw C0 Tryz.func24 ?_
 exact Y⟩
instance {a0:List Ak} {a1:A5}:OK (Sf a0 a1) fun r=>Aq Tryz.prog 39 [(Ar 5 Bl) a0,C9 a1] ((Ar 5 Bl) r):=⟨fun {r} h=>by
 refine pw {T:=Cb,an:=(fun s=>bif Nat.beq s 5 then .own else .ask),nl:=(fun s=>bif Nat.beq s 5 then [(0,5)] else bif Nat.beq s 4 then [(0,5)] else [])} Tryz.func39 ?_
 refine Z ?_
 refine A0 h (fun (v13,o14)=>[(5,(.arr 1 o14.length 0 o14.length)),(10,(O .i64 v13))]) (fun (v13,o14)=>[(1,.rows 84 5 (List.map Bl o14))]) ?_
 rintro ⟨v13,o14⟩ _ _ _ h _ _
 exact Y⟩
instance {a0:Cm} {a1 a2:List Ak}:OK (Nu a0 a1 a2) fun r=>Aq Tryz.prog 8 [Gx a0,(Ar 5 Bl) a1,(Ar 5 Bl) a2] (Al r):=⟨fun {r} h=>by
 refine pw C0 Tryz.func8 ?_
 refine ZS ?_
 refine Bp ?_
 refine ZO ?_
 refine Ay (Ay ?_)
 refine Bj h (fun v9=>[(8,(Al v9))]) (fun v9=>[]) ?_ ?_
 intro _ h _ _ _
 refine Z ?_
 refine Dj h (fun v2 hcv2 h=>?_)
 rcases v2 with v3 | v8
 refine Fz.act [] _ _ _ _ (Abf (a0:=a0) (a1:=[a1,a2]) hcv2) rfl rfl trivial ?_
 exact Y
 refine Fz.act [] _ _ _ _ (Abg (a0:=a0) (a1:=[a1,a2]) hcv2) rfl rfl trivial ?_
 exact Y
 rintro v9 _ h
 refine Z ?_
 refine Ao h (fun _ h=>?_) (fun _ h=>?_)
 exact Y
 refine Z ?_
 refine Bc [] h (fun _ h=>?_)
 refine Z ?_
 refine Bc [2,1,3] h (fun _ h=>?_)
 refine Z ?_
 refine Ba h (fun _ h=>?_)
 refine Z ?_
 refine Ba h (fun _ h=>?_)
 refine Z ?_
 refine Bc [2,1,3] h (fun _ h=>?_)
 refine ZO ?_
 refine Ay ?_
 refine D4 [.fzc 20 1] ?_
 exact Y⟩
instance {a0:A5}:OK (Iy a0) fun r=>Aq Tryz.prog 72 [C9 a0] (C9 r):=⟨fun {r} h=>by
 refine pw C0 Tryz.func72 ?_
 exact Y⟩
instance {a0:A5}:OK (K7 a0) fun r=>Aq Tryz.prog 33 [C9 a0] ((O .i64) r):=⟨fun {r} h=>by
 refine pw C0 Tryz.func33 ?_
 exact Y⟩
instance {a0:List Ak}:OK (Sd a0) fun r=>Aq Tryz.prog 25 [(Ar 5 Bl) a0] (Al r):=⟨fun {r} h=>by
 refine pw C0 Tryz.func25 ?_
 refine Z ?_
 refine A0 h (fun v4=>[(2,(Al false)),(7,(O .i64 v4))]) (fun v4=>[]) ?_
 rintro v4 _ _ _ h _ _
 exact Y⟩
abbrev Ag0 (k:Nat):Prop:=∀{a0:Ah},OK (Lj k a0) fun r=>Aq Tryz.prog 224 [C8 a0] ((O .i64) r)
theorem Ape (k:Nat):Ag0 k:=by
 induction k with
 | zero=>exact okz
 | succ k ih=>
  refine @fun a0=>⟨fun {r} h=>?_⟩
  .unfold Lj at h
   refine pw C0 Tryz.func224 ?_
   refine Z ?_
   refine A0 h (fun (v4,v5)=>[(3,(O .i64 v4)),(4,(O .i64 v5))]) (fun (v4,v5)=>[]) ?_
   rintro ⟨v4,v5⟩ _ _ _ h _ _
   exact Y
instance {k:Nat}:Ag0 k:=(Ape k)
abbrev Ag1 (k:Nat):Prop:=∀{a0:List Ax} {a1:Ah} {a2:Int},OK (Mm k a0 a1 a2) fun r=>Aq Tryz.prog 225 [(Ar 3 B7) a0,C8 a1,(O .i64) a2] (Al r)
theorem Apf (k:Nat):Ag1 k:=by
 induction k with
 | zero=>exact okz
 | succ k ih=>
  refine @fun a0 a1 a2=>⟨fun {r} h=>?_⟩
  .unfold Mm at h
   refine pw C0 Tryz.func225 ?_
   refine ZS ?_
   refine Bp ?_
   refine ZS ?_
   refine Bp ?_
   refine ZS ?_
   refine Bp ?_
   refine ZO ?_
   refine Wz (fun (x:Unit)=>(.inr x)) h (fun _=>[(6,(Al false))]) (fun _=>[]) ?_ ?_
   intro _ h _ _ _
   refine ZS ?_
   refine Bp ?_
   refine ZO ?_
   refine Bj h (fun v2=>[(14,(Al v2))]) (fun v2=>[]) ?_ ?_
   intro _ h _ _ _
   exact Y
   rintro v2 _ h
   refine Ao h (fun _ h=>?_) (fun _ h=>?_)
   exact Y
   refine Z ?_
   refine Ao h (fun _ h=>?_) (fun _ h=>?_)
   exact Y
   refine Z ?_
   refine Ao h (fun _ h=>?_) (fun _ h=>?_)
   exact Y
   refine Z ?_
   refine Ao h (fun _ h=>?_) (fun _ h=>?_)
   exact Y
   refine ZS ?_
   refine Bp ?_
   refine ZO ?_
   refine Bj h (fun v4=>[(75,(Al v4))]) (fun v4=>[]) ?_ ?_
   intro _ h _ _ _
   exact Y
   rintro v4 _ h
   exact Y
   rintro _ _ h
   refine Z ?_
   refine A0 h (fun v8=>[(6,(Al false)),(8,(O .i64 v8))]) (fun v8=>[]) ?_
   rintro v8 _ _ _ h _ _
   exact Y
instance {k:Nat}:Ag1 k:=(Apf k)
instance {a0:List Ax} {a1:Ah} {a2:Int}:OK (Li a0 a1 a2) fun r=>Aq Tryz.prog 151 [(Ar 3 B7) a0,C8 a1,(O .i64) a2] (Al r):=⟨fun {r} h=>by
 refine pw C0 Tryz.func151 ?_
 exact Y⟩
instance {a0:Ah} {a1 a2:Int}:OK (Ml a0 a1 a2) fun r=>Aq Tryz.prog 222 [C8 a0,(O .i64) a1,(O .i64) a2] (Al r):=⟨fun {r} h=>by
 refine pw C0 Tryz.func222 ?_
 refine ZS ?_
 refine Bp ?_
 refine ZO ?_
 refine Ay (Ay ?_)
 refine Bj h (fun v2=>[(23,(Al v2))]) (fun v2=>[]) ?_ ?_
 intro _ h _ _ _
 exact Y
 rintro v2 _ h
 refine Ao h (fun _ h=>?_) (fun _ h=>?_)
 exact Y
 refine Z ?_
 refine A0 h (fun v6=>[(6,(Al false)),(7,(O .i64 v6))]) (fun v6=>[]) ?_
 rintro v6 _ _ _ h _ _
 exact Y⟩
instance {a0:List ByteArray}:OK (Qc a0) fun r=>Aq Tryz.prog 223 [(Ar 1 C7) a0] (Al r):=⟨fun {r} h=>by
 refine pw C0 Tryz.func223 ?_
 refine Z ?_
 refine A0 h (fun v1=>[(2,(Al false)),(3,(O .i64 v1))]) (fun v1=>[]) ?_
 rintro v1 _ _ _ h _ _
 refine Z ?_
 refine Ao h (fun _ h=>?_) (fun _ h=>?_)
 refine Z ?_
 refine A0 h (fun v4=>[(2,(Al false)),(4,(O .i64 v4))]) (fun v4=>[]) ?_
 rintro v4 _ _ _ h _ _
 exact Y
 exact Y⟩
instance {a0:ByteArray}:OK (Wo a0) fun r=>Aq Tryz.prog 323 [C7 a0] (Al r):=⟨fun {r} h=>by
 refine pw C0 Tryz.func323 ?_
 refine Z ?_
 refine A0 h (fun v2=>[(2,(Al false)),(4,(O .i64 v2))]) (fun v2=>[]) ?_
 rintro v2 _ _ _ h _ _
 refine Z ?_
 refine Afe (f:=C7) (l:=[(ByteArray.mk #[97,114,114,97,121]),(ByteArray.mk #[98,111,111,108]),(ByteArray.mk #[99,97,116,99,104]),(ByteArray.mk #[100,97,116,97]),(ByteArray.mk #[101,108,115,101]),(ByteArray.mk #[101,110,100]),(ByteArray.mk #[102,97,108,115,101]),(ByteArray.mk #[102,110]),(ByteArray.mk #[102,117,110]),(ByteArray.mk #[103,101,116]),(ByteArray.mk #[105,102]),(ByteArray.mk #[105,110]),(ByteArray.mk #[105,110,116]),(ByteArray.mk #[108,101,110]),(ByteArray.mk #[108,101,116]),(ByteArray.mk #[109,97,116,99,104]),(ByteArray.mk #[110,101,119]),(ByteArray.mk #[114,97,105,115,101]),(ByteArray.mk #[114,101,97,100]),(ByteArray.mk #[114,101,102]),(ByteArray.mk #[115,101,116]),(ByteArray.mk #[116,104,101,110]),(ByteArray.mk #[116,105,99,107]),(ByteArray.mk #[116,114,117,101]),(ByteArray.mk #[116,114,121]),(ByteArray.mk #[117,110,105,116]),(ByteArray.mk #[119,105,116,104]),(ByteArray.mk #[119,114,105,116,101])]) rfl ?_
 refine Z ?_
 refine Ao h (fun _ h=>?_) (fun _ h=>?_)
 refine Z ?_
 refine Ae6 (f:=C7) rfl h (fun nv3 v3 hiv3 hxv3 h=>?_)
 exact Y
 exact Y⟩
instance {a0:ByteArray}:OK (Tn a0) fun r=>Aq Tryz.prog 324 [C7 a0] (.tup [(O .i64) r.1,Al r.2]):=⟨fun {r} h=>by
 refine pw C0 Tryz.func324 ?_
 refine Z ?_
 refine A0 h (fun (v2,v3)=>[(2,(O .i64 0)),(3,(Al false)),(4,(O .i64 v2)),(5,(O .i64 v3))]) (fun (v2,v3)=>[]) ?_
 rintro ⟨v2,v3⟩ _ _ _ h _ _
 exact Y⟩
instance {a0:Int}:OK (Qm a0) fun r=>Aq Tryz.prog 322 [(O .u8) a0] (Al r):=⟨fun {r} h=>by
 refine pw C0 Tryz.func322 ?_
 exact Y⟩
instance {a0:Int}:OK (Tm a0) fun r=>Aq Tryz.prog 320 [(O .u8) a0] (Al r):=⟨fun {r} h=>by
 refine pw C0 Tryz.func320 ?_
 exact Y⟩
instance {a0:ByteArray}:OK (To a0) fun r=>Aq Tryz.prog 325 [C7 a0] ((O .i64) r):=⟨fun {r} h=>by
 refine pw C0 Tryz.func325 ?_
 refine ZS ?_
 refine Bp ?_
 refine ZO ?_
 refine Ay (Ay ?_)
 refine Bj h (fun v4=>[(22,(Al v4))]) (fun v4=>[]) ?_ ?_
 intro _ h _ _ _
 exact Y
 rintro v4 _ h
 refine Ao h (fun _ h=>?_) (fun _ h=>?_)
 exact Y
 refine Z ?_
 refine A0 h (fun v7=>[(2,(O .i64 0)),(4,(O .i64 v7))]) (fun v7=>[]) ?_
 rintro v7 _ _ _ h _ _
 exact Y⟩
instance {a0:Int}:OK (Ql a0) fun r=>Aq Tryz.prog 321 [(O .u8) a0] (Al r):=⟨fun {r} h=>by
 refine pw C0 Tryz.func321 ?_
 exact Y⟩
instance {a0:ByteArray}:OK (Wn a0) fun r=>Aq Tryz.prog 294 [C7 a0] (.tup [(Ar 3 Abc) r.1,(O .i64) r.2.1,(O .i64) r.2.2]):=⟨fun {r} h=>by
 refine pw {T:=Cb,an:=(fun s=>bif Nat.beq s 5 then .own else .ask),nl:=(fun s=>bif Nat.beq s 5 then [(0,3)] else bif Nat.beq s 2 then [(0,3)] else [])} Tryz.func294 ?_
 refine Z ?_
 refine Ao h (fun _ h=>?_) (fun _ h=>?_)
 exact Y
 refine Z ?_
 refine A0 h (fun (v49,o50)=>[(2,(.sl 3 (List.map Abc []))),(3,(O .i64 0)),(4,(O .i64 0)),(5,(.arr 0 o50.length 0 o50.length)),(6,(O .i64 v49))]) (fun (v49,o50)=>[(0,.rows 335 3 (List.map Abc o50))]) ?_
 rintro ⟨v49,o50⟩ _ _ _ h _ _
 refine Z ?_
 refine Ao h (fun _ h=>?_) (fun _ h=>?_)
 refine Z ?_
 refine Jt h (fun _ h=>?_)
 refine ZO ?_
 refine Ay (Ay ?_)
 refine Bj h (fun v52=>[(35,(Al v52))]) (fun v52=>[]) ?_ ?_
 intro _ h _ _ _
 exact Y
 rintro v52 _ h
 refine Ao h (fun _ h=>?_) (fun _ h=>?_)
 exact Y
 refine Z ?_
 refine Ao h (fun _ h=>?_) (fun _ h=>?_)
 refine Z ?_
 refine A0 h (fun v54=>[(6,(O .i64 v54))]) (fun v54=>[]) ?_
 rintro v54 _ _ _ h _ _
 exact Y
 refine ZS ?_
 refine Bp ?_
 refine ZO ?_
 refine Ay (Ju (Ay ?_))
 refine Bj h (fun v59=>[(70,(Al v59))]) (fun v59=>[]) ?_ ?_
 intro _ h _ _ _
 exact Y
 rintro v59 _ h
 refine Ao h (fun _ h=>?_) (fun _ h=>?_)
 refine Z ?_
 refine A0 h (fun v67=>[(8,(O .i64 v67))]) (fun v67=>[]) ?_
 rintro v67 _ _ _ h _ _
 refine Z ?_
 refine Fd h (fun _ h=>?_) (fun _ h=>?_)
 refine Z ?_
 refine Jt h (fun _ h=>?_)
 refine Z ?_
 refine Ba h (fun _ h=>?_)
 refine Z ?_
 refine Fd h (fun _ h=>?_) (fun _ h=>?_)
 exact Y
 refine Z ?_
 refine Jt h (fun _ h=>?_)
 refine Z ?_
 refine Ba h (fun _ h=>?_)
 refine Z ?_
 refine Fd h (fun _ h=>?_) (fun _ h=>?_)
 exact Y
 refine Z ?_
 refine Jt h (fun _ h=>?_)
 refine Z ?_
 refine Ba h (fun _ h=>?_)
 refine Z ?_
 refine Fd h (fun _ h=>?_) (fun _ h=>?_)
 exact Y
 refine Z ?_
 refine Jt h (fun _ h=>?_)
 refine Z ?_
 refine Ao h (fun _ h=>?_) (fun _ h=>?_)
 exact Y
 replace h:=Ce h
 refine Z ?_
 refine Ao h (fun _ h=>?_) (fun _ h=>?_)
 exact Y
 refine Z ?_
 refine Ba h (fun _ h=>?_)
 refine ZO ?_
 refine Bj h (fun v79=>[(9,(O .i64 v79))]) (fun v79=>[]) ?_ ?_
 intro _ h _ _ _
 exact Y
 rintro v79 _ h
 exact Y
 replace h:=Ce h
 refine Z ?_
 refine Ao h (fun _ h=>?_) (fun _ h=>?_)
 exact Y
 refine Z ?_
 refine Ba h (fun _ h=>?_)
 refine ZO ?_
 refine Bj h (fun v79=>[(9,(O .i64 v79))]) (fun v79=>[]) ?_ ?_
 intro _ h _ _ _
 exact Y
 rintro v79 _ h
 exact Y
 refine Z ?_
 refine Ba h (fun _ h=>?_)
 refine Z ?_
 refine Ao h (fun _ h=>?_) (fun _ h=>?_)
 refine Z ?_
 refine A0 h (fun v85=>[(8,(O .i64 v85))]) (fun v85=>[]) ?_
 rintro v85 _ _ _ h _ _
 refine Z ?_
 refine Fd h (fun _ h=>?_) (fun _ h=>?_)
 refine Z ?_
 refine Jt h (fun _ h=>?_)
 refine Z ?_
 refine Ba h (fun _ h=>?_)
 refine Z ?_
 refine Ao h (fun _ h=>?_) (fun _ h=>?_)
 exact Y
 replace h:=Ce h
 refine Fm (Fk rfl (Ay (Ay ?_)))
 refine Bj h (fun v89=>[(165,(Al v89))]) (fun v89=>[]) ?_ ?_
 intro _ h _ _ _
 exact Y
 rintro v89 _ h
 exact Y
 replace h:=Ce h
 refine ZO ?_
 refine R6 (Fm (Fk rfl (Ay (Ay ?_))))
 refine Bj h (fun v89=>[(165,(Al v89))]) (fun v89=>[]) ?_ ?_
 intro _ h _ _ _
 exact Y
 rintro v89 _ h
 exact Y
 exact Y
 exact Y⟩
instance {a0:ByteArray}:OK (Oc a0) fun r=>Aq Tryz.prog 221 [C7 a0] (Al r):=⟨fun {r} h=>by
 refine pw C0 Tryz.func221 ?_
 exact Y⟩
instance {a0:List Ax}:OK (Sw a0) fun r=>Aq Tryz.prog 150 [(Ar 3 B7) a0] (Al r):=⟨fun {r} h=>by
 refine pw {T:=Cb,an:=(fun s=>bif Nat.beq s 4 then .own else bif Nat.beq s 3 then .own else .ask),nl:=(fun s=>bif Nat.beq s 4 then [(0,1)] else bif Nat.beq s 3 then [(0,1)] else [])} Tryz.func150 ?_
 refine Z ?_
 refine Ao h (fun _ h=>?_) (fun _ h=>?_)
 exact Y
 refine Z ?_
 refine A0 h (fun (v150,o151,o152)=>[(2,(Al false)),(3,(.arr 0 o151.length 0 o151.length)),(4,(.arr 1 o152.length 0 o152.length)),(5,(O .i64 v150))]) (fun (v150,o151,o152)=>[(0,.rows 9 1 (List.map C7 o151)),(1,.rows 9 1 (List.map C7 o152))]) ?_
 rintro ⟨v150,o151,o152⟩ _ _ _ h _ _
 refine Z ?_
 refine Ao h (fun _ h=>?_) (fun _ h=>?_)
 refine Z ?_
 refine Bz h (fun _ _ _ _ h=>?_)
 refine ZO ?_
 refine Ay (Ay ?_)
 refine Bj h (fun v156=>[(48,(Al v156))]) (fun v156=>[]) ?_ ?_
 intro _ h _ _ _
 exact Y
 rintro v156 _ h
 refine Ao h (fun _ h=>?_) (fun _ h=>?_)
 exact Y
 refine Z ?_
 refine Oy h (fun _ h=>?_)
 refine Z ?_
 refine A0 h (fun (v200,o201)=>[(2,(Al false)),(4,(.arr 1 o201.length 0 o201.length)),(7,(O .i64 v200))]) (fun (v200,o201)=>[(1,.rows 9 1 (List.map C7 o201))]) ?_
 rintro ⟨v200,o201⟩ _ _ _ h _ _
 refine Z ?_
 refine Ao h (fun _ h=>?_) (fun _ h=>?_)
 refine Ix (Ay (Ju (Ay (Ay ?_))))
 refine Bj h (fun v205=>[(78,(Al v205))]) (fun v205=>[]) ?_ ?_
 intro _ h _ _ _
 exact Y
 rintro v205 _ h
 refine Ao h (fun _ h=>?_) (fun _ h=>?_)
 exact Y
 refine Z ?_
 refine Bz h (fun _ _ _ _ h=>?_)
 refine Z ?_
 refine Oy h (fun _ h=>?_)
 refine Z ?_
 refine Bz h (fun _ _ _ _ h=>?_)
 refine Z ?_
 refine A0 h (fun v214=>[(2,(Al false)),(95,(O .i64 v214))]) (fun v214=>[]) ?_
 rintro v214 _ _ _ h _ _
 exact Y
 exact Y
 replace h:=Ce h
 refine Fm (Fk rfl (Ay ?_))
 refine D4 [.fz 3,.fz 4] ?_
 exact Y⟩
instance {a0:Cm}:OK (So a0) fun r=>Aq Tryz.prog 83 [Gx a0] (Al r):=⟨fun {r} h=>by
 refine pw C0 Tryz.func83 ?_
 refine ZS ?_
 refine Bp ?_
 refine ZO ?_
 refine Ay (Ay ?_)
 refine Bj h (fun v4=>[(22,(Al v4))]) (fun v4=>[]) ?_ ?_
 intro _ h _ _ _
 exact Y
 rintro v4 _ h
 refine Ao h (fun _ h=>?_) (fun _ h=>?_)
 exact Y
 refine Z ?_
 refine A0 h (fun v8=>[(2,(Al false)),(26,(O .i64 v8))]) (fun v8=>[]) ?_
 rintro v8 _ _ _ h _ _
 exact Y⟩
instance {a0 a1:A5}:OK (Sy a0 a1) fun r=>Aq Tryz.prog 153 [C9 a0,C9 a1] (Al r):=⟨fun {r} h=>by
 refine pw C0 Tryz.func153 ?_
 refine ZS ?_
 refine Bp ?_
 refine ZO ?_
 refine Ay (Ay ?_)
 refine Bj h (fun v3=>[(29,(Al v3))]) (fun v3=>[]) ?_ ?_
 intro _ h _ _ _
 exact Y
 rintro v3 _ h
 refine Ao h (fun _ h=>?_) (fun _ h=>?_)
 exact Y
 refine Z ?_
 refine A0 h (fun v6=>[(4,(Al false)),(5,(O .i64 v6))]) (fun v6=>[]) ?_
 rintro v6 _ _ _ h _ _
 refine Z ?_
 refine Ao h (fun _ h=>?_) (fun _ h=>?_)
 exact Y
 replace h:=Ce h
 refine Z ?_
 refine A0 h (fun v12=>[(4,(Al false)),(6,(O .i64 v12))]) (fun v12=>[]) ?_
 rintro v12 _ _ _ h _ _
 exact Y⟩
instance {a0:Bool}:OK (Qb a0) fun r=>Aq Tryz.prog 176 [Al a0] ((O .i64) r):=⟨fun {r} h=>by
 refine pw C0 Tryz.func176 ?_
 exact Y⟩
abbrev Ag2 (k:Nat):Prop:=∀{a0 a1:A6},OK (Md k a0 a1) fun r=>Aq Tryz.prog 109 [Ev a0,Ev a1] ((O .i64) r)
abbrev Ag3 (k:Nat):Prop:=∀{a0 a1:List A6},OK (S9 k a0 a1) fun r=>Aq Tryz.prog 177 [(F0 2 G4) a0,(F0 2 G4) a1] ((O .i64) r)
theorem Ag4 (k:Nat):Ag2 k/\Ag3 k:=by
 induction k with
 | zero=>exact ⟨okz,okz⟩
 | succ k ih=>
  obtain ⟨i0_,i1_⟩:=ih
  refine ⟨@fun a0 a1=>⟨fun {r} h=>?_⟩,@fun a0 a1=>⟨fun {r} h=>?_⟩⟩
  .unfold Md at h
   refine pw C0 Tryz.func109 ?_
   exact Y
  .unfold S9 at h
   refine pw C0 Tryz.func177 ?_
   refine Z ?_
   refine Ao h (fun _ h=>?_) (fun _ h=>?_)
   exact Y
   refine Z ?_
   refine A0 h (fun v5=>[(4,(O .i64 0)),(20,(O .i64 v5))]) (fun v5=>[]) ?_
   rintro v5 _ _ _ h _ _
   exact Y
instance {k:Nat}:Ag2 k:=(Ag4 k).1
instance {k:Nat}:Ag3 k:=(Ag4 k).2
instance {a0:Bool}:OK (N6 a0) fun r=>Aq Tryz.prog 178 [Al a0] ((O .i64) r):=⟨fun {r} h=>by
 refine pw C0 Tryz.func178 ?_
 exact Y⟩
instance {a0 a1:Cu}:OK (Ld a0 a1) fun r=>Aq Tryz.prog 110 [Gk a0,Gk a1] ((O .i64) r):=⟨fun {r} h=>by
 refine pw C0 Tryz.func110 ?_
 refine Z ?_
 refine Ao h (fun _ h=>?_) (fun _ h=>?_)
 exact Y
 refine Z ?_
 refine A0 h (fun v14=>[(4,(O .i64 0)),(24,(O .i64 v14))]) (fun v14=>[]) ?_
 rintro v14 _ _ _ h _ _
 exact Y⟩
instance {a0:Bool}:OK (N2 a0) fun r=>Aq Tryz.prog 108 [Al a0] ((O .i64) r):=⟨fun {r} h=>by
 refine pw C0 Tryz.func108 ?_
 exact Y⟩
instance {a0 a1:Bb}:OK (Jv a0 a1) fun r=>Aq Tryz.prog 54 [E3 a0,E3 a1] ((O .i64) r):=⟨fun {r} h=>by
 refine pw C0 Tryz.func54 ?_
 refine Z ?_
 refine Ao h (fun _ h=>?_) (fun _ h=>?_)
 exact Y
 refine Z ?_
 refine A0 h (fun v12=>[(4,(O .i64 0)),(27,(O .i64 v12))]) (fun v12=>[]) ?_
 rintro v12 _ _ _ h _ _
 refine Z ?_
 refine Ao h (fun _ h=>?_) (fun _ h=>?_)
 exact Y
 replace h:=Ce h
 refine Z ?_
 refine Ao h (fun _ h=>?_) (fun _ h=>?_)
 exact Y
 refine Z ?_
 refine A0 h (fun v31=>[(4,(O .i64 0)),(92,(O .i64 v31))]) (fun v31=>[]) ?_
 rintro v31 _ _ _ h _ _
 exact Y⟩
instance {a0:List Ax} {a1 a2:Int}:OK (Qs a0 a1 a2) fun r=>Aq Tryz.prog 381 [(Ar 3 B7) a0,(O .i64) a1,(O .i64) a2] ((Ar 1 Al) r):=⟨fun {r} h=>by
 refine pw {T:=Cb,an:=(fun s=>bif Nat.beq s 7 then .own else .ask),nl:=(fun s=>bif Nat.beq s 7 then [(0,1)] else bif Nat.beq s 6 then [(0,1)] else [])} Tryz.func381 ?_
 refine ZS ?_
 refine Bp ?_
 refine ZO ?_
 refine Ay (Ay ?_)
 refine Bj h (fun v2=>[(31,(Al v2))]) (fun v2=>[]) ?_ ?_
 intro _ h _ _ _
 exact Y
 rintro v2 _ h
 refine Ao h (fun _ h=>?_) (fun _ h=>?_)
 exact Y
 refine Z ?_
 refine Bz h (fun _ _ _ _ h=>?_)
 refine Z ?_
 refine Bz h (fun _ _ _ _ h=>?_)
 refine Z ?_
 refine A0 h (fun (v18,o19)=>[(7,(.arr 0 o19.length 0 o19.length)),(42,(O .i64 v18))]) (fun (v18,o19)=>[(0,.rows 4 1 (List.map Al o19))]) ?_
 rintro ⟨v18,o19⟩ _ _ _ h _ _
 exact Y⟩
abbrev Ag5 (k:Nat):Prop:=∀{a0:Ah},OK (Ou k a0) fun r=>Aq Tryz.prog 392 [C8 a0] (C8 r)
theorem Apg (k:Nat):Ag5 k:=by
 induction k with
 | zero=>exact okz
 | succ k ih=>
  refine @fun a0=>⟨fun {r} h=>?_⟩
  .unfold Ou at h
   refine pw {T:=Cb,an:=(fun _=>.ask),nl:=(fun s=>bif Nat.beq s 18 then [(0,3)] else [])} Tryz.func392 ?_
   refine ZS ?_
   refine Bp ?_
   refine ZS ?_
   refine Bp ?_
   refine ZO ?_
   refine Ay (Ay ?_)
   refine D4 [.own 3 2 25 3] ?_
   refine Z ?_
   refine A0 h (fun (v13,o14)=>[(4,(O .i64 v13))]) (fun (v13,o14)=>[(2,.cells 25 [(O .i64 a0.Kind),(O .i64 a0.Num),(.arr 3 o14.length 0 o14.length)]),(3,.rows 25 3 (Bd o14))]) ?_
   rintro ⟨v13,o14⟩ _ _ _ h _ _
   exact Y
instance {k:Nat}:Ag5 k:=(Apg k)
abbrev Ag6 (k:Nat):Prop:=∀{a0:Ah} {a1:List Ah},OK (Ms k a0 a1) fun r=>Aq Tryz.prog 380 [C8 a0,(F0 3 Bd) a1] (C8 r)
theorem Aph (k:Nat):Ag6 k:=by
 induction k with
 | zero=>exact okz
 | succ k ih=>
  refine @fun a0 a1=>⟨fun {r} h=>?_⟩
  .unfold Ms at h
   refine pw {T:=Cb,an:=(fun _=>.ask),nl:=(fun s=>bif Nat.beq s 41 then [(0,3)] else [])} Tryz.func380 ?_
   refine ZS ?_
   refine Bp ?_
   refine ZO ?_
   refine Ay (Ay ?_)
   refine Bj h (fun v3=>[(21,(Al v3))]) (fun v3=>[]) ?_ ?_
   intro _ h _ _ _
   exact Y
   rintro v3 _ h
   refine Ao h (fun _ h=>?_) (fun _ h=>?_)
   exact Y
   refine ZS ?_
   refine Bp ?_
   refine ZO ?_
   refine Ay (Ay ?_)
   refine D4 [.own 5 2 25 3] ?_
   refine Z ?_
   refine A0 h (fun (v16,o17)=>[(6,(O .i64 v16))]) (fun (v16,o17)=>[(2,.cells 25 [(O .i64 a0.Kind),(O .i64 a0.Num),(.arr 3 o17.length 0 o17.length)]),(3,.rows 25 3 (Bd o17))]) ?_
   rintro ⟨v16,o17⟩ _ _ _ h _ _
   exact Y
instance {k:Nat}:Ag6 k:=(Aph k)
instance {a0:List Ax} {a1:Ah} {a2:Int}:OK (Ot a0 a1 a2) fun r=>Aq Tryz.prog 360 [(Ar 3 B7) a0,C8 a1,(O .i64) a2] (.tup [(F0 3 Bd) r.1,Al r.2]):=⟨fun {r} h=>by
 refine pw {T:=Cb,an:=(fun s=>bif Nat.beq s 8 then .own else .ask),nl:=(fun s=>bif Nat.beq s 8 then [(0,3)] else bif Nat.beq s 6 then [(0,3)] else [])} Tryz.func360 ?_
 refine ZS ?_
 refine Bp ?_
 refine ZO ?_
 refine Ay (Ay ?_)
 refine Bj h (fun v4=>[(53,(Al v4))]) (fun v4=>[]) ?_ ?_
 intro _ h _ _ _
 exact Y
 rintro v4 _ h
 refine Ao h (fun _ h=>?_) (fun _ h=>?_)
 exact Y
 refine Z ?_
 refine Bz h (fun _ _ _ _ h=>?_)
 refine Z ?_
 refine Bz h (fun _ _ _ _ h=>?_)
 refine Z ?_
 refine A0 h (fun (v22,o23)=>[(6,(.sl 3 (Bd []))),(7,(Al false)),(8,(.arr 1 o23.length 0 o23.length)),(65,(O .i64 v22))]) (fun (v22,o23)=>[(1,.rows 25 3 (Bd o23))]) ?_
 rintro ⟨v22,o23⟩ _ _ _ h _ _
 exact Y⟩
end Go.Ab
namespace Go.Ab
open Go Go.Proofs
set_option maxRecDepth 10000
set_option maxHeartbeats 4000000
set_option linter.unusedVariables false
instance {a0:List Ax} {a1:Ah} {a2:Int}:OK (Tu a0 a1 a2) fun r=>Aq Tryz.prog 361 [(Ar 3 B7) a0,C8 a1,(O .i64) a2] (.tup [(Ar 1 (O .i64)) r.1,(Ar 1 (O .i64)) r.2.1,Al r.2.2]):=⟨fun {r} h=>by
 refine pw {T:=Cb,an:=(fun s=>bif Nat.beq s 12 then .own else bif Nat.beq s 11 then .own else .ask),nl:=(fun s=>bif Nat.beq s 12 then [(0,1)] else bif Nat.beq s 11 then [(0,1)] else bif Nat.beq s 7 then [(0,1)] else bif Nat.beq s 6 then [(0,1)] else [])} Tryz.func361 ?_
 refine Z ?_
 refine Ba h (fun _ h=>?_)
 refine Z ?_
 refine Ao h (fun _ h=>?_) (fun _ h=>?_)
 exact Y
 refine Z ?_
 refine Ba h (fun _ h=>?_)
 refine Z ?_
 refine A0 h (fun (v15,o16,o17)=>[(11,(.arr 1 o16.length 0 o16.length)),(12,(.arr 2 o17.length 0 o17.length)),(30,(O .i64 v15))]) (fun (v15,o16,o17)=>[(1,.rows 3 1 (List.map (O .i64) o16)),(2,.rows 3 1 (List.map (O .i64) o17))]) ?_
 rintro ⟨v15,o16,o17⟩ _ _ _ h _ _
 exact Y⟩
instance {a0:List Ax} {a1:Ah} {a2:Int}:OK (Qo a0 a1 a2) fun r=>Aq Tryz.prog 327 [(Ar 3 B7) a0,C8 a1,(O .i64) a2] (.tup [(F0 3 Bd) r.1,Al r.2]):=⟨fun {r} h=>by
 refine pw {T:=Cb,an:=(fun s=>bif Nat.beq s 13 then .own else .ask),nl:=(fun s=>bif Nat.beq s 13 then [(0,3)] else bif Nat.beq s 6 then [(0,3)] else [])} Tryz.func327 ?_
 refine Z ?_
 refine Ba h (fun _ h=>?_)
 refine Z ?_
 refine Ao h (fun _ h=>?_) (fun _ h=>?_)
 exact Y
 refine Z ?_
 refine Ba h (fun _ h=>?_)
 refine Z ?_
 refine A0 h (fun (v13,o14)=>[(13,(.arr 1 o14.length 0 o14.length)),(35,(O .i64 v13))]) (fun (v13,o14)=>[(1,.rows 25 3 (Bd o14))]) ?_
 rintro ⟨v13,o14⟩ _ _ _ h _ _
 exact Y⟩
abbrev Ag7 (k:Nat):Prop:=∀{a0:List Ax} {a1:Ah} {a2:A6},OK (Mp k a0 a1 a2) fun r=>Aq Tryz.prog 295 [(Ar 3 B7) a0,C8 a1,Ev a2] ((O .i64) r)
abbrev Ag8 (k:Nat):Prop:=∀{a0:List Ax} {a1:List Ah} {a2:List A6},OK (Mq k a0 a1 a2) fun r=>Aq Tryz.prog 326 [(Ar 3 B7) a0,(F0 3 Bd) a1,(F0 2 G4) a2] ((O .i64) r)
theorem Ag9 (k:Nat):Ag7 k/\Ag8 k:=by
 induction k with
 | zero=>exact ⟨okz,okz⟩
 | succ k ih=>
  obtain ⟨i0_,i1_⟩:=ih
  refine ⟨@fun a0 a1 a2=>⟨fun {r} h=>?_⟩,@fun a0 a1 a2=>⟨fun {r} h=>?_⟩⟩
  .unfold Mp at h
   refine pw C0 Tryz.func295 ?_
   refine Z ?_
   refine Ao h (fun _ h=>?_) (fun _ h=>?_)
   exact Y
   refine Z ?_
   refine Ao h (fun _ h=>?_) (fun _ h=>?_)
   exact Y
   refine Z ?_
   refine Ao h (fun _ h=>?_) (fun _ h=>?_)
   refine Ay (Ay ?_)
   refine Bj h (fun v4=>[(54,(Al v4))]) (fun v4=>[]) ?_ ?_
   intro _ h _ _ _
   exact Y
   rintro v4 _ h
   refine Ao h (fun _ h=>?_) (fun _ h=>?_)
   exact Y
   refine Z ?_
   refine A0 h (fun (v10,v11)=>[(6,(O .i64 0)),(7,(O .i64 v10)),(58,(O .i64 v11))]) (fun (v10,v11)=>[]) ?_
   rintro ⟨v10,v11⟩ _ _ _ h _ _
   refine Z ?_
   refine Ao h (fun _ h=>?_) (fun _ h=>?_)
   refine Z ?_
   refine Bz h (fun _ _ _ _ h=>?_)
   refine ZO ?_
   refine Ay (Ay ?_)
   refine Bj h (fun v14=>[(69,(Al v14))]) (fun v14=>[]) ?_ ?_
   intro _ h _ _ _
   exact Y
   rintro v14 _ h
   exact Y
   exact Y
   exact Y
  .unfold Mq at h
   refine pw C0 Tryz.func326 ?_
   refine Z ?_
   refine Ao h (fun _ h=>?_) (fun _ h=>?_)
   exact Y
   refine Z ?_
   refine A0 h (fun (v4,v5)=>[(6,(O .i64 0)),(7,(O .i64 v4)),(17,(O .i64 v5))]) (fun (v4,v5)=>[]) ?_
   rintro ⟨v4,v5⟩ _ _ _ h _ _
   exact Y
instance {k:Nat}:Ag7 k:=(Ag9 k).1
instance {k:Nat}:Ag8 k:=(Ag9 k).2
instance {a0:List Ax} {a1:Ah} {a2:A6}:OK (Qd a0 a1 a2) fun r=>Aq Tryz.prog 227 [(Ar 3 B7) a0,C8 a1,Ev a2] ((O .i64) r):=⟨fun {r} h=>by
 refine pw C0 Tryz.func227 ?_
 exact Y⟩
instance {a0:Cu}:OK (Oe a0) fun r=>Aq Tryz.prog 228 [Gk a0] (Al r):=⟨fun {r} h=>by
 refine pw C0 Tryz.func228 ?_
 refine ZS ?_
 refine Bp ?_
 refine ZO ?_
 refine Ay (Ay ?_)
 refine Bj h (fun v2=>[(18,(Al v2))]) (fun v2=>[]) ?_ ?_
 intro _ h _ _ _
 exact Y
 rintro v2 _ h
 refine Ao h (fun _ h=>?_) (fun _ h=>?_)
 exact Y
 refine Z ?_
 refine A0 h (fun v5=>[(2,(Al false)),(22,(O .i64 v5))]) (fun v5=>[]) ?_
 rintro v5 _ _ _ h _ _
 exact Y⟩
instance {a0:Cm} {a1:Int}:OK (Od a0 a1) fun r=>Aq Tryz.prog 226 [Gx a0,(O .i64) a1] (.tup [C8 r.1,Al r.2]):=⟨fun {r} h=>by
 refine pw {T:=Cb,an:=(fun _=>.ask),nl:=(fun s=>bif Nat.beq s 19 then [(2,3)] else [])} Tryz.func226 ?_
 refine Z ?_
 refine Ao h (fun _ h=>?_) (fun _ h=>?_)
 exact Y
 refine Ix (Ay (Ay ?_))
 refine Bj h (fun v3=>[(18,(Al v3))]) (fun v3=>[]) ?_ ?_
 intro _ h _ _ _
 exact Y
 rintro v3 _ h
 exact Y⟩
instance {a0:Cm} {a1:Cu}:OK (Of a0 a1) fun r=>Aq Tryz.prog 229 [Gx a0,Gk a1] (Al r):=⟨fun {r} h=>by
 refine pw C0 Tryz.func229 ?_
 refine Z ?_
 refine A0 h (fun v7=>[(4,(Al false)),(12,(O .i64 v7))]) (fun v7=>[]) ?_
 rintro v7 _ _ _ h _ _
 exact Y⟩
instance {a0:Cm} {a1:Bb}:OK (Sx a0 a1) fun r=>Aq Tryz.prog 152 [Gx a0,E3 a1] ((O .i64) r):=⟨fun {r} h=>by
 refine pw C0 Tryz.func152 ?_
 refine Z ?_
 refine A0 h (fun (v9,v10)=>[(4,(O .i64 0)),(5,(O .i64 v9)),(16,(O .i64 v10))]) (fun (v9,v10)=>[]) ?_
 rintro ⟨v9,v10⟩ _ _ _ h _ _
 refine Z ?_
 refine Ao h (fun _ h=>?_) (fun _ h=>?_)
 refine Z ?_
 refine Bz h (fun _ _ _ _ h=>?_)
 refine Z ?_
 refine Ba h (fun _ h=>?_)
 refine ZO ?_
 refine Ay (Ay ?_)
 refine Bj h (fun v16=>[(45,(Al v16))]) (fun v16=>[]) ?_ ?_
 intro _ h _ _ _
 exact Y
 rintro v16 _ h
 exact Y
 replace h:=Ce h
 refine Z ?_
 refine A0 h (fun (v24,v25)=>[(4,(O .i64 0)),(5,(O .i64 v24)),(61,(O .i64 v25))]) (fun (v24,v25)=>[]) ?_
 rintro ⟨v24,v25⟩ _ _ _ h _ _
 exact Y⟩
instance {a0:Cm} {a1:List Ak}:OK (Sp a0 a1) fun r=>Aq Tryz.prog 84 [Gx a0,(Ar 5 Bl) a1] (Al r):=⟨fun {r} h=>by
 refine pw C0 Tryz.func84 ?_
 refine Z ?_
 refine Ao h (fun _ h=>?_) (fun _ h=>?_)
 exact Y
 refine Z ?_
 refine A0 h (fun v8=>[(4,(Al false)),(12,(O .i64 v8))]) (fun v8=>[]) ?_
 rintro v8 _ _ _ h _ _
 exact Y⟩
instance {a0:Cm} {a1:List Ak}:OK (P2 a0 a1) fun r=>Aq Tryz.prog 41 [Gx a0,(Ar 5 Bl) a1] (Al r):=⟨fun {r} h=>by
 refine pw C0 Tryz.func41 ?_
 exact Y⟩
instance {a0 a1:A5}:OK (Nz a0 a1) fun r=>Aq Tryz.prog 86 [C9 a0,C9 a1] (C9 r):=⟨fun {r} h=>by
 refine pw C0 Tryz.func86 ?_
 exact Y⟩
instance {a0 a1:List Int}:OK (Ss a0 a1) fun r=>Aq Tryz.prog 112 [(Ar 1 (O .u32)) a0,(Ar 1 (O .u32)) a1] ((Ar 1 (O .u32)) r):=⟨fun {r} h=>by
 refine pw {T:=Cb,an:=(fun s=>bif Nat.beq s 5 then .own else .ask),nl:=(fun s=>bif Nat.beq s 5 then [(0,1)] else bif Nat.beq s 4 then [(0,1)] else [])} Tryz.func112 ?_
 refine Z ?_
 refine A0 h (fun (v21,v22,o23)=>[(5,(.arr 0 o23.length 0 o23.length)),(6,(O .u32 v21)),(7,(O .i64 v22))]) (fun (v21,v22,o23)=>[(0,.rows 133 1 (List.map (O .u32) o23))]) ?_
 rintro ⟨v21,v22,o23⟩ _ _ _ h _ _
 refine Ay (Ay ?_)
 refine Bj h (fun v24=>[(22,(Al v24))]) (fun v24=>[]) ?_ ?_
 intro _ h _ _ _
 exact Y
 rintro v24 _ h
 refine Ao h (fun _ h=>?_) (fun _ h=>?_)
 refine ZS ?_
 refine Bp ?_
 refine ZS ?_
 refine Bp ?_
 refine ZO ?_
 refine Bj h (fun v26=>[(8,(O .u32 v26))]) (fun v26=>[]) ?_ ?_
 intro _ h _ _ _
 exact Y
 rintro v26 _ h
 refine ZS ?_
 refine Bp ?_
 refine ZO ?_
 refine Bj h (fun v28=>[(8,(O .u32 v28))]) (fun v28=>[]) ?_ ?_
 intro _ h _ _ _
 exact Y
 rintro v28 _ h
 exact Y
 exact Y⟩
instance {a0 a1:A5}:OK (Nx a0 a1) fun r=>Aq Tryz.prog 55 [C9 a0,C9 a1] (C9 r):=⟨fun {r} h=>by
 refine pw C0 Tryz.func55 ?_
 exact Y⟩
abbrev Aha (k:Nat):Prop:=∀{a0:A6},OK (Og k a0) fun r=>Aq Tryz.prog 230 [Ev a0] (Ev r)
theorem Api (k:Nat):Aha k:=by
 induction k with
 | zero=>exact okz
 | succ k ih=>
  refine @fun a0=>⟨fun {r} h=>?_⟩
  .unfold Og at h
   refine pw {T:=Cb,an:=(fun _=>.ask),nl:=(fun s=>bif Nat.beq s 17 then [(0,2)] else [])} Tryz.func230 ?_
   refine ZS ?_
   refine Bp ?_
   refine ZS ?_
   refine Bp ?_
   refine ZO ?_
   refine Ay (Ay ?_)
   refine D4 [.own 3 1 90 2] ?_
   refine Z ?_
   refine A0 h (fun (v15,o16)=>[(12,(O .i64 v15))]) (fun (v15,o16)=>[(2,.cells 90 [(O .i64 a0.Num),(.arr 3 o16.length 0 o16.length)]),(3,.rows 90 2 (G4 o16))]) ?_
   rintro ⟨v15,o16⟩ _ _ _ h _ _
   exact Y
instance {k:Nat}:Aha k:=(Api k)
instance {a0:Cu}:OK (Wc a0) fun r=>Aq Tryz.prog 231 [Gk a0] (Gk r):=⟨fun {r} h=>by
 refine pw C0 Tryz.func231 ?_
 exact Y⟩
instance {a0:Bb}:OK (Sz a0) fun r=>Aq Tryz.prog 154 [E3 a0] (E3 r):=⟨fun {r} h=>by
 refine pw {T:=Cb,an:=(fun _=>.ask),nl:=(fun s=>bif Nat.beq s 35 then [(0,3)] else bif Nat.beq s 16 then [(0,3)] else [])} Tryz.func154 ?_
 refine ZS ?_
 refine Bp ?_
 refine ZS ?_
 refine Bp ?_
 refine ZO ?_
 refine Ay (Ay ?_)
 refine D4 [.own 3 0 92 3,.own 3 1 95 3] ?_
 refine Z ?_
 refine A0 h (fun (v16,o17)=>[(11,(O .i64 v16))]) (fun (v16,o17)=>[(2,.cells 45 [(.arr 3 o17.length 0 o17.length),(.arr 4 0 0 0)]),(3,.rows 92 3 (List.map Eg o17))]) ?_
 rintro ⟨v16,o17⟩ _ _ _ h _ _
 refine Z ?_
 refine Ao h (fun _ h=>?_) (fun _ h=>?_)
 exact Y
 replace h:=Ce h
 refine Z ?_
 refine A0 h (fun (v33,o34)=>[(30,(O .i64 v33))]) (fun (v33,o34)=>[(2,.cells 45 [(.arr 3 o17.length 0 o17.length),(.arr 4 o34.length 0 o34.length)]),(4,.rows 95 3 (List.map Ea o34))]) ?_
 rintro ⟨v33,o34⟩ _ _ _ h _ _
 exact Y⟩
instance {a0:Nat} {a1:Bb} {a2:A5} {b0:List Ak}:OK (P4 a0 a1 a2 b0) fun r=>Cd Tryz.prog 85 [(.arr 0 b0.length 0 a0),E3 a1,C9 a2] [.rows 84 5 (List.map Bl b0)] (.arr 0 r.2.length 0 r.1) [.rows 84 5 (List.map Bl r.2)]:=⟨fun {r} h=>by
 refine aw {T:=Cb,an:=(fun _=>.ask),nl:=(fun s=>bif Nat.beq s 76 then [(1,1),(2,1),(3,3),(4,3)] else bif Nat.beq s 6 then [(0,5)] else [])} false Tryz.func85 ?_
 refine Z ?_
 refine A0 h (fun (v6,v7)=>[(7,(O .i64 v6)),(8,(O .i64 v7))]) (fun (v6,v7)=>[]) ?_
 rintro ⟨v6,v7⟩ _ _ _ h _ _
 refine Z ?_
 refine Ao h (fun _ h=>?_) (fun _ h=>?_)
 exact Y
 replace h:=Ce h
 refine Fm (Fk rfl (Ay (Ay ?_)))
 refine Bj h (fun v14=>[(43,(Al v14))]) (fun v14=>[]) ?_ ?_
 intro _ h _ _ _
 exact Y
 rintro v14 _ h
 refine Ao h (fun _ h=>?_) (fun _ h=>?_)
 refine Z ?_
 refine Kn h (fun _ _ _ _ h=>?_)
 refine Z ?_
 refine Ba h (fun v16 h=>?_)
 refine Z ?_
 refine Kn h (fun _ v17 hiv17 _ h=>?_)
 refine Z ?_
 refine K6 (f:=Bl) (x:=(Ak.mk v16 v17.Mono)) (j:=(((0:Nat):Int)+v6)) rfl rfl rfl (Zw _ hiv17) ?_
 refine Z ?_
 refine Kn h (fun _ _ _ _ h=>?_)
 refine Z ?_
 refine Ba h (fun _ h=>?_)
 refine Z ?_
 refine Ao h (fun _ h=>?_) (fun _ h=>?_)
 refine Z ?_
 refine Aod (f:=Bl) (l:=(Co b0 (((0:Nat):Int)+v6) (Ak.mk v16 v17.Mono))) rfl (E2 (l:=b0) rfl (((0:Nat):Int)+v6) (Ak.mk v16 v17.Mono)) h (fun v20 h=>?_)
 refine Z ?_
 refine Ae8 (f:=Bl) (l:=(Co b0 (((0:Nat):Int)+v6) (Ak.mk v16 v17.Mono))) rfl (E2 (l:=b0) rfl (((0:Nat):Int)+v6) (Ak.mk v16 v17.Mono)) h (fun v22 h=>?_) (fun h=>?_)
 refine Z ?_
 refine An9 (f:=Bl) (l:=(Co b0 (((0:Nat):Int)+v6) (Ak.mk v16 v17.Mono))) rfl (E2 (l:=b0) rfl (((0:Nat):Int)+v6) (Ak.mk v16 v17.Mono)) (E2 (l:=b0) rfl (((0:Nat):Int)+v6) (Ak.mk v16 v17.Mono)) h (fun v23 h=>?_)
 exact Y
 refine Z ?_
 refine Ae7 (f:=Bl) (l:=(Co b0 (((0:Nat):Int)+v6) (Ak.mk v16 v17.Mono))) (ys:=[]) rfl rfl (E2 (l:=b0) rfl (((0:Nat):Int)+v6) (Ak.mk v16 v17.Mono)) h (fun v24 h=>?_)
 exact Y
 refine Z ?_
 cases h
 exact ⟨congrArg (fun q_=>AV.arr 0 q_ 0 _) (E2 (l:=b0) rfl (((0:Nat):Int)+v6) (Ak.mk v16 v17.Mono)),rfl,trivial⟩
 refine Z ?_
 refine Ba h (fun _ h=>?_)
 refine Z ?_
 refine Ao h (fun _ h=>?_) (fun _ h=>?_)
 exact Y
 refine Z ?_
 refine Ae7 (f:=Bl) (l:=b0) (ys:=[(Ak.mk (A5.mk false [] []) (Bb.mk [] []))]) rfl rfl rfl h (fun v26 h=>?_)
 refine ZO ?_
 refine Ay ?_
 refine Zx h (fun o3_ h hj3=>?_)
 refine P0 (fun (o32:(List Ak))=>o32=o3_/\v26.1.length=o32.length) (fun o32=>[]) (fun o32=>[(0,.rows 84 5 (List.map Bl o32))]) (fun _=>rfl) ?_ ?_
 intro K3 hK3
 refine Z ?_
 refine Ae8 (f:=Bl) (l:=v26.1) rfl rfl h (fun v28 h=>?_) (fun h=>?_)
 refine Z ?_
 refine Zy (f:=Bl) (l:=v26.1) rfl rfl h (fun v29 h=>?_)
 refine Z ?_
 refine Aoa (f:=Bl) (l:=v26.1) rfl rfl rfl h (fun o30 hco30 h=>?_)
 refine Z ?_
 exact hK3 o30 _ _ _ ⟨(Option.some.inj h),(Aob rfl hco30)⟩ trivial ⟨⟨rfl,rfl⟩,⟨rfl,rfl⟩,⟨rfl,rfl⟩,trivial⟩
 refine Z ?_
 refine Zy (f:=Bl) (l:=v26.1) rfl rfl h (fun v31 h=>?_)
 refine Z ?_
 exact hK3 v26.1 _ _ _ ⟨(Option.some.inj h),rfl⟩ trivial ⟨⟨rfl,rfl⟩,⟨rfl,rfl⟩,⟨rfl,rfl⟩,trivial⟩
 rintro o32 u3 ⟨hJ3,q32⟩
 have h:=hj3 _ hJ3
 refine Z ?_
 refine Ba h (fun v33 h=>?_)
 refine Z ?_
 refine Ba h (fun v34 h=>?_)
 refine Z ?_
 refine Kn h (fun _ _ hiv35 _ h=>?_)
 refine Z ?_
 refine K6 (f:=Bl) (x:=(Ak.mk v33 v34)) (j:=(((0:Nat):Int)+v6)) rfl rfl rfl (Zw _ hiv35) ?_
 refine Z ?_
 cases h
 exact ⟨congrArg (fun q_=>AV.arr 0 q_ 0 _) (E2 (l:=o32) q32 (((0:Nat):Int)+v6) (Ak.mk v33 v34)),rfl,trivial⟩⟩
instance {a0 a1:List Ak} {a2:A5}:OK (Sg a0 a1 a2) fun r=>Aq Tryz.prog 42 [(Ar 5 Bl) a0,(Ar 5 Bl) a1,C9 a2] ((Ar 5 Bl) r):=⟨fun {r} h=>by
 refine pw {T:=Cb,an:=(fun s=>bif Nat.beq s 7 then .own else .ask),nl:=(fun s=>bif Nat.beq s 7 then [(0,5)] else bif Nat.beq s 6 then [(0,5)] else [])} Tryz.func42 ?_
 refine Z ?_
 refine A0 h (fun (v12,v13,o14)=>[(7,(.arr 1 o14.length 0 v12)),(14,(O .i64 v13))]) (fun (v12,v13,o14)=>[(1,.rows 84 5 (List.map Bl o14))]) ?_
 rintro ⟨v12,v13,o14⟩ _ _ _ h _ _
 refine Z ?_
 refine Ao h (fun _ h=>?_) (fun _ h=>?_)
 refine Z ?_
 refine Bz h (fun _ _ _ _ h=>?_)
 refine Z ?_
 refine Bc [1] h (fun _ h=>?_)
 exact Y
 replace h:=Ce h
 refine Z ?_
 refine A0 h (fun (v31,v32,o33)=>[(7,(.arr 1 o33.length 0 v31)),(27,(O .i64 v32))]) (fun (v31,v32,o33)=>[(1,.rows 84 5 (List.map Bl o33))]) ?_
 rintro ⟨v31,v32,o33⟩ _ _ _ h _ _
 refine Z ?_
 refine Ao h (fun _ h=>?_) (fun _ h=>?_)
 refine Z ?_
 refine Bz h (fun _ _ _ _ h=>?_)
 refine Z ?_
 refine Ba h (fun _ h=>?_)
 refine Z ?_
 refine Bc [1] h (fun _ h=>?_)
 exact Y
 replace h:=Ce h
 refine ZS ?_
 refine Bp ?_
 refine ZO ?_
 refine D4 [.fzp 6] ?_
 refine Aoc (f:=Bl) (l:=o33) rfl rfl h (fun o40 h=>?_)
 exact Y⟩
instance {a0:Cm} {a1 a2:List Ak}:OK (R8 a0 a1 a2) fun r=>Aq Tryz.prog 9 [Gx a0,(Ar 5 Bl) a1,(Ar 5 Bl) a2] (Al r):=⟨fun {r} h=>by
 refine pw C0 Tryz.func9 ?_
 exact Y⟩
instance {a0:Cm} {a1 a2:List Ak}:OK (Vy a0 a1 a2) fun r=>Aq Tryz.prog 3 [Gx a0,(Ar 5 Bl) a1,(Ar 5 Bl) a2] (Al r):=⟨fun {r} h=>by
 refine pw C0 Tryz.func3 ?_
 exact Y⟩
end Go.Ab
