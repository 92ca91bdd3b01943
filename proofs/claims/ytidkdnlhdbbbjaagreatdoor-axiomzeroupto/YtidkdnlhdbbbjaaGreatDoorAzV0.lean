/- The contracts of the functions, each by its walk (made by a program). -/
import Derived.Test.YtidkdnlhdbbbjaaGreatDoorAzHand
import Derived.Test.YtidkdnlhdbbbjaaGreatDoorAzDef
namespace Go.Ab
open Go Go.Proofs
set_option maxRecDepth 10000
set_option maxHeartbeats 4000000
set_option linter.unusedVariables false
instance {a0:Int}:OK (P0 a0) fun r=>Ax Tryz.prog 60 [(Aa .i64) a0] (Au r):=⟨fun {r} h=>by
 refine pw C0 Tryz.func60 ?_
 exact Y⟩
instance {a0:Int}:OK (Sn a0) fun r=>Ax Tryz.prog 61 [(Aa .i64) a0] (Au r):=⟨fun {r} h=>by
 refine pw C0 Tryz.func61 ?_
 exact Y⟩
instance {a0:Be}:OK (He a0) fun r=>Ax Tryz.prog 30 [Fr a0] (Au r):=⟨fun {r} h=>by
 refine pw C0 Tryz.func30 ?_
 refine ZS ?_
 refine Cg ?_
 refine ZO ?_
 refine Az (Az ?_)
 refine Cm h (fun v3=>[(14,(Au v3))]) (fun v3=>[]) ?_ ?_
 intro _ h _ _ _
 exact Y
 rintro v3 _ h
 refine As h (fun _ h=>?_) (fun _ h=>?_)
 exact Y
 refine Z ?_
 refine Bc h (fun v8=>[(2,(Au false)),(18,(Aa .i64 v8))]) (fun v8=>[]) ?_
 rintro v8 _ _ _ h _ _
 exact Y⟩
instance {a0:List Ba}:OK (Oo a0) fun r=>Bp Tryz.prog 65 [(Aw 2 C5) a0] [] (.arr 1 r.2.length 0 r.2.length) [.rows 86 2 (List.map C5 r.1),.rows 86 2 (List.map C5 r.2)]:=⟨fun {r} h=>by
 exact Aqd h⟩
instance {a0:Int}:OK (Ws a0) fun r=>Ax Tryz.prog 178 [(Aa .u64) a0] ((Aa .i64) r):=⟨fun {r} h=>by
 refine pw C0 Tryz.func178 ?_
 refine ZS ?_
 refine Cg ?_
 refine ZS ?_
 refine Cg ?_
 refine ZO ?_
 refine Cm h (fun (v2,v3)=>[(0,(Aa .u64 v2)),(2,(Aa .i64 v3))]) (fun (v2,v3)=>[]) ?_ ?_
 intro _ h _ _ _
 exact Y
 rintro ⟨v2,v3⟩ _ h
 refine ZS ?_
 refine Cg ?_
 refine ZO ?_
 refine Cm h (fun (v5,v6)=>[(0,(Aa .u64 v5)),(2,(Aa .i64 v6))]) (fun (v5,v6)=>[]) ?_ ?_
 intro _ h _ _ _
 exact Y
 rintro ⟨v5,v6⟩ _ h
 refine ZS ?_
 refine Cg ?_
 refine ZO ?_
 refine Cm h (fun (v8,v9)=>[(0,(Aa .u64 v8)),(2,(Aa .i64 v9))]) (fun (v8,v9)=>[]) ?_ ?_
 intro _ h _ _ _
 exact Y
 rintro ⟨v8,v9⟩ _ h
 exact Y⟩
instance {a0:Int}:OK (P3 a0) fun r=>Ax Tryz.prog 108 [(Aa .u64) a0] ((Aa .i64) r):=⟨fun {r} h=>by
 refine pw C0 Tryz.func108 ?_
 exact Y⟩
instance {a0:Int}:OK (S8 a0) fun r=>Ax Tryz.prog 179 [(Aa .i64) a0] (Au r):=⟨fun {r} h=>by
 refine pw C0 Tryz.func179 ?_
 exact Y⟩
instance {a0 a1:Int}:OK (I1 a0 a1) fun r=>Ax Tryz.prog 109 [(Aa .i64) a0,(Aa .i64) a1] ((Aa .i64) r):=⟨fun {r} h=>by
 refine pw C0 Tryz.func109 ?_
 exact Y⟩
instance {a0 a1:Ba}:OK (Lr a0 a1) fun r=>Ax Tryz.prog 119 [C5 a0,C5 a1] ((Aa .i64) r):=⟨fun {r} h=>by
 refine pw C0 Tryz.func119 ?_
 exact Y⟩
instance {a0 a1:Int} {b0:List Ba}:OK (W1 a0 a1 b0) fun r=>Bp Tryz.prog 250 [(.arr 0 b0.length 0 b0.length),(Aa .i64) a0,(Aa .i64) a1,(.fn 119 [])] [.rows 86 2 (List.map C5 b0)] (.tup []) [.rows 86 2 (List.map C5 r)]:=⟨fun {r} h=>by
 refine aw C0 true Tryz.func250 ?_
 refine Z ?_
 refine Ev h (fun (v21,o22)=>[(8,(Aa .i64 v21))]) (fun (v21,o22)=>[(0,.rows 86 2 (List.map C5 o22))]) (fun (v21,o22)=>b0.length=o22.length) ?_
 rintro ⟨v21,o22⟩ _ _ _ h _ _ q22
 refine Z ?_
 refine As h (fun _ h=>?_) (fun _ h=>?_)
 refine Z ?_
 refine Ev h (fun (v31,o32)=>[(9,(Aa .i64 v31))]) (fun (v31,o32)=>[(0,.rows 86 2 (List.map C5 o32))]) (fun (v31,o32)=>b0.length=o32.length) ?_
 rintro ⟨v31,o32⟩ _ _ _ h _ _ q32
 refine Az (Az ?_)
 refine Cm h (fun v36=>[(34,(Au v36))]) (fun v36=>[]) ?_ ?_
 intro _ h _ _ _
 exact Y
 rintro v36 _ h
 exact Y
 exact Y⟩
instance {a0 a1 a2:Int} {b0:List Ba}:OK (Tc a0 a1 a2 b0) fun r=>Bp Tryz.prog 185 [(.arr 0 b0.length 0 b0.length),(Aa .i64) a0,(Aa .i64) a1,(Aa .i64) a2,(.fn 119 [])] [.rows 86 2 (List.map C5 b0)] (.tup []) [.rows 86 2 (List.map C5 r)]:=⟨fun {r} h=>by
 refine aw C0 true Tryz.func185 ?_
 refine Z ?_
 refine Bc h (fun _=>[(1,(Aa .i64 a0)),(2,(Aa .i64 a1)),(3,(Aa .i64 a2)),(10,(Au true)),(11,(Au true))]) (fun _=>[]) ?_
 rintro _ _ _ _ h _ _
 refine Z ?_
 refine As h (fun _ h=>?_) (fun _ h=>?_)
 refine Z ?_
 refine A5 [0] h (fun _ h=>?_)
 refine C7 h (fun v2 hgv2 h=>?_)
 exact Y
 exact Y⟩
theorem Aqz {b0:List Ba} {r:(List Ba)} (h:Abb b0=some r):Bp Tryz.prog 118 [(.arr 0 b0.length 0 b0.length),(.fn 119 [])] [.rows 86 2 (List.map C5 b0)] (.tup []) [.rows 86 2 (List.map C5 r)]:=by
 refine aw C0 true Tryz.func118 ?_
 refine Z ?_
 refine Bu h (fun _ h=>?_)
 refine Z ?_
 refine A5 [0] h (fun _ h=>?_)
 refine C7 h (fun v3 hgv3 h=>?_)
 exact Y
instance {b0:List Ba}:OK (P4 b0) fun r=>Bp Tryz.prog 118 [(.arr 0 b0.length 0 b0.length),(.fn 119 [])] [.rows 86 2 (List.map C5 b0)] (.tup []) [.rows 86 2 (List.map C5 r)]:=⟨fun {r} h=>by
 unfold P4 at h
 cases hb:Nat.ble b0.length 12 with
 | true=>rw [hb] at h; exact Aqz h
 | false=>rw [hb] at h; exact Aqp (eA:=C5) (cmp:=Lr) (g:=119) (enters_of Tryz.func119 (by kernel_rfl) rfl) (fun x y n h=>(OK.ok h :)) (fun x=>⟨_,rfl⟩) h (by rintro rfl; cases hb)⟩
instance {a0:Int} {a1:List Ba}:OK (P1 a0 a1) fun r=>Ax Tryz.prog 62 [(Aa .i64) a0,(Aw 2 C5) a1] (.tup [Fr r.1,(Aa .i64) r.2]):=⟨fun {r} h=>by
 refine pw {T:=Cl,an:=(fun _=>.ask),nl:=(fun s=>bif Nat.beq s 63 then [(1,2)] else bif Nat.beq s 55 then [(0,2)] else [])} Tryz.func62 ?_
 refine ZS ?_
 refine Cg ?_
 refine ZS ?_
 refine Cg ?_
 refine ZO ?_
 refine Az ?_
 refine Ee [.own 6 1 86 2] ?_
 refine Z ?_
 refine A5 [] h (fun _ h=>?_)
 refine Z ?_
 refine A5 [4] h (fun _ h=>?_)
 refine C7 h (fun v8 hgv8 h=>?_)
 refine Z ?_
 refine Bc h (fun (v37,o38)=>[(8,(Aa .i64 v37))]) (fun (v37,o38)=>[(1,.cells 24 [(Aa .i64 a0),(.arr 2 o38.length 0 o38.length)]),(2,.rows 86 2 (List.map C5 o38))]) ?_
 rintro ⟨v37,o38⟩ _ _ _ h _ _
 refine Z ?_
 refine As h (fun _ h=>?_) (fun _ h=>?_)
 refine Z ?_
 refine G4 h (fun _ v39 _ _ h=>?_)
 refine Z ?_
 refine Bc h (fun (v44,v45)=>[(8,(Aa .i64 v44))]) (fun (v44,v45)=>[(5,.cells 86 [(Aa .i64 v39.Var),(Aa .i64 v45)])]) ?_
 rintro ⟨v44,v45⟩ _ _ _ h _ _
 refine Az (Az ?_)
 refine Cm h (fun v47=>[(39,(Au v47))]) (fun v47=>[]) ?_ ?_
 intro _ h _ _ _
 exact Y
 rintro v47 _ h
 exact Y
 replace h:=C3 h
 refine Gb (F8 rfl (Az (Az ?_)))
 refine Ee [.fzc 6 1] ?_
 exact Y⟩
instance {a0:Int}:OK (Wn a0) fun r=>Bp Tryz.prog 120 [(.val (.slice none 0 0)),(Aa .i64) a0] [] (.arr 0 r.length 0 r.length) [.rows 86 2 (List.map C5 r)]:=⟨fun {r} h=>by
 exact Aqs h⟩
instance {a0:List (List Ba)}:OK (So a0) fun r=>Ax Tryz.prog 63 [(Aw 1 (Aw 2 C5)) a0] ((Aw 2 C5) r):=⟨fun {r} h=>by
 refine pw {T:=Cl,an:=(fun _=>.ask),nl:=(fun s=>bif Nat.beq s 2 then [(0,2)] else [])} Tryz.func63 ?_
 refine Z ?_
 refine Bc h (fun (v2,v3)=>[(3,(Aa .i64 v2)),(11,(Aa .i64 v3))]) (fun (v2,v3)=>[]) ?_
 rintro ⟨v2,v3⟩ _ _ _ h _ _
 refine Z ?_
 refine As h (fun _ h=>?_) (fun _ h=>?_)
 exact Y
 replace h:=C3 h
 refine Z ?_
 refine A5 [] h (fun _ h=>?_)
 refine Z ?_
 refine Bc h (fun (v14,o15)=>[(6,(.arr 0 o15.length 0 o15.length)),(27,(Aa .i64 v14))]) (fun (v14,o15)=>[(0,.rows 86 2 (List.map C5 o15))]) ?_
 rintro ⟨v14,o15⟩ _ _ _ h _ _
 exact Y⟩
instance {a0 a1:Be}:OK (J6 a0 a1) fun r=>Ax Tryz.prog 31 [Fr a0,Fr a1] (.tup [Fr r.1,(Aa .i64) r.2]):=⟨fun {r} h=>by
 refine pw {T:=Cl,an:=(fun _=>.ask),nl:=(fun s=>bif Nat.beq s 14 then [(1,2)] else [])} Tryz.func31 ?_
 refine ZS ?_
 refine Cg ?_
 refine ZO ?_
 refine Az (Az ?_)
 refine Cm h (fun v6=>[(13,(Au v6))]) (fun v6=>[]) ?_ ?_
 intro _ h _ _ _
 exact Y
 rintro v6 _ h
 exact Y⟩
instance {a0:List Ba} {a1:Int}:OK (Sp a0 a1) fun r=>Ax Tryz.prog 64 [(Aw 2 C5) a0,(Aa .i64) a1] ((Aw 2 C5) r):=⟨fun {r} h=>by
 refine pw {T:=Cl,an:=(fun _=>.ask),nl:=(fun s=>bif Nat.beq s 4 then [(0,2)] else [])} Tryz.func64 ?_
 refine Z ?_
 refine A5 [] h (fun v1 h=>?_)
 refine Z ?_
 refine Ev h (fun (v6,o7)=>[(11,(Aa .i64 v6))]) (fun (v6,o7)=>[(1,.rows 86 2 (List.map C5 o7))]) (fun (v6,o7)=>v1.2.length=o7.length) ?_
 rintro ⟨v6,o7⟩ _ _ _ h _ _ q7
 refine Z ?_
 refine As h (fun _ h=>?_) (fun _ h=>?_)
 refine Z ?_
 refine G4 h (fun _ v8 _ _ h=>?_)
 refine Z ?_
 refine G4 h (fun _ v9 hiv9 _ h=>?_)
 refine Z ?_
 refine Lf (f:=C5) (x:=(Ba.mk v9.Var (Ac (v8.Coef*a1)))) (j:=v6) rfl rfl (Nat.zero_add _) hiv9 ?_
 exact Y
 exact Y⟩
instance {a0 a1:Be}:OK (Li a0 a1) fun r=>Ax Tryz.prog 32 [Fr a0,Fr a1] (.tup [Fr r.1,(Aa .i64) r.2]):=⟨fun {r} h=>by
 refine pw {T:=Cl,an:=(fun _=>.ask),nl:=(fun s=>bif Nat.beq s 14 then [(1,2)] else [])} Tryz.func32 ?_
 refine ZS ?_
 refine Cg ?_
 refine ZO ?_
 refine Az (Az ?_)
 refine Cm h (fun v6=>[(13,(Au v6))]) (fun v6=>[]) ?_ ?_
 intro _ h _ _ _
 exact Y
 rintro v6 _ h
 exact Y⟩
instance {a0:Em}:OK (Ku a0) fun r=>Ax Tryz.prog 14 [Mw a0] (Au r):=⟨fun {r} h=>by
 refine pw C0 Tryz.func14 ?_
 refine ZS ?_
 refine Cg ?_
 refine ZO ?_
 refine Az (Az ?_)
 refine Cm h (fun v4=>[(26,(Au v4))]) (fun v4=>[]) ?_ ?_
 intro _ h _ _ _
 exact Y
 rintro v4 _ h
 exact Y⟩
instance {a0:List Ay}:OK (Aa1 a0) fun r=>Ax Tryz.prog 94 [On (Hv.mk a0 [] [] [])] (Au r):=⟨fun {r} h=>by
 refine pw C0 Tryz.func94 ?_
 refine Z ?_
 refine Hf h (fun _ h=>?_)
 refine Z ?_
 refine Bc h (fun _=>[(2,(Au false)),(20,(Aa .i64 0))]) (fun _=>[]) ?_
 rintro _ _ _ _ h _ _
 replace h:=C3 h
 refine Z ?_
 refine Bc h (fun _=>[(2,(Au false)),(40,(Aa .i64 0))]) (fun _=>[]) ?_
 rintro _ _ _ _ h _ _
 exact Y⟩
instance {a0:List Ay}:OK (Aaz a0) fun r=>Ax Tryz.prog 92 [On (Hv.mk a0 [] [] [])] (Au r):=⟨fun {r} h=>by
 refine pw C0 Tryz.func92 ?_
 refine Z ?_
 refine Bc h (fun _=>[(2,(Au false)),(4,(Au false)),(21,(Aa .i64 0))]) (fun _=>[]) ?_
 rintro _ _ _ _ h _ _
 exact Y⟩
instance {a0:Int}:OK (Ti a0) fun r=>Ax Tryz.prog 274 [(Aa .u8) a0] (Au r):=⟨fun {r} h=>by
 refine pw C0 Tryz.func274 ?_
 exact Y⟩
instance {a0:ByteArray}:OK (Tn a0) fun r=>Ax Tryz.prog 310 [El a0] (Au r):=⟨fun {r} h=>by
 refine pw C0 Tryz.func310 ?_
 exact Y⟩
instance {a0:Int}:OK (Mv a0) fun r=>Ax Tryz.prog 311 [(Aa .u8) a0] (Au r):=⟨fun {r} h=>by
 refine pw C0 Tryz.func311 ?_
 exact Y⟩
instance {a0:Int}:OK (Qm a0) fun r=>Ax Tryz.prog 306 [(Aa .u8) a0] (Au r):=⟨fun {r} h=>by
 refine pw C0 Tryz.func306 ?_
 exact Y⟩
instance {a0:Int}:OK (Oj a0) fun r=>Ax Tryz.prog 307 [(Aa .u8) a0] (Au r):=⟨fun {r} h=>by
 refine pw C0 Tryz.func307 ?_
 exact Y⟩
instance {a0:Int}:OK (Qo a0) fun r=>Ax Tryz.prog 309 [(Aa .u8) a0] (Au r):=⟨fun {r} h=>by
 refine pw C0 Tryz.func309 ?_
 exact Y⟩
instance {a0:ByteArray}:OK (Tm a0) fun r=>Ax Tryz.prog 308 [El a0,(.fn 309 [])] (El r):=⟨fun {r} h=>by
 refine pw C0 Tryz.func308 ?_
 refine Z ?_
 refine Bc h (fun v3=>[(5,(Aa .i64 v3))]) (fun v3=>[]) ?_
 rintro v3 _ _ _ h _ _
 exact Y⟩
instance {a0:ByteArray}:OK (Xa a0) fun r=>Ax Tryz.prog 308 [El a0,(.fn 311 [])] (El r):=⟨fun {r} h=>by
 refine pw C0 Tryz.func308 ?_
 refine Z ?_
 refine Bc h (fun v3=>[(5,(Aa .i64 v3))]) (fun v3=>[]) ?_
 rintro v3 _ _ _ h _ _
 exact Y⟩
instance {a0:ByteArray}:OK (Tp a0) fun r=>Ax Tryz.prog 313 [El a0] (El r):=⟨fun {r} h=>by
 refine pw C0 Tryz.func313 ?_
 refine ZS ?_
 refine Cg ?_
 refine ZS ?_
 refine Cg ?_
 refine ZO ?_
 refine Abh (fun (x:Unit)=>(.inr x)) h (fun _=>[(2,(El (ByteArray.mk #[])))]) (fun _=>[]) ?_ ?_
 intro _ h _ _ _
 exact Y
 rintro _ _ h
 exact Y⟩
instance {a0:ByteArray}:OK (To a0) fun r=>Ax Tryz.prog 312 [El a0] (Au r):=⟨fun {r} h=>by
 refine pw C0 Tryz.func312 ?_
 refine Z ?_
 refine Bc h (fun (v2,v3)=>[(2,(Au false)),(3,(Aa .i64 v2)),(7,(Aa .i64 v3))]) (fun (v2,v3)=>[]) ?_
 rintro ⟨v2,v3⟩ _ _ _ h _ _
 exact Y⟩
instance {a0:ByteArray} {a1:Int}:OK (Tj a0 a1) fun r=>Ax Tryz.prog 275 [El a0,(Aa .i64) a1] (.tup [W9 r.1,(Aa .i64) r.2]):=⟨fun {r} h=>by
 refine pw C0 Tryz.func275 ?_
 refine Z ?_
 refine Se h (fun _ h=>?_)
 refine ZO ?_
 refine J4 (Az ?_)
 refine Cm h (fun v6=>[(23,(Au v6))]) (fun v6=>[]) ?_ ?_
 intro _ h _ _ _
 exact Y
 rintro v6 _ h
 refine As h (fun _ h=>?_) (fun _ h=>?_)
 exact Y
 refine Z ?_
 refine Bu h (fun _ h=>?_)
 refine Z ?_
 refine As h (fun _ h=>?_) (fun _ h=>?_)
 refine Z ?_
 refine Aap h (fun _ _ _ _ h=>?_)
 refine Z ?_
 refine Bu h (fun _ h=>?_)
 refine ZO ?_
 refine Az (Az ?_)
 refine Cm h (fun v14=>[(67,(Au v14))]) (fun v14=>[]) ?_ ?_
 intro _ h _ _ _
 exact Y
 rintro v14 _ h
 exact Y
 exact Y⟩
instance {a0:ByteArray}:OK (Wz a0) fun r=>Ax Tryz.prog 227 [El a0] (.tup [(Aw 3 W9) r.1,(Aa .i64) r.2.1,(Aa .i64) r.2.2]):=⟨fun {r} h=>by
 refine pw {T:=Cl,an:=(fun s=>bif Nat.beq s 5 then .own else .ask),nl:=(fun s=>bif Nat.beq s 5 then [(0,3)] else bif Nat.beq s 2 then [(0,3)] else [])} Tryz.func227 ?_
 refine Z ?_
 refine As h (fun _ h=>?_) (fun _ h=>?_)
 exact Y
 refine Z ?_
 refine Bc h (fun (v26,o27)=>[(2,(.sl 3 (List.map W9 []))),(3,(Aa .i64 0)),(4,(Aa .i64 0)),(5,(.arr 0 o27.length 0 o27.length)),(6,(Aa .i64 v26))]) (fun (v26,o27)=>[(0,.rows 303 3 (List.map W9 o27))]) ?_
 rintro ⟨v26,o27⟩ _ _ _ h _ _
 refine Z ?_
 refine As h (fun _ h=>?_) (fun _ h=>?_)
 refine Z ?_
 refine Se h (fun _ h=>?_)
 refine Z ?_
 refine Bu h (fun _ h=>?_)
 refine Z ?_
 refine As h (fun _ h=>?_) (fun _ h=>?_)
 exact Y
 refine Z ?_
 refine Se h (fun _ h=>?_)
 refine Z ?_
 refine As h (fun _ h=>?_) (fun _ h=>?_)
 refine Z ?_
 refine Bc h (fun v32=>[(6,(Aa .i64 v32))]) (fun v32=>[]) ?_
 rintro v32 _ _ _ h _ _
 exact Y
 exact Y
 exact Y⟩
instance {a0:ByteArray}:OK (N3 a0) fun r=>Ax Tryz.prog 150 [El a0] (Au r):=⟨fun {r} h=>by
 refine pw C0 Tryz.func150 ?_
 exact Y⟩
abbrev Agy (k:Nat):Prop:=∀{a0:Ai} {a1:Int},OK (Oe k a0 a1) fun r=>Ax Tryz.prog 228 [Gd a0,(Aa .i64) a1] (Au r)
abbrev Agz (k:Nat):Prop:=∀{a0:Ai} {b0:Int},OK (Tk k a0 b0) fun r=>Bp Tryz.prog 276 [Gd a0,(.loc 0 0)] [.cells 3 [(Aa .i64 b0)]] (Au r) [.cells 3 [(Aa .i64 b0)]]
abbrev Ag0 (k:Nat):Prop:=∀{a0:List Ai} {b0:Int},OK (Qs k a0 b0) fun r=>Bp Tryz.prog 152 [(Jm 3 Bm) a0,(.fn 276 [(.loc 0 0)])] [.cells 3 [(Aa .i64 b0)]] (Au r) [.cells 3 [(Aa .i64 b0)]]
abbrev Ag1 (k:Nat):Prop:=∀{a0:List Ai} {b0:Int},OK (Xb k a0 b0) fun r=>Bp Tryz.prog 229 [(Jm 3 Bm) a0,(.fn 276 [(.loc 0 0)])] [.cells 3 [(Aa .i64 b0)]] ((Aa .i64) r) [.cells 3 [(Aa .i64 b0)]]
theorem Xj (k:Nat):Agy k/\Agz k/\Ag0 k/\Ag1 k:=by
 induction k with
 | zero=>exact ⟨okz,okz,okz,okz⟩
 | succ k ih=>
  obtain ⟨i0_,i1_,i2_,i3_⟩:=ih
  refine ⟨@fun a0 a1=>⟨fun {r} h=>?_⟩,@fun a0 b0=>⟨fun {r} h=>?_⟩,@fun a0 b0=>⟨fun {r} h=>?_⟩,@fun a0 b0=>⟨fun {r} h=>?_⟩⟩
  .unfold Oe at h
   refine pw C0 Tryz.func228 ?_
   refine Z ?_
   refine Fw h (fun _ h=>?_) (fun _ h=>?_)
   refine Z ?_
   refine Fw h (fun _ h=>?_) (fun _ h=>?_)
   exact Y
   refine Z ?_
   refine A5 [1] h (fun _ h=>?_)
   exact Y
   refine Z ?_
   refine A5 [1] h (fun _ h=>?_)
   exact Y
  .unfold Tk at h
   refine aw C0 true Tryz.func276 ?_
   exact Y
  .unfold Qs at h
   refine aw C0 true Tryz.func152 ?_
   refine Z ?_
   refine A5 [0] h (fun _ h=>?_)
   exact Y
  .unfold Xb at h
   refine aw C0 true Tryz.func229 ?_
   refine Z ?_
   refine Bc h (fun v3=>[(4,(Aa .i64 0)),(8,(Aa .i64 v3))]) (fun v3=>[]) ?_
   rintro v3 _ _ _ h _ _
   refine Z ?_
   refine As h (fun _ h=>?_) (fun _ h=>?_)
   refine Z ?_
   refine Ch h (fun _ _ _ _ h=>?_)
   refine Z ?_
   refine A5 [0] h (fun _ h=>?_)
   exact Y
   exact Y
instance {k:Nat}:Agy k:=(Xj k).1
instance {k:Nat}:Agz k:=(Xj k).2.1
instance {k:Nat}:Ag0 k:=(Xj k).2.2.1
instance {k:Nat}:Ag1 k:=(Xj k).2.2.2
instance {a0:List Ay} {a1 a2:Int}:OK (Qb a0 a1 a2) fun r=>Ax Tryz.prog 207 [(Aw 3 Cs) a0,(Aa .i64) a1,(Aa .i64) a2] ((Aw 1 Au) r):=⟨fun {r} h=>by
 refine pw {T:=Cl,an:=(fun _=>.ask),nl:=(fun s=>bif Nat.beq s 6 then [(0,1)] else [])} Tryz.func207 ?_
 refine ZS ?_
 refine Cg ?_
 refine ZO ?_
 refine Az (Az ?_)
 refine Cm h (fun v2=>[(34,(Au v2))]) (fun v2=>[]) ?_ ?_
 intro _ h _ _ _
 exact Y
 rintro v2 _ h
 refine As h (fun _ h=>?_) (fun _ h=>?_)
 exact Y
 refine Z ?_
 refine Ch h (fun _ _ _ _ h=>?_)
 refine Z ?_
 refine Ch h (fun _ _ _ _ h=>?_)
 refine Z ?_
 refine Hf h (fun o5 h=>?_)
 refine Z ?_
 refine Ev h (fun (v28,o29)=>[(49,(Aa .i64 v28))]) (fun (v28,o29)=>[(0,.rows 4 1 (List.map Au o29))]) (fun (v28,o29)=>o5.length=o29.length) ?_
 rintro ⟨v28,o29⟩ _ _ _ h _ _ q29
 refine Z ?_
 refine As h (fun _ h=>?_) (fun _ h=>?_)
 refine Z ?_
 refine Ch h (fun _ v30 _ _ h=>?_)
 refine ZO ?_
 refine Az ?_
 refine Afs h (fun o3_ h hj3=>?_)
 refine Pv (fun (o36:(List Bool))=>o36=o3_/\o5.length=o36.length) (fun o36=>[]) (fun o36=>[(0,.rows 4 1 (List.map Au o36))]) (fun _=>rfl) ?_ ?_
 intro K3 hK3
 refine Z ?_
 refine Fw h (fun _ h=>?_) (fun _ h=>?_)
 refine Z ?_
 refine Fw h (fun _ h=>?_) (fun _ h=>?_)
 refine Z ?_
 refine Ch h (fun _ v32 _ _ h=>?_)
 refine Z ?_
 refine G4 h (fun _ _ hiv33 _ h=>?_)
 refine Z ?_
 refine Lf (f:=Au) (x:=((v30.Args.length:Int)==v32.Vars)) (j:=v28) rfl rfl (Nat.zero_add _) hiv33 ?_
 refine Z ?_
 exact hK3 (B9 o29 v28 ((v30.Args.length:Int)==v32.Vars)) _ _ _ ⟨(Option.some.inj h),Ga (l:=o29) q29 v28 ((v30.Args.length:Int)==v32.Vars)⟩ trivial ⟨⟨rfl,rfl⟩,⟨rfl,rfl⟩,trivial⟩
 refine Z ?_
 refine G4 h (fun _ _ hiv34 _ h=>?_)
 refine Z ?_
 refine Lf (f:=Au) (x:=false) (j:=v28) rfl rfl (Nat.zero_add _) hiv34 ?_
 refine Z ?_
 exact hK3 (B9 o29 v28 false) _ _ _ ⟨(Option.some.inj h),Ga (l:=o29) q29 v28 false⟩ trivial ⟨⟨rfl,rfl⟩,⟨rfl,rfl⟩,trivial⟩
 refine Z ?_
 refine G4 h (fun _ _ hiv35 _ h=>?_)
 refine Z ?_
 refine Lf (f:=Au) (x:=false) (j:=v28) rfl rfl (Nat.zero_add _) hiv35 ?_
 refine Z ?_
 exact hK3 (B9 o29 v28 false) _ _ _ ⟨(Option.some.inj h),Ga (l:=o29) q29 v28 false⟩ trivial ⟨⟨rfl,rfl⟩,⟨rfl,rfl⟩,trivial⟩
 rintro o36 u3 ⟨hJ3,q36⟩
 have h:=hj3 _ hJ3
 refine Z ?_
 refine Ev h (fun (v42,o43)=>[(80,(Aa .i64 v42))]) (fun (v42,o43)=>[(0,.rows 4 1 (List.map Au o43))]) (fun (v42,o43)=>o5.length=o43.length) ?_
 rintro ⟨v42,o43⟩ _ _ _ h _ _ q43
 exact Y
 exact Y⟩
abbrev Ag2 (k:Nat):Prop:=∀{a0:List Ai} {b1:E4},OK (Qt k a0 b1) fun r=>Bp Tryz.prog 152 [(Jm 3 Bm) a0,(.fn 160 [(.loc 0 0)])] [.cells 156 [(.loc 1 0)],.cells 158 [(.sl 3 (List.map Cs b1.data)),(Aa .i64 b1.vars),(Aa .i64 b1.left)]] (Au r.1) [.cells 156 [(.loc 1 0)],.cells 158 [(.sl 3 (List.map Cs r.2.data)),(Aa .i64 r.2.vars),(Aa .i64 r.2.left)]]
abbrev Ag3 (k:Nat):Prop:=∀{a0:List Ai} {b1:E4},OK (Ts k a0 b1) fun r=>Bp Tryz.prog 229 [(Jm 3 Bm) a0,(.fn 160 [(.loc 0 0)])] [.cells 156 [(.loc 1 0)],.cells 158 [(.sl 3 (List.map Cs b1.data)),(Aa .i64 b1.vars),(Aa .i64 b1.left)]] ((Aa .i64) r.1) [.cells 156 [(.loc 1 0)],.cells 158 [(.sl 3 (List.map Cs r.2.data)),(Aa .i64 r.2.vars),(Aa .i64 r.2.left)]]
abbrev Ag4 (k:Nat):Prop:=∀{a0:Ai} {b0:E4},OK (J7 k a0 b0) fun r=>Bp Tryz.prog 97 [(.loc 0 0),Gd a0] [.cells 158 [(.sl 3 (List.map Cs b0.data)),(Aa .i64 b0.vars),(Aa .i64 b0.left)]] (Au r.1) [.cells 158 [(.sl 3 (List.map Cs r.2.data)),(Aa .i64 r.2.vars),(Aa .i64 r.2.left)]]
abbrev Ag5 (k:Nat):Prop:=∀{a0:Ai} {b1:E4},OK (S4 k a0 b1) fun r=>Bp Tryz.prog 160 [Gd a0,(.loc 0 0)] [.cells 156 [(.loc 1 0)],.cells 158 [(.sl 3 (List.map Cs b1.data)),(Aa .i64 b1.vars),(Aa .i64 b1.left)]] (Au r.1) [.cells 156 [(.loc 1 0)],.cells 158 [(.sl 3 (List.map Cs r.2.data)),(Aa .i64 r.2.vars),(Aa .i64 r.2.left)]]
theorem Xk (k:Nat):Ag2 k/\Ag3 k/\Ag4 k/\Ag5 k:=by
 induction k with
 | zero=>exact ⟨okz,okz,okz,okz⟩
 | succ k ih=>
  obtain ⟨i0_,i1_,i2_,i3_⟩:=ih
  refine ⟨@fun a0 b1=>⟨fun {r} h=>?_⟩,@fun a0 b1=>⟨fun {r} h=>?_⟩,@fun a0 b0=>⟨fun {r} h=>?_⟩,@fun a0 b1=>⟨fun {r} h=>?_⟩⟩
  .unfold Qt at h
   refine aw C0 true Tryz.func152 ?_
   refine Z ?_
   refine A5 [0,1] h (fun _ h=>?_)
   exact Y
  .unfold Ts at h
   refine aw C0 true Tryz.func229 ?_
   refine Z ?_
   refine Bc h (fun (v3,v4,v5,v6)=>[(4,(Aa .i64 0)),(8,(Aa .i64 v3))]) (fun (v3,v4,v5,v6)=>[(1,.cells 158 [(.sl 3 (List.map Cs v4)),(Aa .i64 v5),(Aa .i64 v6)])]) ?_
   rintro ⟨v3,v4,v5,v6⟩ _ _ _ h _ _
   refine Z ?_
   refine As h (fun _ h=>?_) (fun _ h=>?_)
   refine Z ?_
   refine Ch h (fun _ _ _ _ h=>?_)
   refine Z ?_
   refine A5 [0,1] h (fun _ h=>?_)
   exact Y
   exact Y
  .unfold J7 at h
   refine aw C0 true Tryz.func97 ?_
   refine Z ?_
   refine As h (fun _ h=>?_) (fun _ h=>?_)
   exact Y
   refine ZS ?_
   refine Cg ?_
   refine ZS ?_
   refine Cg ?_
   refine ZO ?_
   refine Abh (fun (x:(Int×Int))=>(.inl x)) h (fun (v8,v9)=>[(4,(Au false)),(5,(Aa .i64 v8)),(6,(Aa .i64 v9))]) (fun (v8,v9)=>[]) ?_ ?_
   intro _ h _ _ _
   refine ZS ?_
   refine Cg ?_
   refine ZO ?_
   refine Cm h (fun v3=>[(21,(Au v3))]) (fun v3=>[]) ?_ ?_
   intro _ h _ _ _
   exact Y
   rintro v3 _ h
   refine As h (fun _ h=>?_) (fun _ h=>?_)
   exact Y
   refine Z ?_
   refine As h (fun _ h=>?_) (fun _ h=>?_)
   exact Y
   refine Z ?_
   refine As h (fun _ h=>?_) (fun _ h=>?_)
   refine Az (Az ?_)
   refine Cm h (fun v4=>[(53,(Au v4))]) (fun v4=>[]) ?_ ?_
   intro _ h _ _ _
   exact Y
   rintro v4 _ h
   exact Y
   refine Z ?_
   refine As h (fun _ h=>?_) (fun _ h=>?_)
   exact Y
   refine ZS ?_
   refine Cg ?_
   refine ZO ?_
   refine Cm h (fun v7=>[(74,(Au v7))]) (fun v7=>[]) ?_ ?_
   intro _ h _ _ _
   exact Y
   rintro v7 _ h
   exact Y
   rintro ⟨v8,v9⟩ _ h
   refine Az (Az ?_)
   refine Cm h (fun v10=>[(91,(Au v10))]) (fun v10=>[]) ?_ ?_
   intro _ h _ _ _
   exact Y
   rintro v10 _ h
   refine As h (fun _ h=>?_) (fun _ h=>?_)
   exact Y
   refine Ix (Az (Az ?_))
   refine Cm h (fun v11=>[(103,(Au v11))]) (fun v11=>[]) ?_ ?_
   intro _ h _ _ _
   exact Y
   rintro v11 _ h
   refine As h (fun _ h=>?_) (fun _ h=>?_)
   exact Y
   refine Z ?_
   refine A5 [1,0] h (fun _ h=>?_)
   exact Y
  .unfold S4 at h
   refine aw C0 true Tryz.func160 ?_
   refine Z ?_
   refine A5 [1] h (fun _ h=>?_)
   exact Y
instance {k:Nat}:Ag2 k:=(Xk k).1
instance {k:Nat}:Ag3 k:=(Xk k).2.1
instance {k:Nat}:Ag4 k:=(Xk k).2.2.1
instance {k:Nat}:Ag5 k:=(Xk k).2.2.2
instance {a0:List Ay} {a1:Ai} {a2:Int}:OK (Mm a0 a1 a2) fun r=>Ax Tryz.prog 52 [(Aw 3 Cs) a0,Gd a1,(Aa .i64) a2] (Au r):=⟨fun {r} h=>by
 refine pw C0 Tryz.func52 ?_
 refine Z ?_
 refine A5 [1] h (fun _ h=>?_)
 exact Y⟩
instance {a0:List Ay} {a1 a2:Int}:OK (Mr a0 a1 a2) fun r=>Ax Tryz.prog 151 [(Aw 3 Cs) a0,(Aa .i64) a1,(Aa .i64) a2] (Au r):=⟨fun {r} h=>by
 refine pw C0 Tryz.func151 ?_
 refine Z ?_
 refine Ch h (fun _ _ _ _ h=>?_)
 refine Z ?_
 refine Ch h (fun _ _ _ _ h=>?_)
 refine Z ?_
 refine As h (fun _ h=>?_) (fun _ h=>?_)
 exact Y
 refine Z ?_
 refine Bu h (fun _ h=>?_)
 refine Z ?_
 refine Bc h (fun v11=>[(6,(Au false)),(29,(Aa .i64 v11))]) (fun v11=>[]) ?_
 rintro v11 _ _ _ h _ _
 exact Y⟩
instance {a0:List Ay}:OK (Su a0) fun r=>Ax Tryz.prog 90 [(Aw 3 Cs) a0] (Au r):=⟨fun {r} h=>by
 refine pw C0 Tryz.func90 ?_
 refine Z ?_
 refine As h (fun _ h=>?_) (fun _ h=>?_)
 exact Y
 refine Z ?_
 refine Bc h (fun (v31,o32,o33)=>[(2,(Au false)),(15,(Aa .i64 v31))]) (fun (v31,o32,o33)=>[(0,.map (Bg Au o32)),(1,.map (Bg Au o33))]) ?_
 rintro ⟨v31,o32,o33⟩ _ _ _ h _ _
 refine Z ?_
 refine As h (fun _ h=>?_) (fun _ h=>?_)
 refine ZS ?_
 refine Cg ?_
 refine ZO ?_
 refine Az (Az ?_)
 refine Cm h (fun v41=>[(49,(Au v41))]) (fun v41=>[]) ?_ ?_
 intro _ h _ _ _
 refine Z ?_
 refine Ch h (fun _ _ _ _ h=>?_)
 refine Z ?_
 refine Bu h (fun _ h=>?_)
 refine Z ?_
 refine Fw h (fun _ h=>?_) (fun _ h=>?_)
 exact Y
 refine Z ?_
 refine Ch h (fun _ _ _ _ h=>?_)
 refine Z ?_
 refine Wa (f:=Au) (l:=o32) rfl (false:Bool) h (fun j_ hb h=>?_) (fun hb h=>?_)
 exact Y
 exact Y
 rintro v41 _ h
 refine As h (fun _ h=>?_) (fun _ h=>?_)
 exact Y
 refine Z ?_
 refine Ch h (fun _ _ _ _ h=>?_)
 refine Z ?_
 refine Sb (f:=Au) (l:=o32) (x:=true) rfl rfl ?_
 refine ZO ?_
 refine Az (Az ?_)
 refine Cm h (fun v45=>[(71,(Au v45))]) (fun v45=>[]) ?_ ?_
 intro _ h _ _ _
 exact Y
 rintro v45 _ h
 refine As h (fun _ h=>?_) (fun _ h=>?_)
 exact Y
 refine Z ?_
 refine Ch h (fun _ _ _ _ h=>?_)
 refine Z ?_
 refine Bc h (fun (v52,o53)=>[(2,(Au false)),(78,(Aa .i64 v52))]) (fun (v52,o53)=>[(1,.map (Bg Au o53))]) ?_
 rintro ⟨v52,o53⟩ _ _ _ h _ _
 refine Z ?_
 refine As h (fun _ h=>?_) (fun _ h=>?_)
 refine Z ?_
 refine Ch h (fun _ _ _ _ h=>?_)
 refine Z ?_
 refine Bu h (fun _ h=>?_)
 refine Z ?_
 refine Fw h (fun _ h=>?_) (fun _ h=>?_)
 exact Y
 refine Z ?_
 refine Wa (f:=Au) (l:=o53) rfl (false:Bool) h (fun j_ hb h=>?_) (fun hb h=>?_)
 refine Z ?_
 refine Fw h (fun _ h=>?_) (fun _ h=>?_)
 exact Y
 refine Z ?_
 refine Bu h (fun _ h=>?_)
 refine Z ?_
 refine As h (fun _ h=>?_) (fun _ h=>?_)
 exact Y
 refine Z ?_
 refine Sb (f:=Au) (l:=o53) (x:=true) rfl rfl ?_
 exact Y
 refine Z ?_
 refine Bu h (fun _ h=>?_)
 refine Z ?_
 refine As h (fun _ h=>?_) (fun _ h=>?_)
 exact Y
 refine Z ?_
 refine Sb (f:=Au) (l:=o53) (x:=true) rfl rfl ?_
 exact Y
 exact Y
 exact Y⟩
instance {a0:List Ay}:OK (Aa3 a0) fun r=>Ax Tryz.prog 96 [On (Hv.mk a0 [] [] [])] (Au r):=⟨fun {r} h=>by
 refine pw C0 Tryz.func96 ?_
 refine Z ?_
 refine Hf h (fun _ h=>?_)
 refine Z ?_
 refine Bc h (fun _=>[(2,(Au false)),(18,(Aa .i64 0))]) (fun _=>[]) ?_
 rintro _ _ _ _ h _ _
 replace h:=C3 h
 refine Z ?_
 refine Bc h (fun _=>[(2,(Au false)),(30,(Aa .i64 0))]) (fun _=>[]) ?_
 rintro _ _ _ _ h _ _
 exact Y⟩
instance {a0:List Ay}:OK (Aa2 a0) fun r=>Ax Tryz.prog 95 [On (Hv.mk a0 [] [] [])] (Au r):=⟨fun {r} h=>by
 refine pw C0 Tryz.func95 ?_
 refine Z ?_
 refine Hf h (fun _ h=>?_)
 refine Z ?_
 refine Bc h (fun _=>[(2,(Au false)),(17,(Aa .i64 0))]) (fun _=>[]) ?_
 rintro _ _ _ _ h _ _
 exact Y⟩
instance {a0:List Ay}:OK (Aa0 a0) fun r=>Ax Tryz.prog 93 [On (Hv.mk a0 [] [] [])] (Au r):=⟨fun {r} h=>by
 refine pw C0 Tryz.func93 ?_
 refine Z ?_
 refine Hf h (fun _ h=>?_)
 refine Z ?_
 refine Bc h (fun _=>[(2,(Au false)),(20,(Aa .i64 0))]) (fun _=>[]) ?_
 rintro _ _ _ _ h _ _
 replace h:=C3 h
 refine Z ?_
 refine Bc h (fun _=>[(2,(Au false)),(33,(Aa .i64 0))]) (fun _=>[]) ?_
 rintro _ _ _ _ h _ _
 exact Y⟩
instance {a0:Ai} {b0:Hv}:OK (Aa6 a0 b0) fun r=>Bp Tryz.prog 153 [Gd a0,(.loc 0 0)] [.cells 114 [(.sl 3 (List.map Cs b0.Data)),(.sl 7 (List.map Ol b0.Codes)),(.sl 3 (Bm b0.Vars)),(.sl 8 (List.map Om b0.Exprs))]] (Au r) [.cells 114 [(.sl 3 (List.map Cs b0.Data)),(.sl 7 (List.map Ol b0.Codes)),(.sl 3 (Bm b0.Vars)),(.sl 8 (List.map Om b0.Exprs))]]:=⟨fun {r} h=>by
 refine aw C0 true Tryz.func153 ?_
 exact Y⟩
instance {a0:List Ai} {b0:Hv}:OK (Aa7 a0 b0) fun r=>Bp Tryz.prog 229 [(Jm 3 Bm) a0,(.fn 153 [(.loc 0 0)])] [.cells 114 [(.sl 3 (List.map Cs b0.Data)),(.sl 7 (List.map Ol b0.Codes)),(.sl 3 (Bm b0.Vars)),(.sl 8 (List.map Om b0.Exprs))]] ((Aa .i64) r) [.cells 114 [(.sl 3 (List.map Cs b0.Data)),(.sl 7 (List.map Ol b0.Codes)),(.sl 3 (Bm b0.Vars)),(.sl 8 (List.map Om b0.Exprs))]]:=⟨fun {r} h=>by
 refine aw C0 true Tryz.func229 ?_
 refine Z ?_
 refine Bc h (fun v3=>[(4,(Aa .i64 0)),(8,(Aa .i64 v3))]) (fun v3=>[]) ?_
 rintro v3 _ _ _ h _ _
 refine Z ?_
 refine As h (fun _ h=>?_) (fun _ h=>?_)
 refine Z ?_
 refine Ch h (fun _ _ _ _ h=>?_)
 refine Z ?_
 refine A5 [0] h (fun _ h=>?_)
 exact Y
 exact Y⟩
instance {a0:List Ai} {b0:Hv}:OK (Aa5 a0 b0) fun r=>Bp Tryz.prog 152 [(Jm 3 Bm) a0,(.fn 153 [(.loc 0 0)])] [.cells 114 [(.sl 3 (List.map Cs b0.Data)),(.sl 7 (List.map Ol b0.Codes)),(.sl 3 (Bm b0.Vars)),(.sl 8 (List.map Om b0.Exprs))]] (Au r) [.cells 114 [(.sl 3 (List.map Cs b0.Data)),(.sl 7 (List.map Ol b0.Codes)),(.sl 3 (Bm b0.Vars)),(.sl 8 (List.map Om b0.Exprs))]]:=⟨fun {r} h=>by
 refine aw C0 true Tryz.func152 ?_
 refine Z ?_
 refine A5 [0] h (fun _ h=>?_)
 exact Y⟩
instance {a0:List Ay}:OK (Aay a0) fun r=>Ax Tryz.prog 91 [On (Hv.mk a0 [] [] [])] (Au r):=⟨fun {r} h=>by
 refine pw C0 Tryz.func91 ?_
 refine Z ?_
 refine A5 [0] h (fun _ h=>?_)
 exact Y⟩
instance {a0:List Ay}:OK (Si a0) fun r=>Ax Tryz.prog 51 [On (Hv.mk a0 [] [] [])] (Au r):=⟨fun {r} h=>by
 refine pw C0 Tryz.func51 ?_
 exact Y⟩
instance {a0:List Int}:OK (Kx a0) fun r=>Ax Tryz.prog 112 [(Aw 1 (Aa .i64)) a0] ((Aa .i64) r):=⟨fun {r} h=>by
 refine pw C0 Tryz.func112 ?_
 refine Z ?_
 refine Bc h (fun v2=>[(2,(Aa .i64 0)),(8,(Aa .i64 v2))]) (fun v2=>[]) ?_
 rintro v2 _ _ _ h _ _
 exact Y⟩
instance {a0:Int}:OK (W0 a0) fun r=>Ax Tryz.prog 249 [(Aa .i64) a0] (Au r):=⟨fun {r} h=>by
 refine pw C0 Tryz.func249 ?_
 exact Y⟩
instance {a0 a1:Int}:OK (Tb a0 a1) fun r=>Ax Tryz.prog 183 [(Aa .i64) a0,(Aa .i64) a1] ((Aa .i64) r):=⟨fun {r} h=>by
 refine pw C0 Tryz.func183 ?_
 exact Y⟩
instance {a0 a1:Ba}:OK (Ta a0 a1) fun r=>Ax Tryz.prog 182 [C5 a0,C5 a1] ((Aa .i64) r):=⟨fun {r} h=>by
 refine pw C0 Tryz.func182 ?_
 exact Y⟩
end Go.Ab
namespace Go.Ab
open Go Go.Proofs
set_option maxRecDepth 10000
set_option maxHeartbeats 4000000
set_option linter.unusedVariables false
instance {a0 a1:List Ba}:OK (Wt a0 a1) fun r=>Ax Tryz.prog 181 [(Aw 2 C5) a0,(Aw 2 C5) a1,(.fn 182 [])] ((Aa .i64) r):=⟨fun {r} h=>by
 refine pw C0 Tryz.func181 ?_
 refine Z ?_
 refine Bc h (fun v6=>[(6,(Aa .i64 0)),(13,(Aa .i64 v6))]) (fun v6=>[]) ?_
 rintro v6 _ _ _ h _ _
 exact Y⟩
instance {a0 a1:Be}:OK (Jl a0 a1) fun r=>Ax Tryz.prog 116 [Fr a0,Fr a1] ((Aa .i64) r):=⟨fun {r} h=>by
 refine pw C0 Tryz.func116 ?_
 exact Y⟩
instance {a0 a1:A3}:OK (Sy a0 a1) fun r=>Ax Tryz.prog 115 [D5 a0,D5 a1] ((Aa .i64) r):=⟨fun {r} h=>by
 refine pw C0 Tryz.func115 ?_
 exact Y⟩
instance {a0 a1:List A3}:OK (Wm a0 a1) fun r=>Ax Tryz.prog 114 [(Aw 3 D5) a0,(Aw 3 D5) a1,(.fn 115 [])] ((Aa .i64) r):=⟨fun {r} h=>by
 refine pw C0 Tryz.func114 ?_
 refine Z ?_
 refine Bc h (fun v6=>[(6,(Aa .i64 0)),(13,(Aa .i64 v6))]) (fun v6=>[]) ?_
 rintro v6 _ _ _ h _ _
 exact Y⟩
abbrev Ag6 (k:Nat):Prop:=∀{a0 a1:Bq},OK (Mp k a0 a1) fun r=>Ax Tryz.prog 113 [Ib a0,Ib a1] ((Aa .i64) r)
abbrev Ag7 (k:Nat):Prop:=∀{a0 a1:List Bq},OK (S9 k a0 a1) fun r=>Ax Tryz.prog 180 [(Jm 2 Jo) a0,(Jm 2 Jo) a1,(.fn 113 [])] ((Aa .i64) r)
theorem Ag8 (k:Nat):Ag6 k/\Ag7 k:=by
 induction k with
 | zero=>exact ⟨okz,okz⟩
 | succ k ih=>
  obtain ⟨i0_,i1_⟩:=ih
  refine ⟨@fun a0 a1=>⟨fun {r} h=>?_⟩,@fun a0 a1=>⟨fun {r} h=>?_⟩⟩
  .unfold Mp at h
   refine pw C0 Tryz.func113 ?_
   exact Y
  .unfold S9 at h
   refine pw C0 Tryz.func180 ?_
   refine Z ?_
   refine Bc h (fun v6=>[(6,(Aa .i64 0)),(13,(Aa .i64 v6))]) (fun v6=>[]) ?_
   rintro v6 _ _ _ h _ _
   exact Y
instance {k:Nat}:Ag6 k:=(Ag8 k).1
instance {k:Nat}:Ag7 k:=(Ag8 k).2
instance {a0 a1:B4}:OK (Sx a0 a1) fun r=>Ax Tryz.prog 111 [Eo a0,Eo a1] ((Aa .i64) r):=⟨fun {r} h=>by
 refine pw C0 Tryz.func111 ?_
 exact Y⟩
instance {a0 a1:List B4}:OK (Wl a0 a1) fun r=>Ax Tryz.prog 110 [(Aw 3 Eo) a0,(Aw 3 Eo) a1,(.fn 111 [])] ((Aa .i64) r):=⟨fun {r} h=>by
 refine pw C0 Tryz.func110 ?_
 refine Z ?_
 refine Bc h (fun v6=>[(6,(Aa .i64 0)),(13,(Aa .i64 v6))]) (fun v6=>[]) ?_
 rintro v6 _ _ _ h _ _
 exact Y⟩
instance {a0 a1:Bf}:OK (Mn a0 a1) fun r=>Ax Tryz.prog 58 [G2 a0,G2 a1] ((Aa .i64) r):=⟨fun {r} h=>by
 refine pw C0 Tryz.func58 ?_
 exact Y⟩
instance {a0:Int}:OK (Gc a0) fun r=>Ax Tryz.prog 103 [(Aa .i64) a0] (El r):=⟨fun {r} h=>by
 exact Ap5 h⟩
instance {b1:List Int}:OK (Qu b1) fun r=>Bp Tryz.prog 164 [(.loc 0 0)] [.cells 165 [(.loc 0 0),(.arr 1 b1.length 0 b1.length)],.rows 5 1 (List.map (Aa .u8) b1)] (.tup []) [.cells 165 [(.loc 0 0),(.arr 1 b1.length 0 b1.length)],.rows 5 1 (List.map (Aa .u8) b1)]:=⟨fun {r} h=>by
 cases h
 exact Ap8 _ _⟩
instance {a0:Int} {b1:List Int}:OK (Qi a0 b1) fun r=>Bp Tryz.prog 242 [(.loc 0 0),(Aa .u8) a0] [.cells 165 [(.loc 0 0),(.arr 1 b1.length 0 b1.length)],.rows 5 1 (List.map (Aa .u8) b1)] (.val .nilIface) [.cells 165 [(.loc 0 0),(.arr 1 r.length 0 r.length)],.rows 5 1 (List.map (Aa .u8) r)]:=⟨fun {r} h=>by
 refine aw C0 true Tryz.func242 ?_
 refine Z ?_
 refine A5 [0,1] h (fun _ h=>?_)
 exact Y⟩
instance {a0:ByteArray} {b1:List Int}:OK (Fg a0 b1) fun r=>Bp Tryz.prog 101 [(.loc 0 0),El a0] [.cells 165 [(.loc 0 0),(.arr 1 b1.length 0 b1.length)],.rows 5 1 (List.map (Aa .u8) b1)] (.tup [(Aa .i64) r.1,.val .nilIface]) [.cells 165 [(.loc 0 0),(.arr 1 r.2.length 0 r.2.length)],.rows 5 1 (List.map (Aa .u8) r.2)]:=⟨fun {r} h=>by
 refine aw C0 true Tryz.func101 ?_
 refine Z ?_
 refine A5 [0,1] h (fun _ h=>?_)
 exact Y⟩
abbrev Ag9 (k:Nat):Prop:=∀{a0:Bq} {b1:List Int},OK (N4 k a0 b1) fun r=>Bp Tryz.prog 165 [(.loc 0 0),Ib a0] [.cells 165 [(.loc 0 0),(.arr 1 b1.length 0 b1.length)],.rows 5 1 (List.map (Aa .u8) b1)] (.tup []) [.cells 165 [(.loc 0 0),(.arr 1 r.length 0 r.length)],.rows 5 1 (List.map (Aa .u8) r)]
theorem Aq0 (k:Nat):Ag9 k:=by
 induction k with
 | zero=>exact okz
 | succ k ih=>
  refine @fun a0 b1=>⟨fun {r} h=>?_⟩
  .unfold N4 at h
   refine aw C0 true Tryz.func165 ?_
   refine Z ?_
   refine Bu h (fun _ h=>?_)
   refine Z ?_
   refine A5 [0,1] h (fun _ h=>?_)
   refine Z ?_
   refine As h (fun _ h=>?_) (fun _ h=>?_)
   refine Z ?_
   refine A5 [0,1] h (fun _ h=>?_)
   refine Z ?_
   refine Bc h (fun (v15,o16)=>[(20,(Aa .i64 v15))]) (fun (v15,o16)=>[(0,.cells 165 [(.loc 0 0),(.arr 1 o16.length 0 o16.length)]),(1,.rows 5 1 (List.map (Aa .u8) o16))]) ?_
   rintro ⟨v15,o16⟩ _ _ _ h _ _
   refine Z ?_
   refine As h (fun _ h=>?_) (fun _ h=>?_)
   refine Z ?_
   refine Ch h (fun _ _ _ _ h=>?_)
   refine Z ?_
   refine A5 [0,1] h (fun _ h=>?_)
   refine Z ?_
   refine A5 [0,1] h (fun _ h=>?_)
   exact Y
   replace h:=C3 h
   refine Z ?_
   refine A5 [0,1] h (fun _ h=>?_)
   exact Y
   exact Y
instance {k:Nat}:Ag9 k:=(Aq0 k)
instance {b1:List Int}:OK (Jk b1) fun r=>Bp Tryz.prog 105 [(.loc 0 0)] [.cells 165 [(.loc 0 0),(.arr 1 b1.length 0 b1.length)],.rows 5 1 (List.map (Aa .u8) b1)] (El r) [.cells 165 [(.loc 0 0),(.arr 1 b1.length 0 b1.length)],.dead]:=⟨fun {r} h=>by
 exact Ago h⟩
instance {b1:List Int}:OK (S6 b1) fun r=>Bp Tryz.prog 164 [(.loc 0 0)] [.cells 165 [(.val (.pointer none)),(.arr 1 b1.length 0 b1.length)],.rows 5 1 (List.map (Aa .u8) b1)] (.tup []) [.cells 165 [(.loc 0 0),(.arr 1 b1.length 0 b1.length)],.rows 5 1 (List.map (Aa .u8) b1)]:=⟨fun {r} h=>by
 cases h
 exact Ap9 _ _⟩
instance {a0:ByteArray} {b1:List Int}:OK (Hu a0 b1) fun r=>Bp Tryz.prog 101 [(.loc 0 0),El a0] [.cells 165 [(.val (.pointer none)),(.arr 1 b1.length 0 b1.length)],.rows 5 1 (List.map (Aa .u8) b1)] (.tup [(Aa .i64) r.1,(.val .nilIface)]) [.cells 165 [(.loc 0 0),(.arr 1 r.2.length 0 r.2.length)],.rows 5 1 (List.map (Aa .u8) r.2)]:=⟨fun {r} h=>by
 refine aw C0 true Tryz.func101 ?_
 refine Z ?_
 refine A5 [0,1] h (fun _ h=>?_)
 exact Y⟩
instance {a0:Int} {a1:Bq}:OK (Lp a0 a1) fun r=>Ax Tryz.prog 102 [(Aa .i64) a0,Ib a1] (El r):=⟨fun {r} h=>by
 refine pw C0 Tryz.func102 ?_
 refine ZS ?_
 refine Cg ?_
 refine ZS ?_
 refine Cg ?_
 refine ZO ?_
 refine Az ?_
 refine Ee [.own 5 1 5 1] ?_
 refine Z ?_
 refine Bu h (fun _ h=>?_)
 refine Z ?_
 refine Fu h (fun h=>?_)
 refine Z ?_
 refine Fu h (fun h=>?_)
 refine Z ?_
 refine A5 [1,2] h (fun _ h=>?_)
 refine Z ?_
 refine A5 [1,2] h (fun _ h=>?_)
 refine Z ?_
 refine A5 [1,2] h (fun _ h=>?_)
 exact Y⟩
abbrev Aha (k:Nat):Prop:=∀{a0:Ai},OK (N7 k a0) fun r=>Ax Tryz.prog 198 [Gd a0] ((Aa .i64) r)
theorem Aq1 (k:Nat):Aha k:=by
 induction k with
 | zero=>exact okz
 | succ k ih=>
  refine @fun a0=>⟨fun {r} h=>?_⟩
  .unfold N7 at h
   refine pw C0 Tryz.func198 ?_
   refine Z ?_
   refine Bc h (fun (v5,v6)=>[(3,(Aa .i64 v5)),(9,(Aa .i64 v6))]) (fun (v5,v6)=>[]) ?_
   rintro ⟨v5,v6⟩ _ _ _ h _ _
   exact Y
instance {k:Nat}:Aha k:=(Aq1 k)
abbrev Ahb (k:Nat):Prop:=∀{a0:Ai} {a1:List Ai},OK (Mt k a0 a1) fun r=>Ax Tryz.prog 200 [Gd a0,(Jm 3 Bm) a1] (Gd r)
theorem Aq2 (k:Nat):Ahb k:=by
 induction k with
 | zero=>exact okz
 | succ k ih=>
  refine @fun a0 a1=>⟨fun {r} h=>?_⟩
  .unfold Mt at h
   refine pw {T:=Cl,an:=(fun _=>.ask),nl:=(fun s=>bif Nat.beq s 42 then [(0,3)] else [])} Tryz.func200 ?_
   refine ZS ?_
   refine Cg ?_
   refine ZO ?_
   refine Az (Az ?_)
   refine Cm h (fun v3=>[(22,(Au v3))]) (fun v3=>[]) ?_ ?_
   intro _ h _ _ _
   exact Y
   rintro v3 _ h
   refine As h (fun _ h=>?_) (fun _ h=>?_)
   exact Y
   refine ZS ?_
   refine Cg ?_
   refine ZO ?_
   refine Az (Az ?_)
   refine Ee [.own 5 2 29 3] ?_
   refine Z ?_
   refine Bc h (fun (v18,o19)=>[(37,(Aa .i64 v18))]) (fun (v18,o19)=>[(2,.cells 29 [(Aa .i64 a0.Kind),(Aa .i64 a0.Num),(.arr 3 o19.length 0 o19.length)]),(3,.rows 29 3 (Bm o19))]) ?_
   rintro ⟨v18,o19⟩ _ _ _ h _ _
   exact Y
instance {k:Nat}:Ahb k:=(Aq2 k)
abbrev Ahc (k:Nat):Prop:=∀{a0:Ai} {a1:List Int},OK (N8 k a0 a1) fun r=>Ax Tryz.prog 199 [Gd a0,(Aw 1 (Aa .i64)) a1] ((Aa .i64) r)
theorem Aq3 (k:Nat):Ahc k:=by
 induction k with
 | zero=>exact okz
 | succ k ih=>
  refine @fun a0 a1=>⟨fun {r} h=>?_⟩
  .unfold N8 at h
   refine pw C0 Tryz.func199 ?_
   refine ZS ?_
   refine Cg ?_
   refine ZO ?_
   refine Az (Az ?_)
   refine Cm h (fun v2=>[(22,(Au v2))]) (fun v2=>[]) ?_ ?_
   intro _ h _ _ _
   exact Y
   rintro v2 _ h
   refine As h (fun _ h=>?_) (fun _ h=>?_)
   exact Y
   refine Z ?_
   refine Bc h (fun (v7,v8)=>[(5,(Aa .i64 v7)),(31,(Aa .i64 v8))]) (fun (v7,v8)=>[]) ?_
   rintro ⟨v7,v8⟩ _ _ _ h _ _
   exact Y
instance {k:Nat}:Ahc k:=(Aq3 k)
instance {a0:List Ay} {a1:Ai} {a2:Int}:OK (Xc a0 a1 a2) fun r=>Ax Tryz.prog 125 [(Aw 3 Cs) a0,Gd a1,(Aa .i64) a2] (.tup [(Jm 3 Bm) r.1,Au r.2]):=⟨fun {r} h=>by
 refine pw {T:=Cl,an:=(fun s=>bif Nat.beq s 14 then .own else .ask),nl:=(fun s=>bif Nat.beq s 14 then [(0,3)] else bif Nat.beq s 6 then [(0,3)] else [])} Tryz.func125 ?_
 refine ZS ?_
 refine Cg ?_
 refine ZO ?_
 refine Az (Az ?_)
 refine Cm h (fun v2=>[(31,(Au v2))]) (fun v2=>[]) ?_ ?_
 intro _ h _ _ _
 exact Y
 rintro v2 _ h
 refine As h (fun _ h=>?_) (fun _ h=>?_)
 exact Y
 refine Z ?_
 refine Ch h (fun _ _ _ _ h=>?_)
 refine ZO ?_
 refine Az (Az ?_)
 refine Cm h (fun v5=>[(53,(Au v5))]) (fun v5=>[]) ?_ ?_
 intro _ h _ _ _
 exact Y
 rintro v5 _ h
 refine As h (fun _ h=>?_) (fun _ h=>?_)
 exact Y
 refine Z ?_
 refine Hf h (fun o6 h=>?_)
 refine Z ?_
 refine Ev h (fun (v12,o13)=>[(61,(Aa .i64 v12))]) (fun (v12,o13)=>[(2,.rows 3 1 (List.map (Aa .i64) o13))]) (fun (v12,o13)=>o6.length=o13.length) ?_
 rintro ⟨v12,o13⟩ _ _ _ h _ _ q13
 refine Z ?_
 refine As h (fun _ h=>?_) (fun _ h=>?_)
 exact Y
 replace h:=C3 h
 refine Z ?_
 refine Ch h (fun _ _ _ _ h=>?_)
 refine ZO ?_
 refine J4 ?_
 refine Ee [.fz 9] ?_
 refine Z ?_
 refine Bc h (fun v23=>[(6,(.sl 3 (Bm []))),(7,(Au false)),(79,(Aa .i64 v23))]) (fun v23=>[]) ?_
 rintro v23 _ _ _ h _ _
 refine Z ?_
 refine As h (fun _ h=>?_) (fun _ h=>?_)
 exact Y
 replace h:=C3 h
 refine Z ?_
 refine Ch h (fun _ _ _ _ h=>?_)
 refine Z ?_
 refine Bc h (fun (v41,o42)=>[(14,(.arr 3 o42.length 0 o42.length)),(95,(Aa .i64 v41))]) (fun (v41,o42)=>[(3,.rows 29 3 (Bm o42))]) ?_
 rintro ⟨v41,o42⟩ _ _ _ h _ _
 exact Y⟩
abbrev Ahd (k:Nat):Prop:=∀{a0:Ai} {a1:Bq} {b1:List (ByteArray×Int)} {b2:List (ByteArray×(List Db))} {b0_0:List Ay} {b0_1:List Ai} {b0_2 b0_3:Int} {b0_4:List Ai},OK (Oh k a0 a1 b1 b2 b0_0 b0_1 b0_2 b0_3 b0_4) fun r=>Bp Tryz.prog 281 [(.loc 0 0),Gd a0,Ib a1] [.cells 119 [(.sl 3 (List.map Cs b0_0)),(.sl 3 (Bm b0_1)),(Aa .i64 b0_2),(Aa .i64 b0_3),(.sl 3 (Bm b0_4)),(.mp 1),(.mp 2)],.map (Bg (Aa .i64) b1),.map (Bg (Aw 5 D6) b2)] ((Aa .i64) r) [.cells 119 [(.sl 3 (List.map Cs b0_0)),(.sl 3 (Bm b0_1)),(Aa .i64 b0_2),(Aa .i64 b0_3),(.sl 3 (Bm b0_4)),(.mp 1),(.mp 2)],.map (Bg (Aa .i64) b1),.map (Bg (Aw 5 D6) b2)]
abbrev Ahe (k:Nat):Prop:=∀{a0:Ai} {a1:Bq} {b1:List (ByteArray×Int)} {b2:List (ByteArray×(List Db))} {b0_0:List Ay} {b0_1:List Ai} {b0_2 b0_3:Int} {b0_4:List Ai},OK (Mu k a0 a1 b1 b2 b0_0 b0_1 b0_2 b0_3 b0_4) fun r=>Bp Tryz.prog 240 [(.loc 0 0),Gd a0,Ib a1] [.cells 119 [(.sl 3 (List.map Cs b0_0)),(.sl 3 (Bm b0_1)),(Aa .i64 b0_2),(Aa .i64 b0_3),(.sl 3 (Bm b0_4)),(.mp 1),(.mp 2)],.map (Bg (Aa .i64) b1),.map (Bg (Aw 5 D6) b2)] ((Aa .i64) r) [.cells 119 [(.sl 3 (List.map Cs b0_0)),(.sl 3 (Bm b0_1)),(Aa .i64 b0_2),(Aa .i64 b0_3),(.sl 3 (Bm b0_4)),(.mp 1),(.mp 2)],.map (Bg (Aa .i64) b1),.map (Bg (Aw 5 D6) b2)]
abbrev Ahf (k:Nat):Prop:=∀{a0:List Ai} {a1:List Bq} {b1:List (ByteArray×Int)} {b2:List (ByteArray×(List Db))} {b0_0:List Ay} {b0_1:List Ai} {b0_2 b0_3:Int} {b0_4:List Ai},OK (Og k a0 a1 b1 b2 b0_0 b0_1 b0_2 b0_3 b0_4) fun r=>Bp Tryz.prog 280 [(.loc 0 0),(Jm 3 Bm) a0,(Jm 2 Jo) a1] [.cells 119 [(.sl 3 (List.map Cs b0_0)),(.sl 3 (Bm b0_1)),(Aa .i64 b0_2),(Aa .i64 b0_3),(.sl 3 (Bm b0_4)),(.mp 1),(.mp 2)],.map (Bg (Aa .i64) b1),.map (Bg (Aw 5 D6) b2)] ((Aa .i64) r) [.cells 119 [(.sl 3 (List.map Cs b0_0)),(.sl 3 (Bm b0_1)),(Aa .i64 b0_2),(Aa .i64 b0_3),(.sl 3 (Bm b0_4)),(.mp 1),(.mp 2)],.map (Bg (Aa .i64) b1),.map (Bg (Aw 5 D6) b2)]
theorem Abj (k:Nat):Ahd k/\Ahe k/\Ahf k:=by
 induction k with
 | zero=>exact ⟨okz,okz,okz⟩
 | succ k ih=>
  obtain ⟨i0_,i1_,i2_⟩:=ih
  refine ⟨@fun a0 a1 b1 b2 b0_0 b0_1 b0_2 b0_3 b0_4=>⟨fun {r} h=>?_⟩,@fun a0 a1 b1 b2 b0_0 b0_1 b0_2 b0_3 b0_4=>⟨fun {r} h=>?_⟩,@fun a0 a1 b1 b2 b0_0 b0_1 b0_2 b0_3 b0_4=>⟨fun {r} h=>?_⟩⟩
  .unfold Oh at h
   refine aw {T:=Cl,an:=(fun s=>bif Nat.beq s 9 then .own else .ask),nl:=(fun s=>bif Nat.beq s 9 then [(0,3)] else [])} true Tryz.func281 ?_
   refine Z ?_
   refine Bu h (fun _ h=>?_)
   refine Z ?_
   refine As h (fun _ h=>?_) (fun _ h=>?_)
   exact Y
   refine Z ?_
   refine Bu h (fun _ h=>?_)
   refine Z ?_
   refine Bc h (fun (v14,o15)=>[(9,(.arr 5 o15.length 0 o15.length)),(38,(Aa .i64 v14))]) (fun (v14,o15)=>[(5,.rows 29 3 (Bm o15))]) ?_
   rintro ⟨v14,o15⟩ _ _ _ h _ _
   refine Z ?_
   refine As h (fun _ h=>?_) (fun _ h=>?_)
   exact Y
   replace h:=C3 h
   refine Gb (F8 rfl (Az ?_))
   refine Ee [.fz 9] ?_
   refine Z ?_
   refine A5 [0,1,2] h (fun _ h=>?_)
   exact Y
  .unfold Mu at h
   refine aw C0 true Tryz.func240 ?_
   refine Z ?_
   refine As h (fun _ h=>?_) (fun _ h=>?_)
   refine Z ?_
   refine As h (fun _ h=>?_) (fun _ h=>?_)
   refine Z ?_
   refine A5 [0,1,2] h (fun _ h=>?_)
   exact Y
   exact Y
   refine Z ?_
   refine As h (fun _ h=>?_) (fun _ h=>?_)
   exact Y
   refine Z ?_
   refine As h (fun _ h=>?_) (fun _ h=>?_)
   refine Z ?_
   refine As h (fun _ h=>?_) (fun _ h=>?_)
   exact Y
   refine Z ?_
   refine Bc h (fun (v7,v8)=>[(6,(Aa .i64 0)),(7,(Aa .i64 v7)),(50,(Aa .i64 v8))]) (fun (v7,v8)=>[]) ?_
   rintro ⟨v7,v8⟩ _ _ _ h _ _
   refine Z ?_
   refine As h (fun _ h=>?_) (fun _ h=>?_)
   refine Z ?_
   refine Ch h (fun _ _ _ _ h=>?_)
   refine Z ?_
   refine A5 [0,1,2] h (fun _ h=>?_)
   exact Y
   exact Y
   exact Y
  .unfold Og at h
   refine aw C0 true Tryz.func280 ?_
   refine Z ?_
   refine As h (fun _ h=>?_) (fun _ h=>?_)
   exact Y
   refine Z ?_
   refine Bc h (fun (v5,v6)=>[(6,(Aa .i64 0)),(7,(Aa .i64 v5)),(18,(Aa .i64 v6))]) (fun (v5,v6)=>[]) ?_
   rintro ⟨v5,v6⟩ _ _ _ h _ _
   refine Z ?_
   refine As h (fun _ h=>?_) (fun _ h=>?_)
   refine Z ?_
   refine Ch h (fun _ _ _ _ h=>?_)
   refine Z ?_
   refine Ch h (fun _ _ _ _ h=>?_)
   refine Z ?_
   refine A5 [0,1,2] h (fun _ h=>?_)
   exact Y
   exact Y
instance {k:Nat}:Ahd k:=(Abj k).1
instance {k:Nat}:Ahe k:=(Abj k).2.1
instance {k:Nat}:Ahf k:=(Abj k).2.2
instance {a0:Int} {b1:List (ByteArray×Int)} {b2:List (ByteArray×(List Db))} {b0_0:List Ay} {b0_1:List Ai} {b0_2 b0_3:Int} {b0_4:List Ai}:OK (Mk a0 b1 b2 b0_0 b0_1 b0_2 b0_3 b0_4) fun r=>Bp Tryz.prog 37 [(.loc 0 0),(Aa .i64) a0] [.cells 119 [(.sl 3 (List.map Cs b0_0)),(.sl 3 (Bm b0_1)),(Aa .i64 b0_2),(Aa .i64 b0_3),(.sl 3 (Bm b0_4)),(.mp 1),(.mp 2)],.map (Bg (Aa .i64) b1),.map (Bg (Aw 5 D6) b2)] (Gd r) [.cells 119 [(.sl 3 (List.map Cs b0_0)),(.sl 3 (Bm b0_1)),(Aa .i64 b0_2),(Aa .i64 b0_3),(.sl 3 (Bm b0_4)),(.mp 1),(.mp 2)],.map (Bg (Aa .i64) b1),.map (Bg (Aw 5 D6) b2)]:=⟨fun {r} h=>by
 refine aw C0 true Tryz.func37 ?_
 exact Y⟩
instance {a0:Int} {a1:Bq} {b1:List (ByteArray×Int)} {b2:List (ByteArray×(List Db))} {b0_0:List Ay} {b0_1:List Ai} {b0_2 b0_3:Int} {b0_4:List Ai}:OK (Ky a0 a1 b1 b2 b0_0 b0_1 b0_2 b0_3 b0_4) fun r=>Bp Tryz.prog 163 [(.loc 0 0),(Aa .i64) a0,Ib a1] [.cells 119 [(.sl 3 (List.map Cs b0_0)),(.sl 3 (Bm b0_1)),(Aa .i64 b0_2),(Aa .i64 b0_3),(.sl 3 (Bm b0_4)),(.mp 1),(.mp 2)],.map (Bg (Aa .i64) b1),.map (Bg (Aw 5 D6) b2)] ((Aa .i64) r.1) [.cells 119 [(.sl 3 (List.map Cs b0_0)),(.sl 3 (Bm b0_1)),(Aa .i64 b0_2),(Aa .i64 b0_3),(.sl 3 (Bm b0_4)),(.mp 1),(.mp 2)],.map (Bg (Aa .i64) r.2),.map (Bg (Aw 5 D6) b2)]:=⟨fun {r} h=>by
 refine aw C0 true Tryz.func163 ?_
 refine Z ?_
 refine Bu h (fun _ h=>?_)
 refine ZO ?_
 refine Az ?_
 refine Cm h (fun (v3,v4)=>[(8,(Aa .i64 v3)),(9,(Au v4))]) (fun (v3,v4)=>[]) ?_ ?_
 intro _ h _ _ _
 refine Z ?_
 refine Wa (f:=(Aa .i64)) (l:=b1) rfl (0:Int) h (fun j_ hb h=>?_) (fun hb h=>?_)
 exact Y
 exact Y
 rintro ⟨v3,v4⟩ _ h
 refine Z ?_
 refine As h (fun _ h=>?_) (fun _ h=>?_)
 refine Z ?_
 refine A5 [0,1,2] h (fun _ h=>?_)
 refine Z ?_
 refine A5 [0,1,2] h (fun _ h=>?_)
 refine ZS ?_
 refine Cg ?_
 refine ZO ?_
 refine Cm h (fun v7=>[(8,(Aa .i64 v7))]) (fun v7=>[]) ?_ ?_
 intro _ h _ _ _
 exact Y
 rintro v7 _ h
 refine Z ?_
 refine Sb (f:=(Aa .i64)) (l:=b1) (x:=v7) rfl rfl ?_
 exact Y
 exact Y⟩
instance {a0:Bf} {b1:List (ByteArray×Int)} {b2:List (ByteArray×(List Db))} {b0_0:List Ay} {b0_1:List Ai} {b0_2 b0_3:Int} {b0_4:List Ai}:OK (Ms a0 b1 b2 b0_0 b0_1 b0_2 b0_3 b0_4) fun r=>Bp Tryz.prog 162 [(.loc 0 0),G2 a0] [.cells 119 [(.sl 3 (List.map Cs b0_0)),(.sl 3 (Bm b0_1)),(Aa .i64 b0_2),(Aa .i64 b0_3),(.sl 3 (Bm b0_4)),(.mp 1),(.mp 2)],.map (Bg (Aa .i64) b1),.map (Bg (Aw 5 D6) b2)] ((Aa .i64) r.1) [.cells 119 [(.sl 3 (List.map Cs b0_0)),(.sl 3 (Bm b0_1)),(Aa .i64 b0_2),(Aa .i64 b0_3),(.sl 3 (Bm b0_4)),(.mp 1),(.mp 2)],.map (Bg (Aa .i64) r.2),.map (Bg (Aw 5 D6) b2)]:=⟨fun {r} h=>by
 refine aw C0 true Tryz.func162 ?_
 refine Z ?_
 refine Bc h (fun (v5,v6,o7)=>[(5,(Aa .i64 v5)),(13,(Aa .i64 v6))]) (fun (v5,v6,o7)=>[(1,.map (Bg (Aa .i64) o7))]) ?_
 rintro ⟨v5,v6,o7⟩ _ _ _ h _ _
 refine Z ?_
 refine As h (fun _ h=>?_) (fun _ h=>?_)
 refine Z ?_
 refine Ch h (fun _ _ _ _ h=>?_)
 refine Z ?_
 refine As h (fun _ h=>?_) (fun _ h=>?_)
 refine Z ?_
 refine A5 [0,1,2] h (fun _ h=>?_)
 exact Y
 exact Y
 replace h:=C3 h
 refine Z ?_
 refine Bc h (fun (v15,v16)=>[(5,(Aa .i64 v15)),(31,(Aa .i64 v16))]) (fun (v15,v16)=>[]) ?_
 rintro ⟨v15,v16⟩ _ _ _ h _ _
 exact Y⟩
instance {a0:Int} {b1:List (ByteArray×Int)} {b2:List (ByteArray×(List Db))} {b0_0:List Ay} {b0_1:List Ai} {b0_2 b0_3:Int} {b0_4:List Ai}:OK (N0 a0 b1 b2 b0_0 b0_1 b0_2 b0_3 b0_4) fun r=>Bp Tryz.prog 142 [(.loc 0 0),(Aa .i64) a0] [.cells 119 [(.sl 3 (List.map Cs b0_0)),(.sl 3 (Bm b0_1)),(Aa .i64 b0_2),(Aa .i64 b0_3),(.sl 3 (Bm b0_4)),(.mp 1),(.mp 2)],.map (Bg (Aa .i64) b1),.map (Bg (Aw 5 D6) b2)] (Au r) [.cells 119 [(.sl 3 (List.map Cs b0_0)),(.sl 3 (Bm b0_1)),(Aa .i64 b0_2),(Aa .i64 b0_3),(.sl 3 (Bm b0_4)),(.mp 1),(.mp 2)],.map (Bg (Aa .i64) b1),.map (Bg (Aw 5 D6) b2)]:=⟨fun {r} h=>by
 refine aw C0 true Tryz.func142 ?_
 exact Y⟩
instance {a0:Ba} {b2:List (ByteArray×Int)} {b3:List (ByteArray×(List Db))} {b1_0:List Ay} {b1_1:List Ai} {b1_2 b1_3:Int} {b1_4:List Ai}:OK (P8 a0 b2 b3 b1_0 b1_1 b1_2 b1_3 b1_4) fun r=>Bp Tryz.prog 141 [C5 a0,(.loc 0 0)] [.cells 74 [(.loc 1 0)],.cells 119 [(.sl 3 (List.map Cs b1_0)),(.sl 3 (Bm b1_1)),(Aa .i64 b1_2),(Aa .i64 b1_3),(.sl 3 (Bm b1_4)),(.mp 2),(.mp 3)],.map (Bg (Aa .i64) b2),.map (Bg (Aw 5 D6) b3)] (Au r) [.cells 74 [(.loc 1 0)],.cells 119 [(.sl 3 (List.map Cs b1_0)),(.sl 3 (Bm b1_1)),(Aa .i64 b1_2),(Aa .i64 b1_3),(.sl 3 (Bm b1_4)),(.mp 2),(.mp 3)],.map (Bg (Aa .i64) b2),.map (Bg (Aw 5 D6) b3)]:=⟨fun {r} h=>by
 refine aw C0 true Tryz.func141 ?_
 refine Z ?_
 refine A5 [1,2,3] h (fun _ h=>?_)
 refine Z ?_
 refine Fw h (fun _ h=>?_) (fun _ h=>?_)
 exact Y
 refine Z ?_
 refine A5 [1,2,3] h (fun _ h=>?_)
 refine Z ?_
 refine Z2.mk 3 (by kernel_rfl) ?_
 exact Y⟩
instance {a0:List Ba} {b2:List (ByteArray×Int)} {b3:List (ByteArray×(List Db))} {b1_0:List Ay} {b1_1:List Ai} {b1_2 b1_3:Int} {b1_4:List Ai}:OK (Ww a0 b2 b3 b1_0 b1_1 b1_2 b1_3 b1_4) fun r=>Bp Tryz.prog 213 [(Aw 2 C5) a0,(.fn 141 [(.loc 0 0)])] [.cells 74 [(.loc 1 0)],.cells 119 [(.sl 3 (List.map Cs b1_0)),(.sl 3 (Bm b1_1)),(Aa .i64 b1_2),(Aa .i64 b1_3),(.sl 3 (Bm b1_4)),(.mp 2),(.mp 3)],.map (Bg (Aa .i64) b2),.map (Bg (Aw 5 D6) b3)] ((Aa .i64) r) [.cells 74 [(.loc 1 0)],.cells 119 [(.sl 3 (List.map Cs b1_0)),(.sl 3 (Bm b1_1)),(Aa .i64 b1_2),(Aa .i64 b1_3),(.sl 3 (Bm b1_4)),(.mp 2),(.mp 3)],.map (Bg (Aa .i64) b2),.map (Bg (Aw 5 D6) b3)]:=⟨fun {r} h=>by
 refine aw C0 true Tryz.func213 ?_
 refine Z ?_
 refine Bc h (fun v3=>[(4,(Aa .i64 0)),(8,(Aa .i64 v3))]) (fun v3=>[]) ?_
 rintro v3 _ _ _ h _ _
 refine Z ?_
 refine As h (fun _ h=>?_) (fun _ h=>?_)
 refine Z ?_
 refine Ch h (fun _ _ _ _ h=>?_)
 refine Z ?_
 refine A5 [0,1,2,3] h (fun _ h=>?_)
 exact Y
 exact Y⟩
instance {a0:List Ba} {b2:List (ByteArray×Int)} {b3:List (ByteArray×(List Db))} {b1_0:List Ay} {b1_1:List Ai} {b1_2 b1_3:Int} {b1_4:List Ai}:OK (Wq a0 b2 b3 b1_0 b1_1 b1_2 b1_3 b1_4) fun r=>Bp Tryz.prog 140 [(Aw 2 C5) a0,(.fn 141 [(.loc 0 0)])] [.cells 74 [(.loc 1 0)],.cells 119 [(.sl 3 (List.map Cs b1_0)),(.sl 3 (Bm b1_1)),(Aa .i64 b1_2),(Aa .i64 b1_3),(.sl 3 (Bm b1_4)),(.mp 2),(.mp 3)],.map (Bg (Aa .i64) b2),.map (Bg (Aw 5 D6) b3)] (Au r) [.cells 74 [(.loc 1 0)],.cells 119 [(.sl 3 (List.map Cs b1_0)),(.sl 3 (Bm b1_1)),(Aa .i64 b1_2),(Aa .i64 b1_3),(.sl 3 (Bm b1_4)),(.mp 2),(.mp 3)],.map (Bg (Aa .i64) b2),.map (Bg (Aw 5 D6) b3)]:=⟨fun {r} h=>by
 refine aw C0 true Tryz.func140 ?_
 refine Z ?_
 refine A5 [0,1,2,3] h (fun _ h=>?_)
 exact Y⟩
instance {a0:Be} {b1:List (ByteArray×Int)} {b2:List (ByteArray×(List Db))} {b0_0:List Ay} {b0_1:List Ai} {b0_2 b0_3:Int} {b0_4:List Ai}:OK (Nw a0 b1 b2 b0_0 b0_1 b0_2 b0_3 b0_4) fun r=>Bp Tryz.prog 81 [(.loc 0 0),Fr a0] [.cells 119 [(.sl 3 (List.map Cs b0_0)),(.sl 3 (Bm b0_1)),(Aa .i64 b0_2),(Aa .i64 b0_3),(.sl 3 (Bm b0_4)),(.mp 1),(.mp 2)],.map (Bg (Aa .i64) b1),.map (Bg (Aw 5 D6) b2)] (Au r) [.cells 119 [(.sl 3 (List.map Cs b0_0)),(.sl 3 (Bm b0_1)),(Aa .i64 b0_2),(Aa .i64 b0_3),(.sl 3 (Bm b0_4)),(.mp 1),(.mp 2)],.map (Bg (Aa .i64) b1),.map (Bg (Aw 5 D6) b2)]:=⟨fun {r} h=>by
 refine aw C0 true Tryz.func81 ?_
 refine Z ?_
 refine A5 [3,0,1,2] h (fun _ h=>?_)
 exact Y⟩
instance {a0:Bf} {b1:List (ByteArray×Int)} {b2:List (ByteArray×(List Db))} {b0_0:List Ay} {b0_1:List Ai} {b0_2 b0_3:Int} {b0_4:List Ai}:OK (S5 a0 b1 b2 b0_0 b0_1 b0_2 b0_3 b0_4) fun r=>Bp Tryz.prog 161 [(.loc 0 0),G2 a0] [.cells 119 [(.sl 3 (List.map Cs b0_0)),(.sl 3 (Bm b0_1)),(Aa .i64 b0_2),(Aa .i64 b0_3),(.sl 3 (Bm b0_4)),(.mp 1),(.mp 2)],.map (Bg (Aa .i64) b1),.map (Bg (Aw 5 D6) b2)] (Au r.1) [.cells 119 [(.sl 3 (List.map Cs b0_0)),(.sl 3 (Bm b0_1)),(Aa .i64 b0_2),(Aa .i64 b0_3),(.sl 3 (Bm b0_4)),(.mp 1),(.mp 2)],.map (Bg (Aa .i64) r.2),.map (Bg (Aw 5 D6) b2)]:=⟨fun {r} h=>by
 refine aw C0 true Tryz.func161 ?_
 refine Z ?_
 refine Bc h (fun (v6,o7)=>[(4,(Au false)),(12,(Aa .i64 v6))]) (fun (v6,o7)=>[(1,.map (Bg (Aa .i64) o7))]) ?_
 rintro ⟨v6,o7⟩ _ _ _ h _ _
 refine Z ?_
 refine As h (fun _ h=>?_) (fun _ h=>?_)
 refine Z ?_
 refine Ch h (fun _ _ _ _ h=>?_)
 refine Z ?_
 refine A5 [0,1,2] h (fun _ h=>?_)
 refine Z ?_
 refine Fw h (fun _ h=>?_) (fun _ h=>?_)
 exact Y
 refine Z ?_
 refine A5 [0,1,2] h (fun _ h=>?_)
 exact Y
 replace h:=C3 h
 refine Z ?_
 refine Bc h (fun v18=>[(4,(Au false)),(34,(Aa .i64 v18))]) (fun v18=>[]) ?_
 rintro v18 _ _ _ h _ _
 refine Z ?_
 refine As h (fun _ h=>?_) (fun _ h=>?_)
 refine Z ?_
 refine Ch h (fun _ _ _ _ h=>?_)
 refine Z ?_
 refine Fw h (fun _ h=>?_) (fun _ h=>?_)
 exact Y
 refine Z ?_
 refine A5 [0,1,2] h (fun _ h=>?_)
 exact Y
 exact Y⟩
instance {a0:Bf} {b1:List (ByteArray×Int)} {b2:List (ByteArray×(List Db))} {b0_0:List Ay} {b0_1:List Ai} {b0_2 b0_3:Int} {b0_4:List Ai}:OK (P2 a0 b1 b2 b0_0 b0_1 b0_2 b0_3 b0_4) fun r=>Bp Tryz.prog 100 [(.loc 0 0),G2 a0] [.cells 119 [(.sl 3 (List.map Cs b0_0)),(.sl 3 (Bm b0_1)),(Aa .i64 b0_2),(Aa .i64 b0_3),(.sl 3 (Bm b0_4)),(.mp 1),(.mp 2)],.map (Bg (Aa .i64) b1),.map (Bg (Aw 5 D6) b2)] (Au r.1) [.cells 119 [(.sl 3 (List.map Cs b0_0)),(.sl 3 (Bm b0_1)),(Aa .i64 b0_2),(Aa .i64 b0_3),(.sl 3 (Bm b0_4)),(.mp 1),(.mp 2)],.map (Bg (Aa .i64) r.2),.map (Bg (Aw 5 D6) b2)]:=⟨fun {r} h=>by
 refine aw C0 true Tryz.func100 ?_
 refine ZS ?_
 refine Cg ?_
 refine ZO ?_
 refine Az (Az ?_)
 refine Cm h (fun (v4,o5)=>[(18,(Au v4))]) (fun (v4,o5)=>[(1,.map (Bg (Aa .i64) o5))]) ?_ ?_
 intro _ h _ _ _
 refine Z ?_
 refine A5 [0,1,2] h (fun _ h=>?_)
 refine Z ?_
 refine Fw h (fun _ h=>?_) (fun _ h=>?_)
 exact Y
 refine Z ?_
 refine A5 [0,1,2] h (fun _ h=>?_)
 exact Y
 rintro ⟨v4,o5⟩ _ h
 refine As h (fun _ h=>?_) (fun _ h=>?_)
 exact Y
 refine Z ?_
 refine Bc h (fun (v9,o10)=>[(4,(Au false)),(22,(Aa .i64 v9))]) (fun (v9,o10)=>[(1,.map (Bg (Aa .i64) o10))]) ?_
 rintro ⟨v9,o10⟩ _ _ _ h _ _
 refine Z ?_
 refine As h (fun _ h=>?_) (fun _ h=>?_)
 refine Z ?_
 refine Ch h (fun _ _ _ _ h=>?_)
 refine Z ?_
 refine A5 [0,1,2] h (fun _ h=>?_)
 exact Y
 replace h:=C3 h
 refine Z ?_
 refine Bc h (fun v22=>[(4,(Au false)),(54,(Aa .i64 v22))]) (fun v22=>[]) ?_
 rintro v22 _ _ _ h _ _
 refine Z ?_
 refine As h (fun _ h=>?_) (fun _ h=>?_)
 refine Z ?_
 refine Ch h (fun _ _ _ _ h=>?_)
 refine ZO ?_
 refine Az (Az ?_)
 refine Cm h (fun v26=>[(74,(Au v26))]) (fun v26=>[]) ?_ ?_
 intro _ h _ _ _
 exact Y
 rintro v26 _ h
 exact Y
 exact Y⟩
instance {a0 a1:List Int}:OK (Nz a0 a1) fun r=>Ax Tryz.prog 135 [(Aw 1 (Aa .u32)) a0,(Aw 1 (Aa .u32)) a1] ((Aa .i64) r):=⟨fun {r} h=>by
 refine pw C0 Tryz.func135 ?_
 refine Z ?_
 refine As h (fun _ h=>?_) (fun _ h=>?_)
 exact Y
 refine Z ?_
 refine Bc h (fun v5=>[(4,(Aa .i64 0)),(5,(Aa .i64 v5))]) (fun v5=>[]) ?_
 rintro v5 _ _ _ h _ _
 exact Y⟩
instance {a0:List Int}:OK (Ia a0) fun r=>Ax Tryz.prog 133 [(Aw 1 (Aa .u32)) a0] ((Aw 1 (Aa .u32)) r):=⟨fun {r} h=>by
 refine pw {T:=Cl,an:=(fun _=>.ask),nl:=(fun s=>bif Nat.beq s 2 then [(0,1)] else [])} Tryz.func133 ?_
 refine Z ?_
 refine Bc h (fun v2=>[(3,(Aa .i64 v2))]) (fun v2=>[]) ?_
 rintro v2 _ _ _ h _ _
 exact Y⟩
instance {a0:List Int} {a1:Int}:OK (Of a0 a1) fun r=>Ax Tryz.prog 262 [(Aw 1 (Aa .u32)) a0,(Aa .u64) a1] (.tup [(Aw 1 (Aa .u32)) r.1,(Aa .u64) r.2]):=⟨fun {r} h=>by
 refine pw {T:=Cl,an:=(fun _=>.ask),nl:=(fun s=>bif Nat.beq s 4 then [(0,1)] else [])} Tryz.func262 ?_
 refine Z ?_
 refine Hf h (fun o1 h=>?_)
 refine Z ?_
 refine Ev h (fun (v7,v8,o9)=>[(7,(Aa .u64 v7)),(8,(Aa .i64 v8))]) (fun (v7,v8,o9)=>[(0,.rows 141 1 (List.map (Aa .u32) o9))]) (fun (v7,v8,o9)=>o1.length=o9.length) ?_
 rintro ⟨v7,v8,o9⟩ _ _ _ h _ _ q9
 refine Z ?_
 refine As h (fun _ h=>?_) (fun _ h=>?_)
 exact Y
 replace h:=C3 h
 refine Gb (F8 rfl (Az ?_))
 refine Ee [.fz 6] ?_
 exact Y⟩
instance {a0:Int}:OK (Lt a0) fun r=>Ax Tryz.prog 127 [(Aa .u64) a0] ((Aw 1 (Aa .u32)) r):=⟨fun {r} h=>by
 refine pw {T:=Cl,an:=(fun s=>bif Nat.beq s 3 then .own else .ask),nl:=(fun s=>bif Nat.beq s 3 then [(0,1)] else bif Nat.beq s 2 then [(0,1)] else [])} Tryz.func127 ?_
 refine Z ?_
 refine Bc h (fun (v10,o11)=>[(0,(Aa .u64 v10)),(3,(.arr 0 o11.length 0 o11.length))]) (fun (v10,o11)=>[(0,.rows 141 1 (List.map (Aa .u32) o11))]) ?_
 rintro ⟨v10,o11⟩ _ _ _ h _ _
 exact Y⟩
instance {a0:List Int} {a1:Int}:OK (Qk a0 a1) fun r=>Bp Tryz.prog 263 [(Aw 1 (Aa .u32)) a0,(Aa .u64) a1] [] (.arr 0 r.length 0 r.length) [.rows 141 1 (List.map (Aa .u32) r)]:=⟨fun {r} h=>by
 refine aw {T:=Cl,an:=(fun _=>.ask),nl:=(fun s=>bif Nat.beq s 4 then [(0,1)] else [])} false Tryz.func263 ?_
 refine Z ?_
 refine Hf h (fun o1 h=>?_)
 refine Z ?_
 refine Ev h (fun (v7,v8,o9)=>[(6,(Aa .u64 v7)),(15,(Aa .i64 v8))]) (fun (v7,v8,o9)=>[(0,.rows 141 1 (List.map (Aa .u32) o9))]) (fun (v7,v8,o9)=>o1.length=o9.length) ?_
 rintro ⟨v7,v8,o9⟩ _ _ _ h _ _ q9
 refine Z ?_
 refine As h (fun _ h=>?_) (fun _ h=>?_)
 exact Y
 replace h:=C3 h
 refine Z ?_
 refine G4 h (fun _ _ hiv16 _ h=>?_)
 refine Z ?_
 refine Lf (f:=(Aa .u32)) (x:=(Bw v7)) (j:=(a0.length:Int)) rfl rfl (Nat.zero_add _) hiv16 ?_
 refine Z ?_
 cases h
 exact ⟨congrArg (fun q_=>O.arr 0 q_ 0 q_) (Ga (l:=o9) q9 (a0.length:Int) (Bw v7)),rfl,trivial⟩⟩
instance {a0:List Int} {a1:Int}:OK (Abc a0 a1) fun r=>Ax Tryz.prog 263 [(Aw 1 (Aa .u32)) a0,(Aa .u64) a1] ((Aw 1 (Aa .u32)) r):=⟨fun {r} h=>by
 refine pw {T:=Cl,an:=(fun _=>.ask),nl:=(fun s=>bif Nat.beq s 4 then [(0,1)] else [])} Tryz.func263 ?_
 refine Z ?_
 refine Hf h (fun o1 h=>?_)
 refine Z ?_
 refine Ev h (fun (v7,v8,o9)=>[(6,(Aa .u64 v7)),(15,(Aa .i64 v8))]) (fun (v7,v8,o9)=>[(0,.rows 141 1 (List.map (Aa .u32) o9))]) (fun (v7,v8,o9)=>o1.length=o9.length) ?_
 rintro ⟨v7,v8,o9⟩ _ _ _ h _ _ q9
 exact Y⟩
end Go.Ab
namespace Go.Ab
open Go Go.Proofs
set_option maxRecDepth 10000
set_option maxHeartbeats 4000000
set_option linter.unusedVariables false
instance {a0 a1:Nat} {a2 b0:List Int}:OK (Tg a0 a1 a2 b0) fun r=>Bp Tryz.prog 264 [(.arr 0 b0.length a0 a1),(Aw 1 (Aa .u32)) a2] [.rows 141 1 (List.map (Aa .u32) b0)] ((Aa .u32) r.1) [.rows 141 1 (List.map (Aa .u32) r.2)]:=⟨fun {r} h=>by
 refine aw C0 true Tryz.func264 ?_
 refine Z ?_
 refine Ch h (fun _ _ _ _ h=>?_)
 refine Z ?_
 refine Ch h (fun _ _ _ _ h=>?_)
 refine Z ?_
 refine Qw h (fun _ _ _ _ h=>?_)
 refine Z ?_
 refine Qw h (fun _ _ _ _ h=>?_)
 refine Z ?_
 refine Sc h (fun _ h=>?_)
 refine Z ?_
 refine Sd h (fun _ h=>?_)
 refine Z ?_
 refine Bc h (fun (v9,v10)=>[(9,(Aa .u64 v9)),(10,(Aa .u64 v10))]) (fun (v9,v10)=>[]) ?_
 rintro ⟨v9,v10⟩ _ _ _ h _ _
 refine Az (Az ?_)
 refine Cm h (fun v12=>[(71,(Au v12))]) (fun v12=>[]) ?_ ?_
 intro _ h _ _ _
 exact Y
 rintro v12 _ h
 refine As h (fun _ h=>?_) (fun _ h=>?_)
 exact Y
 replace h:=C3 h
 refine Z ?_
 refine Ev h (fun (v24,v25,o26)=>[(11,(Aa .i64 v24)),(78,(Aa .i64 v25))]) (fun (v24,v25,o26)=>[(0,.rows 141 1 (List.map (Aa .u32) o26))]) (fun (v24,v25,o26)=>b0.length=o26.length) ?_
 rintro ⟨v24,v25,o26⟩ _ _ _ h _ _ q26
 refine Z ?_
 refine As h (fun _ h=>?_) (fun _ h=>?_)
 refine Z ?_
 refine Qw h (fun _ _ _ _ h=>?_)
 refine Z ?_
 refine Ch h (fun _ _ _ _ h=>?_)
 refine Z ?_
 refine Sd h (fun _ h=>?_)
 refine Z ?_
 refine Ch h (fun _ _ _ _ h=>?_)
 refine Z ?_
 refine Sc h (fun _ h=>?_)
 refine Z ?_
 refine Bc h (fun (v32,v33)=>[(11,(Aa .i64 v32)),(13,(Aa .i64 v33))]) (fun (v32,v33)=>[]) ?_
 rintro ⟨v32,v33⟩ _ _ _ h _ _
 exact Y
 replace h:=C3 h
 refine Z ?_
 refine Qw h (fun _ _ _ _ h=>?_)
 refine Z ?_
 refine As h (fun _ h=>?_) (fun _ h=>?_)
 exact Y
 refine Z ?_
 refine Ev h (fun (v46,v47,o48)=>[(15,(Aa .u32 v46)),(136,(Aa .i64 v47))]) (fun (v46,v47,o48)=>[(0,.rows 141 1 (List.map (Aa .u32) o48))]) (fun (v46,v47,o48)=>b0.length=o48.length) ?_
 rintro ⟨v46,v47,o48⟩ _ _ _ h _ _ q48
 exact Y⟩
instance {a0 a1:List Int}:OK (Oa a0 a1) fun r=>Ax Tryz.prog 203 [(Aw 1 (Aa .u32)) a0,(Aw 1 (Aa .u32)) a1] (.tup [(Aw 1 (Aa .u32)) r.1,(Aw 1 (Aa .u32)) r.2]):=⟨fun {r} h=>by
 refine pw {T:=Cl,an:=(fun _=>.ask),nl:=(fun s=>bif Nat.beq s 5 then [(0,1)] else bif Nat.beq s 4 then [(0,1)] else [])} Tryz.func203 ?_
 refine Z ?_
 refine Bu h (fun _ h=>?_)
 refine Z ?_
 refine As h (fun _ h=>?_) (fun _ h=>?_)
 exact Y
 refine Z ?_
 refine As h (fun _ h=>?_) (fun _ h=>?_)
 exact Y
 refine Z ?_
 refine Ch h (fun _ _ _ _ h=>?_)
 refine Z ?_
 refine Sc h (fun _ h=>?_)
 refine Z ?_
 refine A5 [] h (fun v9 h=>?_)
 refine Z ?_
 refine Bu h (fun _ h=>?_)
 refine Z ?_
 refine Oq h (fun v12 h=>?_)
 refine Z ?_
 refine Hf h (fun o13 h=>?_)
 refine Z ?_
 refine Ev h (fun (v19,o20,o21)=>[(13,(Aa .i64 v19))]) (fun (v19,o20,o21)=>[(0,.rows 141 1 (List.map (Aa .u32) o20)),(1,.rows 141 1 (List.map (Aa .u32) o21))]) (fun (v19,o20,o21)=>v9.length=o20.length/\o13.length=o21.length) ?_ (h0:=(⟨rfl,rfl⟩))
 rintro ⟨v19,o20,o21⟩ _ _ _ h _ hn1 ⟨q20,q21⟩
 refine Z ?_
 refine As h (fun _ h=>?_) (fun _ h=>?_)
 refine Z ?_
 refine Apm (f:=(Aa .u32)) rfl q20 h (fun v22 h=>?_)
 refine Z ?_
 refine C7 h (fun v23 hcv23 h=>?_)
 have okv23:=(OK.ok hcv23 :)
 rw [<-q20] at okv23
 refine E6.act [0] _ _ _ _ okv23 rfl rfl ⟨rfl,trivial⟩ ?_
 refine C7 h (fun v24 hgv24 h=>?_)
 refine Z ?_
 refine G4 h (fun _ _ hiv25 _ h=>?_)
 refine Z ?_
 refine Lf (f:=(Aa .u32)) (x:=v23.1) (j:=v19) rfl rfl (Nat.zero_add _) hiv25 ?_
 refine Z ?_
 exact hn1 _ _ _ _ (Option.some.inj h) ⟨rfl,trivial⟩ ⟨⟨rfl,rfl⟩,⟨rfl,rfl⟩,trivial⟩ (⟨Ht hgv24,Ga (l:=o21) q21 v19 v23.1⟩)
 replace h:=C3 h
 refine Gb (F8 rfl (Az ?_))
 refine Ee [.fz 10] ?_
 refine Z ?_
 refine Bu h (fun _ h=>?_)
 refine Z ?_
 refine Bu h (fun _ h=>?_)
 refine ZO ?_
 refine Az ?_
 refine Ee [.fz 12] ?_
 exact Y⟩
instance {a0:List Int}:OK (Qj a0) fun r=>Ax Tryz.prog 261 [(Aw 1 (Aa .u32)) a0] (.tup [(Aa .u64) r.1,Au r.2]):=⟨fun {r} h=>by
 refine pw C0 Tryz.func261 ?_
 refine Z ?_
 refine Bc h (fun (v3,v4)=>[(2,(Aa .u64 0)),(3,(Au false)),(4,(Aa .u64 v3)),(9,(Aa .i64 v4))]) (fun (v3,v4)=>[]) ?_
 rintro ⟨v3,v4⟩ _ _ _ h _ _
 exact Y⟩
instance {a0 a1:List Int}:OK (Td a0 a1) fun r=>Ax Tryz.prog 202 [(Aw 1 (Aa .u32)) a0,(Aw 1 (Aa .u32)) a1] ((Aw 1 (Aa .u32)) r):=⟨fun {r} h=>by
 refine pw {T:=Cl,an:=(fun _=>.ask),nl:=(fun s=>bif Nat.beq s 4 then [(0,1)] else [])} Tryz.func202 ?_
 refine Z ?_
 refine Bc h (fun (v12,v13)=>[(0,(.sl 1 (List.map (Aa .u32) v12))),(1,(.sl 1 (List.map (Aa .u32) v13))),(4,(.sl 1 (List.map (Aa .u32) [])))]) (fun (v12,v13)=>[]) ?_
 rintro ⟨v12,v13⟩ _ _ _ h _ _
 refine Z ?_
 refine As h (fun _ h=>?_) (fun _ h=>?_)
 refine Ix (J4 (Az (Az ?_)))
 refine Cm h (fun v14=>[(21,(Au v14))]) (fun v14=>[]) ?_ ?_
 intro _ h _ _ _
 exact Y
 rintro v14 _ h
 refine As h (fun _ h=>?_) (fun _ h=>?_)
 refine Z ?_
 refine Bu h (fun _ h=>?_)
 refine Z ?_
 refine Bu h (fun _ h=>?_)
 refine Z ?_
 refine Bc h (fun (v18,v19)=>[(5,(Aa .u64 v18)),(7,(Aa .u64 v19))]) (fun (v18,v19)=>[]) ?_
 rintro ⟨v18,v19⟩ _ _ _ h _ _
 exact Y
 exact Y
 exact Y⟩
instance {a0:List Int}:OK (N9 a0) fun r=>Ax Tryz.prog 201 [(Aw 1 (Aa .u32)) a0] (Au r):=⟨fun {r} h=>by
 refine pw C0 Tryz.func201 ?_
 exact Y⟩
instance {a0:Fv}:OK (Wo a0) fun r=>Ax Tryz.prog 128 [Mx a0] (Mx r):=⟨fun {r} h=>by
 refine pw {T:=Cl,an:=(fun _=>.ask),nl:=(fun s=>bif Nat.beq s 13 then [(1,1)] else [])} Tryz.func128 ?_
 exact Y⟩
instance {a0:Fv}:OK (Lm a0) fun r=>Ax Tryz.prog 72 [Mx a0] (C6 r):=⟨fun {r} h=>by
 refine pw C0 Tryz.func72 ?_
 exact Y⟩
instance {a0:List Int}:OK (P5 a0) fun r=>Ax Tryz.prog 132 [(Aw 1 (Aa .u32)) a0] ((Aw 1 (Aa .u32)) r):=⟨fun {r} h=>by
 refine pw {T:=Cl,an:=(fun _=>.ask),nl:=(fun s=>bif Nat.beq s 2 then [(0,1)] else [])} Tryz.func132 ?_
 refine Z ?_
 refine Hf h (fun _ h=>?_)
 refine Z ?_
 refine Bc h (fun (v14,v15,o16)=>[(3,(.arr 0 o16.length 0 o16.length)),(4,(Aa .u64 v14)),(13,(Aa .i64 v15))]) (fun (v14,v15,o16)=>[(0,.rows 141 1 (List.map (Aa .u32) o16))]) ?_
 rintro ⟨v14,v15,o16⟩ _ _ _ h _ _
 refine Z ?_
 refine As h (fun _ h=>?_) (fun _ h=>?_)
 exact Y
 replace h:=C3 h
 refine Z ?_
 refine As h (fun _ h=>?_) (fun _ h=>?_)
 refine Z ?_
 refine Qx h (fun _ h=>?_)
 refine ZO ?_
 refine Az ?_
 refine Ee [.fz 3] ?_
 exact Y
 refine Ix (Az ?_)
 refine Ee [.fz 3] ?_
 exact Y⟩
instance {a0:Aq}:OK (Kv a0) fun r=>Ax Tryz.prog 75 [C6 a0] (Mx r):=⟨fun {r} h=>by
 refine pw {T:=Cl,an:=(fun _=>.ask),nl:=(fun s=>bif Nat.beq s 20 then [(1,1)] else [])} Tryz.func75 ?_
 refine Z ?_
 refine Bu h (fun _ h=>?_)
 refine Z ?_
 refine Bu h (fun _ h=>?_)
 refine ZO ?_
 refine Az (Az ?_)
 refine Cm h (fun v5=>[(18,(Au v5))]) (fun v5=>[]) ?_ ?_
 intro _ h _ _ _
 exact Y
 rintro v5 _ h
 exact Y⟩
instance {a0:Aq}:OK (Lo a0) fun r=>Ax Tryz.prog 98 [C6 a0] (C6 r):=⟨fun {r} h=>by
 refine pw C0 Tryz.func98 ?_
 exact Y⟩
instance {a0:Fv}:OK (Sv a0) fun r=>Ax Tryz.prog 106 [Mx a0] ((Aa .i64) r):=⟨fun {r} h=>by
 refine pw C0 Tryz.func106 ?_
 exact Y⟩
instance {a0:Aq}:OK (G1 a0) fun r=>Ax Tryz.prog 55 [C6 a0] ((Aa .i64) r):=⟨fun {r} h=>by
 refine pw C0 Tryz.func55 ?_
 exact Y⟩
instance {a0 a1:List Int}:OK (Kw a0 a1) fun r=>Ax Tryz.prog 99 [(Aw 1 (Aa .u32)) a0,(Aw 1 (Aa .u32)) a1] (Au r):=⟨fun {r} h=>by
 refine pw C0 Tryz.func99 ?_
 refine Z ?_
 refine As h (fun _ h=>?_) (fun _ h=>?_)
 exact Y
 refine Z ?_
 refine Bc h (fun v3=>[(4,(Au false)),(13,(Aa .i64 v3))]) (fun v3=>[]) ?_
 rintro v3 _ _ _ h _ _
 exact Y⟩
instance {a0:List Aj} {b1:List (ByteArray×Int)} {b2:List (ByteArray×(List Db))} {b0_0:List Ay} {b0_1:List Ai} {b0_2 b0_3:Int} {b0_4:List Ai}:OK (Sj a0 b1 b2 b0_0 b0_1 b0_2 b0_3 b0_4) fun r=>Bp Tryz.prog 53 [(.loc 0 0),(Aw 5 B5) a0] [.cells 119 [(.sl 3 (List.map Cs b0_0)),(.sl 3 (Bm b0_1)),(Aa .i64 b0_2),(Aa .i64 b0_3),(.sl 3 (Bm b0_4)),(.mp 1),(.mp 2)],.map (Bg (Aa .i64) b1),.map (Bg (Aw 5 D6) b2)] (Au r.1) [.cells 119 [(.sl 3 (List.map Cs b0_0)),(.sl 3 (Bm b0_1)),(Aa .i64 b0_2),(Aa .i64 b0_3),(.sl 3 (Bm b0_4)),(.mp 1),(.mp 2)],.map (Bg (Aa .i64) r.2),.map (Bg (Aw 5 D6) b2)]:=⟨fun {r} h=>by
 refine aw C0 true Tryz.func53 ?_
 refine Z ?_
 refine As h (fun _ h=>?_) (fun _ h=>?_)
 exact Y
 refine Z ?_
 refine Bc h (fun (v10,o11)=>[(4,(Au false)),(14,(Aa .i64 v10))]) (fun (v10,o11)=>[(1,.map (Bg (Aa .i64) o11))]) ?_
 rintro ⟨v10,o11⟩ _ _ _ h _ _
 refine Z ?_
 refine As h (fun _ h=>?_) (fun _ h=>?_)
 refine Z ?_
 refine Ch h (fun _ _ _ _ h=>?_)
 refine Z ?_
 refine Bu h (fun _ h=>?_)
 refine ZO ?_
 refine Az ?_
 refine Cm h (fun v18=>[(8,(Au v18))]) (fun v18=>[]) ?_ ?_
 intro _ h _ _ _
 exact Y
 rintro v18 _ h
 refine Z ?_
 refine Fw h (fun _ h=>?_) (fun _ h=>?_)
 exact Y
 refine Z ?_
 refine Bu h (fun _ h=>?_)
 refine Z ?_
 refine Fw h (fun _ h=>?_) (fun _ h=>?_)
 exact Y
 refine Z ?_
 refine A5 [0,1,2] h (fun _ h=>?_)
 exact Y
 exact Y⟩
theorem Xl {a0:Bx} {a1:List (List Aj)} {r:(Bool×Bx×(List (ByteArray×Int))×(List (ByteArray×(List Db)))×(List Ay)×(List Ai)×Int×Int×(List Ai))} (h:Jj a0 a1=some (.inl r)):Bp Tryz.prog 26 [Jn a0,(Aw 1 (Aw 5 B5)) a1] [] (.tup [.loc 3 0,Au r.1]) [.cells 31 [(.sl 3 (List.map Cs r.2.1.Data)),(.sl 3 (Bm r.2.1.Vars)),(Aa .i64 r.2.1.Res.Kind),(Aa .i64 r.2.1.Res.Num),(.sl 3 (Bm r.2.1.Res.Args))],.map (Bg (Aa .i64) r.2.2.1),.map (Bg (Aw 5 D6) r.2.2.2.1),.cells 119 [(.sl 3 (List.map Cs r.2.2.2.2.1)),(.sl 3 (Bm r.2.2.2.2.2.1)),(Aa .i64 r.2.2.2.2.2.2.1),(Aa .i64 r.2.2.2.2.2.2.2.1),(.sl 3 (Bm r.2.2.2.2.2.2.2.2)),(.mp 1),(.mp 2)]]:=by
 refine aw {T:=Cl,an:=(fun _=>.ask),nl:=(fun s=>bif Nat.beq s 18 then [(1,7),(2,3),(3,8)] else [])} true Tryz.func26 ?_
 refine ZS ?_
 refine Cg ?_
 refine ZO ?_
 refine Az (Az ?_)
 refine Cm h (fun v4=>[(29,(Au v4))]) (fun v4=>[]) ?_ ?_
 intro _ h _ _ _
 exact Y
 rintro v4 _ h
 refine As h (fun _ h=>?_) (fun _ h=>?_)
 exact Y
 refine Z ?_
 refine Bc h (fun v8=>[(4,(.val (.pointer none))),(5,(Au false)),(33,(Aa .i64 v8))]) (fun v8=>[]) ?_
 rintro v8 _ _ _ h _ _
 refine Z ?_
 refine As h (fun _ h=>?_) (fun _ h=>?_)
 exact Y
 replace h:=C3 h
 refine Z ?_
 refine Bc h (fun (v18,o19)=>[(4,(.val (.pointer none))),(5,(Au false)),(50,(Aa .i64 v18))]) (fun (v18,o19)=>[(1,.map (Bg (Aa .i64) o19))]) ?_
 rintro ⟨v18,o19⟩ _ _ _ h _ _
 refine Z ?_
 refine As h (fun _ h=>?_) (fun _ h=>?_)
 refine Z ?_
 refine Ch h (fun _ _ _ _ h=>?_)
 refine Z ?_
 refine A5 [3,1,2] h (fun _ h=>?_)
 exact Y
 exact Y
theorem Xm {a0:Bx} {a1:List (List Aj)} {r:Bool} (h:Jj a0 a1=some (.inr r)):Bp Tryz.prog 26 [Jn a0,(Aw 1 (Aw 5 B5)) a1] [] (.tup [.val (.pointer none),Au r]) []:=by
 refine aw {T:=Cl,an:=(fun _=>.ask),nl:=(fun s=>bif Nat.beq s 18 then [(1,7),(2,3),(3,8)] else [])} true Tryz.func26 ?_
 refine ZS ?_
 refine Cg ?_
 refine ZO ?_
 refine Az (Az ?_)
 refine Cm h (fun v4=>[(29,(Au v4))]) (fun v4=>[]) ?_ ?_
 intro _ h _ _ _
 exact Y
 rintro v4 _ h
 refine As h (fun _ h=>?_) (fun _ h=>?_)
 exact Y
 refine Z ?_
 refine Bc h (fun v8=>[(4,(.val (.pointer none))),(5,(Au false)),(33,(Aa .i64 v8))]) (fun v8=>[]) ?_
 rintro v8 _ _ _ h _ _
 refine Z ?_
 refine As h (fun _ h=>?_) (fun _ h=>?_)
 exact Y
 replace h:=C3 h
 refine Z ?_
 refine Bc h (fun (v18,o19)=>[(4,(.val (.pointer none))),(5,(Au false)),(50,(Aa .i64 v18))]) (fun (v18,o19)=>[(1,.map (Bg (Aa .i64) o19))]) ?_
 rintro ⟨v18,o19⟩ _ _ _ h _ _
 refine Z ?_
 refine As h (fun _ h=>?_) (fun _ h=>?_)
 refine Z ?_
 refine Ch h (fun _ _ _ _ h=>?_)
 refine Z ?_
 refine A5 [3,1,2] h (fun _ h=>?_)
 exact Y
 exact Y
instance {a0:Int}:OK (Agc a0) fun r=>Ax Tryz.prog 37 [(.val (.pointer none)),(Aa .i64) a0] (Gd r):=⟨fun {r} h=>by
 refine pw C0 Tryz.func37 ?_
 exact Y⟩
instance {a0:Int}:OK (Agd a0) fun r=>Ax Tryz.prog 142 [(.val (.pointer none)),(Aa .i64) a0] (Au r):=⟨fun {r} h=>by
 refine pw C0 Tryz.func142 ?_
 exact Y⟩
instance {a0:Ba}:OK (Age a0) fun r=>Bp Tryz.prog 141 [C5 a0,(.loc 0 0)] [.cells 74 [(.val (.pointer none))]] (Au r) [.cells 74 [(.val (.pointer none))]]:=⟨fun {r} h=>by
 refine aw C0 true Tryz.func141 ?_
 refine Z ?_
 refine Bu h (fun _ h=>?_)
 refine Z ?_
 refine Fw h (fun _ h=>?_) (fun _ h=>?_)
 exact Y
 refine Z ?_
 refine Bu h (fun _ h=>?_)
 refine Z ?_
 refine Z2.mk 3 (by kernel_rfl) ?_
 exact Y⟩
instance {a0:List Ba}:OK (Agf a0) fun r=>Bp Tryz.prog 213 [(Aw 2 C5) a0,(.fn 141 [(.loc 0 0)])] [.cells 74 [(.val (.pointer none))]] ((Aa .i64) r) [.cells 74 [(.val (.pointer none))]]:=⟨fun {r} h=>by
 refine aw C0 true Tryz.func213 ?_
 refine Z ?_
 refine Bc h (fun v3=>[(4,(Aa .i64 0)),(8,(Aa .i64 v3))]) (fun v3=>[]) ?_
 rintro v3 _ _ _ h _ _
 refine Z ?_
 refine As h (fun _ h=>?_) (fun _ h=>?_)
 refine Z ?_
 refine Ch h (fun _ _ _ _ h=>?_)
 refine Z ?_
 refine A5 [0] h (fun _ h=>?_)
 exact Y
 exact Y⟩
instance {a0:List Ba}:OK (Agg a0) fun r=>Bp Tryz.prog 140 [(Aw 2 C5) a0,(.fn 141 [(.loc 0 0)])] [.cells 74 [(.val (.pointer none))]] (Au r) [.cells 74 [(.val (.pointer none))]]:=⟨fun {r} h=>by
 refine aw C0 true Tryz.func140 ?_
 refine Z ?_
 refine A5 [0] h (fun _ h=>?_)
 exact Y⟩
instance {a0:Be}:OK (Agh a0) fun r=>Ax Tryz.prog 81 [(.val (.pointer none)),Fr a0] (Au r):=⟨fun {r} h=>by
 refine pw C0 Tryz.func81 ?_
 refine Z ?_
 refine A5 [0] h (fun _ h=>?_)
 exact Y⟩
instance  : OK (Iy) fun r=>Bp Tryz.prog 27 [] [] (.loc 1 0) [.map (Bg (Aa .i64) r.1),.cells 122 [(.mp 0),(.arr 2 r.2.length 0 r.2.length)],.rows 72 5 (List.map B5 r.2)]:=⟨fun {r} h=>by
 refine aw C0 true Tryz.func27 ?_
 refine ZS ?_
 refine Cg ?_
 refine ZS ?_
 refine Cg ?_
 refine ZO ?_
 refine Ee [.own 3 1 72 5] ?_
 exact Y⟩
instance {a0:Be} {a1:Int}:OK (Od a0 a1) fun r=>Ax Tryz.prog 224 [Fr a0,(Aa .i64) a1] ((Aw 3 D5) r):=⟨fun {r} h=>by
 refine pw {T:=Cl,an:=(fun _=>.ask),nl:=(fun s=>bif Nat.beq s 4 then [(0,3)] else [])} Tryz.func224 ?_
 exact Y⟩
instance {a0:Int}:OK (Nu a0) fun r=>Ax Tryz.prog 71 [(Aa .i64) a0] ((Aw 1 (Aa .u32)) r):=⟨fun {r} h=>by
 refine pw {T:=Cl,an:=(fun _=>.ask),nl:=(fun s=>bif Nat.beq s 2 then [(0,1)] else [])} Tryz.func71 ?_
 exact Y⟩
instance {a0:Int}:OK (Fq a0) fun r=>Ax Tryz.prog 38 [(Aa .i64) a0] (C6 r):=⟨fun {r} h=>by
 refine pw C0 Tryz.func38 ?_
 exact Y⟩
instance {a0 a1:List Int}:OK (Ln a0 a1) fun r=>Ax Tryz.prog 76 [(Aw 1 (Aa .u32)) a0,(Aw 1 (Aa .u32)) a1] ((Aw 1 (Aa .u32)) r):=⟨fun {r} h=>by
 refine pw {T:=Cl,an:=(fun _=>.ask),nl:=(fun s=>bif Nat.beq s 4 then [(0,1)] else [])} Tryz.func76 ?_
 refine ZS ?_
 refine Cg ?_
 refine ZO ?_
 refine Az (Az ?_)
 refine Cm h (fun v1=>[(17,(Au v1))]) (fun v1=>[]) ?_ ?_
 intro _ h _ _ _
 exact Y
 rintro v1 _ h
 refine As h (fun _ h=>?_) (fun _ h=>?_)
 exact Y
 refine Z ?_
 refine Hf h (fun o2 h=>?_)
 refine Z ?_
 refine Ev h (fun (v23,o24)=>[(26,(Aa .i64 v23))]) (fun (v23,o24)=>[(0,.rows 141 1 (List.map (Aa .u32) o24))]) (fun (v23,o24)=>o2.length=o24.length) ?_
 rintro ⟨v23,o24⟩ _ _ _ h _ _ q24
 refine Z ?_
 refine As h (fun _ h=>?_) (fun _ h=>?_)
 refine Z ?_
 refine Ev h (fun (v31,v32,o33)=>[(7,(Aa .u64 v31)),(31,(Aa .i64 v32))]) (fun (v31,v32,o33)=>[(0,.rows 141 1 (List.map (Aa .u32) o33))]) (fun (v31,v32,o33)=>o2.length=o33.length) ?_
 rintro ⟨v31,v32,o33⟩ _ _ _ h _ _ q33
 exact Y
 replace h:=C3 h
 refine Gb (F8 rfl (Az ?_))
 refine Ee [.fz 5] ?_
 exact Y⟩
instance {a0 a1:Aq}:OK (Gn a0 a1) fun r=>Ax Tryz.prog 40 [C6 a0,C6 a1] (C6 r):=⟨fun {r} h=>by
 refine pw C0 Tryz.func40 ?_
 exact Y⟩
instance {a0 a1:Int}:OK (Nv a0 a1) fun r=>Ax Tryz.prog 79 [(Aa .i64) a0,(Aa .i64) a1] (C6 r):=⟨fun {r} h=>by
 refine pw C0 Tryz.func79 ?_
 exact Y⟩
instance {a0 a1:Int}:OK (Ob a0 a1) fun r=>Ax Tryz.prog 206 [(Aa .i64) a0,(Aa .i64) a1] (C6 r):=⟨fun {r} h=>by
 refine pw C0 Tryz.func206 ?_
 refine Z ?_
 refine Bu h (fun _ h=>?_)
 refine Z ?_
 refine Bc h (fun (v7,v8,v9,v10)=>[(9,(Aa .i64 v7))]) (fun (v7,v8,v9,v10)=>[(1,.cells 58 [(Au v8),(.sl 1 (List.map (Aa .u32) v9)),(.sl 1 (List.map (Aa .u32) v10))])]) ?_
 rintro ⟨v7,v8,v9,v10⟩ _ _ _ h _ _
 exact Y⟩
instance {a0 a1:Int}:OK (Qv a0 a1) fun r=>Ax Tryz.prog 130 [(Aa .i64) a0,(Aa .i64) a1] (.tup [C6 r.1,Au r.2]):=⟨fun {r} h=>by
 refine pw C0 Tryz.func130 ?_
 refine ZS ?_
 refine Cg ?_
 refine ZO ?_
 refine Az (Az ?_)
 refine Cm h (fun v2=>[(11,(Au v2))]) (fun v2=>[]) ?_ ?_
 intro _ h _ _ _
 exact Y
 rintro v2 _ h
 exact Y⟩
instance {a0:List Aq}:OK (Kz a0) fun r=>Ax Tryz.prog 302 [(Aw 3 C6) a0] ((Aw 3 C6) r):=⟨fun {r} h=>by
 refine pw {T:=Cl,an:=(fun _=>.ask),nl:=(fun s=>bif Nat.beq s 2 then [(0,3)] else [])} Tryz.func302 ?_
 refine Z ?_
 refine Bc h (fun v3=>[(3,(Aa .i64 v3))]) (fun v3=>[]) ?_
 rintro v3 _ _ _ h _ _
 refine Z ?_
 refine Fw h (fun _ h=>?_) (fun _ h=>?_)
 refine Z ?_
 refine Ch h (fun _ _ _ _ h=>?_)
 refine Z ?_
 refine Bu h (fun _ h=>?_)
 refine Z ?_
 refine As h (fun _ h=>?_) (fun _ h=>?_)
 exact Y
 replace h:=C3 h
 refine Z ?_
 refine Pt (f:=C6) (z:=((Aq.mk false [] []):Aq)) (by repeat (first | exact Et.nil | apply Et.sl | apply Et.same)) h (fun o7 h=>?_)
 refine Z ?_
 refine Ev h (fun (v12,o13)=>[(25,(Aa .i64 v12))]) (fun (v12,o13)=>[(0,.rows 58 3 (List.map C6 o13))]) (fun (v12,o13)=>o7.length=o13.length) ?_
 rintro ⟨v12,o13⟩ _ _ _ h _ _ q13
 exact Y
 replace h:=C3 h
 refine Z ?_
 refine Pt (f:=C6) (z:=((Aq.mk false [] []):Aq)) (by repeat (first | exact Et.nil | apply Et.sl | apply Et.same)) h (fun o7 h=>?_)
 refine Z ?_
 refine Ev h (fun (v12,o13)=>[(25,(Aa .i64 v12))]) (fun (v12,o13)=>[(0,.rows 58 3 (List.map C6 o13))]) (fun (v12,o13)=>o7.length=o13.length) ?_
 rintro ⟨v12,o13⟩ _ _ _ h _ _ q13
 exact Y⟩
instance {a0 a1:List Int}:OK (S0 a0 a1) fun r=>Ax Tryz.prog 134 [(Aw 1 (Aa .u32)) a0,(Aw 1 (Aa .u32)) a1] ((Aw 1 (Aa .u32)) r):=⟨fun {r} h=>by
 refine pw {T:=Cl,an:=(fun _=>.ask),nl:=(fun s=>bif Nat.beq s 4 then [(0,1)] else [])} Tryz.func134 ?_
 refine ZS ?_
 refine Cg ?_
 refine ZS ?_
 refine Cg ?_
 refine ZO ?_
 refine Cm h (fun (v1,v2)=>[(0,(.sl 1 (List.map (Aa .u32) v1))),(1,(.sl 1 (List.map (Aa .u32) v2)))]) (fun (v1,v2)=>[]) ?_ ?_
 intro _ h _ _ _
 exact Y
 rintro ⟨v1,v2⟩ _ h
 refine Z ?_
 refine Hf h (fun _ h=>?_)
 refine Z ?_
 refine Bc h (fun (v20,v21,o22)=>[(5,(.arr 0 o22.length 0 o22.length)),(6,(Aa .u32 v20)),(22,(Aa .i64 v21))]) (fun (v20,v21,o22)=>[(0,.rows 141 1 (List.map (Aa .u32) o22))]) ?_
 rintro ⟨v20,v21,o22⟩ _ _ _ h _ _
 refine Z ?_
 refine As h (fun _ h=>?_) (fun _ h=>?_)
 refine Z ?_
 refine Ch h (fun _ _ _ _ h=>?_)
 refine ZS ?_
 refine Cg ?_
 refine ZO ?_
 refine Cm h (fun v25=>[(8,(Aa .u32 v25))]) (fun v25=>[]) ?_ ?_
 intro _ h _ _ _
 exact Y
 rintro v25 _ h
 exact Y
 exact Y⟩
instance {a0 a1:List Int}:OK (P6 a0 a1) fun r=>Ax Tryz.prog 136 [(Aw 1 (Aa .u32)) a0,(Aw 1 (Aa .u32)) a1] ((Aw 1 (Aa .u32)) r):=⟨fun {r} h=>by
 refine pw {T:=Cl,an:=(fun _=>.ask),nl:=(fun s=>bif Nat.beq s 4 then [(0,1)] else [])} Tryz.func136 ?_
 refine Z ?_
 refine Hf h (fun _ h=>?_)
 refine Z ?_
 refine Bc h (fun (v8,v9,o10)=>[(5,(.arr 0 o10.length 0 o10.length)),(6,(Aa .i64 v8)),(14,(Aa .i64 v9))]) (fun (v8,v9,o10)=>[(0,.rows 141 1 (List.map (Aa .u32) o10))]) ?_
 rintro ⟨v8,v9,o10⟩ _ _ _ h _ _
 refine Z ?_
 refine As h (fun _ h=>?_) (fun _ h=>?_)
 refine Z ?_
 refine Ch h (fun _ _ _ _ h=>?_)
 refine ZS ?_
 refine Cg ?_
 refine ZO ?_
 refine Cm h (fun v13=>[(8,(Aa .i64 v13))]) (fun v13=>[]) ?_ ?_
 intro _ h _ _ _
 exact Y
 rintro v13 _ h
 exact Y
 replace h:=C3 h
 refine Gb (F8 rfl (Az ?_))
 refine Ee [.fz 5] ?_
 exact Y⟩
instance {a0 a1:Fv}:OK (Wk a0 a1) fun r=>Ax Tryz.prog 77 [Mx a0,Mx a1] (Mx r):=⟨fun {r} h=>by
 refine pw C0 Tryz.func77 ?_
 exact Y⟩
instance {a0 a1:Aq}:OK (Lj a0 a1) fun r=>Ax Tryz.prog 41 [C6 a0,C6 a1] (C6 r):=⟨fun {r} h=>by
 refine pw C0 Tryz.func41 ?_
 exact Y⟩
instance {a0 a1 b0:Aq}:OK (Tl a0 a1 b0) fun r=>Bp Tryz.prog 305 [C6 a0,C6 a1,(.loc 0 0)] [.cells 58 [(Au b0.Neg),(.sl 1 (List.map (Aa .u32) b0.Num)),(.sl 1 (List.map (Aa .u32) b0.Den))]] (C6 r) [.cells 58 [(Au b0.Neg),(.sl 1 (List.map (Aa .u32) b0.Num)),(.sl 1 (List.map (Aa .u32) b0.Den))]]:=⟨fun {r} h=>by
 refine aw C0 true Tryz.func305 ?_
 exact Y⟩
instance {a0 a1:List Aq} {b0:Aq}:OK (Oi a0 a1 b0) fun r=>Bp Tryz.prog 303 [(Aw 3 C6) a0,(Aw 3 C6) a1,(.fn 305 [(.loc 0 0)])] [.cells 58 [(Au b0.Neg),(.sl 1 (List.map (Aa .u32) b0.Num)),(.sl 1 (List.map (Aa .u32) b0.Den))]] ((Aw 3 C6) r) [.cells 58 [(Au b0.Neg),(.sl 1 (List.map (Aa .u32) b0.Num)),(.sl 1 (List.map (Aa .u32) b0.Den))]]:=⟨fun {r} h=>by
 refine aw {T:=Cl,an:=(fun _=>.ask),nl:=(fun s=>bif Nat.beq s 6 then [(0,3)] else [])} true Tryz.func303 ?_
 refine Z ?_
 refine Pt (f:=C6) (z:=((Aq.mk false [] []):Aq)) (by repeat (first | exact Et.nil | apply Et.sl | apply Et.same)) h (fun o1 h=>?_)
 refine Z ?_
 refine Ev h (fun (v15,o16)=>[(19,(Aa .i64 v15))]) (fun (v15,o16)=>[(1,.rows 58 3 (List.map C6 o16))]) (fun (v15,o16)=>o1.length=o16.length) ?_
 rintro ⟨v15,o16⟩ _ _ _ h _ _ q16
 refine Z ?_
 refine As h (fun _ h=>?_) (fun _ h=>?_)
 refine ZS ?_
 refine Cg ?_
 refine ZS ?_
 refine Cg ?_
 refine ZO ?_
 refine Az (Az ?_)
 refine Ee [.nil 9 1 1,.nil 9 2 1,.nil 10 1 1,.nil 10 2 1] ?_
 refine ZS ?_
 refine Cg ?_
 refine ZO ?_
 refine Cm h (fun (v20,v21,v22)=>[]) (fun (v20,v21,v22)=>[(2,.cells 58 [(Au v20),(.sl 1 (List.map (Aa .u32) v21)),(.sl 1 (List.map (Aa .u32) v22))])]) ?_ ?_
 intro _ h _ _ _
 exact Y
 rintro ⟨v20,v21,v22⟩ _ h
 refine ZS ?_
 refine Cg ?_
 refine ZO ?_
 refine Cm h (fun (v24,v25,v26)=>[]) (fun (v24,v25,v26)=>[(3,.cells 58 [(Au v24),(.sl 1 (List.map (Aa .u32) v25)),(.sl 1 (List.map (Aa .u32) v26))])]) ?_ ?_
 intro _ h _ _ _
 exact Y
 rintro ⟨v24,v25,v26⟩ _ h
 refine Z ?_
 refine A5 [0] h (fun _ h=>?_)
 exact Y
 exact Y⟩
instance {a0 a1:Int}:OK (Xd a0 a1) fun r=>Ax Tryz.prog 206 [(Aa .i64) a0,(Aa .i64) a1] (C6 r):=⟨fun {r} h=>by
 refine pw C0 Tryz.func206 ?_
 refine Z ?_
 refine Bu h (fun _ h=>?_)
 refine Z ?_
 refine Bc h (fun (v7,v8,v9,v10)=>[(9,(Aa .i64 v7))]) (fun (v7,v8,v9,v10)=>[(1,.cells 58 [(Au v8),(.sl 1 (List.map (Aa .u32) v9)),(.sl 1 (List.map (Aa .u32) v10))])]) ?_
 rintro ⟨v7,v8,v9,v10⟩ _ _ _ h _ _
 exact Y⟩
instance {a0:Int}:OK (Tq a0) fun r=>Bp Tryz.prog 334 [(Aa .i64) a0] [] (.arr 0 r.length 0 r.length) [.rows 58 3 (List.map C6 r)]:=⟨fun {r} h=>by
 refine aw {T:=Cl,an:=(fun _=>.ask),nl:=(fun s=>bif Nat.beq s 2 then [(0,3)] else [])} false Tryz.func334 ?_
 refine Z ?_
 refine Pt (f:=C6) (z:=((Aq.mk false [] []):Aq)) (by repeat (first | exact Et.nil | apply Et.sl | apply Et.same)) h (fun o1 h=>?_)
 refine Z ?_
 refine Ev h (fun (v5,o6)=>[(9,(Aa .i64 v5))]) (fun (v5,o6)=>[(0,.rows 58 3 (List.map C6 o6))]) (fun (v5,o6)=>o1.length=o6.length) ?_
 rintro ⟨v5,o6⟩ _ _ _ h _ _ q6
 refine Z ?_
 refine As h (fun _ h=>?_) (fun _ h=>?_)
 exact Y
 replace h:=C3 h
 refine Z ?_
 cases h
 exact ⟨congrArg (fun q_=>O.arr 0 q_ 0 q_) q6,rfl,trivial⟩⟩
instance {a0 a1:Int}:OK (Ql a0 a1) fun r=>Ax Tryz.prog 304 [(Aa .i64) a0,(Aa .i64) a1] ((Aw 3 C6) r):=⟨fun {r} h=>by
 refine pw {T:=Cl,an:=(fun _=>.ask),nl:=(fun s=>bif Nat.beq s 4 then [(0,3)] else [])} Tryz.func304 ?_
 refine Z ?_
 refine A5 [] h (fun v1 h=>?_)
 refine Z ?_
 refine Ev h (fun (v7,o8)=>[(6,(Aa .i64 v7))]) (fun (v7,o8)=>[(0,.rows 58 3 (List.map C6 o8))]) (fun (v7,o8)=>v1.length=o8.length) ?_
 rintro ⟨v7,o8⟩ _ _ _ h _ _ q8
 exact Y⟩
instance {a0 a1:List Aq}:OK (Th a0 a1) fun r=>Ax Tryz.prog 271 [(Aw 3 C6) a0,(Aw 3 C6) a1] (.tup [(Aw 3 C6) r.1,Au r.2]):=⟨fun {r} h=>by
 refine pw {T:=Cl,an:=(fun _=>.ask),nl:=(fun s=>bif Nat.beq s 6 then [(0,3)] else bif Nat.beq s 4 then [(0,3)] else [])} Tryz.func271 ?_
 refine ZS ?_
 refine Cg ?_
 refine ZO ?_
 refine Az (Az ?_)
 refine Cm h (fun v1=>[(19,(Au v1))]) (fun v1=>[]) ?_ ?_
 intro _ h _ _ _
 exact Y
 rintro v1 _ h
 refine As h (fun _ h=>?_) (fun _ h=>?_)
 exact Y
 refine Z ?_
 refine Bu h (fun _ h=>?_)
 refine Z ?_
 refine Bu h (fun _ h=>?_)
 refine ZO ?_
 refine Az (Az ?_)
 refine Cm h (fun v4=>[(31,(Au v4))]) (fun v4=>[]) ?_ ?_
 intro _ h _ _ _
 exact Y
 rintro v4 _ h
 refine As h (fun _ h=>?_) (fun _ h=>?_)
 exact Y
 refine Z ?_
 refine As h (fun _ h=>?_) (fun _ h=>?_)
 exact Y
 refine Z ?_
 refine Bc h (fun (v25,v26)=>[(6,(.sl 3 (List.map C6 v25))),(40,(Aa .i64 v26))]) (fun (v25,v26)=>[]) ?_
 rintro ⟨v25,v26⟩ _ _ _ h _ _
 refine Z ?_
 refine As h (fun _ h=>?_) (fun _ h=>?_)
 refine Z ?_
 refine Ch h (fun _ _ _ _ h=>?_)
 refine Z ?_
 refine Bc h (fun (v36,v37)=>[(6,(.sl 3 (List.map C6 v36))),(47,(Aa .i64 v37))]) (fun (v36,v37)=>[]) ?_
 rintro ⟨v36,v37⟩ _ _ _ h _ _
 refine Z ?_
 refine As h (fun _ h=>?_) (fun _ h=>?_)
 refine Z ?_
 refine Ch h (fun _ _ _ _ h=>?_)
 refine Z ?_
 refine Bu h (fun _ h=>?_)
 refine Z ?_
 refine Bu h (fun _ h=>?_)
 refine Z ?_
 refine As h (fun _ h=>?_) (fun _ h=>?_)
 exact Y
 refine Z ?_
 refine Bu h (fun _ h=>?_)
 refine Z ?_
 refine A5 [2] h (fun _ h=>?_)
 exact Y
 exact Y
 exact Y⟩
theorem Aq4 {a0:List A3} {r:(List Aq)} (h:Xe a0=some r):Ax Tryz.prog 223 [(Aw 3 D5) a0] ((Aw 3 C6) r):=by
 refine pw {T:=Cl,an:=(fun s=>bif Nat.beq s 10 then .own else .ask),nl:=(fun s=>bif Nat.beq s 2 then [(0,3)] else [])} Tryz.func223 ?_
 refine Z ?_
 refine Bu h (fun _ h=>?_)
 refine Z ?_
 refine Ev h (fun (v14,o15)=>[(3,(.arr 0 1 0 1)),(13,(Aa .i64 v14))]) (fun (v14,o15)=>[(0,.rows 58 3 (List.map C6 o15))]) (fun (v14,o15)=>1=o15.length) ?_
 rintro ⟨v14,o15⟩ _ _ _ h _ _ q15
 refine Z ?_
 refine As h (fun _ h=>?_) (fun _ h=>?_)
 refine Z ?_
 refine Ch h (fun _ _ _ _ h=>?_)
 refine Z ?_
 refine As h (fun _ h=>?_) (fun _ h=>?_)
 exact Y
 refine Z ?_
 refine Pt (f:=C6) (z:=((Aq.mk false [] []):Aq)) (by repeat (first | exact Et.nil | apply Et.sl | apply Et.same)) h (fun o23 h=>?_)
 exact Y
 exact Y
theorem Aq5 {a0:List A3} {r:(List Aq)} (h:Xf a0=some r):Ax Tryz.prog 223 [(Aw 3 D5) a0] ((Aw 3 C6) r):=by
 refine pw {T:=Cl,an:=(fun _=>.ask),nl:=(fun s=>bif Nat.beq s 2 then [(0,3)] else [])} Tryz.func223 ?_
 refine Z ?_
 refine Bu h (fun _ h=>?_)
 refine Z ?_
 refine Bc h (fun (v9,v10)=>[(3,(.sl 3 (List.map C6 v9))),(13,(Aa .i64 v10))]) (fun (v9,v10)=>[]) ?_
 rintro ⟨v9,v10⟩ _ _ _ h _ _
 refine Z ?_
 refine As h (fun _ h=>?_) (fun _ h=>?_)
 refine Z ?_
 refine Ch h (fun _ v11 _ _ h=>?_)
 refine Z ?_
 refine As h (fun _ h=>?_) (fun _ h=>?_)
 exact Y
 refine Z ?_
 refine Pt (f:=C6) (z:=((Aq.mk false [] []):Aq)) (by repeat (first | exact Et.nil | apply Et.sl | apply Et.same)) h (fun o13 h=>?_)
 refine Z ?_
 refine Bu h (fun v15 h=>?_)
 refine Z ?_
 refine G4 h (fun _ _ hiv16 _ h=>?_)
 refine Z ?_
 refine Lf (f:=C6) (x:=v15) (j:=v11.Deg) rfl rfl (Nat.zero_add _) hiv16 ?_
 refine ZO ?_
 refine Ee [.fz 8] ?_
 exact Y
 exact Y
instance {a0:List A3}:OK (J9 a0) fun r=>Ax Tryz.prog 223 [(Aw 3 D5) a0] ((Aw 3 C6) r):=⟨fun {r} h=>by
 unfold J9 at h
 cases hv:Xg a0 with
 | true=>rw [hv] at h; exact Aq4 h
 | false=>rw [hv] at h; exact Aq5 h⟩
instance {a0:Int}:OK (W5 a0) fun r=>Bp Tryz.prog 273 [(.val (.slice none 0 0)),(Aa .i64) a0] [] (.arr 0 r.length 0 r.length) [.rows 101 3 (List.map D5 r)]:=⟨fun {r} h=>by
 exact Aqy h⟩
instance {a0:List (List A3)}:OK (Wy a0) fun r=>Ax Tryz.prog 226 [(Aw 1 (Aw 3 D5)) a0] ((Aw 3 D5) r):=⟨fun {r} h=>by
 refine pw {T:=Cl,an:=(fun _=>.ask),nl:=(fun s=>bif Nat.beq s 2 then [(0,3)] else [])} Tryz.func226 ?_
 refine Z ?_
 refine Bc h (fun (v2,v3)=>[(3,(Aa .i64 v2)),(11,(Aa .i64 v3))]) (fun (v2,v3)=>[]) ?_
 rintro ⟨v2,v3⟩ _ _ _ h _ _
 refine Z ?_
 refine As h (fun _ h=>?_) (fun _ h=>?_)
 exact Y
 replace h:=C3 h
 refine Z ?_
 refine A5 [] h (fun _ h=>?_)
 refine Z ?_
 refine Bc h (fun (v14,o15)=>[(6,(.arr 0 o15.length 0 o15.length)),(27,(Aa .i64 v14))]) (fun (v14,o15)=>[(0,.rows 101 3 (List.map D5 o15))]) ?_
 rintro ⟨v14,o15⟩ _ _ _ h _ _
 exact Y⟩
instance {a0:Int}:OK (W4 a0) fun r=>Bp Tryz.prog 272 [(.val (.slice none 0 0)),(Aa .i64) a0] [] (.arr 0 r.length 0 r.length) [.rows 97 3 (List.map Eo r)]:=⟨fun {r} h=>by
 exact Aqv h⟩
instance {a0:List (List B4)}:OK (Wx a0) fun r=>Ax Tryz.prog 225 [(Aw 1 (Aw 3 Eo)) a0] ((Aw 3 Eo) r):=⟨fun {r} h=>by
 refine pw {T:=Cl,an:=(fun _=>.ask),nl:=(fun s=>bif Nat.beq s 2 then [(0,3)] else [])} Tryz.func225 ?_
 refine Z ?_
 refine Bc h (fun (v2,v3)=>[(3,(Aa .i64 v2)),(11,(Aa .i64 v3))]) (fun (v2,v3)=>[]) ?_
 rintro ⟨v2,v3⟩ _ _ _ h _ _
 refine Z ?_
 refine As h (fun _ h=>?_) (fun _ h=>?_)
 exact Y
 replace h:=C3 h
 refine Z ?_
 refine A5 [] h (fun _ h=>?_)
 refine Z ?_
 refine Bc h (fun (v14,o15)=>[(6,(.arr 0 o15.length 0 o15.length)),(27,(Aa .i64 v14))]) (fun (v14,o15)=>[(0,.rows 97 3 (List.map Eo o15))]) ?_
 rintro ⟨v14,o15⟩ _ _ _ h _ _
 exact Y⟩
instance {a0 a1:Bf}:OK (Mq a0 a1) fun r=>Ax Tryz.prog 145 [G2 a0,G2 a1] (G2 r):=⟨fun {r} h=>by
 refine pw C0 Tryz.func145 ?_
 exact Y⟩
instance {a0:Aj} {a1:Aq} {a2:Bf}:OK (Oc a0 a1 a2) fun r=>Ax Tryz.prog 218 [B5 a0,C6 a1,G2 a2] (B5 r):=⟨fun {r} h=>by
 refine pw C0 Tryz.func218 ?_
 exact Y⟩
instance {a0:List A3}:OK (Qf a0) fun r=>Bp Tryz.prog 220 [(Aw 3 D5) a0] [] (.arr 1 r.2.length 0 r.2.length) [.rows 101 3 (List.map D5 r.1),.rows 101 3 (List.map D5 r.2)]:=⟨fun {r} h=>by
 exact Aqf h⟩
end Go.Ab
namespace Go.Ab
open Go Go.Proofs
set_option maxRecDepth 10000
set_option maxHeartbeats 4000000
set_option linter.unusedVariables false
instance {a0:List B4}:OK (Te a0) fun r=>Bp Tryz.prog 214 [(Aw 3 Eo) a0] [] (.arr 1 r.2.length 0 r.2.length) [.rows 97 3 (List.map Eo r.1),.rows 97 3 (List.map Eo r.2)]:=⟨fun {r} h=>by
 exact Aqe h⟩
instance {a0 a1:A3}:OK (Qh a0 a1) fun r=>Ax Tryz.prog 222 [D5 a0,D5 a1] ((Aa .i64) r):=⟨fun {r} h=>by
 refine pw C0 Tryz.func222 ?_
 exact Y⟩
instance {a0 a1:Int} {b0:List A3}:OK (W7 a0 a1 b0) fun r=>Bp Tryz.prog 300 [(.arr 0 b0.length 0 b0.length),(Aa .i64) a0,(Aa .i64) a1,(.fn 222 [])] [.rows 101 3 (List.map D5 b0)] (.tup []) [.rows 101 3 (List.map D5 r)]:=⟨fun {r} h=>by
 refine aw C0 true Tryz.func300 ?_
 refine Z ?_
 refine Ev h (fun (v21,o22)=>[(8,(Aa .i64 v21))]) (fun (v21,o22)=>[(0,.rows 101 3 (List.map D5 o22))]) (fun (v21,o22)=>b0.length=o22.length) ?_
 rintro ⟨v21,o22⟩ _ _ _ h _ _ q22
 refine Z ?_
 refine As h (fun _ h=>?_) (fun _ h=>?_)
 refine Z ?_
 refine Ev h (fun (v31,o32)=>[(9,(Aa .i64 v31))]) (fun (v31,o32)=>[(0,.rows 101 3 (List.map D5 o32))]) (fun (v31,o32)=>b0.length=o32.length) ?_
 rintro ⟨v31,o32⟩ _ _ _ h _ _ q32
 refine Az (Az ?_)
 refine Cm h (fun v36=>[(34,(Au v36))]) (fun v36=>[]) ?_ ?_
 intro _ h _ _ _
 exact Y
 rintro v36 _ h
 exact Y
 exact Y⟩
instance {a0:Int} {b0:List A3}:OK (W3 a0 b0) fun r=>Bp Tryz.prog 270 [(.arr 0 b0.length 0 b0.length),(Aa .i64) a0,(.fn 222 [])] [.rows 101 3 (List.map D5 b0)] (.tup []) [.rows 101 3 (List.map D5 r)]:=⟨fun {r} h=>by
 refine aw C0 true Tryz.func270 ?_
 refine Z ?_
 refine Ev h (fun (v3,v4,o5)=>[(7,(Aa .i64 v3)),(8,(Aa .i64 v4))]) (fun (v3,v4,o5)=>[(0,.rows 101 3 (List.map D5 o5))]) (fun (v3,v4,o5)=>b0.length=o5.length) ?_
 rintro ⟨v3,v4,o5⟩ _ _ _ h _ hn1 q5
 refine Z ?_
 refine As h (fun _ h=>?_) (fun _ h=>?_)
 refine Z ?_
 refine C7 h (fun v6 hcv6 h=>?_)
 have okv6:=(OK.ok hcv6 :)
 rw [<-q5] at okv6
 refine E6.act [0] _ _ _ _ okv6 rfl rfl ⟨rfl,trivial⟩ ?_
 refine C7 h (fun v7 hgv7 h=>?_)
 refine Z ?_
 exact hn1 _ _ _ _ (Option.some.inj h) ⟨rfl,rfl,trivial⟩ ⟨⟨rfl,rfl⟩,trivial⟩ (Ht hgv7)
 replace h:=C3 h
 refine Z ?_
 refine C7 h (fun v11 hcv11 h=>?_)
 have okv11:=(OK.ok hcv11 :)
 rw [<-q5] at okv11
 refine E6.act [0] _ _ _ _ okv11 rfl rfl ⟨rfl,trivial⟩ ?_
 refine C7 h (fun v12 hgv12 h=>?_)
 refine Z ?_
 refine Bc h (fun (v13,v14,v15)=>[(6,(Aa .i64 v13)),(7,(Aa .i64 v14)),(8,(Aa .i64 v15))]) (fun (v13,v14,v15)=>[]) ?_
 rintro ⟨v13,v14,v15⟩ _ _ _ h _ _
 refine Z ?_
 refine As h (fun _ h=>?_) (fun _ h=>?_)
 refine Z ?_
 refine Bc h (fun _=>[(7,(Aa .i64 0)),(8,(Aa .i64 (Ac (2*v13))))]) (fun _=>[]) ?_
 rintro _ _ _ _ h _ _
 exact Y
 exact Y⟩
instance {b0:List A3}:OK (Qg b0) fun r=>Bp Tryz.prog 221 [(.arr 0 b0.length 0 b0.length),(.fn 222 [])] [.rows 101 3 (List.map D5 b0)] (.tup []) [.rows 101 3 (List.map D5 r)]:=⟨fun {r} h=>by
 refine aw C0 true Tryz.func221 ?_
 refine Z ?_
 refine A5 [0] h (fun _ h=>?_)
 refine C7 h (fun v2 hgv2 h=>?_)
 exact Y⟩
instance {a0 a1:B4}:OK (Tf a0 a1) fun r=>Ax Tryz.prog 216 [Eo a0,Eo a1] ((Aa .i64) r):=⟨fun {r} h=>by
 refine pw C0 Tryz.func216 ?_
 exact Y⟩
instance {a0 a1:Int} {b0:List B4}:OK (W6 a0 a1 b0) fun r=>Bp Tryz.prog 291 [(.arr 0 b0.length 0 b0.length),(Aa .i64) a0,(Aa .i64) a1,(.fn 216 [])] [.rows 97 3 (List.map Eo b0)] (.tup []) [.rows 97 3 (List.map Eo r)]:=⟨fun {r} h=>by
 refine aw C0 true Tryz.func291 ?_
 refine Z ?_
 refine Ev h (fun (v21,o22)=>[(8,(Aa .i64 v21))]) (fun (v21,o22)=>[(0,.rows 97 3 (List.map Eo o22))]) (fun (v21,o22)=>b0.length=o22.length) ?_
 rintro ⟨v21,o22⟩ _ _ _ h _ _ q22
 refine Z ?_
 refine As h (fun _ h=>?_) (fun _ h=>?_)
 refine Z ?_
 refine Ev h (fun (v31,o32)=>[(9,(Aa .i64 v31))]) (fun (v31,o32)=>[(0,.rows 97 3 (List.map Eo o32))]) (fun (v31,o32)=>b0.length=o32.length) ?_
 rintro ⟨v31,o32⟩ _ _ _ h _ _ q32
 refine Az (Az ?_)
 refine Cm h (fun v36=>[(34,(Au v36))]) (fun v36=>[]) ?_ ?_
 intro _ h _ _ _
 exact Y
 rintro v36 _ h
 exact Y
 exact Y⟩
instance {a0:Int} {b0:List B4}:OK (W2 a0 b0) fun r=>Bp Tryz.prog 268 [(.arr 0 b0.length 0 b0.length),(Aa .i64) a0,(.fn 216 [])] [.rows 97 3 (List.map Eo b0)] (.tup []) [.rows 97 3 (List.map Eo r)]:=⟨fun {r} h=>by
 refine aw C0 true Tryz.func268 ?_
 refine Z ?_
 refine Ev h (fun (v3,v4,o5)=>[(7,(Aa .i64 v3)),(8,(Aa .i64 v4))]) (fun (v3,v4,o5)=>[(0,.rows 97 3 (List.map Eo o5))]) (fun (v3,v4,o5)=>b0.length=o5.length) ?_
 rintro ⟨v3,v4,o5⟩ _ _ _ h _ hn1 q5
 refine Z ?_
 refine As h (fun _ h=>?_) (fun _ h=>?_)
 refine Z ?_
 refine C7 h (fun v6 hcv6 h=>?_)
 have okv6:=(OK.ok hcv6 :)
 rw [<-q5] at okv6
 refine E6.act [0] _ _ _ _ okv6 rfl rfl ⟨rfl,trivial⟩ ?_
 refine C7 h (fun v7 hgv7 h=>?_)
 refine Z ?_
 exact hn1 _ _ _ _ (Option.some.inj h) ⟨rfl,rfl,trivial⟩ ⟨⟨rfl,rfl⟩,trivial⟩ (Ht hgv7)
 replace h:=C3 h
 refine Z ?_
 refine C7 h (fun v11 hcv11 h=>?_)
 have okv11:=(OK.ok hcv11 :)
 rw [<-q5] at okv11
 refine E6.act [0] _ _ _ _ okv11 rfl rfl ⟨rfl,trivial⟩ ?_
 refine C7 h (fun v12 hgv12 h=>?_)
 refine Z ?_
 refine Bc h (fun (v13,v14,v15)=>[(6,(Aa .i64 v13)),(7,(Aa .i64 v14)),(8,(Aa .i64 v15))]) (fun (v13,v14,v15)=>[]) ?_
 rintro ⟨v13,v14,v15⟩ _ _ _ h _ _
 refine Z ?_
 refine As h (fun _ h=>?_) (fun _ h=>?_)
 refine Z ?_
 refine Bc h (fun _=>[(7,(Aa .i64 0)),(8,(Aa .i64 (Ac (2*v13))))]) (fun _=>[]) ?_
 rintro _ _ _ _ h _ _
 exact Y
 exact Y⟩
instance {b0:List B4}:OK (Qd b0) fun r=>Bp Tryz.prog 215 [(.arr 0 b0.length 0 b0.length),(.fn 216 [])] [.rows 97 3 (List.map Eo b0)] (.tup []) [.rows 97 3 (List.map Eo r)]:=⟨fun {r} h=>by
 refine aw C0 true Tryz.func215 ?_
 refine Z ?_
 refine A5 [0] h (fun _ h=>?_)
 refine C7 h (fun v2 hgv2 h=>?_)
 exact Y⟩
instance {a0:Aq} {a1:Bf} {b1:List (ByteArray×Int)} {b2:List (ByteArray×(List Db))} {b0_0:List Ay} {b0_1:List Ai} {b0_2 b0_3:Int} {b0_4:List Ai}:OK (P9 a0 a1 b1 b2 b0_0 b0_1 b0_2 b0_3 b0_4) fun r=>Bp Tryz.prog 143 [(.loc 0 0),C6 a0,G2 a1] [.cells 119 [(.sl 3 (List.map Cs b0_0)),(.sl 3 (Bm b0_1)),(Aa .i64 b0_2),(Aa .i64 b0_3),(.sl 3 (Bm b0_4)),(.mp 1),(.mp 2)],.map (Bg (Aa .i64) b1),.map (Bg (Aw 5 D6) b2)] (.tup [(Aw 5 B5) r.1,(Aa .i64) r.2]) [.cells 119 [(.sl 3 (List.map Cs b0_0)),(.sl 3 (Bm b0_1)),(Aa .i64 b0_2),(Aa .i64 b0_3),(.sl 3 (Bm b0_4)),(.mp 1),(.mp 2)],.map (Bg (Aa .i64) b1),.map (Bg (Aw 5 D6) b2)]:=⟨fun {r} h=>by
 refine aw {T:=Cl,an:=(fun s=>bif Nat.beq s 22 then .own else .ask),nl:=(fun s=>bif Nat.beq s 155 then [(0,3)] else bif Nat.beq s 31 then [(3,3),(4,3)] else bif Nat.beq s 22 then [(0,5)] else bif Nat.beq s 6 then [(0,5)] else [])} true Tryz.func143 ?_
 refine Z ?_
 refine Bu h (fun _ h=>?_)
 refine Z ?_
 refine As h (fun _ h=>?_) (fun _ h=>?_)
 exact Y
 refine Z ?_
 refine A5 [] h (fun v4 h=>?_)
 refine Z ?_
 refine A5 [6] h (fun _ h=>?_)
 refine C7 h (fun v8 hgv8 h=>?_)
 refine Z ?_
 refine Bc h (fun _=>[(6,(.sl 5 (List.map B5 []))),(7,(Aa .i64 0)),(8,(.sl 5 (List.map B5 [(Aj.mk a0 (Bf.mk [] []))]))),(9,(.arr 6 v4.2.length 0 v4.2.length))]) (fun _=>[]) ?_
 rintro _ _ _ _ h _ _
 refine Z ?_
 refine As h (fun _ h=>?_) (fun _ h=>?_)
 refine Z ?_
 refine G4 h (fun _ _ _ _ h=>?_)
 refine Z ?_
 refine Bc h (fun v11=>[(11,(Aa .i64 v11))]) (fun v11=>[]) ?_
 rintro v11 _ _ _ h _ _
 refine Z ?_
 refine Fw h (fun _ h=>?_) (fun _ h=>?_)
 refine Z ?_
 refine G4 h (fun _ _ _ _ h=>?_)
 refine Z ?_
 refine As h (fun _ h=>?_) (fun _ h=>?_)
 exact Y
 replace h:=C3 h
 refine Gb (F8 rfl (Az ?_))
 refine Ee [.fz 9] ?_
 exact Y
 replace h:=C3 h
 refine ZO ?_
 refine Pu (Gb (F8 rfl (Az ?_)))
 refine Ee [.fz 9] ?_
 exact Y
 replace h:=C3 h
 refine Z ?_
 refine A5 [] h (fun _ h=>?_)
 refine Z ?_
 refine A5 [8] h (fun _ h=>?_)
 refine C7 h (fun v19 hgv19 h=>?_)
 refine ZO ?_
 refine Az (J4 ?_)
 refine Ee [.fz 19] ?_
 refine Z ?_
 refine Bc h (fun (v110,v111)=>[(8,(.sl 5 (List.map B5 v110))),(19,(.sl 3 (List.map D5 v111)))]) (fun (v110,v111)=>[]) ?_
 rintro ⟨v110,v111⟩ _ _ _ h _ _
 refine Z ?_
 refine As h (fun _ h=>?_) (fun _ h=>?_)
 refine Z ?_
 refine Ch h (fun _ _ _ _ h=>?_)
 refine Z ?_
 refine Bc h (fun v116=>[(21,(Aa .i64 v116))]) (fun v116=>[]) ?_
 rintro v116 _ _ _ h _ _
 refine Z ?_
 refine Fw h (fun _ h=>?_) (fun _ h=>?_)
 refine Z ?_
 refine Ch h (fun _ _ _ _ h=>?_)
 refine Z ?_
 refine Bu h (fun _ h=>?_)
 refine Z ?_
 refine As h (fun _ h=>?_) (fun _ h=>?_)
 exact Y
 replace h:=C3 h
 refine Z ?_
 refine Oq h (fun _ h=>?_)
 refine Z ?_
 refine Bu h (fun _ h=>?_)
 refine Z ?_
 refine Bc h (fun (v173,o174)=>[(22,(.arr 10 o174.length 0 o174.length)),(135,(Aa .i64 v173))]) (fun (v173,o174)=>[(10,.rows 72 5 (List.map B5 o174))]) ?_
 rintro ⟨v173,o174⟩ _ _ _ h _ _
 refine Z ?_
 refine As h (fun _ h=>?_) (fun _ h=>?_)
 refine Z ?_
 refine Ch h (fun _ _ _ _ h=>?_)
 refine Z ?_
 refine Bu h (fun _ h=>?_)
 refine Z ?_
 refine As h (fun _ h=>?_) (fun _ h=>?_)
 exact Y
 refine Z ?_
 refine Bc h (fun (v190,o191)=>[(22,(.arr 10 o191.length 0 o191.length)),(145,(Aa .i64 v190))]) (fun (v190,o191)=>[(10,.rows 72 5 (List.map B5 o191))]) ?_
 rintro ⟨v190,o191⟩ _ _ _ h _ _
 exact Y
 replace h:=C3 h
 refine Gb (F8 rfl ?_)
 refine Ee [.fz 22] ?_
 exact Y
 replace h:=C3 h
 refine Z ?_
 refine Oq h (fun _ h=>?_)
 refine Z ?_
 refine Bu h (fun _ h=>?_)
 refine Z ?_
 refine Bc h (fun (v173,o174)=>[(22,(.arr 10 o174.length 0 o174.length)),(135,(Aa .i64 v173))]) (fun (v173,o174)=>[(10,.rows 72 5 (List.map B5 o174))]) ?_
 rintro ⟨v173,o174⟩ _ _ _ h _ _
 refine Z ?_
 refine As h (fun _ h=>?_) (fun _ h=>?_)
 refine Z ?_
 refine Ch h (fun _ _ _ _ h=>?_)
 refine Z ?_
 refine Bu h (fun _ h=>?_)
 refine Z ?_
 refine As h (fun _ h=>?_) (fun _ h=>?_)
 exact Y
 refine Z ?_
 refine Bc h (fun (v190,o191)=>[(22,(.arr 10 o191.length 0 o191.length)),(145,(Aa .i64 v190))]) (fun (v190,o191)=>[(10,.rows 72 5 (List.map B5 o191))]) ?_
 rintro ⟨v190,o191⟩ _ _ _ h _ _
 exact Y
 replace h:=C3 h
 refine Gb (F8 rfl ?_)
 refine Ee [.fz 22] ?_
 exact Y
 exact Y⟩
theorem Ahg {a0:Int} {a1:Bool} {b1:List Int} {r:(Int×(List Int))} (h:N5 a0 a1 b1=some (.inl r)):Bp Tryz.prog 167 [(.loc 0 0),(Aa .i64) a0,Au a1] [.cells 165 [(.val (.pointer none)),(.arr 1 b1.length 0 b1.length)],.rows 5 1 (List.map (Aa .u8) b1)] ((Aa .i64) r.1) [.cells 165 [(.loc 0 0),(.arr 1 r.2.length 0 r.2.length)],.rows 5 1 (List.map (Aa .u8) r.2)]:=by
 refine aw C0 true Tryz.func167 ?_
 refine ZS ?_
 refine Cg ?_
 refine ZO ?_
 refine Az (J4 (Az ?_))
 refine Cm h (fun v1=>[(7,(Au v1))]) (fun v1=>[]) ?_ ?_
 intro _ h _ _ _
 exact Y
 rintro v1 _ h
 refine As h (fun _ h=>?_) (fun _ h=>?_)
 refine Z ?_
 refine A5 [0,1] h (fun _ h=>?_)
 exact Y
 refine Z ?_
 refine As h (fun _ h=>?_) (fun _ h=>?_)
 refine Z ?_
 refine A5 [0,1] h (fun _ h=>?_)
 exact Y
 refine Z ?_
 refine As h (fun _ h=>?_) (fun _ h=>?_)
 refine Z ?_
 refine A5 [0,1] h (fun _ h=>?_)
 exact Y
 exact Y
theorem Ahh {a0:Int} {a1:Bool} {b1:List Int} {r:(Int×(List Int))} (h:N5 a0 a1 b1=some (.inr r)):Bp Tryz.prog 167 [(.loc 0 0),(Aa .i64) a0,Au a1] [.cells 165 [(.val (.pointer none)),(.arr 1 b1.length 0 b1.length)],.rows 5 1 (List.map (Aa .u8) b1)] ((Aa .i64) r.1) [.cells 165 [(.val (.pointer none)),(.arr 1 r.2.length 0 r.2.length)],.rows 5 1 (List.map (Aa .u8) r.2)]:=by
 refine aw C0 true Tryz.func167 ?_
 refine ZS ?_
 refine Cg ?_
 refine ZO ?_
 refine Az (J4 (Az ?_))
 refine Cm h (fun v1=>[(7,(Au v1))]) (fun v1=>[]) ?_ ?_
 intro _ h _ _ _
 exact Y
 rintro v1 _ h
 refine As h (fun _ h=>?_) (fun _ h=>?_)
 refine Z ?_
 refine A5 [0,1] h (fun _ h=>?_)
 exact Y
 refine Z ?_
 refine As h (fun _ h=>?_) (fun _ h=>?_)
 refine Z ?_
 refine A5 [0,1] h (fun _ h=>?_)
 exact Y
 refine Z ?_
 refine As h (fun _ h=>?_) (fun _ h=>?_)
 refine Z ?_
 refine A5 [0,1] h (fun _ h=>?_)
 exact Y
 exact Y
instance {a0:Int} {a1:Bool} {b1:List Int}:OK (Tt a0 a1 b1) fun r=>Bp Tryz.prog 167 [(.loc 0 0),(Aa .i64) a0,Au a1] [.cells 165 [(.loc 0 0),(.arr 1 b1.length 0 b1.length)],.rows 5 1 (List.map (Aa .u8) b1)] ((Aa .i64) r.1) [.cells 165 [(.loc 0 0),(.arr 1 r.2.length 0 r.2.length)],.rows 5 1 (List.map (Aa .u8) r.2)]:=⟨fun {r} h=>by
 refine aw C0 true Tryz.func167 ?_
 refine ZS ?_
 refine Cg ?_
 refine ZO ?_
 refine Az (J4 (Az ?_))
 refine Cm h (fun v1=>[(7,(Au v1))]) (fun v1=>[]) ?_ ?_
 intro _ h _ _ _
 exact Y
 rintro v1 _ h
 refine As h (fun _ h=>?_) (fun _ h=>?_)
 refine Z ?_
 refine A5 [0,1] h (fun _ h=>?_)
 exact Y
 refine Z ?_
 refine As h (fun _ h=>?_) (fun _ h=>?_)
 refine Z ?_
 refine A5 [0,1] h (fun _ h=>?_)
 exact Y
 refine Z ?_
 refine As h (fun _ h=>?_) (fun _ h=>?_)
 refine Z ?_
 refine A5 [0,1] h (fun _ h=>?_)
 exact Y
 exact Y⟩
instance {a0 a1:Int}:OK (J8 a0 a1) fun r=>Ax Tryz.prog 168 [(Aa .i64) a0,(Aa .i64) a1] (El r):=⟨fun {r} h=>by
 exact Ap7 h⟩
instance {b1:List Int}:OK (Xh b1) fun r=>Bp Tryz.prog 105 [(.loc 0 0)] [.cells 165 [(.val (.pointer none)),(.arr 1 b1.length 0 b1.length)],.rows 5 1 (List.map (Aa .u8) b1)] (El r) [.cells 165 [(.val (.pointer none)),(.arr 1 b1.length 0 b1.length)],.dead]:=⟨fun {r} h=>by
 exact Ago h⟩
instance {a0:Be}:OK (Lq a0) fun r=>Ax Tryz.prog 104 [Fr a0] (El r):=⟨fun {r} h=>by
 refine pw C0 Tryz.func104 ?_
 refine Z ?_
 refine Bu h (fun _ h=>?_)
 refine Z ?_
 refine As h (fun _ h=>?_) (fun _ h=>?_)
 exact Y
 refine ZS ?_
 refine Cg ?_
 refine ZO ?_
 refine Az (Az ?_)
 refine Ee [.own 3 1 5 1] ?_
 refine Z ?_
 refine Wd ?_
 refine Z ?_
 refine As h (fun _ h=>?_) (fun _ h=>?_)
 refine Ix (Az ?_)
 refine Cm h (fun (v30,o31)=>[(4,(Aa .i64 0)),(6,(Aa .i64 v30))]) (fun (v30,o31)=>[(1,.cells 165 [(.loc 1 0),(.arr 2 o31.length 0 o31.length)]),(2,.rows 5 1 (List.map (Aa .u8) o31))]) ?_ ?_
 intro _ h _ _ _
 refine Z ?_
 refine Ch h (fun _ v5 _ _ h=>?_)
 refine Z ?_
 refine C7 h (fun v7 hcv7 h=>?_)
 rcases v7 with v8 | v9
 refine E6.act [1,2] _ _ _ _ (Ahg (a0:=v5.Coef) (a1:=true) (b1:=[]) hcv7) rfl rfl ⟨rfl,rfl,trivial⟩ ?_
 refine ZS ?_
 refine Cg ?_
 refine ZO ?_
 refine Cm h (fun o14=>[]) (fun o14=>[(1,.cells 165 [(.loc 1 0),(.arr 2 o14.length 0 o14.length)]),(2,.rows 5 1 (List.map (Aa .u8) o14))]) ?_ ?_
 intro _ h _ _ _
 refine As h (fun _ h=>?_) (fun _ h=>?_)
 refine Z ?_
 refine Bu h (fun _ h=>?_)
 refine Z ?_
 refine Fu h (fun h=>?_)
 refine Z ?_
 refine A5 [1,2] h (fun _ h=>?_)
 exact Y
 exact Y
 rintro o14 _ h
 refine Z ?_
 refine As h (fun _ h=>?_) (fun _ h=>?_)
 refine Z ?_
 refine A5 [1,2] h (fun _ h=>?_)
 exact Y
 refine Z ?_
 refine Bu h (fun _ h=>?_)
 refine Z ?_
 refine Fu h (fun h=>?_)
 refine Z ?_
 refine A5 [1,2] h (fun _ h=>?_)
 exact Y
 refine E6.act [1,2] _ _ _ _ (Ahh (a0:=v5.Coef) (a1:=true) (b1:=[]) hcv7) rfl rfl ⟨rfl,rfl,trivial⟩ ?_
 refine Z ?_
 refine As h (fun _ h=>?_) (fun _ h=>?_)
 refine Z ?_
 refine Bu h (fun _ h=>?_)
 refine Z ?_
 refine Fu h (fun h=>?_)
 refine Z ?_
 refine A5 [1,2] h (fun _ h=>?_)
 refine Z ?_
 refine As h (fun _ h=>?_) (fun _ h=>?_)
 refine Z ?_
 refine A5 [1,2] h (fun _ h=>?_)
 exact Y
 refine Z ?_
 refine Bu h (fun _ h=>?_)
 refine Z ?_
 refine Fu h (fun h=>?_)
 refine Z ?_
 refine A5 [1,2] h (fun _ h=>?_)
 exact Y
 refine Z ?_
 refine As h (fun _ h=>?_) (fun _ h=>?_)
 refine Z ?_
 refine A5 [1,2] h (fun _ h=>?_)
 exact Y
 refine Z ?_
 refine Bu h (fun _ h=>?_)
 refine Z ?_
 refine Fu h (fun h=>?_)
 refine Z ?_
 refine A5 [1,2] h (fun _ h=>?_)
 exact Y
 rintro ⟨v30,o31⟩ _ h
 refine Z ?_
 refine Bc h (fun (v43,o44)=>[(13,(Aa .i64 v43))]) (fun (v43,o44)=>[(1,.cells 165 [(.loc 1 0),(.arr 2 o44.length 0 o44.length)]),(2,.rows 5 1 (List.map (Aa .u8) o44))]) ?_
 rintro ⟨v43,o44⟩ _ _ _ h _ _
 refine Z ?_
 refine As h (fun _ h=>?_) (fun _ h=>?_)
 refine Z ?_
 refine Ch h (fun _ _ _ _ h=>?_)
 refine Z ?_
 refine A5 [1,2] h (fun _ h=>?_)
 refine ZS ?_
 refine Cg ?_
 refine ZO ?_
 refine Cm h (fun o51=>[]) (fun o51=>[(1,.cells 165 [(.loc 1 0),(.arr 2 o51.length 0 o51.length)]),(2,.rows 5 1 (List.map (Aa .u8) o51))]) ?_ ?_
 intro _ h _ _ _
 refine As h (fun _ h=>?_) (fun _ h=>?_)
 refine Z ?_
 refine Bu h (fun _ h=>?_)
 refine Z ?_
 refine Fu h (fun h=>?_)
 refine Z ?_
 refine A5 [1,2] h (fun _ h=>?_)
 exact Y
 exact Y
 rintro o51 _ h
 refine Z ?_
 refine As h (fun _ h=>?_) (fun _ h=>?_)
 refine Z ?_
 refine A5 [1,2] h (fun _ h=>?_)
 exact Y
 refine Z ?_
 refine Bu h (fun _ h=>?_)
 refine Z ?_
 refine Fu h (fun h=>?_)
 refine Z ?_
 refine A5 [1,2] h (fun _ h=>?_)
 exact Y
 replace h:=C3 h
 refine Gb (F8 rfl (Az (Az ?_)))
 refine Cm h (fun v57=>[(47,(Au v57))]) (fun v57=>[]) ?_ ?_
 intro _ h _ _ _
 exact Y
 rintro v57 _ h
 refine As h (fun _ h=>?_) (fun _ h=>?_)
 refine Z ?_
 refine A5 [1,2] h (fun _ h=>?_)
 refine Z ?_
 refine Bu h (fun _ h=>?_)
 refine Z ?_
 refine A5 [1,2] h (fun _ h=>?_)
 refine Z ?_
 refine A5 [1,2] h (fun _ h=>?_)
 exact Y
 refine Z ?_
 refine A5 [1,2] h (fun _ h=>?_)
 exact Y
 refine Gb (F8 rfl (Az (Az ?_)))
 refine Cm h (fun v63=>[(47,(Au v63))]) (fun v63=>[]) ?_ ?_
 intro _ h _ _ _
 exact Y
 rintro v63 _ h
 refine As h (fun _ h=>?_) (fun _ h=>?_)
 refine Z ?_
 refine C7 h (fun v64 hcv64 h=>?_)
 rcases v64 with v65 | v66
 refine E6.act [1,2] _ _ _ _ (Ahg (a0:=a0.Const) (a1:=((a0.Terms.length:Int)==(0:Int))) (b1:=[]) hcv64) rfl rfl ⟨rfl,rfl,trivial⟩ ?_
 refine Z ?_
 refine Bu h (fun _ h=>?_)
 refine Z ?_
 refine A5 [1,2] h (fun _ h=>?_)
 refine Z ?_
 refine A5 [1,2] h (fun _ h=>?_)
 exact Y
 refine E6.act [1,2] _ _ _ _ (Ahh (a0:=a0.Const) (a1:=((a0.Terms.length:Int)==(0:Int))) (b1:=[]) hcv64) rfl rfl ⟨rfl,rfl,trivial⟩ ?_
 refine Z ?_
 refine Bu h (fun _ h=>?_)
 refine Z ?_
 refine A5 [1,2] h (fun _ h=>?_)
 refine Z ?_
 refine A5 [1,2] h (fun _ h=>?_)
 exact Y
 refine Z ?_
 refine A5 [1,2] h (fun _ h=>?_)
 exact Y⟩
instance {a0:Bf}:OK (Sk a0) fun r=>Ax Tryz.prog 54 [G2 a0] (El r):=⟨fun {r} h=>by
 refine pw C0 Tryz.func54 ?_
 refine ZS ?_
 refine Cg ?_
 refine ZS ?_
 refine Cg ?_
 refine ZO ?_
 refine Az (Az ?_)
 refine Ee [.own 3 1 5 1] ?_
 refine Z ?_
 refine Wd ?_
 refine Z ?_
 refine As h (fun _ h=>?_) (fun _ h=>?_)
 refine Z ?_
 refine Ch h (fun _ _ _ _ h=>?_)
 refine Z ?_
 refine Bu h (fun _ h=>?_)
 refine Z ?_
 refine A5 [1,2] h (fun _ h=>?_)
 refine Z ?_
 refine Bc h (fun (v18,o19)=>[(11,(Aa .i64 v18))]) (fun (v18,o19)=>[(1,.cells 165 [(.loc 1 0),(.arr 2 o19.length 0 o19.length)]),(2,.rows 5 1 (List.map (Aa .u8) o19))]) ?_
 rintro ⟨v18,o19⟩ _ _ _ h _ _
 refine Z ?_
 refine As h (fun _ h=>?_) (fun _ h=>?_)
 refine Z ?_
 refine Ch h (fun _ _ _ _ h=>?_)
 refine Z ?_
 refine Bu h (fun _ h=>?_)
 refine Z ?_
 refine A5 [1,2] h (fun _ h=>?_)
 exact Y
 replace h:=C3 h
 refine Z ?_
 refine Wd ?_
 refine Z ?_
 refine As h (fun _ h=>?_) (fun _ h=>?_)
 refine Z ?_
 refine Ch h (fun _ _ _ _ h=>?_)
 refine Z ?_
 refine Bu h (fun _ h=>?_)
 refine Z ?_
 refine Fu h (fun h=>?_)
 refine Z ?_
 refine Fu h (fun h=>?_)
 refine Z ?_
 refine Bu h (fun _ h=>?_)
 refine Z ?_
 refine Fu h (fun h=>?_)
 refine Z ?_
 refine A5 [1,2] h (fun _ h=>?_)
 refine Z ?_
 refine Bc h (fun (v51,o52)=>[(25,(Aa .i64 v51))]) (fun (v51,o52)=>[(1,.cells 165 [(.loc 1 0),(.arr 2 o52.length 0 o52.length)]),(2,.rows 5 1 (List.map (Aa .u8) o52))]) ?_
 rintro ⟨v51,o52⟩ _ _ _ h _ _
 refine Z ?_
 refine As h (fun _ h=>?_) (fun _ h=>?_)
 refine Z ?_
 refine Ch h (fun _ _ _ _ h=>?_)
 refine Z ?_
 refine Bu h (fun _ h=>?_)
 refine Z ?_
 refine Fu h (fun h=>?_)
 refine Z ?_
 refine Fu h (fun h=>?_)
 refine Z ?_
 refine Bu h (fun _ h=>?_)
 refine Z ?_
 refine Fu h (fun h=>?_)
 refine Z ?_
 refine A5 [1,2] h (fun _ h=>?_)
 exact Y
 replace h:=C3 h
 refine Z ?_
 refine A5 [1,2] h (fun _ h=>?_)
 exact Y
 refine Z ?_
 refine A5 [1,2] h (fun _ h=>?_)
 exact Y
 refine Z ?_
 refine Wd ?_
 refine Z ?_
 refine As h (fun _ h=>?_) (fun _ h=>?_)
 refine Z ?_
 refine Ch h (fun _ _ _ _ h=>?_)
 refine Z ?_
 refine Bu h (fun _ h=>?_)
 refine Z ?_
 refine Fu h (fun h=>?_)
 refine Z ?_
 refine Fu h (fun h=>?_)
 refine Z ?_
 refine Bu h (fun _ h=>?_)
 refine Z ?_
 refine Fu h (fun h=>?_)
 refine Z ?_
 refine A5 [1,2] h (fun _ h=>?_)
 refine Z ?_
 refine Bc h (fun (v90,o91)=>[(25,(Aa .i64 v90))]) (fun (v90,o91)=>[(1,.cells 165 [(.loc 1 0),(.arr 2 o91.length 0 o91.length)]),(2,.rows 5 1 (List.map (Aa .u8) o91))]) ?_
 rintro ⟨v90,o91⟩ _ _ _ h _ _
 refine Z ?_
 refine As h (fun _ h=>?_) (fun _ h=>?_)
 refine Z ?_
 refine Ch h (fun _ _ _ _ h=>?_)
 refine Z ?_
 refine Bu h (fun _ h=>?_)
 refine Z ?_
 refine Fu h (fun h=>?_)
 refine Z ?_
 refine Fu h (fun h=>?_)
 refine Z ?_
 refine Bu h (fun _ h=>?_)
 refine Z ?_
 refine Fu h (fun h=>?_)
 refine Z ?_
 refine A5 [1,2] h (fun _ h=>?_)
 exact Y
 replace h:=C3 h
 refine Z ?_
 refine A5 [1,2] h (fun _ h=>?_)
 exact Y
 refine Z ?_
 refine A5 [1,2] h (fun _ h=>?_)
 exact Y⟩
instance {a0:List Aj} {b1:List (ByteArray×Int)} {b2:List Aj}:OK (H9 a0 b1 b2) fun r=>Bp Tryz.prog 28 [(.loc 0 0),(Aw 5 B5) a0] [.cells 122 [(.mp 1),(.arr 2 b2.length 0 b2.length)],.map (Bg (Aa .i64) b1),.rows 72 5 (List.map B5 b2)] (.tup []) [.cells 122 [(.mp 1),(.arr 2 r.2.length 0 r.2.length)],.map (Bg (Aa .i64) r.1),.rows 72 5 (List.map B5 r.2)]:=⟨fun {r} h=>by
 refine aw C0 true Tryz.func28 ?_
 refine Z ?_
 refine Bc h (fun (v10,o11,o12)=>[(11,(Aa .i64 v10))]) (fun (v10,o11,o12)=>[(0,.cells 122 [(.mp 1),(.arr 2 o12.length 0 o12.length)]),(1,.map (Bg (Aa .i64) o11)),(2,.rows 72 5 (List.map B5 o12))]) ?_
 rintro ⟨v10,o11,o12⟩ _ _ _ h _ hn1
 refine Z ?_
 refine As h (fun _ h=>?_) (fun _ h=>?_)
 refine Z ?_
 refine Ch h (fun _ _ _ _ h=>?_)
 refine Z ?_
 refine Bu h (fun _ h=>?_)
 refine ZO ?_
 refine Az (Az ?_)
 refine Cm h (fun (v16,v17)=>[(7,(Aa .i64 v16)),(8,(Au v17))]) (fun (v16,v17)=>[]) ?_ ?_
 intro _ h _ _ _
 refine Z ?_
 refine Wa (f:=(Aa .i64)) (l:=o11) rfl (0:Int) h (fun j_ hb h=>?_) (fun hb h=>?_)
 exact Y
 exact Y
 rintro ⟨v16,v17⟩ _ h
 refine Z ?_
 refine As h (fun _ h=>?_) (fun _ h=>?_)
 refine Z ?_
 refine G4 h (fun _ _ _ _ h=>?_)
 refine Z ?_
 refine Bu h (fun v19 h=>?_)
 refine Z ?_
 refine G4 h (fun _ v20 hiv20 _ h=>?_)
 refine Z ?_
 refine Lf (f:=B5) (x:=(Aj.mk v19 v20.Mono)) (j:=v16) rfl rfl (Nat.zero_add _) hiv20 ?_
 refine Z ?_
 exact hn1 _ _ _ _ (Option.some.inj h) ⟨rfl,trivial⟩ ⟨⟨rfl,rfl⟩,⟨rfl,rfl⟩,⟨congrArg (fun q_=>Bd.cells 122 [(.mp 1),(.arr 2 q_ 0 q_)]) (Ga (l:=o12) rfl v16 (Aj.mk v19 v20.Mono)),rfl⟩,trivial⟩ trivial
 refine Z ?_
 refine Sb (f:=(Aa .i64)) (l:=o11) (x:=((o12.length:Nat):Int)) rfl rfl ?_
 exact Y
 exact Y⟩
abbrev Ahi (k:Nat):Prop:=∀{a0:Bq},OK (N6 k a0) fun r=>Ax Tryz.prog 184 [Ib a0] (Ib r)
theorem Aq6 (k:Nat):Ahi k:=by
 induction k with
 | zero=>exact okz
 | succ k ih=>
  refine @fun a0=>⟨fun {r} h=>?_⟩
  .unfold N6 at h
   refine pw {T:=Cl,an:=(fun _=>.ask),nl:=(fun s=>bif Nat.beq s 17 then [(0,2)] else [])} Tryz.func184 ?_
   refine ZS ?_
   refine Cg ?_
   refine ZS ?_
   refine Cg ?_
   refine ZO ?_
   refine Az (Az ?_)
   refine Ee [.own 3 1 95 2] ?_
   refine Z ?_
   refine Bc h (fun (v15,o16)=>[(12,(Aa .i64 v15))]) (fun (v15,o16)=>[(2,.cells 95 [(Aa .i64 a0.Num),(.arr 3 o16.length 0 o16.length)]),(3,.rows 95 2 (Jo o16))]) ?_
   rintro ⟨v15,o16⟩ _ _ _ h _ _
   exact Y
instance {k:Nat}:Ahi k:=(Aq6 k)
instance {a0:List Ba}:OK (Sq a0) fun r=>Ax Tryz.prog 65 [(Aw 2 C5) a0] ((Aw 2 C5) r):=⟨fun {r} h=>by
 exact Aqc h⟩
instance {a0:Bf}:OK (Sz a0) fun r=>Ax Tryz.prog 117 [G2 a0] (G2 r):=⟨fun {r} h=>by
 refine pw {T:=Cl,an:=(fun _=>.ask),nl:=(fun s=>bif Nat.beq s 44 then [(0,3)] else bif Nat.beq s 17 then [(0,3)] else [])} Tryz.func117 ?_
 refine ZS ?_
 refine Cg ?_
 refine ZS ?_
 refine Cg ?_
 refine ZO ?_
 refine Az (Az ?_)
 refine Ee [.own 3 0 97 3,.own 3 1 101 3] ?_
 refine Z ?_
 refine Bc h (fun (v16,o17)=>[(12,(Aa .i64 v16))]) (fun (v16,o17)=>[(2,.cells 70 [(.arr 3 o17.length 0 o17.length),(.arr 4 0 0 0)]),(3,.rows 97 3 (List.map Eo o17))]) ?_
 rintro ⟨v16,o17⟩ _ _ _ h _ _
 refine Z ?_
 refine As h (fun _ h=>?_) (fun _ h=>?_)
 exact Y
 replace h:=C3 h
 refine Z ?_
 refine Bc h (fun (v35,o36)=>[(31,(Aa .i64 v35))]) (fun (v35,o36)=>[(2,.cells 70 [(.arr 3 o17.length 0 o17.length),(.arr 4 o36.length 0 o36.length)]),(4,.rows 101 3 (List.map D5 o36))]) ?_
 rintro ⟨v35,o36⟩ _ _ _ h _ _
 exact Y⟩
instance {a0:List Aj}:OK (Sl a0) fun r=>Ax Tryz.prog 59 [(Aw 5 B5) a0] ((Aw 5 B5) r):=⟨fun {r} h=>by
 refine pw {T:=Cl,an:=(fun s=>bif Nat.beq s 3 then .own else .ask),nl:=(fun s=>bif Nat.beq s 3 then [(0,5)] else bif Nat.beq s 2 then [(0,5)] else [])} Tryz.func59 ?_
 refine Z ?_
 refine Bc h (fun (v14,o15)=>[(3,(.arr 0 o15.length 0 o15.length)),(8,(Aa .i64 v14))]) (fun (v14,o15)=>[(0,.rows 72 5 (List.map B5 o15))]) ?_
 rintro ⟨v14,o15⟩ _ _ _ h _ _
 exact Y⟩
instance {a0 a1:Aj}:OK (Ll a0 a1) fun r=>Ax Tryz.prog 57 [B5 a0,B5 a1] ((Aa .i64) r):=⟨fun {r} h=>by
 refine pw C0 Tryz.func57 ?_
 exact Y⟩
instance {a0 a1:Int} {b0:List Aj}:OK (S7 a0 a1 b0) fun r=>Bp Tryz.prog 169 [(.arr 0 b0.length 0 b0.length),(Aa .i64) a0,(Aa .i64) a1,(.fn 57 [])] [.rows 72 5 (List.map B5 b0)] (.tup []) [.rows 72 5 (List.map B5 r)]:=⟨fun {r} h=>by
 refine aw C0 true Tryz.func169 ?_
 refine Z ?_
 refine Ev h (fun (v21,o22)=>[(8,(Aa .i64 v21))]) (fun (v21,o22)=>[(0,.rows 72 5 (List.map B5 o22))]) (fun (v21,o22)=>b0.length=o22.length) ?_
 rintro ⟨v21,o22⟩ _ _ _ h _ _ q22
 refine Z ?_
 refine As h (fun _ h=>?_) (fun _ h=>?_)
 refine Z ?_
 refine Ev h (fun (v31,o32)=>[(9,(Aa .i64 v31))]) (fun (v31,o32)=>[(0,.rows 72 5 (List.map B5 o32))]) (fun (v31,o32)=>b0.length=o32.length) ?_
 rintro ⟨v31,o32⟩ _ _ _ h _ _ q32
 refine Az (Az ?_)
 refine Cm h (fun v36=>[(34,(Au v36))]) (fun v36=>[]) ?_ ?_
 intro _ h _ _ _
 exact Y
 rintro v36 _ h
 exact Y
 exact Y⟩
instance {a0 a1 a2:Int} {b0:List Aj}:OK (Sw a0 a1 a2 b0) fun r=>Bp Tryz.prog 107 [(.arr 0 b0.length 0 b0.length),(Aa .i64) a0,(Aa .i64) a1,(Aa .i64) a2,(.fn 57 [])] [.rows 72 5 (List.map B5 b0)] (.tup []) [.rows 72 5 (List.map B5 r)]:=⟨fun {r} h=>by
 refine aw C0 true Tryz.func107 ?_
 refine Z ?_
 refine Bc h (fun _=>[(1,(Aa .i64 a0)),(2,(Aa .i64 a1)),(3,(Aa .i64 a2)),(10,(Au true)),(11,(Au true))]) (fun _=>[]) ?_
 rintro _ _ _ _ h _ _
 refine Z ?_
 refine As h (fun _ h=>?_) (fun _ h=>?_)
 refine Z ?_
 refine A5 [0] h (fun _ h=>?_)
 refine C7 h (fun v2 hgv2 h=>?_)
 exact Y
 exact Y⟩
theorem Aq7 {b0:List Aj} {r:(List Aj)} (h:Abd b0=some r):Bp Tryz.prog 56 [(.arr 0 b0.length 0 b0.length),(.fn 57 [])] [.rows 72 5 (List.map B5 b0)] (.tup []) [.rows 72 5 (List.map B5 r)]:=by
 refine aw C0 true Tryz.func56 ?_
 refine Z ?_
 refine Bu h (fun _ h=>?_)
 refine Z ?_
 refine A5 [0] h (fun _ h=>?_)
 refine C7 h (fun v3 hgv3 h=>?_)
 exact Y
instance {b0:List Aj}:OK (Lk b0) fun r=>Bp Tryz.prog 56 [(.arr 0 b0.length 0 b0.length),(.fn 57 [])] [.rows 72 5 (List.map B5 b0)] (.tup []) [.rows 72 5 (List.map B5 r)]:=⟨fun {r} h=>by
 unfold Lk at h
 cases hb:Nat.ble b0.length 12 with
 | true=>rw [hb] at h; exact Aq7 h
 | false=>rw [hb] at h; exact Aqm (eA:=B5) (cmp:=Ll) (g:=57) (enters_of Tryz.func57 (by kernel_rfl) rfl) (fun x y n h=>(OK.ok h :)) (fun x=>⟨_,rfl⟩) h (by rintro rfl; cases hb)⟩
instance {b1:List (ByteArray×Int)} {b2:List Aj}:OK (Iz b1 b2) fun r=>Bp Tryz.prog 29 [(.loc 0 0)] [.cells 122 [(.mp 1),(.arr 2 b2.length 0 b2.length)],.map (Bg (Aa .i64) b1),.rows 72 5 (List.map B5 b2)] (.tup [(Aw 5 B5) r.1,(Aa .i64) r.2]) [.cells 122 [(.mp 1),(.arr 2 b2.length 0 b2.length)],.map (Bg (Aa .i64) b1),.rows 72 5 (List.map B5 b2)]:=⟨fun {r} h=>by
 refine aw {T:=Cl,an:=(fun s=>bif Nat.beq s 4 then .own else .ask),nl:=(fun s=>bif Nat.beq s 4 then [(0,5)] else bif Nat.beq s 2 then [(0,5)] else [])} true Tryz.func29 ?_
 refine Z ?_
 refine Bc h (fun (v12,o13)=>[(4,(.arr 3 o13.length 0 o13.length)),(12,(Aa .i64 v12))]) (fun (v12,o13)=>[(3,.rows 72 5 (List.map B5 o13))]) ?_
 rintro ⟨v12,o13⟩ _ _ _ h _ _
 refine Z ?_
 refine As h (fun _ h=>?_) (fun _ h=>?_)
 exact Y
 replace h:=C3 h
 refine Z ?_
 refine As h (fun _ h=>?_) (fun _ h=>?_)
 exact Y
 refine Z ?_
 refine A5 [3] h (fun _ h=>?_)
 refine C7 h (fun v20 hgv20 h=>?_)
 refine ZO ?_
 refine Az ?_
 refine Ee [.fz 4] ?_
 exact Y⟩
instance {a0:Bf} {b1:List (ByteArray×Int)} {b2:List (ByteArray×(List Db))} {b0_0:List Ay} {b0_1:List Ai} {b0_2 b0_3:Int} {b0_4:List Ai}:OK (Nx a0 b1 b2 b0_0 b0_1 b0_2 b0_3 b0_4) fun r=>Bp Tryz.prog 82 [(.loc 0 0),G2 a0] [.cells 119 [(.sl 3 (List.map Cs b0_0)),(.sl 3 (Bm b0_1)),(Aa .i64 b0_2),(Aa .i64 b0_3),(.sl 3 (Bm b0_4)),(.mp 1),(.mp 2)],.map (Bg (Aa .i64) b1),.map (Bg (Aw 5 D6) b2)] (.tup [(Aw 5 B5) r.1,(Aa .i64) r.2]) [.cells 119 [(.sl 3 (List.map Cs b0_0)),(.sl 3 (Bm b0_1)),(Aa .i64 b0_2),(Aa .i64 b0_3),(.sl 3 (Bm b0_4)),(.mp 1),(.mp 2)],.map (Bg (Aa .i64) b1),.map (Bg (Aw 5 D6) b2)]:=⟨fun {r} h=>by
 refine aw {T:=Cl,an:=(fun _=>.ask),nl:=(fun s=>bif Nat.beq s 4 then [(0,5)] else [])} true Tryz.func82 ?_
 refine Z ?_
 refine Bu h (fun _ h=>?_)
 refine Z ?_
 refine A5 [0,1,2] h (fun _ h=>?_)
 refine Z ?_
 refine As h (fun _ h=>?_) (fun _ h=>?_)
 exact Y
 refine Z ?_
 refine A5 [] h (fun _ h=>?_)
 refine Z ?_
 refine A5 [5,4,6] h (fun _ h=>?_)
 refine Z ?_
 refine A5 [5,4,6] h (fun _ h=>?_)
 exact Y⟩
end Go.Ab
