/- The contracts of the functions, each by its walk (made by a program). -/
import Derived.Test.YtidkdnlhdbbbjaaGreatDoorAsHand
import Derived.Test.YtidkdnlhdbbbjaaGreatDoorAsDef
namespace Go.Ab
open Go Go.Proofs
set_option maxRecDepth 10000
set_option maxHeartbeats 4000000
set_option linter.unusedVariables false
instance {a0:Int}:OK (Qp a0) fun r=>Aw Tryz.prog 60 [(O .i64) a0] (Av r):=⟨fun {r} h=>by
 refine pw C0 Tryz.func60 ?_
 exact Y⟩
instance {a0:Int}:OK (Ti a0) fun r=>Aw Tryz.prog 61 [(O .i64) a0] (Av r):=⟨fun {r} h=>by
 refine pw C0 Tryz.func61 ?_
 exact Y⟩
instance {a0:Bf}:OK (Ho a0) fun r=>Aw Tryz.prog 30 [Fh a0] (Av r):=⟨fun {r} h=>by
 refine pw C0 Tryz.func30 ?_
 refine ZS ?_
 refine Ca ?_
 refine ZO ?_
 refine Ax (Ax ?_)
 refine Cd h (fun v3=>[(14,(Av v3))]) (fun v3=>[]) ?_ ?_
 intro _ h _ _ _
 exact Y
 rintro v3 _ h
 refine Ao h (fun _ h=>?_) (fun _ h=>?_)
 exact Y
 refine Z ?_
 refine Bb h (fun v8=>[(2,(Av false)),(18,(O .i64 v8))]) (fun v8=>[]) ?_
 rintro v8 _ _ _ h _ _
 exact Y⟩
instance {a0:List Ba}:OK (Pb a0) fun r=>Br Tryz.prog 65 [(Ar 2 Db) a0] [] (.arr 1 r.2.length 0 r.2.length) [.rows 86 2 (List.map Db r.1),.rows 86 2 (List.map Db r.2)]:=⟨fun {r} h=>by
 exact Arh h⟩
instance {a0:Int}:OK (Xm a0) fun r=>Aw Tryz.prog 178 [(O .u64) a0] ((O .i64) r):=⟨fun {r} h=>by
 refine pw C0 Tryz.func178 ?_
 refine ZS ?_
 refine Ca ?_
 refine ZS ?_
 refine Ca ?_
 refine ZO ?_
 refine Cd h (fun (v2,v3)=>[(0,(O .u64 v2)),(2,(O .i64 v3))]) (fun (v2,v3)=>[]) ?_ ?_
 intro _ h _ _ _
 exact Y
 rintro ⟨v2,v3⟩ _ h
 refine ZS ?_
 refine Ca ?_
 refine ZO ?_
 refine Cd h (fun (v5,v6)=>[(0,(O .u64 v5)),(2,(O .i64 v6))]) (fun (v5,v6)=>[]) ?_ ?_
 intro _ h _ _ _
 exact Y
 rintro ⟨v5,v6⟩ _ h
 refine ZS ?_
 refine Ca ?_
 refine ZO ?_
 refine Cd h (fun (v8,v9)=>[(0,(O .u64 v8)),(2,(O .i64 v9))]) (fun (v8,v9)=>[]) ?_ ?_
 intro _ h _ _ _
 exact Y
 rintro ⟨v8,v9⟩ _ h
 exact Y⟩
instance {a0:Int}:OK (Qu a0) fun r=>Aw Tryz.prog 108 [(O .u64) a0] ((O .i64) r):=⟨fun {r} h=>by
 refine pw C0 Tryz.func108 ?_
 exact Y⟩
instance {a0:Int}:OK (T3 a0) fun r=>Aw Tryz.prog 179 [(O .i64) a0] (Av r):=⟨fun {r} h=>by
 refine pw C0 Tryz.func179 ?_
 exact Y⟩
instance {a0 a1:Int}:OK (Jg a0 a1) fun r=>Aw Tryz.prog 109 [(O .i64) a0,(O .i64) a1] ((O .i64) r):=⟨fun {r} h=>by
 refine pw C0 Tryz.func109 ?_
 exact Y⟩
instance {a0 a1:Ba}:OK (L5 a0 a1) fun r=>Aw Tryz.prog 119 [Db a0,Db a1] ((O .i64) r):=⟨fun {r} h=>by
 refine pw C0 Tryz.func119 ?_
 exact Y⟩
instance {a0 a1:Int} {b0:List Ba}:OK (Xt a0 a1 b0) fun r=>Br Tryz.prog 250 [(.arr 0 b0.length 0 b0.length),(O .i64) a0,(O .i64) a1,(.fn 119 [])] [.rows 86 2 (List.map Db b0)] (.tup []) [.rows 86 2 (List.map Db r)]:=⟨fun {r} h=>by
 refine aw C0 true Tryz.func250 ?_
 refine Z ?_
 refine Ej h (fun (v21,o22)=>[(8,(O .i64 v21))]) (fun (v21,o22)=>[(0,.rows 86 2 (List.map Db o22))]) (fun (v21,o22)=>b0.length=o22.length) ?_
 rintro ⟨v21,o22⟩ _ _ _ h _ _ q22
 refine Z ?_
 refine Ao h (fun _ h=>?_) (fun _ h=>?_)
 refine Z ?_
 refine Ej h (fun (v31,o32)=>[(9,(O .i64 v31))]) (fun (v31,o32)=>[(0,.rows 86 2 (List.map Db o32))]) (fun (v31,o32)=>b0.length=o32.length) ?_
 rintro ⟨v31,o32⟩ _ _ _ h _ _ q32
 refine Ax (Ax ?_)
 refine Cd h (fun v36=>[(34,(Av v36))]) (fun v36=>[]) ?_ ?_
 intro _ h _ _ _
 exact Y
 rintro v36 _ h
 exact Y
 exact Y⟩
instance {a0 a1 a2:Int} {b0:List Ba}:OK (T8 a0 a1 a2 b0) fun r=>Br Tryz.prog 185 [(.arr 0 b0.length 0 b0.length),(O .i64) a0,(O .i64) a1,(O .i64) a2,(.fn 119 [])] [.rows 86 2 (List.map Db b0)] (.tup []) [.rows 86 2 (List.map Db r)]:=⟨fun {r} h=>by
 refine aw C0 true Tryz.func185 ?_
 refine Z ?_
 refine Bb h (fun _=>[(1,(O .i64 a0)),(2,(O .i64 a1)),(3,(O .i64 a2)),(10,(Av true)),(11,(Av true))]) (fun _=>[]) ?_
 rintro _ _ _ _ h _ _
 refine Z ?_
 refine Ao h (fun _ h=>?_) (fun _ h=>?_)
 refine Z ?_
 refine A7 [0] h (fun _ h=>?_)
 refine Da h (fun v2 hgv2 h=>?_)
 exact Y
 exact Y⟩
theorem Ar3 {b0:List Ba} {r:(List Ba)} (h:Ab6 b0=some r):Br Tryz.prog 118 [(.arr 0 b0.length 0 b0.length),(.fn 119 [])] [.rows 86 2 (List.map Db b0)] (.tup []) [.rows 86 2 (List.map Db r)]:=by
 refine aw C0 true Tryz.func118 ?_
 refine Z ?_
 refine Bk h (fun _ h=>?_)
 refine Z ?_
 refine A7 [0] h (fun _ h=>?_)
 refine Da h (fun v3 hgv3 h=>?_)
 exact Y
instance {b0:List Ba}:OK (Qv b0) fun r=>Br Tryz.prog 118 [(.arr 0 b0.length 0 b0.length),(.fn 119 [])] [.rows 86 2 (List.map Db b0)] (.tup []) [.rows 86 2 (List.map Db r)]:=⟨fun {r} h=>by
 unfold Qv at h
 cases hb:Nat.ble b0.length 12 with
 | true=>rw [hb] at h; exact Ar3 h
 | false=>rw [hb] at h; exact Art (eA:=Db) (cmp:=L5) (g:=119) (enters_of Tryz.func119 (by kernel_rfl) rfl) (fun x y n h=>(OK.ok h :)) (fun x=>⟨_,rfl⟩) h (by rintro rfl; cases hb)⟩
instance {a0:Int} {a1:List Ba}:OK (Qq a0 a1) fun r=>Aw Tryz.prog 62 [(O .i64) a0,(Ar 2 Db) a1] (.tup [Fh r.1,(O .i64) r.2]):=⟨fun {r} h=>by
 refine pw {T:=Cb,an:=(fun _=>.ask),nl:=(fun s=>bif Nat.beq s 63 then [(1,2)] else bif Nat.beq s 55 then [(0,2)] else [])} Tryz.func62 ?_
 refine ZS ?_
 refine Ca ?_
 refine ZS ?_
 refine Ca ?_
 refine ZO ?_
 refine Ax ?_
 refine D3 [.own 6 1 86 2] ?_
 refine Z ?_
 refine A7 [] h (fun _ h=>?_)
 refine Z ?_
 refine A7 [4] h (fun _ h=>?_)
 refine Da h (fun v8 hgv8 h=>?_)
 refine Z ?_
 refine Bb h (fun (v37,o38)=>[(8,(O .i64 v37))]) (fun (v37,o38)=>[(1,.cells 24 [(O .i64 a0),(.arr 2 o38.length 0 o38.length)]),(2,.rows 86 2 (List.map Db o38))]) ?_
 rintro ⟨v37,o38⟩ _ _ _ h _ _
 refine Z ?_
 refine Ao h (fun _ h=>?_) (fun _ h=>?_)
 refine Z ?_
 refine G1 h (fun _ v39 _ _ h=>?_)
 refine Z ?_
 refine Bb h (fun (v44,v45)=>[(8,(O .i64 v44))]) (fun (v44,v45)=>[(5,.cells 86 [(O .i64 v39.Var),(O .i64 v45)])]) ?_
 rintro ⟨v44,v45⟩ _ _ _ h _ _
 refine Ax (Ax ?_)
 refine Cd h (fun v47=>[(39,(Av v47))]) (fun v47=>[]) ?_ ?_
 intro _ h _ _ _
 exact Y
 rintro v47 _ h
 exact Y
 replace h:=Cv h
 refine F4 (F2 rfl (Ax (Ax ?_)))
 refine D3 [.fzc 6 1] ?_
 exact Y⟩
instance {a0:Int}:OK (Xj a0) fun r=>Br Tryz.prog 120 [(.val (.slice none 0 0)),(O .i64) a0] [] (.arr 0 r.length 0 r.length) [.rows 86 2 (List.map Db r)]:=⟨fun {r} h=>by
 exact Arw h⟩
instance {a0:List (List Ba)}:OK (Tj a0) fun r=>Aw Tryz.prog 63 [(Ar 1 (Ar 2 Db)) a0] ((Ar 2 Db) r):=⟨fun {r} h=>by
 refine pw {T:=Cb,an:=(fun _=>.ask),nl:=(fun s=>bif Nat.beq s 2 then [(0,2)] else [])} Tryz.func63 ?_
 refine Z ?_
 refine Bb h (fun (v2,v3)=>[(3,(O .i64 v2)),(11,(O .i64 v3))]) (fun (v2,v3)=>[]) ?_
 rintro ⟨v2,v3⟩ _ _ _ h _ _
 refine Z ?_
 refine Ao h (fun _ h=>?_) (fun _ h=>?_)
 exact Y
 replace h:=Cv h
 refine Z ?_
 refine A7 [] h (fun _ h=>?_)
 refine Z ?_
 refine Bb h (fun (v14,o15)=>[(6,(.arr 0 o15.length 0 o15.length)),(27,(O .i64 v14))]) (fun (v14,o15)=>[(0,.rows 86 2 (List.map Db o15))]) ?_
 rintro ⟨v14,o15⟩ _ _ _ h _ _
 exact Y⟩
instance {a0 a1:Bf}:OK (H7 a0 a1) fun r=>Aw Tryz.prog 31 [Fh a0,Fh a1] (.tup [Fh r.1,(O .i64) r.2]):=⟨fun {r} h=>by
 refine pw {T:=Cb,an:=(fun _=>.ask),nl:=(fun s=>bif Nat.beq s 14 then [(1,2)] else [])} Tryz.func31 ?_
 refine ZS ?_
 refine Ca ?_
 refine ZO ?_
 refine Ax (Ax ?_)
 refine Cd h (fun v6=>[(13,(Av v6))]) (fun v6=>[]) ?_ ?_
 intro _ h _ _ _
 exact Y
 rintro v6 _ h
 exact Y⟩
instance {a0:List Ba} {a1:Int}:OK (Tk a0 a1) fun r=>Aw Tryz.prog 64 [(Ar 2 Db) a0,(O .i64) a1] ((Ar 2 Db) r):=⟨fun {r} h=>by
 refine pw {T:=Cb,an:=(fun _=>.ask),nl:=(fun s=>bif Nat.beq s 4 then [(0,2)] else [])} Tryz.func64 ?_
 refine Z ?_
 refine A7 [] h (fun v1 h=>?_)
 refine Z ?_
 refine Ej h (fun (v6,o7)=>[(11,(O .i64 v6))]) (fun (v6,o7)=>[(1,.rows 86 2 (List.map Db o7))]) (fun (v6,o7)=>v1.2.length=o7.length) ?_
 rintro ⟨v6,o7⟩ _ _ _ h _ _ q7
 refine Z ?_
 refine Ao h (fun _ h=>?_) (fun _ h=>?_)
 refine Z ?_
 refine G1 h (fun _ v8 _ _ h=>?_)
 refine Z ?_
 refine G1 h (fun _ v9 hiv9 _ h=>?_)
 refine Z ?_
 refine Lt (f:=Db) (x:=(Ba.mk v9.Var (Ac (v8.Coef*a1)))) (j:=v6) rfl rfl (Nat.zero_add _) hiv9 ?_
 exact Y
 exact Y⟩
instance {a0 a1:Bf}:OK (Ki a0 a1) fun r=>Aw Tryz.prog 32 [Fh a0,Fh a1] (.tup [Fh r.1,(O .i64) r.2]):=⟨fun {r} h=>by
 refine pw {T:=Cb,an:=(fun _=>.ask),nl:=(fun s=>bif Nat.beq s 14 then [(1,2)] else [])} Tryz.func32 ?_
 refine ZS ?_
 refine Ca ?_
 refine ZO ?_
 refine Ax (Ax ?_)
 refine Cd h (fun v6=>[(13,(Av v6))]) (fun v6=>[]) ?_ ?_
 intro _ h _ _ _
 exact Y
 rintro v6 _ h
 exact Y⟩
instance {a0:F9}:OK (Jw a0) fun r=>Aw Tryz.prog 14 [Rh a0] (Av r):=⟨fun {r} h=>by
 refine pw C0 Tryz.func14 ?_
 refine ZS ?_
 refine Ca ?_
 refine ZO ?_
 refine Ax (Ax ?_)
 refine Cd h (fun v4=>[(26,(Av v4))]) (fun v4=>[]) ?_ ?_
 intro _ h _ _ _
 exact Y
 rintro v4 _ h
 exact Y⟩
instance {a0:List A3}:OK (Abw a0) fun r=>Aw Tryz.prog 94 [Pa (H9.mk a0 [] [] [])] (Av r):=⟨fun {r} h=>by
 refine pw C0 Tryz.func94 ?_
 refine Z ?_
 refine Gi h (fun _ h=>?_)
 refine Z ?_
 refine Bb h (fun _=>[(2,(Av false)),(20,(O .i64 0))]) (fun _=>[]) ?_
 rintro _ _ _ _ h _ _
 replace h:=Cv h
 refine Z ?_
 refine Bb h (fun _=>[(2,(Av false)),(40,(O .i64 0))]) (fun _=>[]) ?_
 rintro _ _ _ _ h _ _
 exact Y⟩
instance {a0:List A3}:OK (Abu a0) fun r=>Aw Tryz.prog 92 [Pa (H9.mk a0 [] [] [])] (Av r):=⟨fun {r} h=>by
 refine pw C0 Tryz.func92 ?_
 refine Z ?_
 refine Bb h (fun _=>[(2,(Av false)),(4,(Av false)),(21,(O .i64 0))]) (fun _=>[]) ?_
 rintro _ _ _ _ h _ _
 exact Y⟩
instance {a0:Int}:OK (Ug a0) fun r=>Aw Tryz.prog 274 [(O .u8) a0] (Av r):=⟨fun {r} h=>by
 refine pw C0 Tryz.func274 ?_
 exact Y⟩
instance {a0:ByteArray}:OK (Ul a0) fun r=>Aw Tryz.prog 310 [Ep a0] (Av r):=⟨fun {r} h=>by
 refine pw C0 Tryz.func310 ?_
 exact Y⟩
instance {a0:Int}:OK (Nc a0) fun r=>Aw Tryz.prog 311 [(O .u8) a0] (Av r):=⟨fun {r} h=>by
 refine pw C0 Tryz.func311 ?_
 exact Y⟩
instance {a0:Int}:OK (Rf a0) fun r=>Aw Tryz.prog 306 [(O .u8) a0] (Av r):=⟨fun {r} h=>by
 refine pw C0 Tryz.func306 ?_
 exact Y⟩
instance {a0:Int}:OK (O7 a0) fun r=>Aw Tryz.prog 307 [(O .u8) a0] (Av r):=⟨fun {r} h=>by
 refine pw C0 Tryz.func307 ?_
 exact Y⟩
instance {a0:Int}:OK (Rg a0) fun r=>Aw Tryz.prog 309 [(O .u8) a0] (Av r):=⟨fun {r} h=>by
 refine pw C0 Tryz.func309 ?_
 exact Y⟩
instance {a0:ByteArray}:OK (Uk a0) fun r=>Aw Tryz.prog 308 [Ep a0,(.fn 309 [])] (Ep r):=⟨fun {r} h=>by
 refine pw C0 Tryz.func308 ?_
 refine Z ?_
 refine Bb h (fun v3=>[(5,(O .i64 v3))]) (fun v3=>[]) ?_
 rintro v3 _ _ _ h _ _
 exact Y⟩
instance {a0:ByteArray}:OK (X3 a0) fun r=>Aw Tryz.prog 308 [Ep a0,(.fn 311 [])] (Ep r):=⟨fun {r} h=>by
 refine pw C0 Tryz.func308 ?_
 refine Z ?_
 refine Bb h (fun v3=>[(5,(O .i64 v3))]) (fun v3=>[]) ?_
 rintro v3 _ _ _ h _ _
 exact Y⟩
instance {a0:ByteArray}:OK (Un a0) fun r=>Aw Tryz.prog 313 [Ep a0] (Ep r):=⟨fun {r} h=>by
 refine pw C0 Tryz.func313 ?_
 refine ZS ?_
 refine Ca ?_
 refine ZS ?_
 refine Ca ?_
 refine ZO ?_
 refine Acd (fun (x:Unit)=>(.inr x)) h (fun _=>[(2,(Ep (ByteArray.mk #[])))]) (fun _=>[]) ?_ ?_
 intro _ h _ _ _
 exact Y
 rintro _ _ h
 exact Y⟩
instance {a0:ByteArray}:OK (Um a0) fun r=>Aw Tryz.prog 312 [Ep a0] (Av r):=⟨fun {r} h=>by
 refine pw C0 Tryz.func312 ?_
 refine Z ?_
 refine Bb h (fun (v2,v3)=>[(2,(Av false)),(3,(O .i64 v2)),(7,(O .i64 v3))]) (fun (v2,v3)=>[]) ?_
 rintro ⟨v2,v3⟩ _ _ _ h _ _
 exact Y⟩
instance {a0:ByteArray} {a1:Int}:OK (Uh a0 a1) fun r=>Aw Tryz.prog 275 [Ep a0,(O .i64) a1] (.tup [X2 r.1,(O .i64) r.2]):=⟨fun {r} h=>by
 refine pw C0 Tryz.func275 ?_
 refine Z ?_
 refine S8 h (fun _ h=>?_)
 refine ZO ?_
 refine Kg (Ax ?_)
 refine Cd h (fun v6=>[(23,(Av v6))]) (fun v6=>[]) ?_ ?_
 intro _ h _ _ _
 exact Y
 rintro v6 _ h
 refine Ao h (fun _ h=>?_) (fun _ h=>?_)
 exact Y
 refine Z ?_
 refine Bk h (fun _ h=>?_)
 refine Z ?_
 refine Ao h (fun _ h=>?_) (fun _ h=>?_)
 refine Z ?_
 refine Abj h (fun _ _ _ _ h=>?_)
 refine Z ?_
 refine Bk h (fun _ h=>?_)
 refine ZO ?_
 refine Ax (Ax ?_)
 refine Cd h (fun v14=>[(67,(Av v14))]) (fun v14=>[]) ?_ ?_
 intro _ h _ _ _
 exact Y
 rintro v14 _ h
 exact Y
 exact Y⟩
instance {a0:ByteArray}:OK (Xr a0) fun r=>Aw Tryz.prog 227 [Ep a0] (.tup [(Ar 3 X2) r.1,(O .i64) r.2.1,(O .i64) r.2.2]):=⟨fun {r} h=>by
 refine pw {T:=Cb,an:=(fun s=>bif Nat.beq s 5 then .own else .ask),nl:=(fun s=>bif Nat.beq s 5 then [(0,3)] else bif Nat.beq s 2 then [(0,3)] else [])} Tryz.func227 ?_
 refine Z ?_
 refine Ao h (fun _ h=>?_) (fun _ h=>?_)
 exact Y
 refine Z ?_
 refine Bb h (fun (v26,o27)=>[(2,(.sl 3 (List.map X2 []))),(3,(O .i64 0)),(4,(O .i64 0)),(5,(.arr 0 o27.length 0 o27.length)),(6,(O .i64 v26))]) (fun (v26,o27)=>[(0,.rows 303 3 (List.map X2 o27))]) ?_
 rintro ⟨v26,o27⟩ _ _ _ h _ _
 refine Z ?_
 refine Ao h (fun _ h=>?_) (fun _ h=>?_)
 refine Z ?_
 refine S8 h (fun _ h=>?_)
 refine Z ?_
 refine Bk h (fun _ h=>?_)
 refine Z ?_
 refine Ao h (fun _ h=>?_) (fun _ h=>?_)
 exact Y
 refine Z ?_
 refine S8 h (fun _ h=>?_)
 refine Z ?_
 refine Ao h (fun _ h=>?_) (fun _ h=>?_)
 refine Z ?_
 refine Bb h (fun v32=>[(6,(O .i64 v32))]) (fun v32=>[]) ?_
 rintro v32 _ _ _ h _ _
 exact Y
 exact Y
 exact Y⟩
instance {a0:ByteArray}:OK (On a0) fun r=>Aw Tryz.prog 150 [Ep a0] (Av r):=⟨fun {r} h=>by
 refine pw C0 Tryz.func150 ?_
 exact Y⟩
abbrev Ahv (k:Nat):Prop:=∀{a0:Ai} {a1:Int},OK (O2 k a0 a1) fun r=>Aw Tryz.prog 228 [Fd a0,(O .i64) a1] (Av r)
abbrev Ahw (k:Nat):Prop:=∀{a0:Ai} {b0:Int},OK (Ui k a0 b0) fun r=>Br Tryz.prog 276 [Fd a0,(.loc 0 0)] [.cells 3 [(O .i64 b0)]] (Av r) [.cells 3 [(O .i64 b0)]]
abbrev Ahx (k:Nat):Prop:=∀{a0:List Ai} {b0:Int},OK (Rk k a0 b0) fun r=>Br Tryz.prog 152 [(Ir 3 Bn) a0,(.fn 276 [(.loc 0 0)])] [.cells 3 [(O .i64 b0)]] (Av r) [.cells 3 [(O .i64 b0)]]
abbrev Ahy (k:Nat):Prop:=∀{a0:List Ai} {b0:Int},OK (X4 k a0 b0) fun r=>Br Tryz.prog 229 [(Ir 3 Bn) a0,(.fn 276 [(.loc 0 0)])] [.cells 3 [(O .i64 b0)]] ((O .i64) r) [.cells 3 [(O .i64 b0)]]
theorem Yc (k:Nat):Ahv k/\Ahw k/\Ahx k/\Ahy k:=by
 induction k with
 | zero=>exact ⟨okz,okz,okz,okz⟩
 | succ k ih=>
  obtain ⟨i0_,i1_,i2_,i3_⟩:=ih
  refine ⟨@fun a0 a1=>⟨fun {r} h=>?_⟩,@fun a0 b0=>⟨fun {r} h=>?_⟩,@fun a0 b0=>⟨fun {r} h=>?_⟩,@fun a0 b0=>⟨fun {r} h=>?_⟩⟩
  .unfold O2 at h
   refine pw C0 Tryz.func228 ?_
   refine Z ?_
   refine Fz h (fun _ h=>?_) (fun _ h=>?_)
   refine Z ?_
   refine Fz h (fun _ h=>?_) (fun _ h=>?_)
   exact Y
   refine Z ?_
   refine A7 [1] h (fun _ h=>?_)
   exact Y
   refine Z ?_
   refine A7 [1] h (fun _ h=>?_)
   exact Y
  .unfold Ui at h
   refine aw C0 true Tryz.func276 ?_
   exact Y
  .unfold Rk at h
   refine aw C0 true Tryz.func152 ?_
   refine Z ?_
   refine A7 [0] h (fun _ h=>?_)
   exact Y
  .unfold X4 at h
   refine aw C0 true Tryz.func229 ?_
   refine Z ?_
   refine Bb h (fun v3=>[(4,(O .i64 0)),(8,(O .i64 v3))]) (fun v3=>[]) ?_
   rintro v3 _ _ _ h _ _
   refine Z ?_
   refine Ao h (fun _ h=>?_) (fun _ h=>?_)
   refine Z ?_
   refine Ck h (fun _ _ _ _ h=>?_)
   refine Z ?_
   refine A7 [0] h (fun _ h=>?_)
   exact Y
   exact Y
instance {k:Nat}:Ahv k:=(Yc k).1
instance {k:Nat}:Ahw k:=(Yc k).2.1
instance {k:Nat}:Ahx k:=(Yc k).2.2.1
instance {k:Nat}:Ahy k:=(Yc k).2.2.2
instance {a0:List A3} {a1 a2:Int}:OK (Q4 a0 a1 a2) fun r=>Aw Tryz.prog 207 [(Ar 3 Cu) a0,(O .i64) a1,(O .i64) a2] ((Ar 1 Av) r):=⟨fun {r} h=>by
 refine pw {T:=Cb,an:=(fun _=>.ask),nl:=(fun s=>bif Nat.beq s 6 then [(0,1)] else [])} Tryz.func207 ?_
 refine ZS ?_
 refine Ca ?_
 refine ZO ?_
 refine Ax (Ax ?_)
 refine Cd h (fun v2=>[(34,(Av v2))]) (fun v2=>[]) ?_ ?_
 intro _ h _ _ _
 exact Y
 rintro v2 _ h
 refine Ao h (fun _ h=>?_) (fun _ h=>?_)
 exact Y
 refine Z ?_
 refine Ck h (fun _ _ _ _ h=>?_)
 refine Z ?_
 refine Ck h (fun _ _ _ _ h=>?_)
 refine Z ?_
 refine Gi h (fun o5 h=>?_)
 refine Z ?_
 refine Ej h (fun (v28,o29)=>[(49,(O .i64 v28))]) (fun (v28,o29)=>[(0,.rows 4 1 (List.map Av o29))]) (fun (v28,o29)=>o5.length=o29.length) ?_
 rintro ⟨v28,o29⟩ _ _ _ h _ _ q29
 refine Z ?_
 refine Ao h (fun _ h=>?_) (fun _ h=>?_)
 refine Z ?_
 refine Ck h (fun _ v30 _ _ h=>?_)
 refine ZO ?_
 refine Ax ?_
 refine Agr h (fun o3_ h hj3=>?_)
 refine Qj (fun (o36:(List Bool))=>o36=o3_/\o5.length=o36.length) (fun o36=>[]) (fun o36=>[(0,.rows 4 1 (List.map Av o36))]) (fun _=>rfl) ?_ ?_
 intro K3 hK3
 refine Z ?_
 refine Fz h (fun _ h=>?_) (fun _ h=>?_)
 refine Z ?_
 refine Fz h (fun _ h=>?_) (fun _ h=>?_)
 refine Z ?_
 refine Ck h (fun _ v32 _ _ h=>?_)
 refine Z ?_
 refine G1 h (fun _ _ hiv33 _ h=>?_)
 refine Z ?_
 refine Lt (f:=Av) (x:=((v30.Args.length:Int)==v32.Vars)) (j:=v28) rfl rfl (Nat.zero_add _) hiv33 ?_
 refine Z ?_
 exact hK3 (Cg o29 v28 ((v30.Args.length:Int)==v32.Vars)) _ _ _ ⟨(Option.some.inj h),Gn (l:=o29) q29 v28 ((v30.Args.length:Int)==v32.Vars)⟩ trivial ⟨⟨rfl,rfl⟩,⟨rfl,rfl⟩,trivial⟩
 refine Z ?_
 refine G1 h (fun _ _ hiv34 _ h=>?_)
 refine Z ?_
 refine Lt (f:=Av) (x:=false) (j:=v28) rfl rfl (Nat.zero_add _) hiv34 ?_
 refine Z ?_
 exact hK3 (Cg o29 v28 false) _ _ _ ⟨(Option.some.inj h),Gn (l:=o29) q29 v28 false⟩ trivial ⟨⟨rfl,rfl⟩,⟨rfl,rfl⟩,trivial⟩
 refine Z ?_
 refine G1 h (fun _ _ hiv35 _ h=>?_)
 refine Z ?_
 refine Lt (f:=Av) (x:=false) (j:=v28) rfl rfl (Nat.zero_add _) hiv35 ?_
 refine Z ?_
 exact hK3 (Cg o29 v28 false) _ _ _ ⟨(Option.some.inj h),Gn (l:=o29) q29 v28 false⟩ trivial ⟨⟨rfl,rfl⟩,⟨rfl,rfl⟩,trivial⟩
 rintro o36 u3 ⟨hJ3,q36⟩
 have h:=hj3 _ hJ3
 refine Z ?_
 refine Ej h (fun (v42,o43)=>[(80,(O .i64 v42))]) (fun (v42,o43)=>[(0,.rows 4 1 (List.map Av o43))]) (fun (v42,o43)=>o5.length=o43.length) ?_
 rintro ⟨v42,o43⟩ _ _ _ h _ _ q43
 exact Y
 exact Y⟩
abbrev Ahz (k:Nat):Prop:=∀{a0:List Ai} {b1:Fe},OK (Rl k a0 b1) fun r=>Br Tryz.prog 152 [(Ir 3 Bn) a0,(.fn 160 [(.loc 0 0)])] [.cells 156 [(.loc 1 0)],.cells 158 [(.sl 3 (List.map Cu b1.data)),(O .i64 b1.vars),(O .i64 b1.left)]] (Av r.1) [.cells 156 [(.loc 1 0)],.cells 158 [(.sl 3 (List.map Cu r.2.data)),(O .i64 r.2.vars),(O .i64 r.2.left)]]
abbrev Ah0 (k:Nat):Prop:=∀{a0:List Ai} {b1:Fe},OK (Up k a0 b1) fun r=>Br Tryz.prog 229 [(Ir 3 Bn) a0,(.fn 160 [(.loc 0 0)])] [.cells 156 [(.loc 1 0)],.cells 158 [(.sl 3 (List.map Cu b1.data)),(O .i64 b1.vars),(O .i64 b1.left)]] ((O .i64) r.1) [.cells 156 [(.loc 1 0)],.cells 158 [(.sl 3 (List.map Cu r.2.data)),(O .i64 r.2.vars),(O .i64 r.2.left)]]
abbrev Ah1 (k:Nat):Prop:=∀{a0:Ai} {b0:Fe},OK (Kj k a0 b0) fun r=>Br Tryz.prog 97 [(.loc 0 0),Fd a0] [.cells 158 [(.sl 3 (List.map Cu b0.data)),(O .i64 b0.vars),(O .i64 b0.left)]] (Av r.1) [.cells 158 [(.sl 3 (List.map Cu r.2.data)),(O .i64 r.2.vars),(O .i64 r.2.left)]]
abbrev Ah2 (k:Nat):Prop:=∀{a0:Ai} {b1:Fe},OK (Tz k a0 b1) fun r=>Br Tryz.prog 160 [Fd a0,(.loc 0 0)] [.cells 156 [(.loc 1 0)],.cells 158 [(.sl 3 (List.map Cu b1.data)),(O .i64 b1.vars),(O .i64 b1.left)]] (Av r.1) [.cells 156 [(.loc 1 0)],.cells 158 [(.sl 3 (List.map Cu r.2.data)),(O .i64 r.2.vars),(O .i64 r.2.left)]]
theorem Yd (k:Nat):Ahz k/\Ah0 k/\Ah1 k/\Ah2 k:=by
 induction k with
 | zero=>exact ⟨okz,okz,okz,okz⟩
 | succ k ih=>
  obtain ⟨i0_,i1_,i2_,i3_⟩:=ih
  refine ⟨@fun a0 b1=>⟨fun {r} h=>?_⟩,@fun a0 b1=>⟨fun {r} h=>?_⟩,@fun a0 b0=>⟨fun {r} h=>?_⟩,@fun a0 b1=>⟨fun {r} h=>?_⟩⟩
  .unfold Rl at h
   refine aw C0 true Tryz.func152 ?_
   refine Z ?_
   refine A7 [0,1] h (fun _ h=>?_)
   exact Y
  .unfold Up at h
   refine aw C0 true Tryz.func229 ?_
   refine Z ?_
   refine Bb h (fun (v3,v4,v5,v6)=>[(4,(O .i64 0)),(8,(O .i64 v3))]) (fun (v3,v4,v5,v6)=>[(1,.cells 158 [(.sl 3 (List.map Cu v4)),(O .i64 v5),(O .i64 v6)])]) ?_
   rintro ⟨v3,v4,v5,v6⟩ _ _ _ h _ _
   refine Z ?_
   refine Ao h (fun _ h=>?_) (fun _ h=>?_)
   refine Z ?_
   refine Ck h (fun _ _ _ _ h=>?_)
   refine Z ?_
   refine A7 [0,1] h (fun _ h=>?_)
   exact Y
   exact Y
  .unfold Kj at h
   refine aw C0 true Tryz.func97 ?_
   refine Z ?_
   refine Ao h (fun _ h=>?_) (fun _ h=>?_)
   exact Y
   refine ZS ?_
   refine Ca ?_
   refine ZS ?_
   refine Ca ?_
   refine ZO ?_
   refine Acd (fun (x:(Int×Int))=>(.inl x)) h (fun (v8,v9)=>[(4,(Av false)),(5,(O .i64 v8)),(6,(O .i64 v9))]) (fun (v8,v9)=>[]) ?_ ?_
   intro _ h _ _ _
   refine ZS ?_
   refine Ca ?_
   refine ZO ?_
   refine Cd h (fun v3=>[(21,(Av v3))]) (fun v3=>[]) ?_ ?_
   intro _ h _ _ _
   exact Y
   rintro v3 _ h
   refine Ao h (fun _ h=>?_) (fun _ h=>?_)
   exact Y
   refine Z ?_
   refine Ao h (fun _ h=>?_) (fun _ h=>?_)
   exact Y
   refine Z ?_
   refine Ao h (fun _ h=>?_) (fun _ h=>?_)
   refine Ax (Ax ?_)
   refine Cd h (fun v4=>[(53,(Av v4))]) (fun v4=>[]) ?_ ?_
   intro _ h _ _ _
   exact Y
   rintro v4 _ h
   exact Y
   refine Z ?_
   refine Ao h (fun _ h=>?_) (fun _ h=>?_)
   exact Y
   refine ZS ?_
   refine Ca ?_
   refine ZO ?_
   refine Cd h (fun v7=>[(74,(Av v7))]) (fun v7=>[]) ?_ ?_
   intro _ h _ _ _
   exact Y
   rintro v7 _ h
   exact Y
   rintro ⟨v8,v9⟩ _ h
   refine Ax (Ax ?_)
   refine Cd h (fun v10=>[(91,(Av v10))]) (fun v10=>[]) ?_ ?_
   intro _ h _ _ _
   exact Y
   rintro v10 _ h
   refine Ao h (fun _ h=>?_) (fun _ h=>?_)
   exact Y
   refine Il (Ax (Ax ?_))
   refine Cd h (fun v11=>[(103,(Av v11))]) (fun v11=>[]) ?_ ?_
   intro _ h _ _ _
   exact Y
   rintro v11 _ h
   refine Ao h (fun _ h=>?_) (fun _ h=>?_)
   exact Y
   refine Z ?_
   refine A7 [1,0] h (fun _ h=>?_)
   exact Y
  .unfold Tz at h
   refine aw C0 true Tryz.func160 ?_
   refine Z ?_
   refine A7 [1] h (fun _ h=>?_)
   exact Y
instance {k:Nat}:Ahz k:=(Yd k).1
instance {k:Nat}:Ah0 k:=(Yd k).2.1
instance {k:Nat}:Ah1 k:=(Yd k).2.2.1
instance {k:Nat}:Ah2 k:=(Yd k).2.2.2
instance {a0:List A3} {a1:Ai} {a2:Int}:OK (M2 a0 a1 a2) fun r=>Aw Tryz.prog 52 [(Ar 3 Cu) a0,Fd a1,(O .i64) a2] (Av r):=⟨fun {r} h=>by
 refine pw C0 Tryz.func52 ?_
 refine Z ?_
 refine A7 [1] h (fun _ h=>?_)
 exact Y⟩
instance {a0:List A3} {a1 a2:Int}:OK (M8 a0 a1 a2) fun r=>Aw Tryz.prog 151 [(Ar 3 Cu) a0,(O .i64) a1,(O .i64) a2] (Av r):=⟨fun {r} h=>by
 refine pw C0 Tryz.func151 ?_
 refine Z ?_
 refine Ck h (fun _ _ _ _ h=>?_)
 refine Z ?_
 refine Ck h (fun _ _ _ _ h=>?_)
 refine Z ?_
 refine Ao h (fun _ h=>?_) (fun _ h=>?_)
 exact Y
 refine Z ?_
 refine Bk h (fun _ h=>?_)
 refine Z ?_
 refine Bb h (fun v11=>[(6,(Av false)),(29,(O .i64 v11))]) (fun v11=>[]) ?_
 rintro v11 _ _ _ h _ _
 exact Y⟩
instance {a0:List A3}:OK (Tp a0) fun r=>Aw Tryz.prog 90 [(Ar 3 Cu) a0] (Av r):=⟨fun {r} h=>by
 refine pw C0 Tryz.func90 ?_
 refine Z ?_
 refine Ao h (fun _ h=>?_) (fun _ h=>?_)
 exact Y
 refine Z ?_
 refine Bb h (fun (v31,o32,o33)=>[(2,(Av false)),(15,(O .i64 v31))]) (fun (v31,o32,o33)=>[(0,.map (Bg Av o32)),(1,.map (Bg Av o33))]) ?_
 rintro ⟨v31,o32,o33⟩ _ _ _ h _ _
 refine Z ?_
 refine Ao h (fun _ h=>?_) (fun _ h=>?_)
 refine ZS ?_
 refine Ca ?_
 refine ZO ?_
 refine Ax (Ax ?_)
 refine Cd h (fun v41=>[(49,(Av v41))]) (fun v41=>[]) ?_ ?_
 intro _ h _ _ _
 refine Z ?_
 refine Ck h (fun _ _ _ _ h=>?_)
 refine Z ?_
 refine Bk h (fun _ h=>?_)
 refine Z ?_
 refine Fz h (fun _ h=>?_) (fun _ h=>?_)
 exact Y
 refine Z ?_
 refine Ck h (fun _ _ _ _ h=>?_)
 refine Z ?_
 refine W4 (f:=Av) (l:=o32) rfl (false:Bool) h (fun j_ hb h=>?_) (fun hb h=>?_)
 exact Y
 exact Y
 rintro v41 _ h
 refine Ao h (fun _ h=>?_) (fun _ h=>?_)
 exact Y
 refine Z ?_
 refine Ck h (fun _ _ _ _ h=>?_)
 refine Z ?_
 refine S6 (f:=Av) (l:=o32) (x:=true) rfl rfl ?_
 refine ZO ?_
 refine Ax (Ax ?_)
 refine Cd h (fun v45=>[(71,(Av v45))]) (fun v45=>[]) ?_ ?_
 intro _ h _ _ _
 exact Y
 rintro v45 _ h
 refine Ao h (fun _ h=>?_) (fun _ h=>?_)
 exact Y
 refine Z ?_
 refine Ck h (fun _ _ _ _ h=>?_)
 refine Z ?_
 refine Bb h (fun (v52,o53)=>[(2,(Av false)),(78,(O .i64 v52))]) (fun (v52,o53)=>[(1,.map (Bg Av o53))]) ?_
 rintro ⟨v52,o53⟩ _ _ _ h _ _
 refine Z ?_
 refine Ao h (fun _ h=>?_) (fun _ h=>?_)
 refine Z ?_
 refine Ck h (fun _ _ _ _ h=>?_)
 refine Z ?_
 refine Bk h (fun _ h=>?_)
 refine Z ?_
 refine Fz h (fun _ h=>?_) (fun _ h=>?_)
 exact Y
 refine Z ?_
 refine W4 (f:=Av) (l:=o53) rfl (false:Bool) h (fun j_ hb h=>?_) (fun hb h=>?_)
 refine Z ?_
 refine Fz h (fun _ h=>?_) (fun _ h=>?_)
 exact Y
 refine Z ?_
 refine Bk h (fun _ h=>?_)
 refine Z ?_
 refine Ao h (fun _ h=>?_) (fun _ h=>?_)
 exact Y
 refine Z ?_
 refine S6 (f:=Av) (l:=o53) (x:=true) rfl rfl ?_
 exact Y
 refine Z ?_
 refine Bk h (fun _ h=>?_)
 refine Z ?_
 refine Ao h (fun _ h=>?_) (fun _ h=>?_)
 exact Y
 refine Z ?_
 refine S6 (f:=Av) (l:=o53) (x:=true) rfl rfl ?_
 exact Y
 exact Y
 exact Y⟩
instance {a0:List A3}:OK (Aby a0) fun r=>Aw Tryz.prog 96 [Pa (H9.mk a0 [] [] [])] (Av r):=⟨fun {r} h=>by
 refine pw C0 Tryz.func96 ?_
 refine Z ?_
 refine Gi h (fun _ h=>?_)
 refine Z ?_
 refine Bb h (fun _=>[(2,(Av false)),(18,(O .i64 0))]) (fun _=>[]) ?_
 rintro _ _ _ _ h _ _
 replace h:=Cv h
 refine Z ?_
 refine Bb h (fun _=>[(2,(Av false)),(30,(O .i64 0))]) (fun _=>[]) ?_
 rintro _ _ _ _ h _ _
 exact Y⟩
instance {a0:List A3}:OK (Abx a0) fun r=>Aw Tryz.prog 95 [Pa (H9.mk a0 [] [] [])] (Av r):=⟨fun {r} h=>by
 refine pw C0 Tryz.func95 ?_
 refine Z ?_
 refine Gi h (fun _ h=>?_)
 refine Z ?_
 refine Bb h (fun _=>[(2,(Av false)),(17,(O .i64 0))]) (fun _=>[]) ?_
 rintro _ _ _ _ h _ _
 exact Y⟩
instance {a0:List A3}:OK (Abv a0) fun r=>Aw Tryz.prog 93 [Pa (H9.mk a0 [] [] [])] (Av r):=⟨fun {r} h=>by
 refine pw C0 Tryz.func93 ?_
 refine Z ?_
 refine Gi h (fun _ h=>?_)
 refine Z ?_
 refine Bb h (fun _=>[(2,(Av false)),(20,(O .i64 0))]) (fun _=>[]) ?_
 rintro _ _ _ _ h _ _
 replace h:=Cv h
 refine Z ?_
 refine Bb h (fun _=>[(2,(Av false)),(33,(O .i64 0))]) (fun _=>[]) ?_
 rintro _ _ _ _ h _ _
 exact Y⟩
instance {a0:Ai} {b0:H9}:OK (Ab1 a0 b0) fun r=>Br Tryz.prog 153 [Fd a0,(.loc 0 0)] [.cells 114 [(.sl 3 (List.map Cu b0.Data)),(.sl 7 (List.map O8 b0.Codes)),(.sl 3 (Bn b0.Vars)),(.sl 8 (List.map O9 b0.Exprs))]] (Av r) [.cells 114 [(.sl 3 (List.map Cu b0.Data)),(.sl 7 (List.map O8 b0.Codes)),(.sl 3 (Bn b0.Vars)),(.sl 8 (List.map O9 b0.Exprs))]]:=⟨fun {r} h=>by
 refine aw C0 true Tryz.func153 ?_
 exact Y⟩
instance {a0:List Ai} {b0:H9}:OK (Ab2 a0 b0) fun r=>Br Tryz.prog 229 [(Ir 3 Bn) a0,(.fn 153 [(.loc 0 0)])] [.cells 114 [(.sl 3 (List.map Cu b0.Data)),(.sl 7 (List.map O8 b0.Codes)),(.sl 3 (Bn b0.Vars)),(.sl 8 (List.map O9 b0.Exprs))]] ((O .i64) r) [.cells 114 [(.sl 3 (List.map Cu b0.Data)),(.sl 7 (List.map O8 b0.Codes)),(.sl 3 (Bn b0.Vars)),(.sl 8 (List.map O9 b0.Exprs))]]:=⟨fun {r} h=>by
 refine aw C0 true Tryz.func229 ?_
 refine Z ?_
 refine Bb h (fun v3=>[(4,(O .i64 0)),(8,(O .i64 v3))]) (fun v3=>[]) ?_
 rintro v3 _ _ _ h _ _
 refine Z ?_
 refine Ao h (fun _ h=>?_) (fun _ h=>?_)
 refine Z ?_
 refine Ck h (fun _ _ _ _ h=>?_)
 refine Z ?_
 refine A7 [0] h (fun _ h=>?_)
 exact Y
 exact Y⟩
instance {a0:List Ai} {b0:H9}:OK (Ab0 a0 b0) fun r=>Br Tryz.prog 152 [(Ir 3 Bn) a0,(.fn 153 [(.loc 0 0)])] [.cells 114 [(.sl 3 (List.map Cu b0.Data)),(.sl 7 (List.map O8 b0.Codes)),(.sl 3 (Bn b0.Vars)),(.sl 8 (List.map O9 b0.Exprs))]] (Av r) [.cells 114 [(.sl 3 (List.map Cu b0.Data)),(.sl 7 (List.map O8 b0.Codes)),(.sl 3 (Bn b0.Vars)),(.sl 8 (List.map O9 b0.Exprs))]]:=⟨fun {r} h=>by
 refine aw C0 true Tryz.func152 ?_
 refine Z ?_
 refine A7 [0] h (fun _ h=>?_)
 exact Y⟩
instance {a0:List A3}:OK (Abt a0) fun r=>Aw Tryz.prog 91 [Pa (H9.mk a0 [] [] [])] (Av r):=⟨fun {r} h=>by
 refine pw C0 Tryz.func91 ?_
 refine Z ?_
 refine A7 [0] h (fun _ h=>?_)
 exact Y⟩
instance {a0:List A3}:OK (Te a0) fun r=>Aw Tryz.prog 51 [Pa (H9.mk a0 [] [] [])] (Av r):=⟨fun {r} h=>by
 refine pw C0 Tryz.func51 ?_
 exact Y⟩
instance {a0:List Int}:OK (K9 a0) fun r=>Aw Tryz.prog 112 [(Ar 1 (O .i64)) a0] ((O .i64) r):=⟨fun {r} h=>by
 refine pw C0 Tryz.func112 ?_
 refine Z ?_
 refine Bb h (fun v2=>[(2,(O .i64 0)),(8,(O .i64 v2))]) (fun v2=>[]) ?_
 rintro v2 _ _ _ h _ _
 exact Y⟩
instance {a0:Int}:OK (Xs a0) fun r=>Aw Tryz.prog 249 [(O .i64) a0] (Av r):=⟨fun {r} h=>by
 refine pw C0 Tryz.func249 ?_
 exact Y⟩
instance {a0 a1:Int}:OK (T7 a0 a1) fun r=>Aw Tryz.prog 183 [(O .i64) a0,(O .i64) a1] ((O .i64) r):=⟨fun {r} h=>by
 refine pw C0 Tryz.func183 ?_
 exact Y⟩
instance {a0 a1:Ba}:OK (T6 a0 a1) fun r=>Aw Tryz.prog 182 [Db a0,Db a1] ((O .i64) r):=⟨fun {r} h=>by
 refine pw C0 Tryz.func182 ?_
 exact Y⟩
end Go.Ab
namespace Go.Ab
open Go Go.Proofs
set_option maxRecDepth 10000
set_option maxHeartbeats 4000000
set_option linter.unusedVariables false
instance {a0 a1:List Ba}:OK (Xn a0 a1) fun r=>Aw Tryz.prog 181 [(Ar 2 Db) a0,(Ar 2 Db) a1,(.fn 182 [])] ((O .i64) r):=⟨fun {r} h=>by
 refine pw C0 Tryz.func181 ?_
 refine Z ?_
 refine Bb h (fun v6=>[(6,(O .i64 0)),(13,(O .i64 v6))]) (fun v6=>[]) ?_
 rintro v6 _ _ _ h _ _
 exact Y⟩
instance {a0 a1:Bf}:OK (Jy a0 a1) fun r=>Aw Tryz.prog 116 [Fh a0,Fh a1] ((O .i64) r):=⟨fun {r} h=>by
 refine pw C0 Tryz.func116 ?_
 exact Y⟩
instance {a0 a1:A6}:OK (Tu a0 a1) fun r=>Aw Tryz.prog 115 [Ed a0,Ed a1] ((O .i64) r):=⟨fun {r} h=>by
 refine pw C0 Tryz.func115 ?_
 exact Y⟩
instance {a0 a1:List A6}:OK (Xi a0 a1) fun r=>Aw Tryz.prog 114 [(Ar 3 Ed) a0,(Ar 3 Ed) a1,(.fn 115 [])] ((O .i64) r):=⟨fun {r} h=>by
 refine pw C0 Tryz.func114 ?_
 refine Z ?_
 refine Bb h (fun v6=>[(6,(O .i64 0)),(13,(O .i64 v6))]) (fun v6=>[]) ?_
 rintro v6 _ _ _ h _ _
 exact Y⟩
abbrev Ah3 (k:Nat):Prop:=∀{a0 a1:Bp},OK (M4 k a0 a1) fun r=>Aw Tryz.prog 113 [Hq a0,Hq a1] ((O .i64) r)
abbrev Ah4 (k:Nat):Prop:=∀{a0 a1:List Bp},OK (T5 k a0 a1) fun r=>Aw Tryz.prog 180 [(Ir 2 It) a0,(Ir 2 It) a1,(.fn 113 [])] ((O .i64) r)
theorem Ah5 (k:Nat):Ah3 k/\Ah4 k:=by
 induction k with
 | zero=>exact ⟨okz,okz⟩
 | succ k ih=>
  obtain ⟨i0_,i1_⟩:=ih
  refine ⟨@fun a0 a1=>⟨fun {r} h=>?_⟩,@fun a0 a1=>⟨fun {r} h=>?_⟩⟩
  .unfold M4 at h
   refine pw C0 Tryz.func113 ?_
   exact Y
  .unfold T5 at h
   refine pw C0 Tryz.func180 ?_
   refine Z ?_
   refine Bb h (fun v6=>[(6,(O .i64 0)),(13,(O .i64 v6))]) (fun v6=>[]) ?_
   rintro v6 _ _ _ h _ _
   exact Y
instance {k:Nat}:Ah3 k:=(Ah5 k).1
instance {k:Nat}:Ah4 k:=(Ah5 k).2
instance {a0 a1:B8}:OK (Tt a0 a1) fun r=>Aw Tryz.prog 111 [Ey a0,Ey a1] ((O .i64) r):=⟨fun {r} h=>by
 refine pw C0 Tryz.func111 ?_
 exact Y⟩
instance {a0 a1:List B8}:OK (Xh a0 a1) fun r=>Aw Tryz.prog 110 [(Ar 3 Ey) a0,(Ar 3 Ey) a1,(.fn 111 [])] ((O .i64) r):=⟨fun {r} h=>by
 refine pw C0 Tryz.func110 ?_
 refine Z ?_
 refine Bb h (fun v6=>[(6,(O .i64 0)),(13,(O .i64 v6))]) (fun v6=>[]) ?_
 rintro v6 _ _ _ h _ _
 exact Y⟩
instance {a0 a1:Bd}:OK (M3 a0 a1) fun r=>Aw Tryz.prog 58 [Gq a0,Gq a1] ((O .i64) r):=⟨fun {r} h=>by
 refine pw C0 Tryz.func58 ?_
 exact Y⟩
instance {a0:Int}:OK (Gp a0) fun r=>Aw Tryz.prog 103 [(O .i64) a0] (Ep r):=⟨fun {r} h=>by
 exact Aq9 h⟩
instance {b1:List Int}:OK (Rm b1) fun r=>Br Tryz.prog 164 [(.loc 0 0)] [.cells 165 [(.loc 0 0),(.arr 1 b1.length 0 b1.length)],.rows 5 1 (List.map (O .u8) b1)] (.tup []) [.cells 165 [(.loc 0 0),(.arr 1 b1.length 0 b1.length)],.rows 5 1 (List.map (O .u8) b1)]:=⟨fun {r} h=>by
 cases h
 exact Arc _ _⟩
instance {a0:Int} {b1:List Int}:OK (Q9 a0 b1) fun r=>Br Tryz.prog 242 [(.loc 0 0),(O .u8) a0] [.cells 165 [(.loc 0 0),(.arr 1 b1.length 0 b1.length)],.rows 5 1 (List.map (O .u8) b1)] (.val .nilIface) [.cells 165 [(.loc 0 0),(.arr 1 r.length 0 r.length)],.rows 5 1 (List.map (O .u8) r)]:=⟨fun {r} h=>by
 refine aw C0 true Tryz.func242 ?_
 refine Z ?_
 refine A7 [0,1] h (fun _ h=>?_)
 exact Y⟩
instance {a0:ByteArray} {b1:List Int}:OK (Fo a0 b1) fun r=>Br Tryz.prog 101 [(.loc 0 0),Ep a0] [.cells 165 [(.loc 0 0),(.arr 1 b1.length 0 b1.length)],.rows 5 1 (List.map (O .u8) b1)] (.tup [(O .i64) r.1,.val .nilIface]) [.cells 165 [(.loc 0 0),(.arr 1 r.2.length 0 r.2.length)],.rows 5 1 (List.map (O .u8) r.2)]:=⟨fun {r} h=>by
 refine aw C0 true Tryz.func101 ?_
 refine Z ?_
 refine A7 [0,1] h (fun _ h=>?_)
 exact Y⟩
abbrev Ah6 (k:Nat):Prop:=∀{a0:Bp} {b1:List Int},OK (Oo k a0 b1) fun r=>Br Tryz.prog 165 [(.loc 0 0),Hq a0] [.cells 165 [(.loc 0 0),(.arr 1 b1.length 0 b1.length)],.rows 5 1 (List.map (O .u8) b1)] (.tup []) [.cells 165 [(.loc 0 0),(.arr 1 r.length 0 r.length)],.rows 5 1 (List.map (O .u8) r)]
theorem Ar4 (k:Nat):Ah6 k:=by
 induction k with
 | zero=>exact okz
 | succ k ih=>
  refine @fun a0 b1=>⟨fun {r} h=>?_⟩
  .unfold Oo at h
   refine aw C0 true Tryz.func165 ?_
   refine Z ?_
   refine Bk h (fun _ h=>?_)
   refine Z ?_
   refine A7 [0,1] h (fun _ h=>?_)
   refine Z ?_
   refine Ao h (fun _ h=>?_) (fun _ h=>?_)
   refine Z ?_
   refine A7 [0,1] h (fun _ h=>?_)
   refine Z ?_
   refine Bb h (fun (v15,o16)=>[(20,(O .i64 v15))]) (fun (v15,o16)=>[(0,.cells 165 [(.loc 0 0),(.arr 1 o16.length 0 o16.length)]),(1,.rows 5 1 (List.map (O .u8) o16))]) ?_
   rintro ⟨v15,o16⟩ _ _ _ h _ _
   refine Z ?_
   refine Ao h (fun _ h=>?_) (fun _ h=>?_)
   refine Z ?_
   refine Ck h (fun _ _ _ _ h=>?_)
   refine Z ?_
   refine A7 [0,1] h (fun _ h=>?_)
   refine Z ?_
   refine A7 [0,1] h (fun _ h=>?_)
   exact Y
   replace h:=Cv h
   refine Z ?_
   refine A7 [0,1] h (fun _ h=>?_)
   exact Y
   exact Y
instance {k:Nat}:Ah6 k:=(Ar4 k)
instance {b1:List Int}:OK (Jx b1) fun r=>Br Tryz.prog 105 [(.loc 0 0)] [.cells 165 [(.loc 0 0),(.arr 1 b1.length 0 b1.length)],.rows 5 1 (List.map (O .u8) b1)] (Ep r) [.cells 165 [(.loc 0 0),(.arr 1 b1.length 0 b1.length)],.dead]:=⟨fun {r} h=>by
 exact Ahl h⟩
instance {b1:List Int}:OK (T1 b1) fun r=>Br Tryz.prog 164 [(.loc 0 0)] [.cells 165 [(.val (.pointer none)),(.arr 1 b1.length 0 b1.length)],.rows 5 1 (List.map (O .u8) b1)] (.tup []) [.cells 165 [(.loc 0 0),(.arr 1 b1.length 0 b1.length)],.rows 5 1 (List.map (O .u8) b1)]:=⟨fun {r} h=>by
 cases h
 exact Ard _ _⟩
instance {a0:ByteArray} {b1:List Int}:OK (H8 a0 b1) fun r=>Br Tryz.prog 101 [(.loc 0 0),Ep a0] [.cells 165 [(.val (.pointer none)),(.arr 1 b1.length 0 b1.length)],.rows 5 1 (List.map (O .u8) b1)] (.tup [(O .i64) r.1,(.val .nilIface)]) [.cells 165 [(.loc 0 0),(.arr 1 r.2.length 0 r.2.length)],.rows 5 1 (List.map (O .u8) r.2)]:=⟨fun {r} h=>by
 refine aw C0 true Tryz.func101 ?_
 refine Z ?_
 refine A7 [0,1] h (fun _ h=>?_)
 exact Y⟩
instance {a0:Int} {a1:Bp}:OK (L2 a0 a1) fun r=>Aw Tryz.prog 102 [(O .i64) a0,Hq a1] (Ep r):=⟨fun {r} h=>by
 refine pw C0 Tryz.func102 ?_
 refine ZS ?_
 refine Ca ?_
 refine ZS ?_
 refine Ca ?_
 refine ZO ?_
 refine Ax ?_
 refine D3 [.own 5 1 5 1] ?_
 refine Z ?_
 refine Bk h (fun _ h=>?_)
 refine Z ?_
 refine F3 h (fun h=>?_)
 refine Z ?_
 refine F3 h (fun h=>?_)
 refine Z ?_
 refine A7 [1,2] h (fun _ h=>?_)
 refine Z ?_
 refine A7 [1,2] h (fun _ h=>?_)
 refine Z ?_
 refine A7 [1,2] h (fun _ h=>?_)
 exact Y⟩
abbrev Ah7 (k:Nat):Prop:=∀{a0:Ai},OK (Ou k a0) fun r=>Aw Tryz.prog 198 [Fd a0] ((O .i64) r)
theorem Ar5 (k:Nat):Ah7 k:=by
 induction k with
 | zero=>exact okz
 | succ k ih=>
  refine @fun a0=>⟨fun {r} h=>?_⟩
  .unfold Ou at h
   refine pw C0 Tryz.func198 ?_
   refine Z ?_
   refine Bb h (fun (v5,v6)=>[(3,(O .i64 v5)),(9,(O .i64 v6))]) (fun (v5,v6)=>[]) ?_
   rintro ⟨v5,v6⟩ _ _ _ h _ _
   exact Y
instance {k:Nat}:Ah7 k:=(Ar5 k)
abbrev Ah8 (k:Nat):Prop:=∀{a0:Ai} {a1:List Ai},OK (Na k a0 a1) fun r=>Aw Tryz.prog 200 [Fd a0,(Ir 3 Bn) a1] (Fd r)
theorem Ar6 (k:Nat):Ah8 k:=by
 induction k with
 | zero=>exact okz
 | succ k ih=>
  refine @fun a0 a1=>⟨fun {r} h=>?_⟩
  .unfold Na at h
   refine pw {T:=Cb,an:=(fun _=>.ask),nl:=(fun s=>bif Nat.beq s 42 then [(0,3)] else [])} Tryz.func200 ?_
   refine ZS ?_
   refine Ca ?_
   refine ZO ?_
   refine Ax (Ax ?_)
   refine Cd h (fun v3=>[(22,(Av v3))]) (fun v3=>[]) ?_ ?_
   intro _ h _ _ _
   exact Y
   rintro v3 _ h
   refine Ao h (fun _ h=>?_) (fun _ h=>?_)
   exact Y
   refine ZS ?_
   refine Ca ?_
   refine ZO ?_
   refine Ax (Ax ?_)
   refine D3 [.own 5 2 29 3] ?_
   refine Z ?_
   refine Bb h (fun (v18,o19)=>[(37,(O .i64 v18))]) (fun (v18,o19)=>[(2,.cells 29 [(O .i64 a0.Kind),(O .i64 a0.Num),(.arr 3 o19.length 0 o19.length)]),(3,.rows 29 3 (Bn o19))]) ?_
   rintro ⟨v18,o19⟩ _ _ _ h _ _
   exact Y
instance {k:Nat}:Ah8 k:=(Ar6 k)
abbrev Ah9 (k:Nat):Prop:=∀{a0:Ai} {a1:List Int},OK (Ov k a0 a1) fun r=>Aw Tryz.prog 199 [Fd a0,(Ar 1 (O .i64)) a1] ((O .i64) r)
theorem Ar7 (k:Nat):Ah9 k:=by
 induction k with
 | zero=>exact okz
 | succ k ih=>
  refine @fun a0 a1=>⟨fun {r} h=>?_⟩
  .unfold Ov at h
   refine pw C0 Tryz.func199 ?_
   refine ZS ?_
   refine Ca ?_
   refine ZO ?_
   refine Ax (Ax ?_)
   refine Cd h (fun v2=>[(22,(Av v2))]) (fun v2=>[]) ?_ ?_
   intro _ h _ _ _
   exact Y
   rintro v2 _ h
   refine Ao h (fun _ h=>?_) (fun _ h=>?_)
   exact Y
   refine Z ?_
   refine Bb h (fun (v7,v8)=>[(5,(O .i64 v7)),(31,(O .i64 v8))]) (fun (v7,v8)=>[]) ?_
   rintro ⟨v7,v8⟩ _ _ _ h _ _
   exact Y
instance {k:Nat}:Ah9 k:=(Ar7 k)
instance {a0:List A3} {a1:Ai} {a2:Int}:OK (X5 a0 a1 a2) fun r=>Aw Tryz.prog 125 [(Ar 3 Cu) a0,Fd a1,(O .i64) a2] (.tup [(Ir 3 Bn) r.1,Av r.2]):=⟨fun {r} h=>by
 refine pw {T:=Cb,an:=(fun s=>bif Nat.beq s 14 then .own else .ask),nl:=(fun s=>bif Nat.beq s 14 then [(0,3)] else bif Nat.beq s 6 then [(0,3)] else [])} Tryz.func125 ?_
 refine ZS ?_
 refine Ca ?_
 refine ZO ?_
 refine Ax (Ax ?_)
 refine Cd h (fun v2=>[(31,(Av v2))]) (fun v2=>[]) ?_ ?_
 intro _ h _ _ _
 exact Y
 rintro v2 _ h
 refine Ao h (fun _ h=>?_) (fun _ h=>?_)
 exact Y
 refine Z ?_
 refine Ck h (fun _ _ _ _ h=>?_)
 refine ZO ?_
 refine Ax (Ax ?_)
 refine Cd h (fun v5=>[(53,(Av v5))]) (fun v5=>[]) ?_ ?_
 intro _ h _ _ _
 exact Y
 rintro v5 _ h
 refine Ao h (fun _ h=>?_) (fun _ h=>?_)
 exact Y
 refine Z ?_
 refine Gi h (fun o6 h=>?_)
 refine Z ?_
 refine Ej h (fun (v12,o13)=>[(61,(O .i64 v12))]) (fun (v12,o13)=>[(2,.rows 3 1 (List.map (O .i64) o13))]) (fun (v12,o13)=>o6.length=o13.length) ?_
 rintro ⟨v12,o13⟩ _ _ _ h _ _ q13
 refine Z ?_
 refine Ao h (fun _ h=>?_) (fun _ h=>?_)
 exact Y
 replace h:=Cv h
 refine Z ?_
 refine Ck h (fun _ _ _ _ h=>?_)
 refine ZO ?_
 refine Kg ?_
 refine D3 [.fz 9] ?_
 refine Z ?_
 refine Bb h (fun v23=>[(6,(.sl 3 (Bn []))),(7,(Av false)),(79,(O .i64 v23))]) (fun v23=>[]) ?_
 rintro v23 _ _ _ h _ _
 refine Z ?_
 refine Ao h (fun _ h=>?_) (fun _ h=>?_)
 exact Y
 replace h:=Cv h
 refine Z ?_
 refine Ck h (fun _ _ _ _ h=>?_)
 refine Z ?_
 refine Bb h (fun (v41,o42)=>[(14,(.arr 3 o42.length 0 o42.length)),(95,(O .i64 v41))]) (fun (v41,o42)=>[(3,.rows 29 3 (Bn o42))]) ?_
 rintro ⟨v41,o42⟩ _ _ _ h _ _
 exact Y⟩
abbrev Aia (k:Nat):Prop:=∀{a0:Ai} {a1:Bp} {b1:List (ByteArray×Int)} {b2:List (ByteArray×(List Dd))} {b0_0:List A3} {b0_1:List Ai} {b0_2 b0_3:Int} {b0_4:List Ai},OK (O5 k a0 a1 b1 b2 b0_0 b0_1 b0_2 b0_3 b0_4) fun r=>Br Tryz.prog 281 [(.loc 0 0),Fd a0,Hq a1] [.cells 119 [(.sl 3 (List.map Cu b0_0)),(.sl 3 (Bn b0_1)),(O .i64 b0_2),(O .i64 b0_3),(.sl 3 (Bn b0_4)),(.mp 1),(.mp 2)],.map (Bg (O .i64) b1),.map (Bg (Ar 5 Ee) b2)] ((O .i64) r) [.cells 119 [(.sl 3 (List.map Cu b0_0)),(.sl 3 (Bn b0_1)),(O .i64 b0_2),(O .i64 b0_3),(.sl 3 (Bn b0_4)),(.mp 1),(.mp 2)],.map (Bg (O .i64) b1),.map (Bg (Ar 5 Ee) b2)]
abbrev Aib (k:Nat):Prop:=∀{a0:Ai} {a1:Bp} {b1:List (ByteArray×Int)} {b2:List (ByteArray×(List Dd))} {b0_0:List A3} {b0_1:List Ai} {b0_2 b0_3:Int} {b0_4:List Ai},OK (Nb k a0 a1 b1 b2 b0_0 b0_1 b0_2 b0_3 b0_4) fun r=>Br Tryz.prog 240 [(.loc 0 0),Fd a0,Hq a1] [.cells 119 [(.sl 3 (List.map Cu b0_0)),(.sl 3 (Bn b0_1)),(O .i64 b0_2),(O .i64 b0_3),(.sl 3 (Bn b0_4)),(.mp 1),(.mp 2)],.map (Bg (O .i64) b1),.map (Bg (Ar 5 Ee) b2)] ((O .i64) r) [.cells 119 [(.sl 3 (List.map Cu b0_0)),(.sl 3 (Bn b0_1)),(O .i64 b0_2),(O .i64 b0_3),(.sl 3 (Bn b0_4)),(.mp 1),(.mp 2)],.map (Bg (O .i64) b1),.map (Bg (Ar 5 Ee) b2)]
abbrev Aic (k:Nat):Prop:=∀{a0:List Ai} {a1:List Bp} {b1:List (ByteArray×Int)} {b2:List (ByteArray×(List Dd))} {b0_0:List A3} {b0_1:List Ai} {b0_2 b0_3:Int} {b0_4:List Ai},OK (O4 k a0 a1 b1 b2 b0_0 b0_1 b0_2 b0_3 b0_4) fun r=>Br Tryz.prog 280 [(.loc 0 0),(Ir 3 Bn) a0,(Ir 2 It) a1] [.cells 119 [(.sl 3 (List.map Cu b0_0)),(.sl 3 (Bn b0_1)),(O .i64 b0_2),(O .i64 b0_3),(.sl 3 (Bn b0_4)),(.mp 1),(.mp 2)],.map (Bg (O .i64) b1),.map (Bg (Ar 5 Ee) b2)] ((O .i64) r) [.cells 119 [(.sl 3 (List.map Cu b0_0)),(.sl 3 (Bn b0_1)),(O .i64 b0_2),(O .i64 b0_3),(.sl 3 (Bn b0_4)),(.mp 1),(.mp 2)],.map (Bg (O .i64) b1),.map (Bg (Ar 5 Ee) b2)]
theorem Acf (k:Nat):Aia k/\Aib k/\Aic k:=by
 induction k with
 | zero=>exact ⟨okz,okz,okz⟩
 | succ k ih=>
  obtain ⟨i0_,i1_,i2_⟩:=ih
  refine ⟨@fun a0 a1 b1 b2 b0_0 b0_1 b0_2 b0_3 b0_4=>⟨fun {r} h=>?_⟩,@fun a0 a1 b1 b2 b0_0 b0_1 b0_2 b0_3 b0_4=>⟨fun {r} h=>?_⟩,@fun a0 a1 b1 b2 b0_0 b0_1 b0_2 b0_3 b0_4=>⟨fun {r} h=>?_⟩⟩
  .unfold O5 at h
   refine aw {T:=Cb,an:=(fun s=>bif Nat.beq s 9 then .own else .ask),nl:=(fun s=>bif Nat.beq s 9 then [(0,3)] else [])} true Tryz.func281 ?_
   refine Z ?_
   refine Bk h (fun _ h=>?_)
   refine Z ?_
   refine Ao h (fun _ h=>?_) (fun _ h=>?_)
   exact Y
   refine Z ?_
   refine Bk h (fun _ h=>?_)
   refine Z ?_
   refine Bb h (fun (v14,o15)=>[(9,(.arr 5 o15.length 0 o15.length)),(38,(O .i64 v14))]) (fun (v14,o15)=>[(5,.rows 29 3 (Bn o15))]) ?_
   rintro ⟨v14,o15⟩ _ _ _ h _ _
   refine Z ?_
   refine Ao h (fun _ h=>?_) (fun _ h=>?_)
   exact Y
   replace h:=Cv h
   refine F4 (F2 rfl (Ax ?_))
   refine D3 [.fz 9] ?_
   refine Z ?_
   refine A7 [0,1,2] h (fun _ h=>?_)
   exact Y
  .unfold Nb at h
   refine aw C0 true Tryz.func240 ?_
   refine Z ?_
   refine Ao h (fun _ h=>?_) (fun _ h=>?_)
   refine Z ?_
   refine Ao h (fun _ h=>?_) (fun _ h=>?_)
   refine Z ?_
   refine A7 [0,1,2] h (fun _ h=>?_)
   exact Y
   exact Y
   refine Z ?_
   refine Ao h (fun _ h=>?_) (fun _ h=>?_)
   exact Y
   refine Z ?_
   refine Ao h (fun _ h=>?_) (fun _ h=>?_)
   refine Z ?_
   refine Ao h (fun _ h=>?_) (fun _ h=>?_)
   exact Y
   refine Z ?_
   refine Bb h (fun (v7,v8)=>[(6,(O .i64 0)),(7,(O .i64 v7)),(50,(O .i64 v8))]) (fun (v7,v8)=>[]) ?_
   rintro ⟨v7,v8⟩ _ _ _ h _ _
   refine Z ?_
   refine Ao h (fun _ h=>?_) (fun _ h=>?_)
   refine Z ?_
   refine Ck h (fun _ _ _ _ h=>?_)
   refine Z ?_
   refine A7 [0,1,2] h (fun _ h=>?_)
   exact Y
   exact Y
   exact Y
  .unfold O4 at h
   refine aw C0 true Tryz.func280 ?_
   refine Z ?_
   refine Ao h (fun _ h=>?_) (fun _ h=>?_)
   exact Y
   refine Z ?_
   refine Bb h (fun (v5,v6)=>[(6,(O .i64 0)),(7,(O .i64 v5)),(18,(O .i64 v6))]) (fun (v5,v6)=>[]) ?_
   rintro ⟨v5,v6⟩ _ _ _ h _ _
   refine Z ?_
   refine Ao h (fun _ h=>?_) (fun _ h=>?_)
   refine Z ?_
   refine Ck h (fun _ _ _ _ h=>?_)
   refine Z ?_
   refine Ck h (fun _ _ _ _ h=>?_)
   refine Z ?_
   refine A7 [0,1,2] h (fun _ h=>?_)
   exact Y
   exact Y
instance {k:Nat}:Aia k:=(Acf k).1
instance {k:Nat}:Aib k:=(Acf k).2.1
instance {k:Nat}:Aic k:=(Acf k).2.2
instance {a0:Int} {b1:List (ByteArray×Int)} {b2:List (ByteArray×(List Dd))} {b0_0:List A3} {b0_1:List Ai} {b0_2 b0_3:Int} {b0_4:List Ai}:OK (Mz a0 b1 b2 b0_0 b0_1 b0_2 b0_3 b0_4) fun r=>Br Tryz.prog 37 [(.loc 0 0),(O .i64) a0] [.cells 119 [(.sl 3 (List.map Cu b0_0)),(.sl 3 (Bn b0_1)),(O .i64 b0_2),(O .i64 b0_3),(.sl 3 (Bn b0_4)),(.mp 1),(.mp 2)],.map (Bg (O .i64) b1),.map (Bg (Ar 5 Ee) b2)] (Fd r) [.cells 119 [(.sl 3 (List.map Cu b0_0)),(.sl 3 (Bn b0_1)),(O .i64 b0_2),(O .i64 b0_3),(.sl 3 (Bn b0_4)),(.mp 1),(.mp 2)],.map (Bg (O .i64) b1),.map (Bg (Ar 5 Ee) b2)]:=⟨fun {r} h=>by
 refine aw C0 true Tryz.func37 ?_
 exact Y⟩
instance {a0:Int} {a1:Bp} {b1:List (ByteArray×Int)} {b2:List (ByteArray×(List Dd))} {b0_0:List A3} {b0_1:List Ai} {b0_2 b0_3:Int} {b0_4:List Ai}:OK (Lb a0 a1 b1 b2 b0_0 b0_1 b0_2 b0_3 b0_4) fun r=>Br Tryz.prog 163 [(.loc 0 0),(O .i64) a0,Hq a1] [.cells 119 [(.sl 3 (List.map Cu b0_0)),(.sl 3 (Bn b0_1)),(O .i64 b0_2),(O .i64 b0_3),(.sl 3 (Bn b0_4)),(.mp 1),(.mp 2)],.map (Bg (O .i64) b1),.map (Bg (Ar 5 Ee) b2)] ((O .i64) r.1) [.cells 119 [(.sl 3 (List.map Cu b0_0)),(.sl 3 (Bn b0_1)),(O .i64 b0_2),(O .i64 b0_3),(.sl 3 (Bn b0_4)),(.mp 1),(.mp 2)],.map (Bg (O .i64) r.2),.map (Bg (Ar 5 Ee) b2)]:=⟨fun {r} h=>by
 refine aw C0 true Tryz.func163 ?_
 refine Z ?_
 refine Bk h (fun _ h=>?_)
 refine ZO ?_
 refine Ax ?_
 refine Cd h (fun (v3,v4)=>[(8,(O .i64 v3)),(9,(Av v4))]) (fun (v3,v4)=>[]) ?_ ?_
 intro _ h _ _ _
 refine Z ?_
 refine W4 (f:=(O .i64)) (l:=b1) rfl (0:Int) h (fun j_ hb h=>?_) (fun hb h=>?_)
 exact Y
 exact Y
 rintro ⟨v3,v4⟩ _ h
 refine Z ?_
 refine Ao h (fun _ h=>?_) (fun _ h=>?_)
 refine Z ?_
 refine A7 [0,1,2] h (fun _ h=>?_)
 refine Z ?_
 refine A7 [0,1,2] h (fun _ h=>?_)
 refine ZS ?_
 refine Ca ?_
 refine ZO ?_
 refine Cd h (fun v7=>[(8,(O .i64 v7))]) (fun v7=>[]) ?_ ?_
 intro _ h _ _ _
 exact Y
 rintro v7 _ h
 refine Z ?_
 refine S6 (f:=(O .i64)) (l:=b1) (x:=v7) rfl rfl ?_
 exact Y
 exact Y⟩
instance {a0:Bd} {b1:List (ByteArray×Int)} {b2:List (ByteArray×(List Dd))} {b0_0:List A3} {b0_1:List Ai} {b0_2 b0_3:Int} {b0_4:List Ai}:OK (M9 a0 b1 b2 b0_0 b0_1 b0_2 b0_3 b0_4) fun r=>Br Tryz.prog 162 [(.loc 0 0),Gq a0] [.cells 119 [(.sl 3 (List.map Cu b0_0)),(.sl 3 (Bn b0_1)),(O .i64 b0_2),(O .i64 b0_3),(.sl 3 (Bn b0_4)),(.mp 1),(.mp 2)],.map (Bg (O .i64) b1),.map (Bg (Ar 5 Ee) b2)] ((O .i64) r.1) [.cells 119 [(.sl 3 (List.map Cu b0_0)),(.sl 3 (Bn b0_1)),(O .i64 b0_2),(O .i64 b0_3),(.sl 3 (Bn b0_4)),(.mp 1),(.mp 2)],.map (Bg (O .i64) r.2),.map (Bg (Ar 5 Ee) b2)]:=⟨fun {r} h=>by
 refine aw C0 true Tryz.func162 ?_
 refine Z ?_
 refine Bb h (fun (v5,v6,o7)=>[(5,(O .i64 v5)),(13,(O .i64 v6))]) (fun (v5,v6,o7)=>[(1,.map (Bg (O .i64) o7))]) ?_
 rintro ⟨v5,v6,o7⟩ _ _ _ h _ _
 refine Z ?_
 refine Ao h (fun _ h=>?_) (fun _ h=>?_)
 refine Z ?_
 refine Ck h (fun _ _ _ _ h=>?_)
 refine Z ?_
 refine Ao h (fun _ h=>?_) (fun _ h=>?_)
 refine Z ?_
 refine A7 [0,1,2] h (fun _ h=>?_)
 exact Y
 exact Y
 replace h:=Cv h
 refine Z ?_
 refine Bb h (fun (v15,v16)=>[(5,(O .i64 v15)),(31,(O .i64 v16))]) (fun (v15,v16)=>[]) ?_
 rintro ⟨v15,v16⟩ _ _ _ h _ _
 exact Y⟩
instance {a0:Int} {b1:List (ByteArray×Int)} {b2:List (ByteArray×(List Dd))} {b0_0:List A3} {b0_1:List Ai} {b0_2 b0_3:Int} {b0_4:List Ai}:OK (Om a0 b1 b2 b0_0 b0_1 b0_2 b0_3 b0_4) fun r=>Br Tryz.prog 142 [(.loc 0 0),(O .i64) a0] [.cells 119 [(.sl 3 (List.map Cu b0_0)),(.sl 3 (Bn b0_1)),(O .i64 b0_2),(O .i64 b0_3),(.sl 3 (Bn b0_4)),(.mp 1),(.mp 2)],.map (Bg (O .i64) b1),.map (Bg (Ar 5 Ee) b2)] (Av r) [.cells 119 [(.sl 3 (List.map Cu b0_0)),(.sl 3 (Bn b0_1)),(O .i64 b0_2),(O .i64 b0_3),(.sl 3 (Bn b0_4)),(.mp 1),(.mp 2)],.map (Bg (O .i64) b1),.map (Bg (Ar 5 Ee) b2)]:=⟨fun {r} h=>by
 refine aw C0 true Tryz.func142 ?_
 exact Y⟩
instance {a0:Ba} {b2:List (ByteArray×Int)} {b3:List (ByteArray×(List Dd))} {b1_0:List A3} {b1_1:List Ai} {b1_2 b1_3:Int} {b1_4:List Ai}:OK (Qz a0 b2 b3 b1_0 b1_1 b1_2 b1_3 b1_4) fun r=>Br Tryz.prog 141 [Db a0,(.loc 0 0)] [.cells 74 [(.loc 1 0)],.cells 119 [(.sl 3 (List.map Cu b1_0)),(.sl 3 (Bn b1_1)),(O .i64 b1_2),(O .i64 b1_3),(.sl 3 (Bn b1_4)),(.mp 2),(.mp 3)],.map (Bg (O .i64) b2),.map (Bg (Ar 5 Ee) b3)] (Av r) [.cells 74 [(.loc 1 0)],.cells 119 [(.sl 3 (List.map Cu b1_0)),(.sl 3 (Bn b1_1)),(O .i64 b1_2),(O .i64 b1_3),(.sl 3 (Bn b1_4)),(.mp 2),(.mp 3)],.map (Bg (O .i64) b2),.map (Bg (Ar 5 Ee) b3)]:=⟨fun {r} h=>by
 refine aw C0 true Tryz.func141 ?_
 refine Z ?_
 refine A7 [1,2,3] h (fun _ h=>?_)
 refine Z ?_
 refine Fz h (fun _ h=>?_) (fun _ h=>?_)
 exact Y
 refine Z ?_
 refine A7 [1,2,3] h (fun _ h=>?_)
 refine Z ?_
 refine Aaw.mk 3 (by kernel_rfl) ?_
 exact Y⟩
instance {a0:List Ba} {b2:List (ByteArray×Int)} {b3:List (ByteArray×(List Dd))} {b1_0:List A3} {b1_1:List Ai} {b1_2 b1_3:Int} {b1_4:List Ai}:OK (Xo a0 b2 b3 b1_0 b1_1 b1_2 b1_3 b1_4) fun r=>Br Tryz.prog 213 [(Ar 2 Db) a0,(.fn 141 [(.loc 0 0)])] [.cells 74 [(.loc 1 0)],.cells 119 [(.sl 3 (List.map Cu b1_0)),(.sl 3 (Bn b1_1)),(O .i64 b1_2),(O .i64 b1_3),(.sl 3 (Bn b1_4)),(.mp 2),(.mp 3)],.map (Bg (O .i64) b2),.map (Bg (Ar 5 Ee) b3)] ((O .i64) r) [.cells 74 [(.loc 1 0)],.cells 119 [(.sl 3 (List.map Cu b1_0)),(.sl 3 (Bn b1_1)),(O .i64 b1_2),(O .i64 b1_3),(.sl 3 (Bn b1_4)),(.mp 2),(.mp 3)],.map (Bg (O .i64) b2),.map (Bg (Ar 5 Ee) b3)]:=⟨fun {r} h=>by
 refine aw C0 true Tryz.func213 ?_
 refine Z ?_
 refine Bb h (fun v3=>[(4,(O .i64 0)),(8,(O .i64 v3))]) (fun v3=>[]) ?_
 rintro v3 _ _ _ h _ _
 refine Z ?_
 refine Ao h (fun _ h=>?_) (fun _ h=>?_)
 refine Z ?_
 refine Ck h (fun _ _ _ _ h=>?_)
 refine Z ?_
 refine A7 [0,1,2,3] h (fun _ h=>?_)
 exact Y
 exact Y⟩
instance {a0:List Ba} {b2:List (ByteArray×Int)} {b3:List (ByteArray×(List Dd))} {b1_0:List A3} {b1_1:List Ai} {b1_2 b1_3:Int} {b1_4:List Ai}:OK (Xl a0 b2 b3 b1_0 b1_1 b1_2 b1_3 b1_4) fun r=>Br Tryz.prog 140 [(Ar 2 Db) a0,(.fn 141 [(.loc 0 0)])] [.cells 74 [(.loc 1 0)],.cells 119 [(.sl 3 (List.map Cu b1_0)),(.sl 3 (Bn b1_1)),(O .i64 b1_2),(O .i64 b1_3),(.sl 3 (Bn b1_4)),(.mp 2),(.mp 3)],.map (Bg (O .i64) b2),.map (Bg (Ar 5 Ee) b3)] (Av r) [.cells 74 [(.loc 1 0)],.cells 119 [(.sl 3 (List.map Cu b1_0)),(.sl 3 (Bn b1_1)),(O .i64 b1_2),(O .i64 b1_3),(.sl 3 (Bn b1_4)),(.mp 2),(.mp 3)],.map (Bg (O .i64) b2),.map (Bg (Ar 5 Ee) b3)]:=⟨fun {r} h=>by
 refine aw C0 true Tryz.func140 ?_
 refine Z ?_
 refine A7 [0,1,2,3] h (fun _ h=>?_)
 exact Y⟩
instance {a0:Bf} {b1:List (ByteArray×Int)} {b2:List (ByteArray×(List Dd))} {b0_0:List A3} {b0_1:List Ai} {b0_2 b0_3:Int} {b0_4:List Ai}:OK (Of a0 b1 b2 b0_0 b0_1 b0_2 b0_3 b0_4) fun r=>Br Tryz.prog 81 [(.loc 0 0),Fh a0] [.cells 119 [(.sl 3 (List.map Cu b0_0)),(.sl 3 (Bn b0_1)),(O .i64 b0_2),(O .i64 b0_3),(.sl 3 (Bn b0_4)),(.mp 1),(.mp 2)],.map (Bg (O .i64) b1),.map (Bg (Ar 5 Ee) b2)] (Av r) [.cells 119 [(.sl 3 (List.map Cu b0_0)),(.sl 3 (Bn b0_1)),(O .i64 b0_2),(O .i64 b0_3),(.sl 3 (Bn b0_4)),(.mp 1),(.mp 2)],.map (Bg (O .i64) b1),.map (Bg (Ar 5 Ee) b2)]:=⟨fun {r} h=>by
 refine aw C0 true Tryz.func81 ?_
 refine Z ?_
 refine A7 [3,0,1,2] h (fun _ h=>?_)
 exact Y⟩
instance {a0:Bd} {b1:List (ByteArray×Int)} {b2:List (ByteArray×(List Dd))} {b0_0:List A3} {b0_1:List Ai} {b0_2 b0_3:Int} {b0_4:List Ai}:OK (T0 a0 b1 b2 b0_0 b0_1 b0_2 b0_3 b0_4) fun r=>Br Tryz.prog 161 [(.loc 0 0),Gq a0] [.cells 119 [(.sl 3 (List.map Cu b0_0)),(.sl 3 (Bn b0_1)),(O .i64 b0_2),(O .i64 b0_3),(.sl 3 (Bn b0_4)),(.mp 1),(.mp 2)],.map (Bg (O .i64) b1),.map (Bg (Ar 5 Ee) b2)] (Av r.1) [.cells 119 [(.sl 3 (List.map Cu b0_0)),(.sl 3 (Bn b0_1)),(O .i64 b0_2),(O .i64 b0_3),(.sl 3 (Bn b0_4)),(.mp 1),(.mp 2)],.map (Bg (O .i64) r.2),.map (Bg (Ar 5 Ee) b2)]:=⟨fun {r} h=>by
 refine aw C0 true Tryz.func161 ?_
 refine Z ?_
 refine Bb h (fun (v6,o7)=>[(4,(Av false)),(12,(O .i64 v6))]) (fun (v6,o7)=>[(1,.map (Bg (O .i64) o7))]) ?_
 rintro ⟨v6,o7⟩ _ _ _ h _ _
 refine Z ?_
 refine Ao h (fun _ h=>?_) (fun _ h=>?_)
 refine Z ?_
 refine Ck h (fun _ _ _ _ h=>?_)
 refine Z ?_
 refine A7 [0,1,2] h (fun _ h=>?_)
 refine Z ?_
 refine Fz h (fun _ h=>?_) (fun _ h=>?_)
 exact Y
 refine Z ?_
 refine A7 [0,1,2] h (fun _ h=>?_)
 exact Y
 replace h:=Cv h
 refine Z ?_
 refine Bb h (fun v18=>[(4,(Av false)),(34,(O .i64 v18))]) (fun v18=>[]) ?_
 rintro v18 _ _ _ h _ _
 refine Z ?_
 refine Ao h (fun _ h=>?_) (fun _ h=>?_)
 refine Z ?_
 refine Ck h (fun _ _ _ _ h=>?_)
 refine Z ?_
 refine Fz h (fun _ h=>?_) (fun _ h=>?_)
 exact Y
 refine Z ?_
 refine A7 [0,1,2] h (fun _ h=>?_)
 exact Y
 exact Y⟩
instance {a0:Bd} {b1:List (ByteArray×Int)} {b2:List (ByteArray×(List Dd))} {b0_0:List A3} {b0_1:List Ai} {b0_2 b0_3:Int} {b0_4:List Ai}:OK (Qt a0 b1 b2 b0_0 b0_1 b0_2 b0_3 b0_4) fun r=>Br Tryz.prog 100 [(.loc 0 0),Gq a0] [.cells 119 [(.sl 3 (List.map Cu b0_0)),(.sl 3 (Bn b0_1)),(O .i64 b0_2),(O .i64 b0_3),(.sl 3 (Bn b0_4)),(.mp 1),(.mp 2)],.map (Bg (O .i64) b1),.map (Bg (Ar 5 Ee) b2)] (Av r.1) [.cells 119 [(.sl 3 (List.map Cu b0_0)),(.sl 3 (Bn b0_1)),(O .i64 b0_2),(O .i64 b0_3),(.sl 3 (Bn b0_4)),(.mp 1),(.mp 2)],.map (Bg (O .i64) r.2),.map (Bg (Ar 5 Ee) b2)]:=⟨fun {r} h=>by
 refine aw C0 true Tryz.func100 ?_
 refine ZS ?_
 refine Ca ?_
 refine ZO ?_
 refine Ax (Ax ?_)
 refine Cd h (fun (v4,o5)=>[(18,(Av v4))]) (fun (v4,o5)=>[(1,.map (Bg (O .i64) o5))]) ?_ ?_
 intro _ h _ _ _
 refine Z ?_
 refine A7 [0,1,2] h (fun _ h=>?_)
 refine Z ?_
 refine Fz h (fun _ h=>?_) (fun _ h=>?_)
 exact Y
 refine Z ?_
 refine A7 [0,1,2] h (fun _ h=>?_)
 exact Y
 rintro ⟨v4,o5⟩ _ h
 refine Ao h (fun _ h=>?_) (fun _ h=>?_)
 exact Y
 refine Z ?_
 refine Bb h (fun (v9,o10)=>[(4,(Av false)),(22,(O .i64 v9))]) (fun (v9,o10)=>[(1,.map (Bg (O .i64) o10))]) ?_
 rintro ⟨v9,o10⟩ _ _ _ h _ _
 refine Z ?_
 refine Ao h (fun _ h=>?_) (fun _ h=>?_)
 refine Z ?_
 refine Ck h (fun _ _ _ _ h=>?_)
 refine Z ?_
 refine A7 [0,1,2] h (fun _ h=>?_)
 exact Y
 replace h:=Cv h
 refine Z ?_
 refine Bb h (fun v22=>[(4,(Av false)),(54,(O .i64 v22))]) (fun v22=>[]) ?_
 rintro v22 _ _ _ h _ _
 refine Z ?_
 refine Ao h (fun _ h=>?_) (fun _ h=>?_)
 refine Z ?_
 refine Ck h (fun _ _ _ _ h=>?_)
 refine ZO ?_
 refine Ax (Ax ?_)
 refine Cd h (fun v26=>[(74,(Av v26))]) (fun v26=>[]) ?_ ?_
 intro _ h _ _ _
 exact Y
 rintro v26 _ h
 exact Y
 exact Y⟩
instance {a0 a1:List Int}:OK (Ok a0 a1) fun r=>Aw Tryz.prog 135 [(Ar 1 (O .u32)) a0,(Ar 1 (O .u32)) a1] ((O .i64) r):=⟨fun {r} h=>by
 refine pw C0 Tryz.func135 ?_
 refine Z ?_
 refine Ao h (fun _ h=>?_) (fun _ h=>?_)
 exact Y
 refine Z ?_
 refine Bb h (fun v5=>[(4,(O .i64 0)),(5,(O .i64 v5))]) (fun v5=>[]) ?_
 rintro v5 _ _ _ h _ _
 exact Y⟩
instance {a0:List Int}:OK (Ip a0) fun r=>Aw Tryz.prog 133 [(Ar 1 (O .u32)) a0] ((Ar 1 (O .u32)) r):=⟨fun {r} h=>by
 refine pw {T:=Cb,an:=(fun _=>.ask),nl:=(fun s=>bif Nat.beq s 2 then [(0,1)] else [])} Tryz.func133 ?_
 refine Z ?_
 refine Bb h (fun v2=>[(3,(O .i64 v2))]) (fun v2=>[]) ?_
 rintro v2 _ _ _ h _ _
 exact Y⟩
instance {a0:List Int} {a1:Int}:OK (O3 a0 a1) fun r=>Aw Tryz.prog 262 [(Ar 1 (O .u32)) a0,(O .u64) a1] (.tup [(Ar 1 (O .u32)) r.1,(O .u64) r.2]):=⟨fun {r} h=>by
 refine pw {T:=Cb,an:=(fun _=>.ask),nl:=(fun s=>bif Nat.beq s 4 then [(0,1)] else [])} Tryz.func262 ?_
 refine Z ?_
 refine Gi h (fun o1 h=>?_)
 refine Z ?_
 refine Ej h (fun (v7,v8,o9)=>[(7,(O .u64 v7)),(8,(O .i64 v8))]) (fun (v7,v8,o9)=>[(0,.rows 141 1 (List.map (O .u32) o9))]) (fun (v7,v8,o9)=>o1.length=o9.length) ?_
 rintro ⟨v7,v8,o9⟩ _ _ _ h _ _ q9
 refine Z ?_
 refine Ao h (fun _ h=>?_) (fun _ h=>?_)
 exact Y
 replace h:=Cv h
 refine F4 (F2 rfl (Ax ?_))
 refine D3 [.fz 6] ?_
 exact Y⟩
instance {a0:Int}:OK (L6 a0) fun r=>Aw Tryz.prog 127 [(O .u64) a0] ((Ar 1 (O .u32)) r):=⟨fun {r} h=>by
 refine pw {T:=Cb,an:=(fun s=>bif Nat.beq s 3 then .own else .ask),nl:=(fun s=>bif Nat.beq s 3 then [(0,1)] else bif Nat.beq s 2 then [(0,1)] else [])} Tryz.func127 ?_
 refine Z ?_
 refine Bb h (fun (v10,o11)=>[(0,(O .u64 v10)),(3,(.arr 0 o11.length 0 o11.length))]) (fun (v10,o11)=>[(0,.rows 141 1 (List.map (O .u32) o11))]) ?_
 rintro ⟨v10,o11⟩ _ _ _ h _ _
 exact Y⟩
instance {a0:List Int} {a1:Int}:OK (Rb a0 a1) fun r=>Br Tryz.prog 263 [(Ar 1 (O .u32)) a0,(O .u64) a1] [] (.arr 0 r.length 0 r.length) [.rows 141 1 (List.map (O .u32) r)]:=⟨fun {r} h=>by
 refine aw {T:=Cb,an:=(fun _=>.ask),nl:=(fun s=>bif Nat.beq s 4 then [(0,1)] else [])} false Tryz.func263 ?_
 refine Z ?_
 refine Gi h (fun o1 h=>?_)
 refine Z ?_
 refine Ej h (fun (v7,v8,o9)=>[(6,(O .u64 v7)),(15,(O .i64 v8))]) (fun (v7,v8,o9)=>[(0,.rows 141 1 (List.map (O .u32) o9))]) (fun (v7,v8,o9)=>o1.length=o9.length) ?_
 rintro ⟨v7,v8,o9⟩ _ _ _ h _ _ q9
 refine Z ?_
 refine Ao h (fun _ h=>?_) (fun _ h=>?_)
 exact Y
 replace h:=Cv h
 refine Z ?_
 refine G1 h (fun _ _ hiv16 _ h=>?_)
 refine Z ?_
 refine Lt (f:=(O .u32)) (x:=(Bx v7)) (j:=(a0.length:Int)) rfl rfl (Nat.zero_add _) hiv16 ?_
 refine Z ?_
 cases h
 exact ⟨congrArg (fun q_=>AV.arr 0 q_ 0 q_) (Gn (l:=o9) q9 (a0.length:Int) (Bx v7)),rfl,trivial⟩⟩
instance {a0:List Int} {a1:Int}:OK (Ab7 a0 a1) fun r=>Aw Tryz.prog 263 [(Ar 1 (O .u32)) a0,(O .u64) a1] ((Ar 1 (O .u32)) r):=⟨fun {r} h=>by
 refine pw {T:=Cb,an:=(fun _=>.ask),nl:=(fun s=>bif Nat.beq s 4 then [(0,1)] else [])} Tryz.func263 ?_
 refine Z ?_
 refine Gi h (fun o1 h=>?_)
 refine Z ?_
 refine Ej h (fun (v7,v8,o9)=>[(6,(O .u64 v7)),(15,(O .i64 v8))]) (fun (v7,v8,o9)=>[(0,.rows 141 1 (List.map (O .u32) o9))]) (fun (v7,v8,o9)=>o1.length=o9.length) ?_
 rintro ⟨v7,v8,o9⟩ _ _ _ h _ _ q9
 exact Y⟩
end Go.Ab
namespace Go.Ab
open Go Go.Proofs
set_option maxRecDepth 10000
set_option maxHeartbeats 4000000
set_option linter.unusedVariables false
instance {a0 a1:Nat} {a2 b0:List Int}:OK (Ue a0 a1 a2 b0) fun r=>Br Tryz.prog 264 [(.arr 0 b0.length a0 a1),(Ar 1 (O .u32)) a2] [.rows 141 1 (List.map (O .u32) b0)] ((O .u32) r.1) [.rows 141 1 (List.map (O .u32) r.2)]:=⟨fun {r} h=>by
 refine aw C0 true Tryz.func264 ?_
 refine Z ?_
 refine Ck h (fun _ _ _ _ h=>?_)
 refine Z ?_
 refine Ck h (fun _ _ _ _ h=>?_)
 refine Z ?_
 refine Ro h (fun _ _ _ _ h=>?_)
 refine Z ?_
 refine Ro h (fun _ _ _ _ h=>?_)
 refine Z ?_
 refine S7 h (fun _ h=>?_)
 refine Z ?_
 refine W5 h (fun _ h=>?_)
 refine Z ?_
 refine Bb h (fun (v9,v10)=>[(9,(O .u64 v9)),(10,(O .u64 v10))]) (fun (v9,v10)=>[]) ?_
 rintro ⟨v9,v10⟩ _ _ _ h _ _
 refine Ax (Ax ?_)
 refine Cd h (fun v12=>[(71,(Av v12))]) (fun v12=>[]) ?_ ?_
 intro _ h _ _ _
 exact Y
 rintro v12 _ h
 refine Ao h (fun _ h=>?_) (fun _ h=>?_)
 exact Y
 replace h:=Cv h
 refine Z ?_
 refine Ej h (fun (v24,v25,o26)=>[(11,(O .i64 v24)),(78,(O .i64 v25))]) (fun (v24,v25,o26)=>[(0,.rows 141 1 (List.map (O .u32) o26))]) (fun (v24,v25,o26)=>b0.length=o26.length) ?_
 rintro ⟨v24,v25,o26⟩ _ _ _ h _ _ q26
 refine Z ?_
 refine Ao h (fun _ h=>?_) (fun _ h=>?_)
 refine Z ?_
 refine Ro h (fun _ _ _ _ h=>?_)
 refine Z ?_
 refine Ck h (fun _ _ _ _ h=>?_)
 refine Z ?_
 refine W5 h (fun _ h=>?_)
 refine Z ?_
 refine Ck h (fun _ _ _ _ h=>?_)
 refine Z ?_
 refine S7 h (fun _ h=>?_)
 refine Z ?_
 refine Bb h (fun (v32,v33)=>[(11,(O .i64 v32)),(13,(O .i64 v33))]) (fun (v32,v33)=>[]) ?_
 rintro ⟨v32,v33⟩ _ _ _ h _ _
 exact Y
 replace h:=Cv h
 refine Z ?_
 refine Ro h (fun _ _ _ _ h=>?_)
 refine Z ?_
 refine Ao h (fun _ h=>?_) (fun _ h=>?_)
 exact Y
 refine Z ?_
 refine Ej h (fun (v46,v47,o48)=>[(15,(O .u32 v46)),(136,(O .i64 v47))]) (fun (v46,v47,o48)=>[(0,.rows 141 1 (List.map (O .u32) o48))]) (fun (v46,v47,o48)=>b0.length=o48.length) ?_
 rintro ⟨v46,v47,o48⟩ _ _ _ h _ _ q48
 exact Y⟩
instance {a0 a1:List Int}:OK (Ox a0 a1) fun r=>Aw Tryz.prog 203 [(Ar 1 (O .u32)) a0,(Ar 1 (O .u32)) a1] (.tup [(Ar 1 (O .u32)) r.1,(Ar 1 (O .u32)) r.2]):=⟨fun {r} h=>by
 refine pw {T:=Cb,an:=(fun _=>.ask),nl:=(fun s=>bif Nat.beq s 5 then [(0,1)] else bif Nat.beq s 4 then [(0,1)] else [])} Tryz.func203 ?_
 refine Z ?_
 refine Bk h (fun _ h=>?_)
 refine Z ?_
 refine Ao h (fun _ h=>?_) (fun _ h=>?_)
 exact Y
 refine Z ?_
 refine Ao h (fun _ h=>?_) (fun _ h=>?_)
 exact Y
 refine Z ?_
 refine Ck h (fun _ _ _ _ h=>?_)
 refine Z ?_
 refine S7 h (fun _ h=>?_)
 refine Z ?_
 refine A7 [] h (fun v9 h=>?_)
 refine Z ?_
 refine Bk h (fun _ h=>?_)
 refine Z ?_
 refine Pc h (fun v12 h=>?_)
 refine Z ?_
 refine Gi h (fun o13 h=>?_)
 refine Z ?_
 refine Ej h (fun (v19,o20,o21)=>[(13,(O .i64 v19))]) (fun (v19,o20,o21)=>[(0,.rows 141 1 (List.map (O .u32) o20)),(1,.rows 141 1 (List.map (O .u32) o21))]) (fun (v19,o20,o21)=>v9.length=o20.length/\o13.length=o21.length) ?_ (h0:=(⟨rfl,rfl⟩))
 rintro ⟨v19,o20,o21⟩ _ _ _ h _ hn1 ⟨q20,q21⟩
 refine Z ?_
 refine Ao h (fun _ h=>?_) (fun _ h=>?_)
 refine Z ?_
 refine Aqq (f:=(O .u32)) rfl q20 h (fun v22 h=>?_)
 refine Z ?_
 refine Da h (fun v23 hcv23 h=>?_)
 have okv23:=(OK.ok hcv23 :)
 rw [<-q20] at okv23
 refine E6.act [0] _ _ _ _ okv23 rfl rfl ⟨rfl,trivial⟩ ?_
 refine Da h (fun v24 hgv24 h=>?_)
 refine Z ?_
 refine G1 h (fun _ _ hiv25 _ h=>?_)
 refine Z ?_
 refine Lt (f:=(O .u32)) (x:=v23.1) (j:=v19) rfl rfl (Nat.zero_add _) hiv25 ?_
 refine Z ?_
 exact hn1 _ _ _ _ (Option.some.inj h) ⟨rfl,trivial⟩ ⟨⟨rfl,rfl⟩,⟨rfl,rfl⟩,trivial⟩ (⟨H5 hgv24,Gn (l:=o21) q21 v19 v23.1⟩)
 replace h:=Cv h
 refine F4 (F2 rfl (Ax ?_))
 refine D3 [.fz 10] ?_
 refine Z ?_
 refine Bk h (fun _ h=>?_)
 refine Z ?_
 refine Bk h (fun _ h=>?_)
 refine ZO ?_
 refine Ax ?_
 refine D3 [.fz 12] ?_
 exact Y⟩
instance {a0:List Int}:OK (Ra a0) fun r=>Aw Tryz.prog 261 [(Ar 1 (O .u32)) a0] (.tup [(O .u64) r.1,Av r.2]):=⟨fun {r} h=>by
 refine pw C0 Tryz.func261 ?_
 refine Z ?_
 refine Bb h (fun (v3,v4)=>[(2,(O .u64 0)),(3,(Av false)),(4,(O .u64 v3)),(9,(O .i64 v4))]) (fun (v3,v4)=>[]) ?_
 rintro ⟨v3,v4⟩ _ _ _ h _ _
 exact Y⟩
instance {a0 a1:List Int}:OK (T9 a0 a1) fun r=>Aw Tryz.prog 202 [(Ar 1 (O .u32)) a0,(Ar 1 (O .u32)) a1] ((Ar 1 (O .u32)) r):=⟨fun {r} h=>by
 refine pw {T:=Cb,an:=(fun _=>.ask),nl:=(fun s=>bif Nat.beq s 4 then [(0,1)] else [])} Tryz.func202 ?_
 refine Z ?_
 refine Bb h (fun (v12,v13)=>[(0,(.sl 1 (List.map (O .u32) v12))),(1,(.sl 1 (List.map (O .u32) v13))),(4,(.sl 1 (List.map (O .u32) [])))]) (fun (v12,v13)=>[]) ?_
 rintro ⟨v12,v13⟩ _ _ _ h _ _
 refine Z ?_
 refine Ao h (fun _ h=>?_) (fun _ h=>?_)
 refine Il (Kg (Ax (Ax ?_)))
 refine Cd h (fun v14=>[(21,(Av v14))]) (fun v14=>[]) ?_ ?_
 intro _ h _ _ _
 exact Y
 rintro v14 _ h
 refine Ao h (fun _ h=>?_) (fun _ h=>?_)
 refine Z ?_
 refine Bk h (fun _ h=>?_)
 refine Z ?_
 refine Bk h (fun _ h=>?_)
 refine Z ?_
 refine Bb h (fun (v18,v19)=>[(5,(O .u64 v18)),(7,(O .u64 v19))]) (fun (v18,v19)=>[]) ?_
 rintro ⟨v18,v19⟩ _ _ _ h _ _
 exact Y
 exact Y
 exact Y⟩
instance {a0:List Int}:OK (Ow a0) fun r=>Aw Tryz.prog 201 [(Ar 1 (O .u32)) a0] (Av r):=⟨fun {r} h=>by
 refine pw C0 Tryz.func201 ?_
 exact Y⟩
instance {a0:F5}:OK (Xk a0) fun r=>Aw Tryz.prog 128 [Nd a0] (Nd r):=⟨fun {r} h=>by
 refine pw {T:=Cb,an:=(fun _=>.ask),nl:=(fun s=>bif Nat.beq s 13 then [(1,1)] else [])} Tryz.func128 ?_
 exact Y⟩
instance {a0:F5}:OK (Lz a0) fun r=>Aw Tryz.prog 72 [Nd a0] (Cn r):=⟨fun {r} h=>by
 refine pw C0 Tryz.func72 ?_
 exact Y⟩
instance {a0:List Int}:OK (Qw a0) fun r=>Aw Tryz.prog 132 [(Ar 1 (O .u32)) a0] ((Ar 1 (O .u32)) r):=⟨fun {r} h=>by
 refine pw {T:=Cb,an:=(fun _=>.ask),nl:=(fun s=>bif Nat.beq s 2 then [(0,1)] else [])} Tryz.func132 ?_
 refine Z ?_
 refine Gi h (fun _ h=>?_)
 refine Z ?_
 refine Bb h (fun (v14,v15,o16)=>[(3,(.arr 0 o16.length 0 o16.length)),(4,(O .u64 v14)),(13,(O .i64 v15))]) (fun (v14,v15,o16)=>[(0,.rows 141 1 (List.map (O .u32) o16))]) ?_
 rintro ⟨v14,v15,o16⟩ _ _ _ h _ _
 refine Z ?_
 refine Ao h (fun _ h=>?_) (fun _ h=>?_)
 exact Y
 replace h:=Cv h
 refine Z ?_
 refine Ao h (fun _ h=>?_) (fun _ h=>?_)
 refine Z ?_
 refine Nj h (fun _ h=>?_)
 refine ZO ?_
 refine Ax ?_
 refine D3 [.fz 3] ?_
 exact Y
 refine Il (Ax ?_)
 refine D3 [.fz 3] ?_
 exact Y⟩
instance {a0:Ap}:OK (K6 a0) fun r=>Aw Tryz.prog 75 [Cn a0] (Nd r):=⟨fun {r} h=>by
 refine pw {T:=Cb,an:=(fun _=>.ask),nl:=(fun s=>bif Nat.beq s 20 then [(1,1)] else [])} Tryz.func75 ?_
 refine Z ?_
 refine Bk h (fun _ h=>?_)
 refine Z ?_
 refine Bk h (fun _ h=>?_)
 refine ZO ?_
 refine Ax (Ax ?_)
 refine Cd h (fun v5=>[(18,(Av v5))]) (fun v5=>[]) ?_ ?_
 intro _ h _ _ _
 exact Y
 rintro v5 _ h
 exact Y⟩
instance {a0:Ap}:OK (L1 a0) fun r=>Aw Tryz.prog 98 [Cn a0] (Cn r):=⟨fun {r} h=>by
 refine pw C0 Tryz.func98 ?_
 exact Y⟩
instance {a0:F5}:OK (Tq a0) fun r=>Aw Tryz.prog 106 [Nd a0] ((O .i64) r):=⟨fun {r} h=>by
 refine pw C0 Tryz.func106 ?_
 exact Y⟩
instance {a0:Ap}:OK (Hf a0) fun r=>Aw Tryz.prog 55 [Cn a0] ((O .i64) r):=⟨fun {r} h=>by
 refine pw C0 Tryz.func55 ?_
 exact Y⟩
instance {a0 a1:List Int}:OK (K8 a0 a1) fun r=>Aw Tryz.prog 99 [(Ar 1 (O .u32)) a0,(Ar 1 (O .u32)) a1] (Av r):=⟨fun {r} h=>by
 refine pw C0 Tryz.func99 ?_
 refine Z ?_
 refine Ao h (fun _ h=>?_) (fun _ h=>?_)
 exact Y
 refine Z ?_
 refine Bb h (fun v3=>[(4,(Av false)),(13,(O .i64 v3))]) (fun v3=>[]) ?_
 rintro v3 _ _ _ h _ _
 exact Y⟩
instance {a0:List Aj} {b1:List (ByteArray×Int)} {b2:List (ByteArray×(List Dd))} {b0_0:List A3} {b0_1:List Ai} {b0_2 b0_3:Int} {b0_4:List Ai}:OK (Tf a0 b1 b2 b0_0 b0_1 b0_2 b0_3 b0_4) fun r=>Br Tryz.prog 53 [(.loc 0 0),(Ar 5 B4) a0] [.cells 119 [(.sl 3 (List.map Cu b0_0)),(.sl 3 (Bn b0_1)),(O .i64 b0_2),(O .i64 b0_3),(.sl 3 (Bn b0_4)),(.mp 1),(.mp 2)],.map (Bg (O .i64) b1),.map (Bg (Ar 5 Ee) b2)] (Av r.1) [.cells 119 [(.sl 3 (List.map Cu b0_0)),(.sl 3 (Bn b0_1)),(O .i64 b0_2),(O .i64 b0_3),(.sl 3 (Bn b0_4)),(.mp 1),(.mp 2)],.map (Bg (O .i64) r.2),.map (Bg (Ar 5 Ee) b2)]:=⟨fun {r} h=>by
 refine aw C0 true Tryz.func53 ?_
 refine Z ?_
 refine Ao h (fun _ h=>?_) (fun _ h=>?_)
 exact Y
 refine Z ?_
 refine Bb h (fun (v10,o11)=>[(4,(Av false)),(14,(O .i64 v10))]) (fun (v10,o11)=>[(1,.map (Bg (O .i64) o11))]) ?_
 rintro ⟨v10,o11⟩ _ _ _ h _ _
 refine Z ?_
 refine Ao h (fun _ h=>?_) (fun _ h=>?_)
 refine Z ?_
 refine Ck h (fun _ _ _ _ h=>?_)
 refine Z ?_
 refine Bk h (fun _ h=>?_)
 refine ZO ?_
 refine Ax ?_
 refine Cd h (fun v18=>[(8,(Av v18))]) (fun v18=>[]) ?_ ?_
 intro _ h _ _ _
 exact Y
 rintro v18 _ h
 refine Z ?_
 refine Fz h (fun _ h=>?_) (fun _ h=>?_)
 exact Y
 refine Z ?_
 refine Bk h (fun _ h=>?_)
 refine Z ?_
 refine Fz h (fun _ h=>?_) (fun _ h=>?_)
 exact Y
 refine Z ?_
 refine A7 [0,1,2] h (fun _ h=>?_)
 exact Y
 exact Y⟩
theorem Us {a0:Bw} {a1:List (List Aj)} {r:(Bool×Bw×(List (ByteArray×Int))×(List (ByteArray×(List Dd)))×(List A3)×(List Ai)×Int×Int×(List Ai))} (h:Je a0 a1=some (.inl r)):Br Tryz.prog 26 [Hg a0,(Ar 1 (Ar 5 B4)) a1] [] (.tup [.loc 3 0,Av r.1]) [.cells 31 [(.sl 3 (List.map Cu r.2.1.Data)),(.sl 3 (Bn r.2.1.Vars)),(O .i64 r.2.1.Res.Kind),(O .i64 r.2.1.Res.Num),(.sl 3 (Bn r.2.1.Res.Args))],.map (Bg (O .i64) r.2.2.1),.map (Bg (Ar 5 Ee) r.2.2.2.1),.cells 119 [(.sl 3 (List.map Cu r.2.2.2.2.1)),(.sl 3 (Bn r.2.2.2.2.2.1)),(O .i64 r.2.2.2.2.2.2.1),(O .i64 r.2.2.2.2.2.2.2.1),(.sl 3 (Bn r.2.2.2.2.2.2.2.2)),(.mp 1),(.mp 2)]]:=by
 refine aw {T:=Cb,an:=(fun _=>.ask),nl:=(fun s=>bif Nat.beq s 18 then [(1,7),(2,3),(3,8)] else [])} true Tryz.func26 ?_
 refine ZS ?_
 refine Ca ?_
 refine ZO ?_
 refine Ax (Ax ?_)
 refine Cd h (fun v4=>[(29,(Av v4))]) (fun v4=>[]) ?_ ?_
 intro _ h _ _ _
 exact Y
 rintro v4 _ h
 refine Ao h (fun _ h=>?_) (fun _ h=>?_)
 exact Y
 refine Z ?_
 refine Bb h (fun v8=>[(4,(.val (.pointer none))),(5,(Av false)),(33,(O .i64 v8))]) (fun v8=>[]) ?_
 rintro v8 _ _ _ h _ _
 refine Z ?_
 refine Ao h (fun _ h=>?_) (fun _ h=>?_)
 exact Y
 replace h:=Cv h
 refine Z ?_
 refine Bb h (fun (v18,o19)=>[(4,(.val (.pointer none))),(5,(Av false)),(50,(O .i64 v18))]) (fun (v18,o19)=>[(1,.map (Bg (O .i64) o19))]) ?_
 rintro ⟨v18,o19⟩ _ _ _ h _ _
 refine Z ?_
 refine Ao h (fun _ h=>?_) (fun _ h=>?_)
 refine Z ?_
 refine Ck h (fun _ _ _ _ h=>?_)
 refine Z ?_
 refine A7 [3,1,2] h (fun _ h=>?_)
 exact Y
 exact Y
theorem Ut {a0:Bw} {a1:List (List Aj)} {r:Bool} (h:Je a0 a1=some (.inr r)):Br Tryz.prog 26 [Hg a0,(Ar 1 (Ar 5 B4)) a1] [] (.tup [.val (.pointer none),Av r]) []:=by
 refine aw {T:=Cb,an:=(fun _=>.ask),nl:=(fun s=>bif Nat.beq s 18 then [(1,7),(2,3),(3,8)] else [])} true Tryz.func26 ?_
 refine ZS ?_
 refine Ca ?_
 refine ZO ?_
 refine Ax (Ax ?_)
 refine Cd h (fun v4=>[(29,(Av v4))]) (fun v4=>[]) ?_ ?_
 intro _ h _ _ _
 exact Y
 rintro v4 _ h
 refine Ao h (fun _ h=>?_) (fun _ h=>?_)
 exact Y
 refine Z ?_
 refine Bb h (fun v8=>[(4,(.val (.pointer none))),(5,(Av false)),(33,(O .i64 v8))]) (fun v8=>[]) ?_
 rintro v8 _ _ _ h _ _
 refine Z ?_
 refine Ao h (fun _ h=>?_) (fun _ h=>?_)
 exact Y
 replace h:=Cv h
 refine Z ?_
 refine Bb h (fun (v18,o19)=>[(4,(.val (.pointer none))),(5,(Av false)),(50,(O .i64 v18))]) (fun (v18,o19)=>[(1,.map (Bg (O .i64) o19))]) ?_
 rintro ⟨v18,o19⟩ _ _ _ h _ _
 refine Z ?_
 refine Ao h (fun _ h=>?_) (fun _ h=>?_)
 refine Z ?_
 refine Ck h (fun _ _ _ _ h=>?_)
 refine Z ?_
 refine A7 [3,1,2] h (fun _ h=>?_)
 exact Y
 exact Y
instance {a0:Int}:OK (Ag9 a0) fun r=>Aw Tryz.prog 37 [(.val (.pointer none)),(O .i64) a0] (Fd r):=⟨fun {r} h=>by
 refine pw C0 Tryz.func37 ?_
 exact Y⟩
instance {a0:Int}:OK (Aha a0) fun r=>Aw Tryz.prog 142 [(.val (.pointer none)),(O .i64) a0] (Av r):=⟨fun {r} h=>by
 refine pw C0 Tryz.func142 ?_
 exact Y⟩
instance {a0:Ba}:OK (Ahb a0) fun r=>Br Tryz.prog 141 [Db a0,(.loc 0 0)] [.cells 74 [(.val (.pointer none))]] (Av r) [.cells 74 [(.val (.pointer none))]]:=⟨fun {r} h=>by
 refine aw C0 true Tryz.func141 ?_
 refine Z ?_
 refine Bk h (fun _ h=>?_)
 refine Z ?_
 refine Fz h (fun _ h=>?_) (fun _ h=>?_)
 exact Y
 refine Z ?_
 refine Bk h (fun _ h=>?_)
 refine Z ?_
 refine Aaw.mk 3 (by kernel_rfl) ?_
 exact Y⟩
instance {a0:List Ba}:OK (Ahc a0) fun r=>Br Tryz.prog 213 [(Ar 2 Db) a0,(.fn 141 [(.loc 0 0)])] [.cells 74 [(.val (.pointer none))]] ((O .i64) r) [.cells 74 [(.val (.pointer none))]]:=⟨fun {r} h=>by
 refine aw C0 true Tryz.func213 ?_
 refine Z ?_
 refine Bb h (fun v3=>[(4,(O .i64 0)),(8,(O .i64 v3))]) (fun v3=>[]) ?_
 rintro v3 _ _ _ h _ _
 refine Z ?_
 refine Ao h (fun _ h=>?_) (fun _ h=>?_)
 refine Z ?_
 refine Ck h (fun _ _ _ _ h=>?_)
 refine Z ?_
 refine A7 [0] h (fun _ h=>?_)
 exact Y
 exact Y⟩
instance {a0:List Ba}:OK (Ahd a0) fun r=>Br Tryz.prog 140 [(Ar 2 Db) a0,(.fn 141 [(.loc 0 0)])] [.cells 74 [(.val (.pointer none))]] (Av r) [.cells 74 [(.val (.pointer none))]]:=⟨fun {r} h=>by
 refine aw C0 true Tryz.func140 ?_
 refine Z ?_
 refine A7 [0] h (fun _ h=>?_)
 exact Y⟩
instance {a0:Bf}:OK (Ahe a0) fun r=>Aw Tryz.prog 81 [(.val (.pointer none)),Fh a0] (Av r):=⟨fun {r} h=>by
 refine pw C0 Tryz.func81 ?_
 refine Z ?_
 refine A7 [0] h (fun _ h=>?_)
 exact Y⟩
instance  : OK (H6) fun r=>Br Tryz.prog 27 [] [] (.loc 1 0) [.map (Bg (O .i64) r.1),.cells 122 [(.mp 0),(.arr 2 r.2.length 0 r.2.length)],.rows 72 5 (List.map B4 r.2)]:=⟨fun {r} h=>by
 refine aw C0 true Tryz.func27 ?_
 refine ZS ?_
 refine Ca ?_
 refine ZS ?_
 refine Ca ?_
 refine ZO ?_
 refine D3 [.own 3 1 72 5] ?_
 exact Y⟩
instance {a0:Bf} {a1:Int}:OK (O1 a0 a1) fun r=>Aw Tryz.prog 224 [Fh a0,(O .i64) a1] ((Ar 3 Ed) r):=⟨fun {r} h=>by
 refine pw {T:=Cb,an:=(fun _=>.ask),nl:=(fun s=>bif Nat.beq s 4 then [(0,3)] else [])} Tryz.func224 ?_
 exact Y⟩
instance {a0:Int}:OK (Od a0) fun r=>Aw Tryz.prog 71 [(O .i64) a0] ((Ar 1 (O .u32)) r):=⟨fun {r} h=>by
 refine pw {T:=Cb,an:=(fun _=>.ask),nl:=(fun s=>bif Nat.beq s 2 then [(0,1)] else [])} Tryz.func71 ?_
 exact Y⟩
instance {a0:Int}:OK (Fy a0) fun r=>Aw Tryz.prog 38 [(O .i64) a0] (Cn r):=⟨fun {r} h=>by
 refine pw C0 Tryz.func38 ?_
 exact Y⟩
instance {a0 a1:List Int}:OK (L0 a0 a1) fun r=>Aw Tryz.prog 76 [(Ar 1 (O .u32)) a0,(Ar 1 (O .u32)) a1] ((Ar 1 (O .u32)) r):=⟨fun {r} h=>by
 refine pw {T:=Cb,an:=(fun _=>.ask),nl:=(fun s=>bif Nat.beq s 4 then [(0,1)] else [])} Tryz.func76 ?_
 refine ZS ?_
 refine Ca ?_
 refine ZO ?_
 refine Ax (Ax ?_)
 refine Cd h (fun v1=>[(17,(Av v1))]) (fun v1=>[]) ?_ ?_
 intro _ h _ _ _
 exact Y
 rintro v1 _ h
 refine Ao h (fun _ h=>?_) (fun _ h=>?_)
 exact Y
 refine Z ?_
 refine Gi h (fun o2 h=>?_)
 refine Z ?_
 refine Ej h (fun (v23,o24)=>[(26,(O .i64 v23))]) (fun (v23,o24)=>[(0,.rows 141 1 (List.map (O .u32) o24))]) (fun (v23,o24)=>o2.length=o24.length) ?_
 rintro ⟨v23,o24⟩ _ _ _ h _ _ q24
 refine Z ?_
 refine Ao h (fun _ h=>?_) (fun _ h=>?_)
 refine Z ?_
 refine Ej h (fun (v31,v32,o33)=>[(7,(O .u64 v31)),(31,(O .i64 v32))]) (fun (v31,v32,o33)=>[(0,.rows 141 1 (List.map (O .u32) o33))]) (fun (v31,v32,o33)=>o2.length=o33.length) ?_
 rintro ⟨v31,v32,o33⟩ _ _ _ h _ _ q33
 exact Y
 replace h:=Cv h
 refine F4 (F2 rfl (Ax ?_))
 refine D3 [.fz 5] ?_
 exact Y⟩
instance {a0 a1:Ap}:OK (G0 a0 a1) fun r=>Aw Tryz.prog 40 [Cn a0,Cn a1] (Cn r):=⟨fun {r} h=>by
 refine pw C0 Tryz.func40 ?_
 exact Y⟩
instance {a0 a1:Int}:OK (Oe a0 a1) fun r=>Aw Tryz.prog 79 [(O .i64) a0,(O .i64) a1] (Cn r):=⟨fun {r} h=>by
 refine pw C0 Tryz.func79 ?_
 exact Y⟩
instance {a0 a1:Int}:OK (Oy a0 a1) fun r=>Aw Tryz.prog 206 [(O .i64) a0,(O .i64) a1] (Cn r):=⟨fun {r} h=>by
 refine pw C0 Tryz.func206 ?_
 refine Z ?_
 refine Bk h (fun _ h=>?_)
 refine Z ?_
 refine Bb h (fun (v7,v8,v9,v10)=>[(9,(O .i64 v7))]) (fun (v7,v8,v9,v10)=>[(1,.cells 58 [(Av v8),(.sl 1 (List.map (O .u32) v9)),(.sl 1 (List.map (O .u32) v10))])]) ?_
 rintro ⟨v7,v8,v9,v10⟩ _ _ _ h _ _
 exact Y⟩
instance {a0 a1:Int}:OK (Rn a0 a1) fun r=>Aw Tryz.prog 130 [(O .i64) a0,(O .i64) a1] (.tup [Cn r.1,Av r.2]):=⟨fun {r} h=>by
 refine pw C0 Tryz.func130 ?_
 refine ZS ?_
 refine Ca ?_
 refine ZO ?_
 refine Ax (Ax ?_)
 refine Cd h (fun v2=>[(11,(Av v2))]) (fun v2=>[]) ?_ ?_
 intro _ h _ _ _
 exact Y
 rintro v2 _ h
 exact Y⟩
instance {a0:List Ap}:OK (Lc a0) fun r=>Aw Tryz.prog 302 [(Ar 3 Cn) a0] ((Ar 3 Cn) r):=⟨fun {r} h=>by
 refine pw {T:=Cb,an:=(fun _=>.ask),nl:=(fun s=>bif Nat.beq s 2 then [(0,3)] else [])} Tryz.func302 ?_
 refine Z ?_
 refine Bb h (fun v3=>[(3,(O .i64 v3))]) (fun v3=>[]) ?_
 rintro v3 _ _ _ h _ _
 refine Z ?_
 refine Fz h (fun _ h=>?_) (fun _ h=>?_)
 refine Z ?_
 refine Ck h (fun _ _ _ _ h=>?_)
 refine Z ?_
 refine Bk h (fun _ h=>?_)
 refine Z ?_
 refine Ao h (fun _ h=>?_) (fun _ h=>?_)
 exact Y
 replace h:=Cv h
 refine Z ?_
 refine Qh (f:=Cn) (z:=((Ap.mk false [] []):Ap)) (by repeat (first | exact E5.nil | apply E5.sl | apply E5.same)) h (fun o7 h=>?_)
 refine Z ?_
 refine Ej h (fun (v12,o13)=>[(25,(O .i64 v12))]) (fun (v12,o13)=>[(0,.rows 58 3 (List.map Cn o13))]) (fun (v12,o13)=>o7.length=o13.length) ?_
 rintro ⟨v12,o13⟩ _ _ _ h _ _ q13
 exact Y
 replace h:=Cv h
 refine Z ?_
 refine Qh (f:=Cn) (z:=((Ap.mk false [] []):Ap)) (by repeat (first | exact E5.nil | apply E5.sl | apply E5.same)) h (fun o7 h=>?_)
 refine Z ?_
 refine Ej h (fun (v12,o13)=>[(25,(O .i64 v12))]) (fun (v12,o13)=>[(0,.rows 58 3 (List.map Cn o13))]) (fun (v12,o13)=>o7.length=o13.length) ?_
 rintro ⟨v12,o13⟩ _ _ _ h _ _ q13
 exact Y⟩
instance {a0 a1:List Int}:OK (Tw a0 a1) fun r=>Aw Tryz.prog 134 [(Ar 1 (O .u32)) a0,(Ar 1 (O .u32)) a1] ((Ar 1 (O .u32)) r):=⟨fun {r} h=>by
 refine pw {T:=Cb,an:=(fun _=>.ask),nl:=(fun s=>bif Nat.beq s 4 then [(0,1)] else [])} Tryz.func134 ?_
 refine ZS ?_
 refine Ca ?_
 refine ZS ?_
 refine Ca ?_
 refine ZO ?_
 refine Cd h (fun (v1,v2)=>[(0,(.sl 1 (List.map (O .u32) v1))),(1,(.sl 1 (List.map (O .u32) v2)))]) (fun (v1,v2)=>[]) ?_ ?_
 intro _ h _ _ _
 exact Y
 rintro ⟨v1,v2⟩ _ h
 refine Z ?_
 refine Gi h (fun _ h=>?_)
 refine Z ?_
 refine Bb h (fun (v20,v21,o22)=>[(5,(.arr 0 o22.length 0 o22.length)),(6,(O .u32 v20)),(22,(O .i64 v21))]) (fun (v20,v21,o22)=>[(0,.rows 141 1 (List.map (O .u32) o22))]) ?_
 rintro ⟨v20,v21,o22⟩ _ _ _ h _ _
 refine Z ?_
 refine Ao h (fun _ h=>?_) (fun _ h=>?_)
 refine Z ?_
 refine Ck h (fun _ _ _ _ h=>?_)
 refine ZS ?_
 refine Ca ?_
 refine ZO ?_
 refine Cd h (fun v25=>[(8,(O .u32 v25))]) (fun v25=>[]) ?_ ?_
 intro _ h _ _ _
 exact Y
 rintro v25 _ h
 exact Y
 exact Y⟩
instance {a0 a1:List Int}:OK (Qx a0 a1) fun r=>Aw Tryz.prog 136 [(Ar 1 (O .u32)) a0,(Ar 1 (O .u32)) a1] ((Ar 1 (O .u32)) r):=⟨fun {r} h=>by
 refine pw {T:=Cb,an:=(fun _=>.ask),nl:=(fun s=>bif Nat.beq s 4 then [(0,1)] else [])} Tryz.func136 ?_
 refine Z ?_
 refine Gi h (fun _ h=>?_)
 refine Z ?_
 refine Bb h (fun (v8,v9,o10)=>[(5,(.arr 0 o10.length 0 o10.length)),(6,(O .i64 v8)),(14,(O .i64 v9))]) (fun (v8,v9,o10)=>[(0,.rows 141 1 (List.map (O .u32) o10))]) ?_
 rintro ⟨v8,v9,o10⟩ _ _ _ h _ _
 refine Z ?_
 refine Ao h (fun _ h=>?_) (fun _ h=>?_)
 refine Z ?_
 refine Ck h (fun _ _ _ _ h=>?_)
 refine ZS ?_
 refine Ca ?_
 refine ZO ?_
 refine Cd h (fun v13=>[(8,(O .i64 v13))]) (fun v13=>[]) ?_ ?_
 intro _ h _ _ _
 exact Y
 rintro v13 _ h
 exact Y
 replace h:=Cv h
 refine F4 (F2 rfl (Ax ?_))
 refine D3 [.fz 5] ?_
 exact Y⟩
instance {a0 a1:F5}:OK (Xg a0 a1) fun r=>Aw Tryz.prog 77 [Nd a0,Nd a1] (Nd r):=⟨fun {r} h=>by
 refine pw C0 Tryz.func77 ?_
 exact Y⟩
instance {a0 a1:Ap}:OK (Lw a0 a1) fun r=>Aw Tryz.prog 41 [Cn a0,Cn a1] (Cn r):=⟨fun {r} h=>by
 refine pw C0 Tryz.func41 ?_
 exact Y⟩
instance {a0 a1 b0:Ap}:OK (Uj a0 a1 b0) fun r=>Br Tryz.prog 305 [Cn a0,Cn a1,(.loc 0 0)] [.cells 58 [(Av b0.Neg),(.sl 1 (List.map (O .u32) b0.Num)),(.sl 1 (List.map (O .u32) b0.Den))]] (Cn r) [.cells 58 [(Av b0.Neg),(.sl 1 (List.map (O .u32) b0.Num)),(.sl 1 (List.map (O .u32) b0.Den))]]:=⟨fun {r} h=>by
 refine aw C0 true Tryz.func305 ?_
 exact Y⟩
instance {a0 a1:List Ap} {b0:Ap}:OK (O6 a0 a1 b0) fun r=>Br Tryz.prog 303 [(Ar 3 Cn) a0,(Ar 3 Cn) a1,(.fn 305 [(.loc 0 0)])] [.cells 58 [(Av b0.Neg),(.sl 1 (List.map (O .u32) b0.Num)),(.sl 1 (List.map (O .u32) b0.Den))]] ((Ar 3 Cn) r) [.cells 58 [(Av b0.Neg),(.sl 1 (List.map (O .u32) b0.Num)),(.sl 1 (List.map (O .u32) b0.Den))]]:=⟨fun {r} h=>by
 refine aw {T:=Cb,an:=(fun _=>.ask),nl:=(fun s=>bif Nat.beq s 6 then [(0,3)] else [])} true Tryz.func303 ?_
 refine Z ?_
 refine Qh (f:=Cn) (z:=((Ap.mk false [] []):Ap)) (by repeat (first | exact E5.nil | apply E5.sl | apply E5.same)) h (fun o1 h=>?_)
 refine Z ?_
 refine Ej h (fun (v15,o16)=>[(19,(O .i64 v15))]) (fun (v15,o16)=>[(1,.rows 58 3 (List.map Cn o16))]) (fun (v15,o16)=>o1.length=o16.length) ?_
 rintro ⟨v15,o16⟩ _ _ _ h _ _ q16
 refine Z ?_
 refine Ao h (fun _ h=>?_) (fun _ h=>?_)
 refine ZS ?_
 refine Ca ?_
 refine ZS ?_
 refine Ca ?_
 refine ZO ?_
 refine Ax (Ax ?_)
 refine D3 [.nil 9 1 1,.nil 9 2 1,.nil 10 1 1,.nil 10 2 1] ?_
 refine ZS ?_
 refine Ca ?_
 refine ZO ?_
 refine Cd h (fun (v20,v21,v22)=>[]) (fun (v20,v21,v22)=>[(2,.cells 58 [(Av v20),(.sl 1 (List.map (O .u32) v21)),(.sl 1 (List.map (O .u32) v22))])]) ?_ ?_
 intro _ h _ _ _
 exact Y
 rintro ⟨v20,v21,v22⟩ _ h
 refine ZS ?_
 refine Ca ?_
 refine ZO ?_
 refine Cd h (fun (v24,v25,v26)=>[]) (fun (v24,v25,v26)=>[(3,.cells 58 [(Av v24),(.sl 1 (List.map (O .u32) v25)),(.sl 1 (List.map (O .u32) v26))])]) ?_ ?_
 intro _ h _ _ _
 exact Y
 rintro ⟨v24,v25,v26⟩ _ h
 refine Z ?_
 refine A7 [0] h (fun _ h=>?_)
 exact Y
 exact Y⟩
instance {a0 a1:Int}:OK (X6 a0 a1) fun r=>Aw Tryz.prog 206 [(O .i64) a0,(O .i64) a1] (Cn r):=⟨fun {r} h=>by
 refine pw C0 Tryz.func206 ?_
 refine Z ?_
 refine Bk h (fun _ h=>?_)
 refine Z ?_
 refine Bb h (fun (v7,v8,v9,v10)=>[(9,(O .i64 v7))]) (fun (v7,v8,v9,v10)=>[(1,.cells 58 [(Av v8),(.sl 1 (List.map (O .u32) v9)),(.sl 1 (List.map (O .u32) v10))])]) ?_
 rintro ⟨v7,v8,v9,v10⟩ _ _ _ h _ _
 exact Y⟩
instance {a0:Int}:OK (Uo a0) fun r=>Br Tryz.prog 334 [(O .i64) a0] [] (.arr 0 r.length 0 r.length) [.rows 58 3 (List.map Cn r)]:=⟨fun {r} h=>by
 refine aw {T:=Cb,an:=(fun _=>.ask),nl:=(fun s=>bif Nat.beq s 2 then [(0,3)] else [])} false Tryz.func334 ?_
 refine Z ?_
 refine Qh (f:=Cn) (z:=((Ap.mk false [] []):Ap)) (by repeat (first | exact E5.nil | apply E5.sl | apply E5.same)) h (fun o1 h=>?_)
 refine Z ?_
 refine Ej h (fun (v5,o6)=>[(9,(O .i64 v5))]) (fun (v5,o6)=>[(0,.rows 58 3 (List.map Cn o6))]) (fun (v5,o6)=>o1.length=o6.length) ?_
 rintro ⟨v5,o6⟩ _ _ _ h _ _ q6
 refine Z ?_
 refine Ao h (fun _ h=>?_) (fun _ h=>?_)
 exact Y
 replace h:=Cv h
 refine Z ?_
 cases h
 exact ⟨congrArg (fun q_=>AV.arr 0 q_ 0 q_) q6,rfl,trivial⟩⟩
instance {a0 a1:Int}:OK (Re a0 a1) fun r=>Aw Tryz.prog 304 [(O .i64) a0,(O .i64) a1] ((Ar 3 Cn) r):=⟨fun {r} h=>by
 refine pw {T:=Cb,an:=(fun _=>.ask),nl:=(fun s=>bif Nat.beq s 4 then [(0,3)] else [])} Tryz.func304 ?_
 refine Z ?_
 refine A7 [] h (fun v1 h=>?_)
 refine Z ?_
 refine Ej h (fun (v7,o8)=>[(6,(O .i64 v7))]) (fun (v7,o8)=>[(0,.rows 58 3 (List.map Cn o8))]) (fun (v7,o8)=>v1.length=o8.length) ?_
 rintro ⟨v7,o8⟩ _ _ _ h _ _ q8
 exact Y⟩
instance {a0 a1:List Ap}:OK (Uf a0 a1) fun r=>Aw Tryz.prog 271 [(Ar 3 Cn) a0,(Ar 3 Cn) a1] (.tup [(Ar 3 Cn) r.1,Av r.2]):=⟨fun {r} h=>by
 refine pw {T:=Cb,an:=(fun _=>.ask),nl:=(fun s=>bif Nat.beq s 6 then [(0,3)] else bif Nat.beq s 4 then [(0,3)] else [])} Tryz.func271 ?_
 refine ZS ?_
 refine Ca ?_
 refine ZO ?_
 refine Ax (Ax ?_)
 refine Cd h (fun v1=>[(19,(Av v1))]) (fun v1=>[]) ?_ ?_
 intro _ h _ _ _
 exact Y
 rintro v1 _ h
 refine Ao h (fun _ h=>?_) (fun _ h=>?_)
 exact Y
 refine Z ?_
 refine Bk h (fun _ h=>?_)
 refine Z ?_
 refine Bk h (fun _ h=>?_)
 refine ZO ?_
 refine Ax (Ax ?_)
 refine Cd h (fun v4=>[(31,(Av v4))]) (fun v4=>[]) ?_ ?_
 intro _ h _ _ _
 exact Y
 rintro v4 _ h
 refine Ao h (fun _ h=>?_) (fun _ h=>?_)
 exact Y
 refine Z ?_
 refine Ao h (fun _ h=>?_) (fun _ h=>?_)
 exact Y
 refine Z ?_
 refine Bb h (fun (v25,v26)=>[(6,(.sl 3 (List.map Cn v25))),(40,(O .i64 v26))]) (fun (v25,v26)=>[]) ?_
 rintro ⟨v25,v26⟩ _ _ _ h _ _
 refine Z ?_
 refine Ao h (fun _ h=>?_) (fun _ h=>?_)
 refine Z ?_
 refine Ck h (fun _ _ _ _ h=>?_)
 refine Z ?_
 refine Bb h (fun (v36,v37)=>[(6,(.sl 3 (List.map Cn v36))),(47,(O .i64 v37))]) (fun (v36,v37)=>[]) ?_
 rintro ⟨v36,v37⟩ _ _ _ h _ _
 refine Z ?_
 refine Ao h (fun _ h=>?_) (fun _ h=>?_)
 refine Z ?_
 refine Ck h (fun _ _ _ _ h=>?_)
 refine Z ?_
 refine Bk h (fun _ h=>?_)
 refine Z ?_
 refine Bk h (fun _ h=>?_)
 refine Z ?_
 refine Ao h (fun _ h=>?_) (fun _ h=>?_)
 exact Y
 refine Z ?_
 refine Bk h (fun _ h=>?_)
 refine Z ?_
 refine A7 [2] h (fun _ h=>?_)
 exact Y
 exact Y
 exact Y⟩
theorem Ar8 {a0:List A6} {r:(List Ap)} (h:X7 a0=some r):Aw Tryz.prog 223 [(Ar 3 Ed) a0] ((Ar 3 Cn) r):=by
 refine pw {T:=Cb,an:=(fun s=>bif Nat.beq s 10 then .own else .ask),nl:=(fun s=>bif Nat.beq s 2 then [(0,3)] else [])} Tryz.func223 ?_
 refine Z ?_
 refine Bk h (fun _ h=>?_)
 refine Z ?_
 refine Ej h (fun (v14,o15)=>[(3,(.arr 0 1 0 1)),(13,(O .i64 v14))]) (fun (v14,o15)=>[(0,.rows 58 3 (List.map Cn o15))]) (fun (v14,o15)=>1=o15.length) ?_
 rintro ⟨v14,o15⟩ _ _ _ h _ _ q15
 refine Z ?_
 refine Ao h (fun _ h=>?_) (fun _ h=>?_)
 refine Z ?_
 refine Ck h (fun _ _ _ _ h=>?_)
 refine Z ?_
 refine Ao h (fun _ h=>?_) (fun _ h=>?_)
 exact Y
 refine Z ?_
 refine Qh (f:=Cn) (z:=((Ap.mk false [] []):Ap)) (by repeat (first | exact E5.nil | apply E5.sl | apply E5.same)) h (fun o23 h=>?_)
 exact Y
 exact Y
theorem Ar9 {a0:List A6} {r:(List Ap)} (h:X8 a0=some r):Aw Tryz.prog 223 [(Ar 3 Ed) a0] ((Ar 3 Cn) r):=by
 refine pw {T:=Cb,an:=(fun _=>.ask),nl:=(fun s=>bif Nat.beq s 2 then [(0,3)] else [])} Tryz.func223 ?_
 refine Z ?_
 refine Bk h (fun _ h=>?_)
 refine Z ?_
 refine Bb h (fun (v9,v10)=>[(3,(.sl 3 (List.map Cn v9))),(13,(O .i64 v10))]) (fun (v9,v10)=>[]) ?_
 rintro ⟨v9,v10⟩ _ _ _ h _ _
 refine Z ?_
 refine Ao h (fun _ h=>?_) (fun _ h=>?_)
 refine Z ?_
 refine Ck h (fun _ v11 _ _ h=>?_)
 refine Z ?_
 refine Ao h (fun _ h=>?_) (fun _ h=>?_)
 exact Y
 refine Z ?_
 refine Qh (f:=Cn) (z:=((Ap.mk false [] []):Ap)) (by repeat (first | exact E5.nil | apply E5.sl | apply E5.same)) h (fun o13 h=>?_)
 refine Z ?_
 refine Bk h (fun v15 h=>?_)
 refine Z ?_
 refine G1 h (fun _ _ hiv16 _ h=>?_)
 refine Z ?_
 refine Lt (f:=Cn) (x:=v15) (j:=v11.Deg) rfl rfl (Nat.zero_add _) hiv16 ?_
 refine ZO ?_
 refine D3 [.fz 8] ?_
 exact Y
 exact Y
instance {a0:List A6}:OK (Kl a0) fun r=>Aw Tryz.prog 223 [(Ar 3 Ed) a0] ((Ar 3 Cn) r):=⟨fun {r} h=>by
 unfold Kl at h
 cases hv:X9 a0 with
 | true=>rw [hv] at h; exact Ar8 h
 | false=>rw [hv] at h; exact Ar9 h⟩
instance {a0:Int}:OK (Xx a0) fun r=>Br Tryz.prog 273 [(.val (.slice none 0 0)),(O .i64) a0] [] (.arr 0 r.length 0 r.length) [.rows 101 3 (List.map Ed r)]:=⟨fun {r} h=>by
 exact Ar2 h⟩
instance {a0:List (List A6)}:OK (Xq a0) fun r=>Aw Tryz.prog 226 [(Ar 1 (Ar 3 Ed)) a0] ((Ar 3 Ed) r):=⟨fun {r} h=>by
 refine pw {T:=Cb,an:=(fun _=>.ask),nl:=(fun s=>bif Nat.beq s 2 then [(0,3)] else [])} Tryz.func226 ?_
 refine Z ?_
 refine Bb h (fun (v2,v3)=>[(3,(O .i64 v2)),(11,(O .i64 v3))]) (fun (v2,v3)=>[]) ?_
 rintro ⟨v2,v3⟩ _ _ _ h _ _
 refine Z ?_
 refine Ao h (fun _ h=>?_) (fun _ h=>?_)
 exact Y
 replace h:=Cv h
 refine Z ?_
 refine A7 [] h (fun _ h=>?_)
 refine Z ?_
 refine Bb h (fun (v14,o15)=>[(6,(.arr 0 o15.length 0 o15.length)),(27,(O .i64 v14))]) (fun (v14,o15)=>[(0,.rows 101 3 (List.map Ed o15))]) ?_
 rintro ⟨v14,o15⟩ _ _ _ h _ _
 exact Y⟩
instance {a0:Int}:OK (Xw a0) fun r=>Br Tryz.prog 272 [(.val (.slice none 0 0)),(O .i64) a0] [] (.arr 0 r.length 0 r.length) [.rows 97 3 (List.map Ey r)]:=⟨fun {r} h=>by
 exact Arz h⟩
instance {a0:List (List B8)}:OK (Xp a0) fun r=>Aw Tryz.prog 225 [(Ar 1 (Ar 3 Ey)) a0] ((Ar 3 Ey) r):=⟨fun {r} h=>by
 refine pw {T:=Cb,an:=(fun _=>.ask),nl:=(fun s=>bif Nat.beq s 2 then [(0,3)] else [])} Tryz.func225 ?_
 refine Z ?_
 refine Bb h (fun (v2,v3)=>[(3,(O .i64 v2)),(11,(O .i64 v3))]) (fun (v2,v3)=>[]) ?_
 rintro ⟨v2,v3⟩ _ _ _ h _ _
 refine Z ?_
 refine Ao h (fun _ h=>?_) (fun _ h=>?_)
 exact Y
 replace h:=Cv h
 refine Z ?_
 refine A7 [] h (fun _ h=>?_)
 refine Z ?_
 refine Bb h (fun (v14,o15)=>[(6,(.arr 0 o15.length 0 o15.length)),(27,(O .i64 v14))]) (fun (v14,o15)=>[(0,.rows 97 3 (List.map Ey o15))]) ?_
 rintro ⟨v14,o15⟩ _ _ _ h _ _
 exact Y⟩
instance {a0 a1:Bd}:OK (M5 a0 a1) fun r=>Aw Tryz.prog 145 [Gq a0,Gq a1] (Gq r):=⟨fun {r} h=>by
 refine pw C0 Tryz.func145 ?_
 exact Y⟩
instance {a0:Aj} {a1:Ap} {a2:Bd}:OK (O0 a0 a1 a2) fun r=>Aw Tryz.prog 218 [B4 a0,Cn a1,Gq a2] (B4 r):=⟨fun {r} h=>by
 refine pw C0 Tryz.func218 ?_
 exact Y⟩
instance {a0:List A6}:OK (Q6 a0) fun r=>Br Tryz.prog 220 [(Ar 3 Ed) a0] [] (.arr 1 r.2.length 0 r.2.length) [.rows 101 3 (List.map Ed r.1),.rows 101 3 (List.map Ed r.2)]:=⟨fun {r} h=>by
 exact Arj h⟩
end Go.Ab
namespace Go.Ab
open Go Go.Proofs
set_option maxRecDepth 10000
set_option maxHeartbeats 4000000
set_option linter.unusedVariables false
instance {a0:List B8}:OK (Uc a0) fun r=>Br Tryz.prog 214 [(Ar 3 Ey) a0] [] (.arr 1 r.2.length 0 r.2.length) [.rows 97 3 (List.map Ey r.1),.rows 97 3 (List.map Ey r.2)]:=⟨fun {r} h=>by
 exact Ari h⟩
instance {a0 a1:A6}:OK (Q8 a0 a1) fun r=>Aw Tryz.prog 222 [Ed a0,Ed a1] ((O .i64) r):=⟨fun {r} h=>by
 refine pw C0 Tryz.func222 ?_
 exact Y⟩
instance {a0 a1:Int} {b0:List A6}:OK (Xz a0 a1 b0) fun r=>Br Tryz.prog 300 [(.arr 0 b0.length 0 b0.length),(O .i64) a0,(O .i64) a1,(.fn 222 [])] [.rows 101 3 (List.map Ed b0)] (.tup []) [.rows 101 3 (List.map Ed r)]:=⟨fun {r} h=>by
 refine aw C0 true Tryz.func300 ?_
 refine Z ?_
 refine Ej h (fun (v21,o22)=>[(8,(O .i64 v21))]) (fun (v21,o22)=>[(0,.rows 101 3 (List.map Ed o22))]) (fun (v21,o22)=>b0.length=o22.length) ?_
 rintro ⟨v21,o22⟩ _ _ _ h _ _ q22
 refine Z ?_
 refine Ao h (fun _ h=>?_) (fun _ h=>?_)
 refine Z ?_
 refine Ej h (fun (v31,o32)=>[(9,(O .i64 v31))]) (fun (v31,o32)=>[(0,.rows 101 3 (List.map Ed o32))]) (fun (v31,o32)=>b0.length=o32.length) ?_
 rintro ⟨v31,o32⟩ _ _ _ h _ _ q32
 refine Ax (Ax ?_)
 refine Cd h (fun v36=>[(34,(Av v36))]) (fun v36=>[]) ?_ ?_
 intro _ h _ _ _
 exact Y
 rintro v36 _ h
 exact Y
 exact Y⟩
instance {a0:Int} {b0:List A6}:OK (Xv a0 b0) fun r=>Br Tryz.prog 270 [(.arr 0 b0.length 0 b0.length),(O .i64) a0,(.fn 222 [])] [.rows 101 3 (List.map Ed b0)] (.tup []) [.rows 101 3 (List.map Ed r)]:=⟨fun {r} h=>by
 refine aw C0 true Tryz.func270 ?_
 refine Z ?_
 refine Ej h (fun (v3,v4,o5)=>[(7,(O .i64 v3)),(8,(O .i64 v4))]) (fun (v3,v4,o5)=>[(0,.rows 101 3 (List.map Ed o5))]) (fun (v3,v4,o5)=>b0.length=o5.length) ?_
 rintro ⟨v3,v4,o5⟩ _ _ _ h _ hn1 q5
 refine Z ?_
 refine Ao h (fun _ h=>?_) (fun _ h=>?_)
 refine Z ?_
 refine Da h (fun v6 hcv6 h=>?_)
 have okv6:=(OK.ok hcv6 :)
 rw [<-q5] at okv6
 refine E6.act [0] _ _ _ _ okv6 rfl rfl ⟨rfl,trivial⟩ ?_
 refine Da h (fun v7 hgv7 h=>?_)
 refine Z ?_
 exact hn1 _ _ _ _ (Option.some.inj h) ⟨rfl,rfl,trivial⟩ ⟨⟨rfl,rfl⟩,trivial⟩ (H5 hgv7)
 replace h:=Cv h
 refine Z ?_
 refine Da h (fun v11 hcv11 h=>?_)
 have okv11:=(OK.ok hcv11 :)
 rw [<-q5] at okv11
 refine E6.act [0] _ _ _ _ okv11 rfl rfl ⟨rfl,trivial⟩ ?_
 refine Da h (fun v12 hgv12 h=>?_)
 refine Z ?_
 refine Bb h (fun (v13,v14,v15)=>[(6,(O .i64 v13)),(7,(O .i64 v14)),(8,(O .i64 v15))]) (fun (v13,v14,v15)=>[]) ?_
 rintro ⟨v13,v14,v15⟩ _ _ _ h _ _
 refine Z ?_
 refine Ao h (fun _ h=>?_) (fun _ h=>?_)
 refine Z ?_
 refine Bb h (fun _=>[(7,(O .i64 0)),(8,(O .i64 (Ac (2*v13))))]) (fun _=>[]) ?_
 rintro _ _ _ _ h _ _
 exact Y
 exact Y⟩
instance {b0:List A6}:OK (Q7 b0) fun r=>Br Tryz.prog 221 [(.arr 0 b0.length 0 b0.length),(.fn 222 [])] [.rows 101 3 (List.map Ed b0)] (.tup []) [.rows 101 3 (List.map Ed r)]:=⟨fun {r} h=>by
 refine aw C0 true Tryz.func221 ?_
 refine Z ?_
 refine A7 [0] h (fun _ h=>?_)
 refine Da h (fun v2 hgv2 h=>?_)
 exact Y⟩
instance {a0 a1:B8}:OK (Ud a0 a1) fun r=>Aw Tryz.prog 216 [Ey a0,Ey a1] ((O .i64) r):=⟨fun {r} h=>by
 refine pw C0 Tryz.func216 ?_
 exact Y⟩
instance {a0 a1:Int} {b0:List B8}:OK (Xy a0 a1 b0) fun r=>Br Tryz.prog 291 [(.arr 0 b0.length 0 b0.length),(O .i64) a0,(O .i64) a1,(.fn 216 [])] [.rows 97 3 (List.map Ey b0)] (.tup []) [.rows 97 3 (List.map Ey r)]:=⟨fun {r} h=>by
 refine aw C0 true Tryz.func291 ?_
 refine Z ?_
 refine Ej h (fun (v21,o22)=>[(8,(O .i64 v21))]) (fun (v21,o22)=>[(0,.rows 97 3 (List.map Ey o22))]) (fun (v21,o22)=>b0.length=o22.length) ?_
 rintro ⟨v21,o22⟩ _ _ _ h _ _ q22
 refine Z ?_
 refine Ao h (fun _ h=>?_) (fun _ h=>?_)
 refine Z ?_
 refine Ej h (fun (v31,o32)=>[(9,(O .i64 v31))]) (fun (v31,o32)=>[(0,.rows 97 3 (List.map Ey o32))]) (fun (v31,o32)=>b0.length=o32.length) ?_
 rintro ⟨v31,o32⟩ _ _ _ h _ _ q32
 refine Ax (Ax ?_)
 refine Cd h (fun v36=>[(34,(Av v36))]) (fun v36=>[]) ?_ ?_
 intro _ h _ _ _
 exact Y
 rintro v36 _ h
 exact Y
 exact Y⟩
instance {a0:Int} {b0:List B8}:OK (Xu a0 b0) fun r=>Br Tryz.prog 268 [(.arr 0 b0.length 0 b0.length),(O .i64) a0,(.fn 216 [])] [.rows 97 3 (List.map Ey b0)] (.tup []) [.rows 97 3 (List.map Ey r)]:=⟨fun {r} h=>by
 refine aw C0 true Tryz.func268 ?_
 refine Z ?_
 refine Ej h (fun (v3,v4,o5)=>[(7,(O .i64 v3)),(8,(O .i64 v4))]) (fun (v3,v4,o5)=>[(0,.rows 97 3 (List.map Ey o5))]) (fun (v3,v4,o5)=>b0.length=o5.length) ?_
 rintro ⟨v3,v4,o5⟩ _ _ _ h _ hn1 q5
 refine Z ?_
 refine Ao h (fun _ h=>?_) (fun _ h=>?_)
 refine Z ?_
 refine Da h (fun v6 hcv6 h=>?_)
 have okv6:=(OK.ok hcv6 :)
 rw [<-q5] at okv6
 refine E6.act [0] _ _ _ _ okv6 rfl rfl ⟨rfl,trivial⟩ ?_
 refine Da h (fun v7 hgv7 h=>?_)
 refine Z ?_
 exact hn1 _ _ _ _ (Option.some.inj h) ⟨rfl,rfl,trivial⟩ ⟨⟨rfl,rfl⟩,trivial⟩ (H5 hgv7)
 replace h:=Cv h
 refine Z ?_
 refine Da h (fun v11 hcv11 h=>?_)
 have okv11:=(OK.ok hcv11 :)
 rw [<-q5] at okv11
 refine E6.act [0] _ _ _ _ okv11 rfl rfl ⟨rfl,trivial⟩ ?_
 refine Da h (fun v12 hgv12 h=>?_)
 refine Z ?_
 refine Bb h (fun (v13,v14,v15)=>[(6,(O .i64 v13)),(7,(O .i64 v14)),(8,(O .i64 v15))]) (fun (v13,v14,v15)=>[]) ?_
 rintro ⟨v13,v14,v15⟩ _ _ _ h _ _
 refine Z ?_
 refine Ao h (fun _ h=>?_) (fun _ h=>?_)
 refine Z ?_
 refine Bb h (fun _=>[(7,(O .i64 0)),(8,(O .i64 (Ac (2*v13))))]) (fun _=>[]) ?_
 rintro _ _ _ _ h _ _
 exact Y
 exact Y⟩
instance {b0:List B8}:OK (Q5 b0) fun r=>Br Tryz.prog 215 [(.arr 0 b0.length 0 b0.length),(.fn 216 [])] [.rows 97 3 (List.map Ey b0)] (.tup []) [.rows 97 3 (List.map Ey r)]:=⟨fun {r} h=>by
 refine aw C0 true Tryz.func215 ?_
 refine Z ?_
 refine A7 [0] h (fun _ h=>?_)
 refine Da h (fun v2 hgv2 h=>?_)
 exact Y⟩
instance {a0:Ap} {a1:Bd} {b1:List (ByteArray×Int)} {b2:List (ByteArray×(List Dd))} {b0_0:List A3} {b0_1:List Ai} {b0_2 b0_3:Int} {b0_4:List Ai}:OK (Q2 a0 a1 b1 b2 b0_0 b0_1 b0_2 b0_3 b0_4) fun r=>Br Tryz.prog 143 [(.loc 0 0),Cn a0,Gq a1] [.cells 119 [(.sl 3 (List.map Cu b0_0)),(.sl 3 (Bn b0_1)),(O .i64 b0_2),(O .i64 b0_3),(.sl 3 (Bn b0_4)),(.mp 1),(.mp 2)],.map (Bg (O .i64) b1),.map (Bg (Ar 5 Ee) b2)] (.tup [(Ar 5 B4) r.1,(O .i64) r.2]) [.cells 119 [(.sl 3 (List.map Cu b0_0)),(.sl 3 (Bn b0_1)),(O .i64 b0_2),(O .i64 b0_3),(.sl 3 (Bn b0_4)),(.mp 1),(.mp 2)],.map (Bg (O .i64) b1),.map (Bg (Ar 5 Ee) b2)]:=⟨fun {r} h=>by
 refine aw {T:=Cb,an:=(fun s=>bif Nat.beq s 22 then .own else .ask),nl:=(fun s=>bif Nat.beq s 155 then [(0,3)] else bif Nat.beq s 31 then [(3,3),(4,3)] else bif Nat.beq s 22 then [(0,5)] else bif Nat.beq s 6 then [(0,5)] else [])} true Tryz.func143 ?_
 refine Z ?_
 refine Bk h (fun _ h=>?_)
 refine Z ?_
 refine Ao h (fun _ h=>?_) (fun _ h=>?_)
 exact Y
 refine Z ?_
 refine A7 [] h (fun v4 h=>?_)
 refine Z ?_
 refine A7 [6] h (fun _ h=>?_)
 refine Da h (fun v8 hgv8 h=>?_)
 refine Z ?_
 refine Bb h (fun _=>[(6,(.sl 5 (List.map B4 []))),(7,(O .i64 0)),(8,(.sl 5 (List.map B4 [(Aj.mk a0 (Bd.mk [] []))]))),(9,(.arr 6 v4.2.length 0 v4.2.length))]) (fun _=>[]) ?_
 rintro _ _ _ _ h _ _
 refine Z ?_
 refine Ao h (fun _ h=>?_) (fun _ h=>?_)
 refine Z ?_
 refine G1 h (fun _ _ _ _ h=>?_)
 refine Z ?_
 refine Bb h (fun v11=>[(11,(O .i64 v11))]) (fun v11=>[]) ?_
 rintro v11 _ _ _ h _ _
 refine Z ?_
 refine Fz h (fun _ h=>?_) (fun _ h=>?_)
 refine Z ?_
 refine G1 h (fun _ _ _ _ h=>?_)
 refine Z ?_
 refine Ao h (fun _ h=>?_) (fun _ h=>?_)
 exact Y
 replace h:=Cv h
 refine F4 (F2 rfl (Ax ?_))
 refine D3 [.fz 9] ?_
 exact Y
 replace h:=Cv h
 refine ZO ?_
 refine Qi (F4 (F2 rfl (Ax ?_)))
 refine D3 [.fz 9] ?_
 exact Y
 replace h:=Cv h
 refine Z ?_
 refine A7 [] h (fun _ h=>?_)
 refine Z ?_
 refine A7 [8] h (fun _ h=>?_)
 refine Da h (fun v19 hgv19 h=>?_)
 refine ZO ?_
 refine Ax (Kg ?_)
 refine D3 [.fz 19] ?_
 refine Z ?_
 refine Bb h (fun (v110,v111)=>[(8,(.sl 5 (List.map B4 v110))),(19,(.sl 3 (List.map Ed v111)))]) (fun (v110,v111)=>[]) ?_
 rintro ⟨v110,v111⟩ _ _ _ h _ _
 refine Z ?_
 refine Ao h (fun _ h=>?_) (fun _ h=>?_)
 refine Z ?_
 refine Ck h (fun _ _ _ _ h=>?_)
 refine Z ?_
 refine Bb h (fun v116=>[(21,(O .i64 v116))]) (fun v116=>[]) ?_
 rintro v116 _ _ _ h _ _
 refine Z ?_
 refine Fz h (fun _ h=>?_) (fun _ h=>?_)
 refine Z ?_
 refine Ck h (fun _ _ _ _ h=>?_)
 refine Z ?_
 refine Bk h (fun _ h=>?_)
 refine Z ?_
 refine Ao h (fun _ h=>?_) (fun _ h=>?_)
 exact Y
 replace h:=Cv h
 refine Z ?_
 refine Pc h (fun _ h=>?_)
 refine Z ?_
 refine Bk h (fun _ h=>?_)
 refine Z ?_
 refine Bb h (fun (v173,o174)=>[(22,(.arr 10 o174.length 0 o174.length)),(135,(O .i64 v173))]) (fun (v173,o174)=>[(10,.rows 72 5 (List.map B4 o174))]) ?_
 rintro ⟨v173,o174⟩ _ _ _ h _ _
 refine Z ?_
 refine Ao h (fun _ h=>?_) (fun _ h=>?_)
 refine Z ?_
 refine Ck h (fun _ _ _ _ h=>?_)
 refine Z ?_
 refine Bk h (fun _ h=>?_)
 refine Z ?_
 refine Ao h (fun _ h=>?_) (fun _ h=>?_)
 exact Y
 refine Z ?_
 refine Bb h (fun (v190,o191)=>[(22,(.arr 10 o191.length 0 o191.length)),(145,(O .i64 v190))]) (fun (v190,o191)=>[(10,.rows 72 5 (List.map B4 o191))]) ?_
 rintro ⟨v190,o191⟩ _ _ _ h _ _
 exact Y
 replace h:=Cv h
 refine F4 (F2 rfl ?_)
 refine D3 [.fz 22] ?_
 exact Y
 replace h:=Cv h
 refine Z ?_
 refine Pc h (fun _ h=>?_)
 refine Z ?_
 refine Bk h (fun _ h=>?_)
 refine Z ?_
 refine Bb h (fun (v173,o174)=>[(22,(.arr 10 o174.length 0 o174.length)),(135,(O .i64 v173))]) (fun (v173,o174)=>[(10,.rows 72 5 (List.map B4 o174))]) ?_
 rintro ⟨v173,o174⟩ _ _ _ h _ _
 refine Z ?_
 refine Ao h (fun _ h=>?_) (fun _ h=>?_)
 refine Z ?_
 refine Ck h (fun _ _ _ _ h=>?_)
 refine Z ?_
 refine Bk h (fun _ h=>?_)
 refine Z ?_
 refine Ao h (fun _ h=>?_) (fun _ h=>?_)
 exact Y
 refine Z ?_
 refine Bb h (fun (v190,o191)=>[(22,(.arr 10 o191.length 0 o191.length)),(145,(O .i64 v190))]) (fun (v190,o191)=>[(10,.rows 72 5 (List.map B4 o191))]) ?_
 rintro ⟨v190,o191⟩ _ _ _ h _ _
 exact Y
 replace h:=Cv h
 refine F4 (F2 rfl ?_)
 refine D3 [.fz 22] ?_
 exact Y
 exact Y⟩
theorem Aid {a0:Int} {a1:Bool} {b1:List Int} {r:(Int×(List Int))} (h:Oq a0 a1 b1=some (.inl r)):Br Tryz.prog 167 [(.loc 0 0),(O .i64) a0,Av a1] [.cells 165 [(.val (.pointer none)),(.arr 1 b1.length 0 b1.length)],.rows 5 1 (List.map (O .u8) b1)] ((O .i64) r.1) [.cells 165 [(.loc 0 0),(.arr 1 r.2.length 0 r.2.length)],.rows 5 1 (List.map (O .u8) r.2)]:=by
 refine aw C0 true Tryz.func167 ?_
 refine ZS ?_
 refine Ca ?_
 refine ZO ?_
 refine Ax (Kg (Ax ?_))
 refine Cd h (fun v1=>[(7,(Av v1))]) (fun v1=>[]) ?_ ?_
 intro _ h _ _ _
 exact Y
 rintro v1 _ h
 refine Ao h (fun _ h=>?_) (fun _ h=>?_)
 refine Z ?_
 refine A7 [0,1] h (fun _ h=>?_)
 exact Y
 refine Z ?_
 refine Ao h (fun _ h=>?_) (fun _ h=>?_)
 refine Z ?_
 refine A7 [0,1] h (fun _ h=>?_)
 exact Y
 refine Z ?_
 refine Ao h (fun _ h=>?_) (fun _ h=>?_)
 refine Z ?_
 refine A7 [0,1] h (fun _ h=>?_)
 exact Y
 exact Y
theorem Aie {a0:Int} {a1:Bool} {b1:List Int} {r:(Int×(List Int))} (h:Oq a0 a1 b1=some (.inr r)):Br Tryz.prog 167 [(.loc 0 0),(O .i64) a0,Av a1] [.cells 165 [(.val (.pointer none)),(.arr 1 b1.length 0 b1.length)],.rows 5 1 (List.map (O .u8) b1)] ((O .i64) r.1) [.cells 165 [(.val (.pointer none)),(.arr 1 r.2.length 0 r.2.length)],.rows 5 1 (List.map (O .u8) r.2)]:=by
 refine aw C0 true Tryz.func167 ?_
 refine ZS ?_
 refine Ca ?_
 refine ZO ?_
 refine Ax (Kg (Ax ?_))
 refine Cd h (fun v1=>[(7,(Av v1))]) (fun v1=>[]) ?_ ?_
 intro _ h _ _ _
 exact Y
 rintro v1 _ h
 refine Ao h (fun _ h=>?_) (fun _ h=>?_)
 refine Z ?_
 refine A7 [0,1] h (fun _ h=>?_)
 exact Y
 refine Z ?_
 refine Ao h (fun _ h=>?_) (fun _ h=>?_)
 refine Z ?_
 refine A7 [0,1] h (fun _ h=>?_)
 exact Y
 refine Z ?_
 refine Ao h (fun _ h=>?_) (fun _ h=>?_)
 refine Z ?_
 refine A7 [0,1] h (fun _ h=>?_)
 exact Y
 exact Y
instance {a0:Int} {a1:Bool} {b1:List Int}:OK (Uq a0 a1 b1) fun r=>Br Tryz.prog 167 [(.loc 0 0),(O .i64) a0,Av a1] [.cells 165 [(.loc 0 0),(.arr 1 b1.length 0 b1.length)],.rows 5 1 (List.map (O .u8) b1)] ((O .i64) r.1) [.cells 165 [(.loc 0 0),(.arr 1 r.2.length 0 r.2.length)],.rows 5 1 (List.map (O .u8) r.2)]:=⟨fun {r} h=>by
 refine aw C0 true Tryz.func167 ?_
 refine ZS ?_
 refine Ca ?_
 refine ZO ?_
 refine Ax (Kg (Ax ?_))
 refine Cd h (fun v1=>[(7,(Av v1))]) (fun v1=>[]) ?_ ?_
 intro _ h _ _ _
 exact Y
 rintro v1 _ h
 refine Ao h (fun _ h=>?_) (fun _ h=>?_)
 refine Z ?_
 refine A7 [0,1] h (fun _ h=>?_)
 exact Y
 refine Z ?_
 refine Ao h (fun _ h=>?_) (fun _ h=>?_)
 refine Z ?_
 refine A7 [0,1] h (fun _ h=>?_)
 exact Y
 refine Z ?_
 refine Ao h (fun _ h=>?_) (fun _ h=>?_)
 refine Z ?_
 refine A7 [0,1] h (fun _ h=>?_)
 exact Y
 exact Y⟩
instance {a0 a1:Int}:OK (Kk a0 a1) fun r=>Aw Tryz.prog 168 [(O .i64) a0,(O .i64) a1] (Ep r):=⟨fun {r} h=>by
 exact Arb h⟩
instance {b1:List Int}:OK (Ya b1) fun r=>Br Tryz.prog 105 [(.loc 0 0)] [.cells 165 [(.val (.pointer none)),(.arr 1 b1.length 0 b1.length)],.rows 5 1 (List.map (O .u8) b1)] (Ep r) [.cells 165 [(.val (.pointer none)),(.arr 1 b1.length 0 b1.length)],.dead]:=⟨fun {r} h=>by
 exact Ahl h⟩
instance {a0:Bf}:OK (L3 a0) fun r=>Aw Tryz.prog 104 [Fh a0] (Ep r):=⟨fun {r} h=>by
 refine pw C0 Tryz.func104 ?_
 refine Z ?_
 refine Bk h (fun _ h=>?_)
 refine Z ?_
 refine Ao h (fun _ h=>?_) (fun _ h=>?_)
 exact Y
 refine ZS ?_
 refine Ca ?_
 refine ZO ?_
 refine Ax (Ax ?_)
 refine D3 [.own 3 1 5 1] ?_
 refine Z ?_
 refine W8 ?_
 refine Z ?_
 refine Ao h (fun _ h=>?_) (fun _ h=>?_)
 refine Il (Ax ?_)
 refine Cd h (fun (v30,o31)=>[(4,(O .i64 0)),(6,(O .i64 v30))]) (fun (v30,o31)=>[(1,.cells 165 [(.loc 1 0),(.arr 2 o31.length 0 o31.length)]),(2,.rows 5 1 (List.map (O .u8) o31))]) ?_ ?_
 intro _ h _ _ _
 refine Z ?_
 refine Ck h (fun _ v5 _ _ h=>?_)
 refine Z ?_
 refine Da h (fun v7 hcv7 h=>?_)
 rcases v7 with v8 | v9
 refine E6.act [1,2] _ _ _ _ (Aid (a0:=v5.Coef) (a1:=true) (b1:=[]) hcv7) rfl rfl ⟨rfl,rfl,trivial⟩ ?_
 refine ZS ?_
 refine Ca ?_
 refine ZO ?_
 refine Cd h (fun o14=>[]) (fun o14=>[(1,.cells 165 [(.loc 1 0),(.arr 2 o14.length 0 o14.length)]),(2,.rows 5 1 (List.map (O .u8) o14))]) ?_ ?_
 intro _ h _ _ _
 refine Ao h (fun _ h=>?_) (fun _ h=>?_)
 refine Z ?_
 refine Bk h (fun _ h=>?_)
 refine Z ?_
 refine F3 h (fun h=>?_)
 refine Z ?_
 refine A7 [1,2] h (fun _ h=>?_)
 exact Y
 exact Y
 rintro o14 _ h
 refine Z ?_
 refine Ao h (fun _ h=>?_) (fun _ h=>?_)
 refine Z ?_
 refine A7 [1,2] h (fun _ h=>?_)
 exact Y
 refine Z ?_
 refine Bk h (fun _ h=>?_)
 refine Z ?_
 refine F3 h (fun h=>?_)
 refine Z ?_
 refine A7 [1,2] h (fun _ h=>?_)
 exact Y
 refine E6.act [1,2] _ _ _ _ (Aie (a0:=v5.Coef) (a1:=true) (b1:=[]) hcv7) rfl rfl ⟨rfl,rfl,trivial⟩ ?_
 refine Z ?_
 refine Ao h (fun _ h=>?_) (fun _ h=>?_)
 refine Z ?_
 refine Bk h (fun _ h=>?_)
 refine Z ?_
 refine F3 h (fun h=>?_)
 refine Z ?_
 refine A7 [1,2] h (fun _ h=>?_)
 refine Z ?_
 refine Ao h (fun _ h=>?_) (fun _ h=>?_)
 refine Z ?_
 refine A7 [1,2] h (fun _ h=>?_)
 exact Y
 refine Z ?_
 refine Bk h (fun _ h=>?_)
 refine Z ?_
 refine F3 h (fun h=>?_)
 refine Z ?_
 refine A7 [1,2] h (fun _ h=>?_)
 exact Y
 refine Z ?_
 refine Ao h (fun _ h=>?_) (fun _ h=>?_)
 refine Z ?_
 refine A7 [1,2] h (fun _ h=>?_)
 exact Y
 refine Z ?_
 refine Bk h (fun _ h=>?_)
 refine Z ?_
 refine F3 h (fun h=>?_)
 refine Z ?_
 refine A7 [1,2] h (fun _ h=>?_)
 exact Y
 rintro ⟨v30,o31⟩ _ h
 refine Z ?_
 refine Bb h (fun (v43,o44)=>[(13,(O .i64 v43))]) (fun (v43,o44)=>[(1,.cells 165 [(.loc 1 0),(.arr 2 o44.length 0 o44.length)]),(2,.rows 5 1 (List.map (O .u8) o44))]) ?_
 rintro ⟨v43,o44⟩ _ _ _ h _ _
 refine Z ?_
 refine Ao h (fun _ h=>?_) (fun _ h=>?_)
 refine Z ?_
 refine Ck h (fun _ _ _ _ h=>?_)
 refine Z ?_
 refine A7 [1,2] h (fun _ h=>?_)
 refine ZS ?_
 refine Ca ?_
 refine ZO ?_
 refine Cd h (fun o51=>[]) (fun o51=>[(1,.cells 165 [(.loc 1 0),(.arr 2 o51.length 0 o51.length)]),(2,.rows 5 1 (List.map (O .u8) o51))]) ?_ ?_
 intro _ h _ _ _
 refine Ao h (fun _ h=>?_) (fun _ h=>?_)
 refine Z ?_
 refine Bk h (fun _ h=>?_)
 refine Z ?_
 refine F3 h (fun h=>?_)
 refine Z ?_
 refine A7 [1,2] h (fun _ h=>?_)
 exact Y
 exact Y
 rintro o51 _ h
 refine Z ?_
 refine Ao h (fun _ h=>?_) (fun _ h=>?_)
 refine Z ?_
 refine A7 [1,2] h (fun _ h=>?_)
 exact Y
 refine Z ?_
 refine Bk h (fun _ h=>?_)
 refine Z ?_
 refine F3 h (fun h=>?_)
 refine Z ?_
 refine A7 [1,2] h (fun _ h=>?_)
 exact Y
 replace h:=Cv h
 refine F4 (F2 rfl (Ax (Ax ?_)))
 refine Cd h (fun v57=>[(47,(Av v57))]) (fun v57=>[]) ?_ ?_
 intro _ h _ _ _
 exact Y
 rintro v57 _ h
 refine Ao h (fun _ h=>?_) (fun _ h=>?_)
 refine Z ?_
 refine A7 [1,2] h (fun _ h=>?_)
 refine Z ?_
 refine Bk h (fun _ h=>?_)
 refine Z ?_
 refine A7 [1,2] h (fun _ h=>?_)
 refine Z ?_
 refine A7 [1,2] h (fun _ h=>?_)
 exact Y
 refine Z ?_
 refine A7 [1,2] h (fun _ h=>?_)
 exact Y
 refine F4 (F2 rfl (Ax (Ax ?_)))
 refine Cd h (fun v63=>[(47,(Av v63))]) (fun v63=>[]) ?_ ?_
 intro _ h _ _ _
 exact Y
 rintro v63 _ h
 refine Ao h (fun _ h=>?_) (fun _ h=>?_)
 refine Z ?_
 refine Da h (fun v64 hcv64 h=>?_)
 rcases v64 with v65 | v66
 refine E6.act [1,2] _ _ _ _ (Aid (a0:=a0.Const) (a1:=((a0.Terms.length:Int)==(0:Int))) (b1:=[]) hcv64) rfl rfl ⟨rfl,rfl,trivial⟩ ?_
 refine Z ?_
 refine Bk h (fun _ h=>?_)
 refine Z ?_
 refine A7 [1,2] h (fun _ h=>?_)
 refine Z ?_
 refine A7 [1,2] h (fun _ h=>?_)
 exact Y
 refine E6.act [1,2] _ _ _ _ (Aie (a0:=a0.Const) (a1:=((a0.Terms.length:Int)==(0:Int))) (b1:=[]) hcv64) rfl rfl ⟨rfl,rfl,trivial⟩ ?_
 refine Z ?_
 refine Bk h (fun _ h=>?_)
 refine Z ?_
 refine A7 [1,2] h (fun _ h=>?_)
 refine Z ?_
 refine A7 [1,2] h (fun _ h=>?_)
 exact Y
 refine Z ?_
 refine A7 [1,2] h (fun _ h=>?_)
 exact Y⟩
instance {a0:Bd}:OK (Tg a0) fun r=>Aw Tryz.prog 54 [Gq a0] (Ep r):=⟨fun {r} h=>by
 refine pw C0 Tryz.func54 ?_
 refine ZS ?_
 refine Ca ?_
 refine ZS ?_
 refine Ca ?_
 refine ZO ?_
 refine Ax (Ax ?_)
 refine D3 [.own 3 1 5 1] ?_
 refine Z ?_
 refine W8 ?_
 refine Z ?_
 refine Ao h (fun _ h=>?_) (fun _ h=>?_)
 refine Z ?_
 refine Ck h (fun _ _ _ _ h=>?_)
 refine Z ?_
 refine Bk h (fun _ h=>?_)
 refine Z ?_
 refine A7 [1,2] h (fun _ h=>?_)
 refine Z ?_
 refine Bb h (fun (v18,o19)=>[(11,(O .i64 v18))]) (fun (v18,o19)=>[(1,.cells 165 [(.loc 1 0),(.arr 2 o19.length 0 o19.length)]),(2,.rows 5 1 (List.map (O .u8) o19))]) ?_
 rintro ⟨v18,o19⟩ _ _ _ h _ _
 refine Z ?_
 refine Ao h (fun _ h=>?_) (fun _ h=>?_)
 refine Z ?_
 refine Ck h (fun _ _ _ _ h=>?_)
 refine Z ?_
 refine Bk h (fun _ h=>?_)
 refine Z ?_
 refine A7 [1,2] h (fun _ h=>?_)
 exact Y
 replace h:=Cv h
 refine Z ?_
 refine W8 ?_
 refine Z ?_
 refine Ao h (fun _ h=>?_) (fun _ h=>?_)
 refine Z ?_
 refine Ck h (fun _ _ _ _ h=>?_)
 refine Z ?_
 refine Bk h (fun _ h=>?_)
 refine Z ?_
 refine F3 h (fun h=>?_)
 refine Z ?_
 refine F3 h (fun h=>?_)
 refine Z ?_
 refine Bk h (fun _ h=>?_)
 refine Z ?_
 refine F3 h (fun h=>?_)
 refine Z ?_
 refine A7 [1,2] h (fun _ h=>?_)
 refine Z ?_
 refine Bb h (fun (v51,o52)=>[(25,(O .i64 v51))]) (fun (v51,o52)=>[(1,.cells 165 [(.loc 1 0),(.arr 2 o52.length 0 o52.length)]),(2,.rows 5 1 (List.map (O .u8) o52))]) ?_
 rintro ⟨v51,o52⟩ _ _ _ h _ _
 refine Z ?_
 refine Ao h (fun _ h=>?_) (fun _ h=>?_)
 refine Z ?_
 refine Ck h (fun _ _ _ _ h=>?_)
 refine Z ?_
 refine Bk h (fun _ h=>?_)
 refine Z ?_
 refine F3 h (fun h=>?_)
 refine Z ?_
 refine F3 h (fun h=>?_)
 refine Z ?_
 refine Bk h (fun _ h=>?_)
 refine Z ?_
 refine F3 h (fun h=>?_)
 refine Z ?_
 refine A7 [1,2] h (fun _ h=>?_)
 exact Y
 replace h:=Cv h
 refine Z ?_
 refine A7 [1,2] h (fun _ h=>?_)
 exact Y
 refine Z ?_
 refine A7 [1,2] h (fun _ h=>?_)
 exact Y
 refine Z ?_
 refine W8 ?_
 refine Z ?_
 refine Ao h (fun _ h=>?_) (fun _ h=>?_)
 refine Z ?_
 refine Ck h (fun _ _ _ _ h=>?_)
 refine Z ?_
 refine Bk h (fun _ h=>?_)
 refine Z ?_
 refine F3 h (fun h=>?_)
 refine Z ?_
 refine F3 h (fun h=>?_)
 refine Z ?_
 refine Bk h (fun _ h=>?_)
 refine Z ?_
 refine F3 h (fun h=>?_)
 refine Z ?_
 refine A7 [1,2] h (fun _ h=>?_)
 refine Z ?_
 refine Bb h (fun (v90,o91)=>[(25,(O .i64 v90))]) (fun (v90,o91)=>[(1,.cells 165 [(.loc 1 0),(.arr 2 o91.length 0 o91.length)]),(2,.rows 5 1 (List.map (O .u8) o91))]) ?_
 rintro ⟨v90,o91⟩ _ _ _ h _ _
 refine Z ?_
 refine Ao h (fun _ h=>?_) (fun _ h=>?_)
 refine Z ?_
 refine Ck h (fun _ _ _ _ h=>?_)
 refine Z ?_
 refine Bk h (fun _ h=>?_)
 refine Z ?_
 refine F3 h (fun h=>?_)
 refine Z ?_
 refine F3 h (fun h=>?_)
 refine Z ?_
 refine Bk h (fun _ h=>?_)
 refine Z ?_
 refine F3 h (fun h=>?_)
 refine Z ?_
 refine A7 [1,2] h (fun _ h=>?_)
 exact Y
 replace h:=Cv h
 refine Z ?_
 refine A7 [1,2] h (fun _ h=>?_)
 exact Y
 refine Z ?_
 refine A7 [1,2] h (fun _ h=>?_)
 exact Y⟩
instance {a0:List Aj} {b1:List (ByteArray×Int)} {b2:List Aj}:OK (He a0 b1 b2) fun r=>Br Tryz.prog 28 [(.loc 0 0),(Ar 5 B4) a0] [.cells 122 [(.mp 1),(.arr 2 b2.length 0 b2.length)],.map (Bg (O .i64) b1),.rows 72 5 (List.map B4 b2)] (.tup []) [.cells 122 [(.mp 1),(.arr 2 r.2.length 0 r.2.length)],.map (Bg (O .i64) r.1),.rows 72 5 (List.map B4 r.2)]:=⟨fun {r} h=>by
 refine aw C0 true Tryz.func28 ?_
 refine Z ?_
 refine Bb h (fun (v10,o11,o12)=>[(11,(O .i64 v10))]) (fun (v10,o11,o12)=>[(0,.cells 122 [(.mp 1),(.arr 2 o12.length 0 o12.length)]),(1,.map (Bg (O .i64) o11)),(2,.rows 72 5 (List.map B4 o12))]) ?_
 rintro ⟨v10,o11,o12⟩ _ _ _ h _ hn1
 refine Z ?_
 refine Ao h (fun _ h=>?_) (fun _ h=>?_)
 refine Z ?_
 refine Ck h (fun _ _ _ _ h=>?_)
 refine Z ?_
 refine Bk h (fun _ h=>?_)
 refine ZO ?_
 refine Ax (Ax ?_)
 refine Cd h (fun (v16,v17)=>[(7,(O .i64 v16)),(8,(Av v17))]) (fun (v16,v17)=>[]) ?_ ?_
 intro _ h _ _ _
 refine Z ?_
 refine W4 (f:=(O .i64)) (l:=o11) rfl (0:Int) h (fun j_ hb h=>?_) (fun hb h=>?_)
 exact Y
 exact Y
 rintro ⟨v16,v17⟩ _ h
 refine Z ?_
 refine Ao h (fun _ h=>?_) (fun _ h=>?_)
 refine Z ?_
 refine G1 h (fun _ _ _ _ h=>?_)
 refine Z ?_
 refine Bk h (fun v19 h=>?_)
 refine Z ?_
 refine G1 h (fun _ v20 hiv20 _ h=>?_)
 refine Z ?_
 refine Lt (f:=B4) (x:=(Aj.mk v19 v20.Mono)) (j:=v16) rfl rfl (Nat.zero_add _) hiv20 ?_
 refine Z ?_
 exact hn1 _ _ _ _ (Option.some.inj h) ⟨rfl,trivial⟩ ⟨⟨rfl,rfl⟩,⟨rfl,rfl⟩,⟨congrArg (fun q_=>Be.cells 122 [(.mp 1),(.arr 2 q_ 0 q_)]) (Gn (l:=o12) rfl v16 (Aj.mk v19 v20.Mono)),rfl⟩,trivial⟩ trivial
 refine Z ?_
 refine S6 (f:=(O .i64)) (l:=o11) (x:=((o12.length:Nat):Int)) rfl rfl ?_
 exact Y
 exact Y⟩
abbrev Aif (k:Nat):Prop:=∀{a0:Bp},OK (Ot k a0) fun r=>Aw Tryz.prog 184 [Hq a0] (Hq r)
theorem Asa (k:Nat):Aif k:=by
 induction k with
 | zero=>exact okz
 | succ k ih=>
  refine @fun a0=>⟨fun {r} h=>?_⟩
  .unfold Ot at h
   refine pw {T:=Cb,an:=(fun _=>.ask),nl:=(fun s=>bif Nat.beq s 17 then [(0,2)] else [])} Tryz.func184 ?_
   refine ZS ?_
   refine Ca ?_
   refine ZS ?_
   refine Ca ?_
   refine ZO ?_
   refine Ax (Ax ?_)
   refine D3 [.own 3 1 95 2] ?_
   refine Z ?_
   refine Bb h (fun (v15,o16)=>[(12,(O .i64 v15))]) (fun (v15,o16)=>[(2,.cells 95 [(O .i64 a0.Num),(.arr 3 o16.length 0 o16.length)]),(3,.rows 95 2 (It o16))]) ?_
   rintro ⟨v15,o16⟩ _ _ _ h _ _
   exact Y
instance {k:Nat}:Aif k:=(Asa k)
instance {a0:List Ba}:OK (Tl a0) fun r=>Aw Tryz.prog 65 [(Ar 2 Db) a0] ((Ar 2 Db) r):=⟨fun {r} h=>by
 exact Arg h⟩
instance {a0:Bd}:OK (Tv a0) fun r=>Aw Tryz.prog 117 [Gq a0] (Gq r):=⟨fun {r} h=>by
 refine pw {T:=Cb,an:=(fun _=>.ask),nl:=(fun s=>bif Nat.beq s 44 then [(0,3)] else bif Nat.beq s 17 then [(0,3)] else [])} Tryz.func117 ?_
 refine ZS ?_
 refine Ca ?_
 refine ZS ?_
 refine Ca ?_
 refine ZO ?_
 refine Ax (Ax ?_)
 refine D3 [.own 3 0 97 3,.own 3 1 101 3] ?_
 refine Z ?_
 refine Bb h (fun (v16,o17)=>[(12,(O .i64 v16))]) (fun (v16,o17)=>[(2,.cells 70 [(.arr 3 o17.length 0 o17.length),(.arr 4 0 0 0)]),(3,.rows 97 3 (List.map Ey o17))]) ?_
 rintro ⟨v16,o17⟩ _ _ _ h _ _
 refine Z ?_
 refine Ao h (fun _ h=>?_) (fun _ h=>?_)
 exact Y
 replace h:=Cv h
 refine Z ?_
 refine Bb h (fun (v35,o36)=>[(31,(O .i64 v35))]) (fun (v35,o36)=>[(2,.cells 70 [(.arr 3 o17.length 0 o17.length),(.arr 4 o36.length 0 o36.length)]),(4,.rows 101 3 (List.map Ed o36))]) ?_
 rintro ⟨v35,o36⟩ _ _ _ h _ _
 exact Y⟩
instance {a0:List Aj}:OK (Th a0) fun r=>Aw Tryz.prog 59 [(Ar 5 B4) a0] ((Ar 5 B4) r):=⟨fun {r} h=>by
 refine pw {T:=Cb,an:=(fun s=>bif Nat.beq s 3 then .own else .ask),nl:=(fun s=>bif Nat.beq s 3 then [(0,5)] else bif Nat.beq s 2 then [(0,5)] else [])} Tryz.func59 ?_
 refine Z ?_
 refine Bb h (fun (v14,o15)=>[(3,(.arr 0 o15.length 0 o15.length)),(8,(O .i64 v14))]) (fun (v14,o15)=>[(0,.rows 72 5 (List.map B4 o15))]) ?_
 rintro ⟨v14,o15⟩ _ _ _ h _ _
 exact Y⟩
instance {a0 a1:Aj}:OK (Ly a0 a1) fun r=>Aw Tryz.prog 57 [B4 a0,B4 a1] ((O .i64) r):=⟨fun {r} h=>by
 refine pw C0 Tryz.func57 ?_
 exact Y⟩
instance {a0 a1:Int} {b0:List Aj}:OK (T2 a0 a1 b0) fun r=>Br Tryz.prog 169 [(.arr 0 b0.length 0 b0.length),(O .i64) a0,(O .i64) a1,(.fn 57 [])] [.rows 72 5 (List.map B4 b0)] (.tup []) [.rows 72 5 (List.map B4 r)]:=⟨fun {r} h=>by
 refine aw C0 true Tryz.func169 ?_
 refine Z ?_
 refine Ej h (fun (v21,o22)=>[(8,(O .i64 v21))]) (fun (v21,o22)=>[(0,.rows 72 5 (List.map B4 o22))]) (fun (v21,o22)=>b0.length=o22.length) ?_
 rintro ⟨v21,o22⟩ _ _ _ h _ _ q22
 refine Z ?_
 refine Ao h (fun _ h=>?_) (fun _ h=>?_)
 refine Z ?_
 refine Ej h (fun (v31,o32)=>[(9,(O .i64 v31))]) (fun (v31,o32)=>[(0,.rows 72 5 (List.map B4 o32))]) (fun (v31,o32)=>b0.length=o32.length) ?_
 rintro ⟨v31,o32⟩ _ _ _ h _ _ q32
 refine Ax (Ax ?_)
 refine Cd h (fun v36=>[(34,(Av v36))]) (fun v36=>[]) ?_ ?_
 intro _ h _ _ _
 exact Y
 rintro v36 _ h
 exact Y
 exact Y⟩
instance {a0 a1 a2:Int} {b0:List Aj}:OK (Ts a0 a1 a2 b0) fun r=>Br Tryz.prog 107 [(.arr 0 b0.length 0 b0.length),(O .i64) a0,(O .i64) a1,(O .i64) a2,(.fn 57 [])] [.rows 72 5 (List.map B4 b0)] (.tup []) [.rows 72 5 (List.map B4 r)]:=⟨fun {r} h=>by
 refine aw C0 true Tryz.func107 ?_
 refine Z ?_
 refine Bb h (fun _=>[(1,(O .i64 a0)),(2,(O .i64 a1)),(3,(O .i64 a2)),(10,(Av true)),(11,(Av true))]) (fun _=>[]) ?_
 rintro _ _ _ _ h _ _
 refine Z ?_
 refine Ao h (fun _ h=>?_) (fun _ h=>?_)
 refine Z ?_
 refine A7 [0] h (fun _ h=>?_)
 refine Da h (fun v2 hgv2 h=>?_)
 exact Y
 exact Y⟩
theorem Asb {b0:List Aj} {r:(List Aj)} (h:Ab8 b0=some r):Br Tryz.prog 56 [(.arr 0 b0.length 0 b0.length),(.fn 57 [])] [.rows 72 5 (List.map B4 b0)] (.tup []) [.rows 72 5 (List.map B4 r)]:=by
 refine aw C0 true Tryz.func56 ?_
 refine Z ?_
 refine Bk h (fun _ h=>?_)
 refine Z ?_
 refine A7 [0] h (fun _ h=>?_)
 refine Da h (fun v3 hgv3 h=>?_)
 exact Y
instance {b0:List Aj}:OK (Lx b0) fun r=>Br Tryz.prog 56 [(.arr 0 b0.length 0 b0.length),(.fn 57 [])] [.rows 72 5 (List.map B4 b0)] (.tup []) [.rows 72 5 (List.map B4 r)]:=⟨fun {r} h=>by
 unfold Lx at h
 cases hb:Nat.ble b0.length 12 with
 | true=>rw [hb] at h; exact Asb h
 | false=>rw [hb] at h; exact Arq (eA:=B4) (cmp:=Ly) (g:=57) (enters_of Tryz.func57 (by kernel_rfl) rfl) (fun x y n h=>(OK.ok h :)) (fun x=>⟨_,rfl⟩) h (by rintro rfl; cases hb)⟩
instance {b1:List (ByteArray×Int)} {b2:List Aj}:OK (Im b1 b2) fun r=>Br Tryz.prog 29 [(.loc 0 0)] [.cells 122 [(.mp 1),(.arr 2 b2.length 0 b2.length)],.map (Bg (O .i64) b1),.rows 72 5 (List.map B4 b2)] (.tup [(Ar 5 B4) r.1,(O .i64) r.2]) [.cells 122 [(.mp 1),(.arr 2 b2.length 0 b2.length)],.map (Bg (O .i64) b1),.rows 72 5 (List.map B4 b2)]:=⟨fun {r} h=>by
 refine aw {T:=Cb,an:=(fun s=>bif Nat.beq s 4 then .own else .ask),nl:=(fun s=>bif Nat.beq s 4 then [(0,5)] else bif Nat.beq s 2 then [(0,5)] else [])} true Tryz.func29 ?_
 refine Z ?_
 refine Bb h (fun (v12,o13)=>[(4,(.arr 3 o13.length 0 o13.length)),(12,(O .i64 v12))]) (fun (v12,o13)=>[(3,.rows 72 5 (List.map B4 o13))]) ?_
 rintro ⟨v12,o13⟩ _ _ _ h _ _
 refine Z ?_
 refine Ao h (fun _ h=>?_) (fun _ h=>?_)
 exact Y
 replace h:=Cv h
 refine Z ?_
 refine Ao h (fun _ h=>?_) (fun _ h=>?_)
 exact Y
 refine Z ?_
 refine A7 [3] h (fun _ h=>?_)
 refine Da h (fun v20 hgv20 h=>?_)
 refine ZO ?_
 refine Ax ?_
 refine D3 [.fz 4] ?_
 exact Y⟩
instance {a0:Bd} {b1:List (ByteArray×Int)} {b2:List (ByteArray×(List Dd))} {b0_0:List A3} {b0_1:List Ai} {b0_2 b0_3:Int} {b0_4:List Ai}:OK (Og a0 b1 b2 b0_0 b0_1 b0_2 b0_3 b0_4) fun r=>Br Tryz.prog 82 [(.loc 0 0),Gq a0] [.cells 119 [(.sl 3 (List.map Cu b0_0)),(.sl 3 (Bn b0_1)),(O .i64 b0_2),(O .i64 b0_3),(.sl 3 (Bn b0_4)),(.mp 1),(.mp 2)],.map (Bg (O .i64) b1),.map (Bg (Ar 5 Ee) b2)] (.tup [(Ar 5 B4) r.1,(O .i64) r.2]) [.cells 119 [(.sl 3 (List.map Cu b0_0)),(.sl 3 (Bn b0_1)),(O .i64 b0_2),(O .i64 b0_3),(.sl 3 (Bn b0_4)),(.mp 1),(.mp 2)],.map (Bg (O .i64) b1),.map (Bg (Ar 5 Ee) b2)]:=⟨fun {r} h=>by
 refine aw {T:=Cb,an:=(fun _=>.ask),nl:=(fun s=>bif Nat.beq s 4 then [(0,5)] else [])} true Tryz.func82 ?_
 refine Z ?_
 refine Bk h (fun _ h=>?_)
 refine Z ?_
 refine A7 [0,1,2] h (fun _ h=>?_)
 refine Z ?_
 refine Ao h (fun _ h=>?_) (fun _ h=>?_)
 exact Y
 refine Z ?_
 refine A7 [] h (fun _ h=>?_)
 refine Z ?_
 refine A7 [5,4,6] h (fun _ h=>?_)
 refine Z ?_
 refine A7 [5,4,6] h (fun _ h=>?_)
 exact Y⟩
end Go.Ab
