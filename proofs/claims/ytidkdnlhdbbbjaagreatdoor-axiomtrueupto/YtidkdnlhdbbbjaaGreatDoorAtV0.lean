/- The contracts of the functions, each by its walk (made by a program). -/
import Derived.Test.YtidkdnlhdbbbjaaGreatDoorAtHand
import Derived.Test.YtidkdnlhdbbbjaaGreatDoorAtDef
namespace Go.Ab
open Go Go.Proofs
set_option maxRecDepth 10000
set_option maxHeartbeats 4000000
set_option linter.unusedVariables false
instance {a0:Int}:OK (S6 a0) fun r=>Ax Tryz.prog 60 [(O .i64) a0] (Aq r):=⟨fun {r} h=>by
 refine pw C0 Tryz.func60 ?_
 exact Y⟩
instance {a0:Int}:OK (Vt a0) fun r=>Ax Tryz.prog 61 [(O .i64) a0] (Aq r):=⟨fun {r} h=>by
 refine pw C0 Tryz.func61 ?_
 exact Y⟩
instance {a0:Be}:OK (I2 a0) fun r=>Ax Tryz.prog 30 [Gm a0] (Aq r):=⟨fun {r} h=>by
 refine pw C0 Tryz.func30 ?_
 refine ZS ?_
 refine Cm ?_
 refine ZO ?_
 refine Az (Az ?_)
 refine Cn h (fun v3=>[(14,(Aq v3))]) (fun v3=>[]) ?_ ?_
 intro _ h _ _ _
 exact Y
 rintro v3 _ h
 refine Ao h (fun _ h=>?_) (fun _ h=>?_)
 exact Y
 refine Z ?_
 refine A7 h (fun v8=>[(2,(Aq false)),(18,(O .i64 v8))]) (fun v8=>[]) ?_
 rintro v8 _ _ _ h _ _
 exact Y⟩
instance {a0:List Bb}:OK (Rk a0) fun r=>Bn Tryz.prog 65 [(As 2 Dd) a0] [] (.arr 1 r.2.length 0 r.2.length) [.rows 86 2 (List.map Dd r.1),.rows 86 2 (List.map Dd r.2)]:=⟨fun {r} h=>by
 exact Awo h⟩
instance {a0:Int}:OK (Aah a0) fun r=>Ax Tryz.prog 178 [(O .u64) a0] ((O .i64) r):=⟨fun {r} h=>by
 refine pw C0 Tryz.func178 ?_
 refine ZS ?_
 refine Cm ?_
 refine ZS ?_
 refine Cm ?_
 refine ZO ?_
 refine Cn h (fun (v2,v3)=>[(0,(O .u64 v2)),(2,(O .i64 v3))]) (fun (v2,v3)=>[]) ?_ ?_
 intro _ h _ _ _
 exact Y
 rintro ⟨v2,v3⟩ _ h
 refine ZS ?_
 refine Cm ?_
 refine ZO ?_
 refine Cn h (fun (v5,v6)=>[(0,(O .u64 v5)),(2,(O .i64 v6))]) (fun (v5,v6)=>[]) ?_ ?_
 intro _ h _ _ _
 exact Y
 rintro ⟨v5,v6⟩ _ h
 refine ZS ?_
 refine Cm ?_
 refine ZO ?_
 refine Cn h (fun (v8,v9)=>[(0,(O .u64 v8)),(2,(O .i64 v9))]) (fun (v8,v9)=>[]) ?_ ?_
 intro _ h _ _ _
 exact Y
 rintro ⟨v8,v9⟩ _ h
 exact Y⟩
instance {a0:Int}:OK (Qp a0) fun r=>Ax Tryz.prog 108 [(O .u64) a0] ((O .i64) r):=⟨fun {r} h=>by
 refine pw C0 Tryz.func108 ?_
 exact Y⟩
instance {a0:Int}:OK (Qx a0) fun r=>Ax Tryz.prog 179 [(O .i64) a0] (Aq r):=⟨fun {r} h=>by
 refine pw C0 Tryz.func179 ?_
 exact Y⟩
instance {a0 a1:Int}:OK (Ke a0 a1) fun r=>Ax Tryz.prog 109 [(O .i64) a0,(O .i64) a1] ((O .i64) r):=⟨fun {r} h=>by
 refine pw C0 Tryz.func109 ?_
 exact Y⟩
instance {a0 a1:Bb}:OK (Nk a0 a1) fun r=>Ax Tryz.prog 119 [Dd a0,Dd a1] ((O .i64) r):=⟨fun {r} h=>by
 refine pw C0 Tryz.func119 ?_
 exact Y⟩
instance {a0 a1:Int} {b0:List Bb}:OK (Aap a0 a1 b0) fun r=>Bn Tryz.prog 250 [(.arr 0 b0.length 0 b0.length),(O .i64) a0,(O .i64) a1,(.fn 119 [])] [.rows 86 2 (List.map Dd b0)] (.tup []) [.rows 86 2 (List.map Dd r)]:=⟨fun {r} h=>by
 refine aw C0 true Tryz.func250 ?_
 refine Z ?_
 refine D7 h (fun (v21,o22)=>[(8,(O .i64 v21))]) (fun (v21,o22)=>[(0,.rows 86 2 (List.map Dd o22))]) (fun (v21,o22)=>b0.length=o22.length) ?_
 rintro ⟨v21,o22⟩ _ _ _ h _ _ q22
 refine Z ?_
 refine Ao h (fun _ h=>?_) (fun _ h=>?_)
 refine Z ?_
 refine D7 h (fun (v31,o32)=>[(9,(O .i64 v31))]) (fun (v31,o32)=>[(0,.rows 86 2 (List.map Dd o32))]) (fun (v31,o32)=>b0.length=o32.length) ?_
 rintro ⟨v31,o32⟩ _ _ _ h _ _ q32
 refine Az (Az ?_)
 refine Cn h (fun v36=>[(34,(Aq v36))]) (fun v36=>[]) ?_ ?_
 intro _ h _ _ _
 exact Y
 rintro v36 _ h
 exact Y
 exact Y⟩
instance {a0 a1 a2:Int} {b0:List Bb}:OK (Wk a0 a1 a2 b0) fun r=>Bn Tryz.prog 185 [(.arr 0 b0.length 0 b0.length),(O .i64) a0,(O .i64) a1,(O .i64) a2,(.fn 119 [])] [.rows 86 2 (List.map Dd b0)] (.tup []) [.rows 86 2 (List.map Dd r)]:=⟨fun {r} h=>by
 refine aw C0 true Tryz.func185 ?_
 refine Z ?_
 refine A7 h (fun _=>[(1,(O .i64 a0)),(2,(O .i64 a1)),(3,(O .i64 a2)),(10,(Aq true)),(11,(Aq true))]) (fun _=>[]) ?_
 rintro _ _ _ _ h _ _
 refine Z ?_
 refine Ao h (fun _ h=>?_) (fun _ h=>?_)
 refine Z ?_
 refine A9 [0] h (fun _ h=>?_)
 refine C3 h (fun v2 hgv2 h=>?_)
 exact Y
 exact Y⟩
theorem Axc {b0:List Bb} {r:(List Bb)} (h:Aff b0=some r):Bn Tryz.prog 118 [(.arr 0 b0.length 0 b0.length),(.fn 119 [])] [.rows 86 2 (List.map Dd b0)] (.tup []) [.rows 86 2 (List.map Dd r)]:=by
 refine aw C0 true Tryz.func118 ?_
 refine Z ?_
 refine Bh h (fun _ h=>?_)
 refine Z ?_
 refine A9 [0] h (fun _ h=>?_)
 refine C3 h (fun v3 hgv3 h=>?_)
 exact Y
instance {b0:List Bb}:OK (Tc b0) fun r=>Bn Tryz.prog 118 [(.arr 0 b0.length 0 b0.length),(.fn 119 [])] [.rows 86 2 (List.map Dd b0)] (.tup []) [.rows 86 2 (List.map Dd r)]:=⟨fun {r} h=>by
 unfold Tc at h
 cases hb:Nat.ble b0.length 12 with
 | true=>rw [hb] at h; exact Axc h
 | false=>rw [hb] at h; exact Aw2 (eA:=Dd) (cmp:=Nk) (g:=119) (enters_of Tryz.func119 (by kernel_rfl) rfl) (fun x y n h=>(OK.ok h :)) (fun x=>⟨_,rfl⟩) h (by rintro rfl; cases hb)⟩
instance {a0:Int} {a1:List Bb}:OK (S7 a0 a1) fun r=>Ax Tryz.prog 62 [(O .i64) a0,(As 2 Dd) a1] (.tup [Gm r.1,(O .i64) r.2]):=⟨fun {r} h=>by
 refine pw {T:=Cb,an:=(fun _=>.ask),nl:=(fun s=>bif Nat.beq s 63 then [(1,2)] else bif Nat.beq s 55 then [(0,2)] else [])} Tryz.func62 ?_
 refine ZS ?_
 refine Cm ?_
 refine ZS ?_
 refine Cm ?_
 refine ZO ?_
 refine Az ?_
 refine Dr [.own 6 1 86 2] ?_
 refine Z ?_
 refine A9 [] h (fun _ h=>?_)
 refine Z ?_
 refine A9 [4] h (fun _ h=>?_)
 refine C3 h (fun v8 hgv8 h=>?_)
 refine Z ?_
 refine A7 h (fun (v37,o38)=>[(8,(O .i64 v37))]) (fun (v37,o38)=>[(1,.cells 24 [(O .i64 a0),(.arr 2 o38.length 0 o38.length)]),(2,.rows 86 2 (List.map Dd o38))]) ?_
 rintro ⟨v37,o38⟩ _ _ _ h _ _
 refine Z ?_
 refine Ao h (fun _ h=>?_) (fun _ h=>?_)
 refine Z ?_
 refine Gx h (fun _ v39 _ _ h=>?_)
 refine Z ?_
 refine A7 h (fun (v44,v45)=>[(8,(O .i64 v44))]) (fun (v44,v45)=>[(5,.cells 86 [(O .i64 v39.Var),(O .i64 v45)])]) ?_
 rintro ⟨v44,v45⟩ _ _ _ h _ _
 refine Az (Az ?_)
 refine Cn h (fun v47=>[(39,(Aq v47))]) (fun v47=>[]) ?_ ?_
 intro _ h _ _ _
 exact Y
 rintro v47 _ h
 exact Y
 replace h:=Ck h
 refine Gc (Gb rfl (Az (Az ?_)))
 refine Dr [.fzc 6 1] ?_
 exact Y⟩
instance {a0:Int}:OK (Aac a0) fun r=>Bn Tryz.prog 120 [(.val (.slice none 0 0)),(O .i64) a0] [] (.arr 0 r.length 0 r.length) [.rows 86 2 (List.map Dd r)]:=⟨fun {r} h=>by
 exact Aw5 h⟩
instance {a0:List (List Bb)}:OK (Vu a0) fun r=>Ax Tryz.prog 63 [(As 1 (As 2 Dd)) a0] ((As 2 Dd) r):=⟨fun {r} h=>by
 refine pw {T:=Cb,an:=(fun _=>.ask),nl:=(fun s=>bif Nat.beq s 2 then [(0,2)] else [])} Tryz.func63 ?_
 refine Z ?_
 refine A7 h (fun (v2,v3)=>[(3,(O .i64 v2)),(11,(O .i64 v3))]) (fun (v2,v3)=>[]) ?_
 rintro ⟨v2,v3⟩ _ _ _ h _ _
 refine Z ?_
 refine Ao h (fun _ h=>?_) (fun _ h=>?_)
 exact Y
 replace h:=Ck h
 refine Z ?_
 refine A9 [] h (fun _ h=>?_)
 refine Z ?_
 refine A7 h (fun (v14,o15)=>[(6,(.arr 0 o15.length 0 o15.length)),(27,(O .i64 v14))]) (fun (v14,o15)=>[(0,.rows 86 2 (List.map Dd o15))]) ?_
 rintro ⟨v14,o15⟩ _ _ _ h _ _
 exact Y⟩
instance {a0 a1:Be}:OK (K2 a0 a1) fun r=>Ax Tryz.prog 31 [Gm a0,Gm a1] (.tup [Gm r.1,(O .i64) r.2]):=⟨fun {r} h=>by
 refine pw {T:=Cb,an:=(fun _=>.ask),nl:=(fun s=>bif Nat.beq s 14 then [(1,2)] else [])} Tryz.func31 ?_
 refine ZS ?_
 refine Cm ?_
 refine ZO ?_
 refine Az (Az ?_)
 refine Cn h (fun v6=>[(13,(Aq v6))]) (fun v6=>[]) ?_ ?_
 intro _ h _ _ _
 exact Y
 rintro v6 _ h
 exact Y⟩
instance {a0:List Bb} {a1:Int}:OK (Vv a0 a1) fun r=>Ax Tryz.prog 64 [(As 2 Dd) a0,(O .i64) a1] ((As 2 Dd) r):=⟨fun {r} h=>by
 refine pw {T:=Cb,an:=(fun _=>.ask),nl:=(fun s=>bif Nat.beq s 4 then [(0,2)] else [])} Tryz.func64 ?_
 refine Z ?_
 refine A9 [] h (fun v1 h=>?_)
 refine Z ?_
 refine D7 h (fun (v6,o7)=>[(11,(O .i64 v6))]) (fun (v6,o7)=>[(1,.rows 86 2 (List.map Dd o7))]) (fun (v6,o7)=>v1.2.length=o7.length) ?_
 rintro ⟨v6,o7⟩ _ _ _ h _ _ q7
 refine Z ?_
 refine Ao h (fun _ h=>?_) (fun _ h=>?_)
 refine Z ?_
 refine Gx h (fun _ v8 _ _ h=>?_)
 refine Z ?_
 refine Gx h (fun _ v9 hiv9 _ h=>?_)
 refine Z ?_
 refine K0 (f:=Dd) (x:=(Bb.mk v9.Var (Ac (v8.Coef*a1)))) (j:=v6) rfl rfl (Nat.zero_add _) hiv9 ?_
 exact Y
 exact Y⟩
instance {a0 a1:Be}:OK (Lq a0 a1) fun r=>Ax Tryz.prog 32 [Gm a0,Gm a1] (.tup [Gm r.1,(O .i64) r.2]):=⟨fun {r} h=>by
 refine pw {T:=Cb,an:=(fun _=>.ask),nl:=(fun s=>bif Nat.beq s 14 then [(1,2)] else [])} Tryz.func32 ?_
 refine ZS ?_
 refine Cm ?_
 refine ZO ?_
 refine Az (Az ?_)
 refine Cn h (fun v6=>[(13,(Aq v6))]) (fun v6=>[]) ?_ ?_
 intro _ h _ _ _
 exact Y
 rintro v6 _ h
 exact Y⟩
instance {a0:Gn}:OK (Lp a0) fun r=>Ax Tryz.prog 14 [Ms a0] (Aq r):=⟨fun {r} h=>by
 refine pw C0 Tryz.func14 ?_
 refine ZS ?_
 refine Cm ?_
 refine ZO ?_
 refine Az (Az ?_)
 refine Cn h (fun v4=>[(26,(Aq v4))]) (fun v4=>[]) ?_ ?_
 intro _ h _ _ _
 exact Y
 rintro v4 _ h
 exact Y⟩
instance {a0:List Ap}:OK (Ae3 a0) fun r=>Ax Tryz.prog 94 [Rj (Jg.mk a0 [] [] [])] (Aq r):=⟨fun {r} h=>by
 refine pw C0 Tryz.func94 ?_
 refine Z ?_
 refine Hf h (fun _ h=>?_)
 refine Z ?_
 refine A7 h (fun _=>[(2,(Aq false)),(20,(O .i64 0))]) (fun _=>[]) ?_
 rintro _ _ _ _ h _ _
 replace h:=Ck h
 refine Z ?_
 refine A7 h (fun _=>[(2,(Aq false)),(40,(O .i64 0))]) (fun _=>[]) ?_
 rintro _ _ _ _ h _ _
 exact Y⟩
instance {a0:List Ap}:OK (Ae1 a0) fun r=>Ax Tryz.prog 92 [Rj (Jg.mk a0 [] [] [])] (Aq r):=⟨fun {r} h=>by
 refine pw C0 Tryz.func92 ?_
 refine Z ?_
 refine A7 h (fun _=>[(2,(Aq false)),(4,(Aq false)),(21,(O .i64 0))]) (fun _=>[]) ?_
 rintro _ _ _ _ h _ _
 exact Y⟩
instance {a0:Int}:OK (Wu a0) fun r=>Ax Tryz.prog 274 [(O .u8) a0] (Aq r):=⟨fun {r} h=>by
 refine pw C0 Tryz.func274 ?_
 exact Y⟩
instance {a0:ByteArray}:OK (Wz a0) fun r=>Ax Tryz.prog 310 [Fe a0] (Aq r):=⟨fun {r} h=>by
 refine pw C0 Tryz.func310 ?_
 exact Y⟩
instance {a0:Int}:OK (Oy a0) fun r=>Ax Tryz.prog 311 [(O .u8) a0] (Aq r):=⟨fun {r} h=>by
 refine pw C0 Tryz.func311 ?_
 exact Y⟩
instance {a0:Int}:OK (Tx a0) fun r=>Ax Tryz.prog 306 [(O .u8) a0] (Aq r):=⟨fun {r} h=>by
 refine pw C0 Tryz.func306 ?_
 exact Y⟩
instance {a0:Int}:OK (Rf a0) fun r=>Ax Tryz.prog 307 [(O .u8) a0] (Aq r):=⟨fun {r} h=>by
 refine pw C0 Tryz.func307 ?_
 exact Y⟩
instance {a0:Int}:OK (Ty a0) fun r=>Ax Tryz.prog 309 [(O .u8) a0] (Aq r):=⟨fun {r} h=>by
 refine pw C0 Tryz.func309 ?_
 exact Y⟩
instance {a0:ByteArray}:OK (Wy a0) fun r=>Ax Tryz.prog 308 [Fe a0,(.fn 309 [])] (Fe r):=⟨fun {r} h=>by
 refine pw C0 Tryz.func308 ?_
 refine Z ?_
 refine A7 h (fun v3=>[(5,(O .i64 v3))]) (fun v3=>[]) ?_
 rintro v3 _ _ _ h _ _
 exact Y⟩
instance {a0:ByteArray}:OK (Aax a0) fun r=>Ax Tryz.prog 308 [Fe a0,(.fn 311 [])] (Fe r):=⟨fun {r} h=>by
 refine pw C0 Tryz.func308 ?_
 refine Z ?_
 refine A7 h (fun v3=>[(5,(O .i64 v3))]) (fun v3=>[]) ?_
 rintro v3 _ _ _ h _ _
 exact Y⟩
instance {a0:ByteArray}:OK (W1 a0) fun r=>Ax Tryz.prog 313 [Fe a0] (Fe r):=⟨fun {r} h=>by
 refine pw C0 Tryz.func313 ?_
 refine ZS ?_
 refine Cm ?_
 refine ZS ?_
 refine Cm ?_
 refine ZO ?_
 refine Afm (fun (x:Unit)=>(.inr x)) h (fun _=>[(2,(Fe (ByteArray.mk #[])))]) (fun _=>[]) ?_ ?_
 intro _ h _ _ _
 exact Y
 rintro _ _ h
 exact Y⟩
instance {a0:ByteArray}:OK (W0 a0) fun r=>Ax Tryz.prog 312 [Fe a0] (Aq r):=⟨fun {r} h=>by
 refine pw C0 Tryz.func312 ?_
 refine Z ?_
 refine A7 h (fun (v2,v3)=>[(2,(Aq false)),(3,(O .i64 v2)),(7,(O .i64 v3))]) (fun (v2,v3)=>[]) ?_
 rintro ⟨v2,v3⟩ _ _ _ h _ _
 exact Y⟩
instance {a0:ByteArray} {a1:Int}:OK (Wv a0 a1) fun r=>Ax Tryz.prog 275 [Fe a0,(O .i64) a1] (.tup [Aaw r.1,(O .i64) r.2]):=⟨fun {r} h=>by
 refine pw C0 Tryz.func275 ?_
 refine Z ?_
 refine Vl h (fun _ h=>?_)
 refine ZO ?_
 refine K1 (Az ?_)
 refine Cn h (fun v6=>[(23,(Aq v6))]) (fun v6=>[]) ?_ ?_
 intro _ h _ _ _
 exact Y
 rintro v6 _ h
 refine Ao h (fun _ h=>?_) (fun _ h=>?_)
 exact Y
 refine Z ?_
 refine Bh h (fun _ h=>?_)
 refine Z ?_
 refine Ao h (fun _ h=>?_) (fun _ h=>?_)
 refine Z ?_
 refine Aes h (fun _ _ _ _ h=>?_)
 refine Z ?_
 refine Bh h (fun _ h=>?_)
 refine ZO ?_
 refine Az (Az ?_)
 refine Cn h (fun v14=>[(67,(Aq v14))]) (fun v14=>[]) ?_ ?_
 intro _ h _ _ _
 exact Y
 rintro v14 _ h
 exact Y
 exact Y⟩
instance {a0:ByteArray}:OK (Aan a0) fun r=>Ax Tryz.prog 227 [Fe a0] (.tup [(As 3 Aaw) r.1,(O .i64) r.2.1,(O .i64) r.2.2]):=⟨fun {r} h=>by
 refine pw {T:=Cb,an:=(fun s=>bif Nat.beq s 5 then .own else .ask),nl:=(fun s=>bif Nat.beq s 5 then [(0,3)] else bif Nat.beq s 2 then [(0,3)] else [])} Tryz.func227 ?_
 refine Z ?_
 refine Ao h (fun _ h=>?_) (fun _ h=>?_)
 exact Y
 refine Z ?_
 refine A7 h (fun (v26,o27)=>[(2,(.sl 3 (List.map Aaw []))),(3,(O .i64 0)),(4,(O .i64 0)),(5,(.arr 0 o27.length 0 o27.length)),(6,(O .i64 v26))]) (fun (v26,o27)=>[(0,.rows 303 3 (List.map Aaw o27))]) ?_
 rintro ⟨v26,o27⟩ _ _ _ h _ _
 refine Z ?_
 refine Ao h (fun _ h=>?_) (fun _ h=>?_)
 refine Z ?_
 refine Vl h (fun _ h=>?_)
 refine Z ?_
 refine Bh h (fun _ h=>?_)
 refine Z ?_
 refine Ao h (fun _ h=>?_) (fun _ h=>?_)
 exact Y
 refine Z ?_
 refine Vl h (fun _ h=>?_)
 refine Z ?_
 refine Ao h (fun _ h=>?_) (fun _ h=>?_)
 refine Z ?_
 refine A7 h (fun v32=>[(6,(O .i64 v32))]) (fun v32=>[]) ?_
 rintro v32 _ _ _ h _ _
 exact Y
 exact Y
 exact Y⟩
instance {a0:ByteArray}:OK (Qu a0) fun r=>Ax Tryz.prog 150 [Fe a0] (Aq r):=⟨fun {r} h=>by
 refine pw C0 Tryz.func150 ?_
 exact Y⟩
abbrev Alq (k:Nat):Prop:=∀{a0:Ah} {a1:Int},OK (Q7 k a0 a1) fun r=>Ax Tryz.prog 228 [E4 a0,(O .i64) a1] (Aq r)
abbrev Alr (k:Nat):Prop:=∀{a0:Ah} {b0:Int},OK (Ww k a0 b0) fun r=>Bn Tryz.prog 276 [E4 a0,(.loc 0 0)] [.cells 3 [(O .i64 b0)]] (Aq r) [.cells 3 [(O .i64 b0)]]
abbrev Als (k:Nat):Prop:=∀{a0:List Ah} {b0:Int},OK (Tz k a0 b0) fun r=>Bn Tryz.prog 152 [(Fz 3 Bk) a0,(.fn 276 [(.loc 0 0)])] [.cells 3 [(O .i64 b0)]] (Aq r) [.cells 3 [(O .i64 b0)]]
abbrev Alt (k:Nat):Prop:=∀{a0:List Ah} {b0:Int},OK (Aay k a0 b0) fun r=>Bn Tryz.prog 229 [(Fz 3 Bk) a0,(.fn 276 [(.loc 0 0)])] [.cells 3 [(O .i64 b0)]] ((O .i64) r) [.cells 3 [(O .i64 b0)]]
theorem Aa7 (k:Nat):Alq k/\Alr k/\Als k/\Alt k:=by
 induction k with
 | zero=>exact ⟨okz,okz,okz,okz⟩
 | succ k ih=>
  obtain ⟨i0_,i1_,i2_,i3_⟩:=ih
  refine ⟨@fun a0 a1=>⟨fun {r} h=>?_⟩,@fun a0 b0=>⟨fun {r} h=>?_⟩,@fun a0 b0=>⟨fun {r} h=>?_⟩,@fun a0 b0=>⟨fun {r} h=>?_⟩⟩
  .unfold Q7 at h
   refine pw C0 Tryz.func228 ?_
   refine Z ?_
   refine Fv h (fun _ h=>?_) (fun _ h=>?_)
   refine Z ?_
   refine Fv h (fun _ h=>?_) (fun _ h=>?_)
   exact Y
   refine Z ?_
   refine A9 [1] h (fun _ h=>?_)
   exact Y
   refine Z ?_
   refine A9 [1] h (fun _ h=>?_)
   exact Y
  .unfold Ww at h
   refine aw C0 true Tryz.func276 ?_
   exact Y
  .unfold Tz at h
   refine aw C0 true Tryz.func152 ?_
   refine Z ?_
   refine A9 [0] h (fun _ h=>?_)
   exact Y
  .unfold Aay at h
   refine aw C0 true Tryz.func229 ?_
   refine Z ?_
   refine A7 h (fun v3=>[(4,(O .i64 0)),(8,(O .i64 v3))]) (fun v3=>[]) ?_
   rintro v3 _ _ _ h _ _
   refine Z ?_
   refine Ao h (fun _ h=>?_) (fun _ h=>?_)
   refine Z ?_
   refine B3 h (fun _ _ _ _ h=>?_)
   refine Z ?_
   refine A9 [0] h (fun _ h=>?_)
   exact Y
   exact Y
instance {k:Nat}:Alq k:=(Aa7 k).1
instance {k:Nat}:Alr k:=(Aa7 k).2.1
instance {k:Nat}:Als k:=(Aa7 k).2.2.1
instance {k:Nat}:Alt k:=(Aa7 k).2.2.2
instance {a0:List Ap} {a1 a2:Int}:OK (Nn a0 a1 a2) fun r=>Ax Tryz.prog 207 [(As 3 Cd) a0,(O .i64) a1,(O .i64) a2] ((As 1 Aq) r):=⟨fun {r} h=>by
 refine pw {T:=Cb,an:=(fun _=>.ask),nl:=(fun s=>bif Nat.beq s 6 then [(0,1)] else [])} Tryz.func207 ?_
 refine ZS ?_
 refine Cm ?_
 refine ZO ?_
 refine Az (Az ?_)
 refine Cn h (fun v2=>[(34,(Aq v2))]) (fun v2=>[]) ?_ ?_
 intro _ h _ _ _
 exact Y
 rintro v2 _ h
 refine Ao h (fun _ h=>?_) (fun _ h=>?_)
 exact Y
 refine Z ?_
 refine B3 h (fun _ _ _ _ h=>?_)
 refine Z ?_
 refine B3 h (fun _ _ _ _ h=>?_)
 refine Z ?_
 refine Hf h (fun o5 h=>?_)
 refine Z ?_
 refine D7 h (fun (v28,o29)=>[(49,(O .i64 v28))]) (fun (v28,o29)=>[(0,.rows 4 1 (List.map Aq o29))]) (fun (v28,o29)=>o5.length=o29.length) ?_
 rintro ⟨v28,o29⟩ _ _ _ h _ _ q29
 refine Z ?_
 refine Ao h (fun _ h=>?_) (fun _ h=>?_)
 refine Z ?_
 refine B3 h (fun _ v30 _ _ h=>?_)
 refine ZO ?_
 refine Az ?_
 refine Akj h (fun o3_ h hj3=>?_)
 refine Sz (fun (o36:(List Bool))=>o36=o3_/\o5.length=o36.length) (fun o36=>[]) (fun o36=>[(0,.rows 4 1 (List.map Aq o36))]) (fun _=>rfl) ?_ ?_
 intro K3 hK3
 refine Z ?_
 refine Fv h (fun _ h=>?_) (fun _ h=>?_)
 refine Z ?_
 refine Fv h (fun _ h=>?_) (fun _ h=>?_)
 refine Z ?_
 refine B3 h (fun _ v32 _ _ h=>?_)
 refine Z ?_
 refine Gx h (fun _ _ hiv33 _ h=>?_)
 refine Z ?_
 refine K0 (f:=Aq) (x:=((v30.Args.length:Int)==v32.Vars)) (j:=v28) rfl rfl (Nat.zero_add _) hiv33 ?_
 refine Z ?_
 exact hK3 (Ca o29 v28 ((v30.Args.length:Int)==v32.Vars)) _ _ _ ⟨(Option.some.inj h),Hm (l:=o29) q29 v28 ((v30.Args.length:Int)==v32.Vars)⟩ trivial ⟨⟨rfl,rfl⟩,⟨rfl,rfl⟩,trivial⟩
 refine Z ?_
 refine Gx h (fun _ _ hiv34 _ h=>?_)
 refine Z ?_
 refine K0 (f:=Aq) (x:=false) (j:=v28) rfl rfl (Nat.zero_add _) hiv34 ?_
 refine Z ?_
 exact hK3 (Ca o29 v28 false) _ _ _ ⟨(Option.some.inj h),Hm (l:=o29) q29 v28 false⟩ trivial ⟨⟨rfl,rfl⟩,⟨rfl,rfl⟩,trivial⟩
 refine Z ?_
 refine Gx h (fun _ _ hiv35 _ h=>?_)
 refine Z ?_
 refine K0 (f:=Aq) (x:=false) (j:=v28) rfl rfl (Nat.zero_add _) hiv35 ?_
 refine Z ?_
 exact hK3 (Ca o29 v28 false) _ _ _ ⟨(Option.some.inj h),Hm (l:=o29) q29 v28 false⟩ trivial ⟨⟨rfl,rfl⟩,⟨rfl,rfl⟩,trivial⟩
 rintro o36 u3 ⟨hJ3,q36⟩
 have h:=hj3 _ hJ3
 refine Z ?_
 refine D7 h (fun (v42,o43)=>[(80,(O .i64 v42))]) (fun (v42,o43)=>[(0,.rows 4 1 (List.map Aq o43))]) (fun (v42,o43)=>o5.length=o43.length) ?_
 rintro ⟨v42,o43⟩ _ _ _ h _ _ q43
 exact Y
 exact Y⟩
abbrev Alu (k:Nat):Prop:=∀{a0:List Ah} {b1:F0},OK (T0 k a0 b1) fun r=>Bn Tryz.prog 152 [(Fz 3 Bk) a0,(.fn 160 [(.loc 0 0)])] [.cells 156 [(.loc 1 0)],.cells 158 [(.sl 3 (List.map Cd b1.data)),(O .i64 b1.vars),(O .i64 b1.left)]] (Aq r.1) [.cells 156 [(.loc 1 0)],.cells 158 [(.sl 3 (List.map Cd r.2.data)),(O .i64 r.2.vars),(O .i64 r.2.left)]]
abbrev Alv (k:Nat):Prop:=∀{a0:List Ah} {b1:F0},OK (W4 k a0 b1) fun r=>Bn Tryz.prog 229 [(Fz 3 Bk) a0,(.fn 160 [(.loc 0 0)])] [.cells 156 [(.loc 1 0)],.cells 158 [(.sl 3 (List.map Cd b1.data)),(O .i64 b1.vars),(O .i64 b1.left)]] ((O .i64) r.1) [.cells 156 [(.loc 1 0)],.cells 158 [(.sl 3 (List.map Cd r.2.data)),(O .i64 r.2.vars),(O .i64 r.2.left)]]
abbrev Alw (k:Nat):Prop:=∀{a0:Ah} {b0:F0},OK (Lu k a0 b0) fun r=>Bn Tryz.prog 97 [(.loc 0 0),E4 a0] [.cells 158 [(.sl 3 (List.map Cd b0.data)),(O .i64 b0.vars),(O .i64 b0.left)]] (Aq r.1) [.cells 158 [(.sl 3 (List.map Cd r.2.data)),(O .i64 r.2.vars),(O .i64 r.2.left)]]
abbrev Alx (k:Nat):Prop:=∀{a0:Ah} {b1:F0},OK (Wd k a0 b1) fun r=>Bn Tryz.prog 160 [E4 a0,(.loc 0 0)] [.cells 156 [(.loc 1 0)],.cells 158 [(.sl 3 (List.map Cd b1.data)),(O .i64 b1.vars),(O .i64 b1.left)]] (Aq r.1) [.cells 156 [(.loc 1 0)],.cells 158 [(.sl 3 (List.map Cd r.2.data)),(O .i64 r.2.vars),(O .i64 r.2.left)]]
theorem Aa8 (k:Nat):Alu k/\Alv k/\Alw k/\Alx k:=by
 induction k with
 | zero=>exact ⟨okz,okz,okz,okz⟩
 | succ k ih=>
  obtain ⟨i0_,i1_,i2_,i3_⟩:=ih
  refine ⟨@fun a0 b1=>⟨fun {r} h=>?_⟩,@fun a0 b1=>⟨fun {r} h=>?_⟩,@fun a0 b0=>⟨fun {r} h=>?_⟩,@fun a0 b1=>⟨fun {r} h=>?_⟩⟩
  .unfold T0 at h
   refine aw C0 true Tryz.func152 ?_
   refine Z ?_
   refine A9 [0,1] h (fun _ h=>?_)
   exact Y
  .unfold W4 at h
   refine aw C0 true Tryz.func229 ?_
   refine Z ?_
   refine A7 h (fun (v3,v4,v5,v6)=>[(4,(O .i64 0)),(8,(O .i64 v3))]) (fun (v3,v4,v5,v6)=>[(1,.cells 158 [(.sl 3 (List.map Cd v4)),(O .i64 v5),(O .i64 v6)])]) ?_
   rintro ⟨v3,v4,v5,v6⟩ _ _ _ h _ _
   refine Z ?_
   refine Ao h (fun _ h=>?_) (fun _ h=>?_)
   refine Z ?_
   refine B3 h (fun _ _ _ _ h=>?_)
   refine Z ?_
   refine A9 [0,1] h (fun _ h=>?_)
   exact Y
   exact Y
  .unfold Lu at h
   refine aw C0 true Tryz.func97 ?_
   refine Z ?_
   refine Ao h (fun _ h=>?_) (fun _ h=>?_)
   exact Y
   refine ZS ?_
   refine Cm ?_
   refine ZS ?_
   refine Cm ?_
   refine ZO ?_
   refine Afm (fun (x:(Int×Int))=>(.inl x)) h (fun (v8,v9)=>[(4,(Aq false)),(5,(O .i64 v8)),(6,(O .i64 v9))]) (fun (v8,v9)=>[]) ?_ ?_
   intro _ h _ _ _
   refine ZS ?_
   refine Cm ?_
   refine ZO ?_
   refine Cn h (fun v3=>[(21,(Aq v3))]) (fun v3=>[]) ?_ ?_
   intro _ h _ _ _
   exact Y
   rintro v3 _ h
   refine Ao h (fun _ h=>?_) (fun _ h=>?_)
   exact Y
   refine Z ?_
   refine Ao h (fun _ h=>?_) (fun _ h=>?_)
   exact Y
   refine Z ?_
   refine Ao h (fun _ h=>?_) (fun _ h=>?_)
   refine Az (Az ?_)
   refine Cn h (fun v4=>[(53,(Aq v4))]) (fun v4=>[]) ?_ ?_
   intro _ h _ _ _
   exact Y
   rintro v4 _ h
   exact Y
   refine Z ?_
   refine Ao h (fun _ h=>?_) (fun _ h=>?_)
   exact Y
   refine ZS ?_
   refine Cm ?_
   refine ZO ?_
   refine Cn h (fun v7=>[(74,(Aq v7))]) (fun v7=>[]) ?_ ?_
   intro _ h _ _ _
   exact Y
   rintro v7 _ h
   exact Y
   rintro ⟨v8,v9⟩ _ h
   refine Az (Az ?_)
   refine Cn h (fun v10=>[(91,(Aq v10))]) (fun v10=>[]) ?_ ?_
   intro _ h _ _ _
   exact Y
   rintro v10 _ h
   refine Ao h (fun _ h=>?_) (fun _ h=>?_)
   exact Y
   refine Jt (Az (Az ?_))
   refine Cn h (fun v11=>[(103,(Aq v11))]) (fun v11=>[]) ?_ ?_
   intro _ h _ _ _
   exact Y
   rintro v11 _ h
   refine Ao h (fun _ h=>?_) (fun _ h=>?_)
   exact Y
   refine Z ?_
   refine A9 [1,0] h (fun _ h=>?_)
   exact Y
  .unfold Wd at h
   refine aw C0 true Tryz.func160 ?_
   refine Z ?_
   refine A9 [1] h (fun _ h=>?_)
   exact Y
instance {k:Nat}:Alu k:=(Aa8 k).1
instance {k:Nat}:Alv k:=(Aa8 k).2.1
instance {k:Nat}:Alw k:=(Aa8 k).2.2.1
instance {k:Nat}:Alx k:=(Aa8 k).2.2.2
instance {a0:List Ap} {a1:Ah} {a2:Int}:OK (Mk a0 a1 a2) fun r=>Ax Tryz.prog 52 [(As 3 Cd) a0,E4 a1,(O .i64) a2] (Aq r):=⟨fun {r} h=>by
 refine pw C0 Tryz.func52 ?_
 refine Z ?_
 refine A9 [1] h (fun _ h=>?_)
 exact Y⟩
instance {a0:List Ap} {a1 a2:Int}:OK (Oo a0 a1 a2) fun r=>Ax Tryz.prog 151 [(As 3 Cd) a0,(O .i64) a1,(O .i64) a2] (Aq r):=⟨fun {r} h=>by
 refine pw C0 Tryz.func151 ?_
 refine Z ?_
 refine B3 h (fun _ _ _ _ h=>?_)
 refine Z ?_
 refine B3 h (fun _ _ _ _ h=>?_)
 refine Z ?_
 refine Ao h (fun _ h=>?_) (fun _ h=>?_)
 exact Y
 refine Z ?_
 refine Bh h (fun _ h=>?_)
 refine Z ?_
 refine A7 h (fun v11=>[(6,(Aq false)),(29,(O .i64 v11))]) (fun v11=>[]) ?_
 rintro v11 _ _ _ h _ _
 exact Y⟩
instance {a0:List Ap}:OK (V1 a0) fun r=>Ax Tryz.prog 90 [(As 3 Cd) a0] (Aq r):=⟨fun {r} h=>by
 refine pw C0 Tryz.func90 ?_
 refine Z ?_
 refine Ao h (fun _ h=>?_) (fun _ h=>?_)
 exact Y
 refine Z ?_
 refine A7 h (fun (v31,o32,o33)=>[(2,(Aq false)),(15,(O .i64 v31))]) (fun (v31,o32,o33)=>[(0,.map (Bm Aq o32)),(1,.map (Bm Aq o33))]) ?_
 rintro ⟨v31,o32,o33⟩ _ _ _ h _ _
 refine Z ?_
 refine Ao h (fun _ h=>?_) (fun _ h=>?_)
 refine ZS ?_
 refine Cm ?_
 refine ZO ?_
 refine Az (Az ?_)
 refine Cn h (fun v41=>[(49,(Aq v41))]) (fun v41=>[]) ?_ ?_
 intro _ h _ _ _
 refine Z ?_
 refine B3 h (fun _ _ _ _ h=>?_)
 refine Z ?_
 refine Bh h (fun _ h=>?_)
 refine Z ?_
 refine Fv h (fun _ h=>?_) (fun _ h=>?_)
 exact Y
 refine Z ?_
 refine B3 h (fun _ _ _ _ h=>?_)
 refine Z ?_
 refine Zy (f:=Aq) (l:=o32) rfl (false:Bool) h (fun j_ hb h=>?_) (fun hb h=>?_)
 exact Y
 exact Y
 rintro v41 _ h
 refine Ao h (fun _ h=>?_) (fun _ h=>?_)
 exact Y
 refine Z ?_
 refine B3 h (fun _ _ _ _ h=>?_)
 refine Z ?_
 refine Vj (f:=Aq) (l:=o32) (x:=true) rfl rfl ?_
 refine ZO ?_
 refine Az (Az ?_)
 refine Cn h (fun v45=>[(71,(Aq v45))]) (fun v45=>[]) ?_ ?_
 intro _ h _ _ _
 exact Y
 rintro v45 _ h
 refine Ao h (fun _ h=>?_) (fun _ h=>?_)
 exact Y
 refine Z ?_
 refine B3 h (fun _ _ _ _ h=>?_)
 refine Z ?_
 refine A7 h (fun (v52,o53)=>[(2,(Aq false)),(78,(O .i64 v52))]) (fun (v52,o53)=>[(1,.map (Bm Aq o53))]) ?_
 rintro ⟨v52,o53⟩ _ _ _ h _ _
 refine Z ?_
 refine Ao h (fun _ h=>?_) (fun _ h=>?_)
 refine Z ?_
 refine B3 h (fun _ _ _ _ h=>?_)
 refine Z ?_
 refine Bh h (fun _ h=>?_)
 refine Z ?_
 refine Fv h (fun _ h=>?_) (fun _ h=>?_)
 exact Y
 refine Z ?_
 refine Zy (f:=Aq) (l:=o53) rfl (false:Bool) h (fun j_ hb h=>?_) (fun hb h=>?_)
 refine Z ?_
 refine Fv h (fun _ h=>?_) (fun _ h=>?_)
 exact Y
 refine Z ?_
 refine Bh h (fun _ h=>?_)
 refine Z ?_
 refine Ao h (fun _ h=>?_) (fun _ h=>?_)
 exact Y
 refine Z ?_
 refine Vj (f:=Aq) (l:=o53) (x:=true) rfl rfl ?_
 exact Y
 refine Z ?_
 refine Bh h (fun _ h=>?_)
 refine Z ?_
 refine Ao h (fun _ h=>?_) (fun _ h=>?_)
 exact Y
 refine Z ?_
 refine Vj (f:=Aq) (l:=o53) (x:=true) rfl rfl ?_
 exact Y
 exact Y
 exact Y⟩
instance {a0:List Ap}:OK (Ae5 a0) fun r=>Ax Tryz.prog 96 [Rj (Jg.mk a0 [] [] [])] (Aq r):=⟨fun {r} h=>by
 refine pw C0 Tryz.func96 ?_
 refine Z ?_
 refine Hf h (fun _ h=>?_)
 refine Z ?_
 refine A7 h (fun _=>[(2,(Aq false)),(18,(O .i64 0))]) (fun _=>[]) ?_
 rintro _ _ _ _ h _ _
 replace h:=Ck h
 refine Z ?_
 refine A7 h (fun _=>[(2,(Aq false)),(30,(O .i64 0))]) (fun _=>[]) ?_
 rintro _ _ _ _ h _ _
 exact Y⟩
instance {a0:List Ap}:OK (Ae4 a0) fun r=>Ax Tryz.prog 95 [Rj (Jg.mk a0 [] [] [])] (Aq r):=⟨fun {r} h=>by
 refine pw C0 Tryz.func95 ?_
 refine Z ?_
 refine Hf h (fun _ h=>?_)
 refine Z ?_
 refine A7 h (fun _=>[(2,(Aq false)),(17,(O .i64 0))]) (fun _=>[]) ?_
 rintro _ _ _ _ h _ _
 exact Y⟩
instance {a0:List Ap}:OK (Ae2 a0) fun r=>Ax Tryz.prog 93 [Rj (Jg.mk a0 [] [] [])] (Aq r):=⟨fun {r} h=>by
 refine pw C0 Tryz.func93 ?_
 refine Z ?_
 refine Hf h (fun _ h=>?_)
 refine Z ?_
 refine A7 h (fun _=>[(2,(Aq false)),(20,(O .i64 0))]) (fun _=>[]) ?_
 rintro _ _ _ _ h _ _
 replace h:=Ck h
 refine Z ?_
 refine A7 h (fun _=>[(2,(Aq false)),(33,(O .i64 0))]) (fun _=>[]) ?_
 rintro _ _ _ _ h _ _
 exact Y⟩
instance {a0:Ah} {b0:Jg}:OK (Ae8 a0 b0) fun r=>Bn Tryz.prog 153 [E4 a0,(.loc 0 0)] [.cells 114 [(.sl 3 (List.map Cd b0.Data)),(.sl 7 (List.map Rh b0.Codes)),(.sl 3 (Bk b0.Vars)),(.sl 8 (List.map Ri b0.Exprs))]] (Aq r) [.cells 114 [(.sl 3 (List.map Cd b0.Data)),(.sl 7 (List.map Rh b0.Codes)),(.sl 3 (Bk b0.Vars)),(.sl 8 (List.map Ri b0.Exprs))]]:=⟨fun {r} h=>by
 refine aw C0 true Tryz.func153 ?_
 exact Y⟩
instance {a0:List Ah} {b0:Jg}:OK (Afb a0 b0) fun r=>Bn Tryz.prog 229 [(Fz 3 Bk) a0,(.fn 153 [(.loc 0 0)])] [.cells 114 [(.sl 3 (List.map Cd b0.Data)),(.sl 7 (List.map Rh b0.Codes)),(.sl 3 (Bk b0.Vars)),(.sl 8 (List.map Ri b0.Exprs))]] ((O .i64) r) [.cells 114 [(.sl 3 (List.map Cd b0.Data)),(.sl 7 (List.map Rh b0.Codes)),(.sl 3 (Bk b0.Vars)),(.sl 8 (List.map Ri b0.Exprs))]]:=⟨fun {r} h=>by
 refine aw C0 true Tryz.func229 ?_
 refine Z ?_
 refine A7 h (fun v3=>[(4,(O .i64 0)),(8,(O .i64 v3))]) (fun v3=>[]) ?_
 rintro v3 _ _ _ h _ _
 refine Z ?_
 refine Ao h (fun _ h=>?_) (fun _ h=>?_)
 refine Z ?_
 refine B3 h (fun _ _ _ _ h=>?_)
 refine Z ?_
 refine A9 [0] h (fun _ h=>?_)
 exact Y
 exact Y⟩
instance {a0:List Ah} {b0:Jg}:OK (Ae7 a0 b0) fun r=>Bn Tryz.prog 152 [(Fz 3 Bk) a0,(.fn 153 [(.loc 0 0)])] [.cells 114 [(.sl 3 (List.map Cd b0.Data)),(.sl 7 (List.map Rh b0.Codes)),(.sl 3 (Bk b0.Vars)),(.sl 8 (List.map Ri b0.Exprs))]] (Aq r) [.cells 114 [(.sl 3 (List.map Cd b0.Data)),(.sl 7 (List.map Rh b0.Codes)),(.sl 3 (Bk b0.Vars)),(.sl 8 (List.map Ri b0.Exprs))]]:=⟨fun {r} h=>by
 refine aw C0 true Tryz.func152 ?_
 refine Z ?_
 refine A9 [0] h (fun _ h=>?_)
 exact Y⟩
instance {a0:List Ap}:OK (Ae0 a0) fun r=>Ax Tryz.prog 91 [Rj (Jg.mk a0 [] [] [])] (Aq r):=⟨fun {r} h=>by
 refine pw C0 Tryz.func91 ?_
 refine Z ?_
 refine A9 [0] h (fun _ h=>?_)
 exact Y⟩
instance {a0:List Ap}:OK (Qi a0) fun r=>Ax Tryz.prog 51 [Rj (Jg.mk a0 [] [] [])] (Aq r):=⟨fun {r} h=>by
 refine pw C0 Tryz.func51 ?_
 exact Y⟩
instance {a0:List Int}:OK (Mo a0) fun r=>Ax Tryz.prog 112 [(As 1 (O .i64)) a0] ((O .i64) r):=⟨fun {r} h=>by
 refine pw C0 Tryz.func112 ?_
 refine Z ?_
 refine A7 h (fun v2=>[(2,(O .i64 0)),(8,(O .i64 v2))]) (fun v2=>[]) ?_
 rintro v2 _ _ _ h _ _
 exact Y⟩
instance {a0:Int}:OK (Aao a0) fun r=>Ax Tryz.prog 249 [(O .i64) a0] (Aq r):=⟨fun {r} h=>by
 refine pw C0 Tryz.func249 ?_
 exact Y⟩
instance {a0 a1:Int}:OK (Wj a0 a1) fun r=>Ax Tryz.prog 183 [(O .i64) a0,(O .i64) a1] ((O .i64) r):=⟨fun {r} h=>by
 refine pw C0 Tryz.func183 ?_
 exact Y⟩
instance {a0 a1:Bb}:OK (Wi a0 a1) fun r=>Ax Tryz.prog 182 [Dd a0,Dd a1] ((O .i64) r):=⟨fun {r} h=>by
 refine pw C0 Tryz.func182 ?_
 exact Y⟩
end Go.Ab
namespace Go.Ab
open Go Go.Proofs
set_option maxRecDepth 10000
set_option maxHeartbeats 4000000
set_option linter.unusedVariables false
instance {a0 a1:List Bb}:OK (Aai a0 a1) fun r=>Ax Tryz.prog 181 [(As 2 Dd) a0,(As 2 Dd) a1,(.fn 182 [])] ((O .i64) r):=⟨fun {r} h=>by
 refine pw C0 Tryz.func181 ?_
 refine Z ?_
 refine A7 h (fun v6=>[(6,(O .i64 0)),(13,(O .i64 v6))]) (fun v6=>[]) ?_
 rintro v6 _ _ _ h _ _
 exact Y⟩
instance {a0 a1:Be}:OK (K6 a0 a1) fun r=>Ax Tryz.prog 116 [Gm a0,Gm a1] ((O .i64) r):=⟨fun {r} h=>by
 refine pw C0 Tryz.func116 ?_
 exact Y⟩
instance {a0 a1:Ba}:OK (V5 a0 a1) fun r=>Ax Tryz.prog 115 [Ev a0,Ev a1] ((O .i64) r):=⟨fun {r} h=>by
 refine pw C0 Tryz.func115 ?_
 exact Y⟩
instance {a0 a1:List Ba}:OK (Aab a0 a1) fun r=>Ax Tryz.prog 114 [(As 3 Ev) a0,(As 3 Ev) a1,(.fn 115 [])] ((O .i64) r):=⟨fun {r} h=>by
 refine pw C0 Tryz.func114 ?_
 refine Z ?_
 refine A7 h (fun v6=>[(6,(O .i64 0)),(13,(O .i64 v6))]) (fun v6=>[]) ?_
 rintro v6 _ _ _ h _ _
 exact Y⟩
abbrev Aly (k:Nat):Prop:=∀{a0 a1:Bc},OK (Oj k a0 a1) fun r=>Ax Tryz.prog 113 [Hw a0,Hw a1] ((O .i64) r)
abbrev Alz (k:Nat):Prop:=∀{a0 a1:List Bc},OK (Wh k a0 a1) fun r=>Ax Tryz.prog 180 [(Fz 2 I3) a0,(Fz 2 I3) a1,(.fn 113 [])] ((O .i64) r)
theorem Al0 (k:Nat):Aly k/\Alz k:=by
 induction k with
 | zero=>exact ⟨okz,okz⟩
 | succ k ih=>
  obtain ⟨i0_,i1_⟩:=ih
  refine ⟨@fun a0 a1=>⟨fun {r} h=>?_⟩,@fun a0 a1=>⟨fun {r} h=>?_⟩⟩
  .unfold Oj at h
   refine pw C0 Tryz.func113 ?_
   exact Y
  .unfold Wh at h
   refine pw C0 Tryz.func180 ?_
   refine Z ?_
   refine A7 h (fun v6=>[(6,(O .i64 0)),(13,(O .i64 v6))]) (fun v6=>[]) ?_
   rintro v6 _ _ _ h _ _
   exact Y
instance {k:Nat}:Aly k:=(Al0 k).1
instance {k:Nat}:Alz k:=(Al0 k).2
instance {a0 a1:Cg}:OK (V4 a0 a1) fun r=>Ax Tryz.prog 111 [Fo a0,Fo a1] ((O .i64) r):=⟨fun {r} h=>by
 refine pw C0 Tryz.func111 ?_
 exact Y⟩
instance {a0 a1:List Cg}:OK (Aaa a0 a1) fun r=>Ax Tryz.prog 110 [(As 3 Fo) a0,(As 3 Fo) a1,(.fn 111 [])] ((O .i64) r):=⟨fun {r} h=>by
 refine pw C0 Tryz.func110 ?_
 refine Z ?_
 refine A7 h (fun v6=>[(6,(O .i64 0)),(13,(O .i64 v6))]) (fun v6=>[]) ?_
 rintro v6 _ _ _ h _ _
 exact Y⟩
instance {a0 a1:A8}:OK (Oh a0 a1) fun r=>Ax Tryz.prog 58 [Ir a0,Ir a1] ((O .i64) r):=⟨fun {r} h=>by
 refine pw C0 Tryz.func58 ?_
 exact Y⟩
instance {a0:Int}:OK (Hv a0) fun r=>Ax Tryz.prog 103 [(O .i64) a0] (Fe r):=⟨fun {r} h=>by
 exact Awg h⟩
instance {b1:List Int}:OK (T1 b1) fun r=>Bn Tryz.prog 164 [(.loc 0 0)] [.cells 165 [(.loc 0 0),(.arr 1 b1.length 0 b1.length)],.rows 5 1 (List.map (O .u8) b1)] (.tup []) [.cells 165 [(.loc 0 0),(.arr 1 b1.length 0 b1.length)],.rows 5 1 (List.map (O .u8) b1)]:=⟨fun {r} h=>by
 cases h
 exact Awj _ _⟩
instance {a0:Int} {b1:List Int}:OK (Ts a0 b1) fun r=>Bn Tryz.prog 242 [(.loc 0 0),(O .u8) a0] [.cells 165 [(.loc 0 0),(.arr 1 b1.length 0 b1.length)],.rows 5 1 (List.map (O .u8) b1)] (.val .nilIface) [.cells 165 [(.loc 0 0),(.arr 1 r.length 0 r.length)],.rows 5 1 (List.map (O .u8) r)]:=⟨fun {r} h=>by
 refine aw C0 true Tryz.func242 ?_
 refine Z ?_
 refine A9 [0,1] h (fun _ h=>?_)
 exact Y⟩
instance {a0:ByteArray} {b1:List Int}:OK (Gd a0 b1) fun r=>Bn Tryz.prog 101 [(.loc 0 0),Fe a0] [.cells 165 [(.loc 0 0),(.arr 1 b1.length 0 b1.length)],.rows 5 1 (List.map (O .u8) b1)] (.tup [(O .i64) r.1,.val .nilIface]) [.cells 165 [(.loc 0 0),(.arr 1 r.2.length 0 r.2.length)],.rows 5 1 (List.map (O .u8) r.2)]:=⟨fun {r} h=>by
 refine aw C0 true Tryz.func101 ?_
 refine Z ?_
 refine A9 [0,1] h (fun _ h=>?_)
 exact Y⟩
abbrev Al1 (k:Nat):Prop:=∀{a0:Bc} {b1:List Int},OK (Qv k a0 b1) fun r=>Bn Tryz.prog 165 [(.loc 0 0),Hw a0] [.cells 165 [(.loc 0 0),(.arr 1 b1.length 0 b1.length)],.rows 5 1 (List.map (O .u8) b1)] (.tup []) [.cells 165 [(.loc 0 0),(.arr 1 r.length 0 r.length)],.rows 5 1 (List.map (O .u8) r)]
theorem Axd (k:Nat):Al1 k:=by
 induction k with
 | zero=>exact okz
 | succ k ih=>
  refine @fun a0 b1=>⟨fun {r} h=>?_⟩
  .unfold Qv at h
   refine aw C0 true Tryz.func165 ?_
   refine Z ?_
   refine Bh h (fun _ h=>?_)
   refine Z ?_
   refine A9 [0,1] h (fun _ h=>?_)
   refine Z ?_
   refine Ao h (fun _ h=>?_) (fun _ h=>?_)
   refine Z ?_
   refine A9 [0,1] h (fun _ h=>?_)
   refine Z ?_
   refine A7 h (fun (v15,o16)=>[(20,(O .i64 v15))]) (fun (v15,o16)=>[(0,.cells 165 [(.loc 0 0),(.arr 1 o16.length 0 o16.length)]),(1,.rows 5 1 (List.map (O .u8) o16))]) ?_
   rintro ⟨v15,o16⟩ _ _ _ h _ _
   refine Z ?_
   refine Ao h (fun _ h=>?_) (fun _ h=>?_)
   refine Z ?_
   refine B3 h (fun _ _ _ _ h=>?_)
   refine Z ?_
   refine A9 [0,1] h (fun _ h=>?_)
   refine Z ?_
   refine A9 [0,1] h (fun _ h=>?_)
   exact Y
   replace h:=Ck h
   refine Z ?_
   refine A9 [0,1] h (fun _ h=>?_)
   exact Y
   exact Y
instance {k:Nat}:Al1 k:=(Axd k)
instance {b1:List Int}:OK (K5 b1) fun r=>Bn Tryz.prog 105 [(.loc 0 0)] [.cells 165 [(.loc 0 0),(.arr 1 b1.length 0 b1.length)],.rows 5 1 (List.map (O .u8) b1)] (Fe r) [.cells 165 [(.loc 0 0),(.arr 1 b1.length 0 b1.length)],.dead]:=⟨fun {r} h=>by
 exact Alg h⟩
instance {b1:List Int}:OK (Wf b1) fun r=>Bn Tryz.prog 164 [(.loc 0 0)] [.cells 165 [(.val (.pointer none)),(.arr 1 b1.length 0 b1.length)],.rows 5 1 (List.map (O .u8) b1)] (.tup []) [.cells 165 [(.loc 0 0),(.arr 1 b1.length 0 b1.length)],.rows 5 1 (List.map (O .u8) b1)]:=⟨fun {r} h=>by
 cases h
 exact Awk _ _⟩
instance {a0:ByteArray} {b1:List Int}:OK (Jf a0 b1) fun r=>Bn Tryz.prog 101 [(.loc 0 0),Fe a0] [.cells 165 [(.val (.pointer none)),(.arr 1 b1.length 0 b1.length)],.rows 5 1 (List.map (O .u8) b1)] (.tup [(O .i64) r.1,(.val .nilIface)]) [.cells 165 [(.loc 0 0),(.arr 1 r.2.length 0 r.2.length)],.rows 5 1 (List.map (O .u8) r.2)]:=⟨fun {r} h=>by
 refine aw C0 true Tryz.func101 ?_
 refine Z ?_
 refine A9 [0,1] h (fun _ h=>?_)
 exact Y⟩
instance {a0:Int} {a1:Bc}:OK (Ni a0 a1) fun r=>Ax Tryz.prog 102 [(O .i64) a0,Hw a1] (Fe r):=⟨fun {r} h=>by
 refine pw C0 Tryz.func102 ?_
 refine ZS ?_
 refine Cm ?_
 refine ZS ?_
 refine Cm ?_
 refine ZO ?_
 refine Az ?_
 refine Dr [.own 5 1 5 1] ?_
 refine Z ?_
 refine Bh h (fun _ h=>?_)
 refine Z ?_
 refine Gv h (fun h=>?_)
 refine Z ?_
 refine Gv h (fun h=>?_)
 refine Z ?_
 refine A9 [1,2] h (fun _ h=>?_)
 refine Z ?_
 refine A9 [1,2] h (fun _ h=>?_)
 refine Z ?_
 refine A9 [1,2] h (fun _ h=>?_)
 exact Y⟩
abbrev Al2 (k:Nat):Prop:=∀{a0:Ah},OK (Ot k a0) fun r=>Ax Tryz.prog 198 [E4 a0] ((O .i64) r)
theorem Axe (k:Nat):Al2 k:=by
 induction k with
 | zero=>exact okz
 | succ k ih=>
  refine @fun a0=>⟨fun {r} h=>?_⟩
  .unfold Ot at h
   refine pw C0 Tryz.func198 ?_
   refine Z ?_
   refine A7 h (fun (v5,v6)=>[(3,(O .i64 v5)),(9,(O .i64 v6))]) (fun (v5,v6)=>[]) ?_
   rintro ⟨v5,v6⟩ _ _ _ h _ _
   exact Y
instance {k:Nat}:Al2 k:=(Axe k)
abbrev Al3 (k:Nat):Prop:=∀{a0:Ah} {a1:List Ah},OK (Nm k a0 a1) fun r=>Ax Tryz.prog 200 [E4 a0,(Fz 3 Bk) a1] (E4 r)
theorem Axf (k:Nat):Al3 k:=by
 induction k with
 | zero=>exact okz
 | succ k ih=>
  refine @fun a0 a1=>⟨fun {r} h=>?_⟩
  .unfold Nm at h
   refine pw {T:=Cb,an:=(fun _=>.ask),nl:=(fun s=>bif Nat.beq s 42 then [(0,3)] else [])} Tryz.func200 ?_
   refine ZS ?_
   refine Cm ?_
   refine ZO ?_
   refine Az (Az ?_)
   refine Cn h (fun v3=>[(22,(Aq v3))]) (fun v3=>[]) ?_ ?_
   intro _ h _ _ _
   exact Y
   rintro v3 _ h
   refine Ao h (fun _ h=>?_) (fun _ h=>?_)
   exact Y
   refine ZS ?_
   refine Cm ?_
   refine ZO ?_
   refine Az (Az ?_)
   refine Dr [.own 5 2 29 3] ?_
   refine Z ?_
   refine A7 h (fun (v18,o19)=>[(37,(O .i64 v18))]) (fun (v18,o19)=>[(2,.cells 29 [(O .i64 a0.Kind),(O .i64 a0.Num),(.arr 3 o19.length 0 o19.length)]),(3,.rows 29 3 (Bk o19))]) ?_
   rintro ⟨v18,o19⟩ _ _ _ h _ _
   exact Y
instance {k:Nat}:Al3 k:=(Axf k)
abbrev Al4 (k:Nat):Prop:=∀{a0:Ah} {a1:List Int},OK (Ou k a0 a1) fun r=>Ax Tryz.prog 199 [E4 a0,(As 1 (O .i64)) a1] ((O .i64) r)
theorem Axg (k:Nat):Al4 k:=by
 induction k with
 | zero=>exact okz
 | succ k ih=>
  refine @fun a0 a1=>⟨fun {r} h=>?_⟩
  .unfold Ou at h
   refine pw C0 Tryz.func199 ?_
   refine ZS ?_
   refine Cm ?_
   refine ZO ?_
   refine Az (Az ?_)
   refine Cn h (fun v2=>[(22,(Aq v2))]) (fun v2=>[]) ?_ ?_
   intro _ h _ _ _
   exact Y
   rintro v2 _ h
   refine Ao h (fun _ h=>?_) (fun _ h=>?_)
   exact Y
   refine Z ?_
   refine A7 h (fun (v7,v8)=>[(5,(O .i64 v7)),(31,(O .i64 v8))]) (fun (v7,v8)=>[]) ?_
   rintro ⟨v7,v8⟩ _ _ _ h _ _
   exact Y
instance {k:Nat}:Al4 k:=(Axg k)
instance {a0:List Ap} {a1:Ah} {a2:Int}:OK (T2 a0 a1 a2) fun r=>Ax Tryz.prog 125 [(As 3 Cd) a0,E4 a1,(O .i64) a2] (.tup [(Fz 3 Bk) r.1,Aq r.2]):=⟨fun {r} h=>by
 refine pw {T:=Cb,an:=(fun s=>bif Nat.beq s 14 then .own else .ask),nl:=(fun s=>bif Nat.beq s 14 then [(0,3)] else bif Nat.beq s 6 then [(0,3)] else [])} Tryz.func125 ?_
 refine ZS ?_
 refine Cm ?_
 refine ZO ?_
 refine Az (Az ?_)
 refine Cn h (fun v2=>[(31,(Aq v2))]) (fun v2=>[]) ?_ ?_
 intro _ h _ _ _
 exact Y
 rintro v2 _ h
 refine Ao h (fun _ h=>?_) (fun _ h=>?_)
 exact Y
 refine Z ?_
 refine B3 h (fun _ _ _ _ h=>?_)
 refine ZO ?_
 refine Az (Az ?_)
 refine Cn h (fun v5=>[(53,(Aq v5))]) (fun v5=>[]) ?_ ?_
 intro _ h _ _ _
 exact Y
 rintro v5 _ h
 refine Ao h (fun _ h=>?_) (fun _ h=>?_)
 exact Y
 refine Z ?_
 refine Hf h (fun o6 h=>?_)
 refine Z ?_
 refine D7 h (fun (v12,o13)=>[(61,(O .i64 v12))]) (fun (v12,o13)=>[(2,.rows 3 1 (List.map (O .i64) o13))]) (fun (v12,o13)=>o6.length=o13.length) ?_
 rintro ⟨v12,o13⟩ _ _ _ h _ _ q13
 refine Z ?_
 refine Ao h (fun _ h=>?_) (fun _ h=>?_)
 exact Y
 replace h:=Ck h
 refine Z ?_
 refine B3 h (fun _ _ _ _ h=>?_)
 refine ZO ?_
 refine K1 ?_
 refine Dr [.fz 9] ?_
 refine Z ?_
 refine A7 h (fun v23=>[(6,(.sl 3 (Bk []))),(7,(Aq false)),(79,(O .i64 v23))]) (fun v23=>[]) ?_
 rintro v23 _ _ _ h _ _
 refine Z ?_
 refine Ao h (fun _ h=>?_) (fun _ h=>?_)
 exact Y
 replace h:=Ck h
 refine Z ?_
 refine B3 h (fun _ _ _ _ h=>?_)
 refine Z ?_
 refine A7 h (fun (v41,o42)=>[(14,(.arr 3 o42.length 0 o42.length)),(95,(O .i64 v41))]) (fun (v41,o42)=>[(3,.rows 29 3 (Bk o42))]) ?_
 rintro ⟨v41,o42⟩ _ _ _ h _ _
 exact Y⟩
abbrev Al5 (k:Nat):Prop:=∀{a0:Ah} {a1:Bc} {b1:List (ByteArray×Int)} {b2:List (ByteArray×(List Dl))} {b0_0:List Ap} {b0_1:List Ah} {b0_2 b0_3:Int} {b0_4:List Ah},OK (Rb k a0 a1 b1 b2 b0_0 b0_1 b0_2 b0_3 b0_4) fun r=>Bn Tryz.prog 281 [(.loc 0 0),E4 a0,Hw a1] [.cells 119 [(.sl 3 (List.map Cd b0_0)),(.sl 3 (Bk b0_1)),(O .i64 b0_2),(O .i64 b0_3),(.sl 3 (Bk b0_4)),(.mp 1),(.mp 2)],.map (Bm (O .i64) b1),.map (Bm (As 5 Ew) b2)] ((O .i64) r) [.cells 119 [(.sl 3 (List.map Cd b0_0)),(.sl 3 (Bk b0_1)),(O .i64 b0_2),(O .i64 b0_3),(.sl 3 (Bk b0_4)),(.mp 1),(.mp 2)],.map (Bm (O .i64) b1),.map (Bm (As 5 Ew) b2)]
abbrev Al6 (k:Nat):Prop:=∀{a0:Ah} {a1:Bc} {b1:List (ByteArray×Int)} {b2:List (ByteArray×(List Dl))} {b0_0:List Ap} {b0_1:List Ah} {b0_2 b0_3:Int} {b0_4:List Ah},OK (Ow k a0 a1 b1 b2 b0_0 b0_1 b0_2 b0_3 b0_4) fun r=>Bn Tryz.prog 240 [(.loc 0 0),E4 a0,Hw a1] [.cells 119 [(.sl 3 (List.map Cd b0_0)),(.sl 3 (Bk b0_1)),(O .i64 b0_2),(O .i64 b0_3),(.sl 3 (Bk b0_4)),(.mp 1),(.mp 2)],.map (Bm (O .i64) b1),.map (Bm (As 5 Ew) b2)] ((O .i64) r) [.cells 119 [(.sl 3 (List.map Cd b0_0)),(.sl 3 (Bk b0_1)),(O .i64 b0_2),(O .i64 b0_3),(.sl 3 (Bk b0_4)),(.mp 1),(.mp 2)],.map (Bm (O .i64) b1),.map (Bm (As 5 Ew) b2)]
abbrev Al7 (k:Nat):Prop:=∀{a0:List Ah} {a1:List Bc} {b1:List (ByteArray×Int)} {b2:List (ByteArray×(List Dl))} {b0_0:List Ap} {b0_1:List Ah} {b0_2 b0_3:Int} {b0_4:List Ah},OK (Ra k a0 a1 b1 b2 b0_0 b0_1 b0_2 b0_3 b0_4) fun r=>Bn Tryz.prog 280 [(.loc 0 0),(Fz 3 Bk) a0,(Fz 2 I3) a1] [.cells 119 [(.sl 3 (List.map Cd b0_0)),(.sl 3 (Bk b0_1)),(O .i64 b0_2),(O .i64 b0_3),(.sl 3 (Bk b0_4)),(.mp 1),(.mp 2)],.map (Bm (O .i64) b1),.map (Bm (As 5 Ew) b2)] ((O .i64) r) [.cells 119 [(.sl 3 (List.map Cd b0_0)),(.sl 3 (Bk b0_1)),(O .i64 b0_2),(O .i64 b0_3),(.sl 3 (Bk b0_4)),(.mp 1),(.mp 2)],.map (Bm (O .i64) b1),.map (Bm (As 5 Ew) b2)]
theorem Afo (k:Nat):Al5 k/\Al6 k/\Al7 k:=by
 induction k with
 | zero=>exact ⟨okz,okz,okz⟩
 | succ k ih=>
  obtain ⟨i0_,i1_,i2_⟩:=ih
  refine ⟨@fun a0 a1 b1 b2 b0_0 b0_1 b0_2 b0_3 b0_4=>⟨fun {r} h=>?_⟩,@fun a0 a1 b1 b2 b0_0 b0_1 b0_2 b0_3 b0_4=>⟨fun {r} h=>?_⟩,@fun a0 a1 b1 b2 b0_0 b0_1 b0_2 b0_3 b0_4=>⟨fun {r} h=>?_⟩⟩
  .unfold Rb at h
   refine aw {T:=Cb,an:=(fun s=>bif Nat.beq s 9 then .own else .ask),nl:=(fun s=>bif Nat.beq s 9 then [(0,3)] else [])} true Tryz.func281 ?_
   refine Z ?_
   refine Bh h (fun _ h=>?_)
   refine Z ?_
   refine Ao h (fun _ h=>?_) (fun _ h=>?_)
   exact Y
   refine Z ?_
   refine Bh h (fun _ h=>?_)
   refine Z ?_
   refine A7 h (fun (v14,o15)=>[(9,(.arr 5 o15.length 0 o15.length)),(38,(O .i64 v14))]) (fun (v14,o15)=>[(5,.rows 29 3 (Bk o15))]) ?_
   rintro ⟨v14,o15⟩ _ _ _ h _ _
   refine Z ?_
   refine Ao h (fun _ h=>?_) (fun _ h=>?_)
   exact Y
   replace h:=Ck h
   refine Gc (Gb rfl (Az ?_))
   refine Dr [.fz 9] ?_
   refine Z ?_
   refine A9 [0,1,2] h (fun _ h=>?_)
   exact Y
  .unfold Ow at h
   refine aw C0 true Tryz.func240 ?_
   refine Z ?_
   refine Ao h (fun _ h=>?_) (fun _ h=>?_)
   refine Z ?_
   refine Ao h (fun _ h=>?_) (fun _ h=>?_)
   refine Z ?_
   refine A9 [0,1,2] h (fun _ h=>?_)
   exact Y
   exact Y
   refine Z ?_
   refine Ao h (fun _ h=>?_) (fun _ h=>?_)
   exact Y
   refine Z ?_
   refine Ao h (fun _ h=>?_) (fun _ h=>?_)
   refine Z ?_
   refine Ao h (fun _ h=>?_) (fun _ h=>?_)
   exact Y
   refine Z ?_
   refine A7 h (fun (v7,v8)=>[(6,(O .i64 0)),(7,(O .i64 v7)),(50,(O .i64 v8))]) (fun (v7,v8)=>[]) ?_
   rintro ⟨v7,v8⟩ _ _ _ h _ _
   refine Z ?_
   refine Ao h (fun _ h=>?_) (fun _ h=>?_)
   refine Z ?_
   refine B3 h (fun _ _ _ _ h=>?_)
   refine Z ?_
   refine A9 [0,1,2] h (fun _ h=>?_)
   exact Y
   exact Y
   exact Y
  .unfold Ra at h
   refine aw C0 true Tryz.func280 ?_
   refine Z ?_
   refine Ao h (fun _ h=>?_) (fun _ h=>?_)
   exact Y
   refine Z ?_
   refine A7 h (fun (v5,v6)=>[(6,(O .i64 0)),(7,(O .i64 v5)),(18,(O .i64 v6))]) (fun (v5,v6)=>[]) ?_
   rintro ⟨v5,v6⟩ _ _ _ h _ _
   refine Z ?_
   refine Ao h (fun _ h=>?_) (fun _ h=>?_)
   refine Z ?_
   refine B3 h (fun _ _ _ _ h=>?_)
   refine Z ?_
   refine B3 h (fun _ _ _ _ h=>?_)
   refine Z ?_
   refine A9 [0,1,2] h (fun _ h=>?_)
   exact Y
   exact Y
instance {k:Nat}:Al5 k:=(Afo k).1
instance {k:Nat}:Al6 k:=(Afo k).2.1
instance {k:Nat}:Al7 k:=(Afo k).2.2
instance {a0:Int} {b1:List (ByteArray×Int)} {b2:List (ByteArray×(List Dl))} {b0_0:List Ap} {b0_1:List Ah} {b0_2 b0_3:Int} {b0_4:List Ah}:OK (Lr a0 b1 b2 b0_0 b0_1 b0_2 b0_3 b0_4) fun r=>Bn Tryz.prog 37 [(.loc 0 0),(O .i64) a0] [.cells 119 [(.sl 3 (List.map Cd b0_0)),(.sl 3 (Bk b0_1)),(O .i64 b0_2),(O .i64 b0_3),(.sl 3 (Bk b0_4)),(.mp 1),(.mp 2)],.map (Bm (O .i64) b1),.map (Bm (As 5 Ew) b2)] (E4 r) [.cells 119 [(.sl 3 (List.map Cd b0_0)),(.sl 3 (Bk b0_1)),(O .i64 b0_2),(O .i64 b0_3),(.sl 3 (Bk b0_4)),(.mp 1),(.mp 2)],.map (Bm (O .i64) b1),.map (Bm (As 5 Ew) b2)]:=⟨fun {r} h=>by
 refine aw C0 true Tryz.func37 ?_
 exact Y⟩
instance {a0:Int} {a1:Bc} {b1:List (ByteArray×Int)} {b2:List (ByteArray×(List Dl))} {b0_0:List Ap} {b0_1:List Ah} {b0_2 b0_3:Int} {b0_4:List Ah}:OK (Mq a0 a1 b1 b2 b0_0 b0_1 b0_2 b0_3 b0_4) fun r=>Bn Tryz.prog 163 [(.loc 0 0),(O .i64) a0,Hw a1] [.cells 119 [(.sl 3 (List.map Cd b0_0)),(.sl 3 (Bk b0_1)),(O .i64 b0_2),(O .i64 b0_3),(.sl 3 (Bk b0_4)),(.mp 1),(.mp 2)],.map (Bm (O .i64) b1),.map (Bm (As 5 Ew) b2)] ((O .i64) r.1) [.cells 119 [(.sl 3 (List.map Cd b0_0)),(.sl 3 (Bk b0_1)),(O .i64 b0_2),(O .i64 b0_3),(.sl 3 (Bk b0_4)),(.mp 1),(.mp 2)],.map (Bm (O .i64) r.2),.map (Bm (As 5 Ew) b2)]:=⟨fun {r} h=>by
 refine aw C0 true Tryz.func163 ?_
 refine Z ?_
 refine Bh h (fun _ h=>?_)
 refine ZO ?_
 refine Az ?_
 refine Cn h (fun (v3,v4)=>[(8,(O .i64 v3)),(9,(Aq v4))]) (fun (v3,v4)=>[]) ?_ ?_
 intro _ h _ _ _
 refine Z ?_
 refine Zy (f:=(O .i64)) (l:=b1) rfl (0:Int) h (fun j_ hb h=>?_) (fun hb h=>?_)
 exact Y
 exact Y
 rintro ⟨v3,v4⟩ _ h
 refine Z ?_
 refine Ao h (fun _ h=>?_) (fun _ h=>?_)
 refine Z ?_
 refine A9 [0,1,2] h (fun _ h=>?_)
 refine Z ?_
 refine A9 [0,1,2] h (fun _ h=>?_)
 refine ZS ?_
 refine Cm ?_
 refine ZO ?_
 refine Cn h (fun v7=>[(8,(O .i64 v7))]) (fun v7=>[]) ?_ ?_
 intro _ h _ _ _
 exact Y
 rintro v7 _ h
 refine Z ?_
 refine Vj (f:=(O .i64)) (l:=b1) (x:=v7) rfl rfl ?_
 exact Y
 exact Y⟩
instance {a0:A8} {b1:List (ByteArray×Int)} {b2:List (ByteArray×(List Dl))} {b0_0:List Ap} {b0_1:List Ah} {b0_2 b0_3:Int} {b0_4:List Ah}:OK (Oq a0 b1 b2 b0_0 b0_1 b0_2 b0_3 b0_4) fun r=>Bn Tryz.prog 162 [(.loc 0 0),Ir a0] [.cells 119 [(.sl 3 (List.map Cd b0_0)),(.sl 3 (Bk b0_1)),(O .i64 b0_2),(O .i64 b0_3),(.sl 3 (Bk b0_4)),(.mp 1),(.mp 2)],.map (Bm (O .i64) b1),.map (Bm (As 5 Ew) b2)] ((O .i64) r.1) [.cells 119 [(.sl 3 (List.map Cd b0_0)),(.sl 3 (Bk b0_1)),(O .i64 b0_2),(O .i64 b0_3),(.sl 3 (Bk b0_4)),(.mp 1),(.mp 2)],.map (Bm (O .i64) r.2),.map (Bm (As 5 Ew) b2)]:=⟨fun {r} h=>by
 refine aw C0 true Tryz.func162 ?_
 refine Z ?_
 refine A7 h (fun (v5,v6,o7)=>[(5,(O .i64 v5)),(13,(O .i64 v6))]) (fun (v5,v6,o7)=>[(1,.map (Bm (O .i64) o7))]) ?_
 rintro ⟨v5,v6,o7⟩ _ _ _ h _ _
 refine Z ?_
 refine Ao h (fun _ h=>?_) (fun _ h=>?_)
 refine Z ?_
 refine B3 h (fun _ _ _ _ h=>?_)
 refine Z ?_
 refine Ao h (fun _ h=>?_) (fun _ h=>?_)
 refine Z ?_
 refine A9 [0,1,2] h (fun _ h=>?_)
 exact Y
 exact Y
 replace h:=Ck h
 refine Z ?_
 refine A7 h (fun (v15,v16)=>[(5,(O .i64 v15)),(31,(O .i64 v16))]) (fun (v15,v16)=>[]) ?_
 rintro ⟨v15,v16⟩ _ _ _ h _ _
 exact Y⟩
instance {a0:Int} {b1:List (ByteArray×Int)} {b2:List (ByteArray×(List Dl))} {b0_0:List Ap} {b0_1:List Ah} {b0_2 b0_3:Int} {b0_4:List Ah}:OK (Qt a0 b1 b2 b0_0 b0_1 b0_2 b0_3 b0_4) fun r=>Bn Tryz.prog 142 [(.loc 0 0),(O .i64) a0] [.cells 119 [(.sl 3 (List.map Cd b0_0)),(.sl 3 (Bk b0_1)),(O .i64 b0_2),(O .i64 b0_3),(.sl 3 (Bk b0_4)),(.mp 1),(.mp 2)],.map (Bm (O .i64) b1),.map (Bm (As 5 Ew) b2)] (Aq r) [.cells 119 [(.sl 3 (List.map Cd b0_0)),(.sl 3 (Bk b0_1)),(O .i64 b0_2),(O .i64 b0_3),(.sl 3 (Bk b0_4)),(.mp 1),(.mp 2)],.map (Bm (O .i64) b1),.map (Bm (As 5 Ew) b2)]:=⟨fun {r} h=>by
 refine aw C0 true Tryz.func142 ?_
 exact Y⟩
instance {a0:Bb} {b2:List (ByteArray×Int)} {b3:List (ByteArray×(List Dl))} {b1_0:List Ap} {b1_1:List Ah} {b1_2 b1_3:Int} {b1_4:List Ah}:OK (Ti a0 b2 b3 b1_0 b1_1 b1_2 b1_3 b1_4) fun r=>Bn Tryz.prog 141 [Dd a0,(.loc 0 0)] [.cells 74 [(.loc 1 0)],.cells 119 [(.sl 3 (List.map Cd b1_0)),(.sl 3 (Bk b1_1)),(O .i64 b1_2),(O .i64 b1_3),(.sl 3 (Bk b1_4)),(.mp 2),(.mp 3)],.map (Bm (O .i64) b2),.map (Bm (As 5 Ew) b3)] (Aq r) [.cells 74 [(.loc 1 0)],.cells 119 [(.sl 3 (List.map Cd b1_0)),(.sl 3 (Bk b1_1)),(O .i64 b1_2),(O .i64 b1_3),(.sl 3 (Bk b1_4)),(.mp 2),(.mp 3)],.map (Bm (O .i64) b2),.map (Bm (As 5 Ew) b3)]:=⟨fun {r} h=>by
 refine aw C0 true Tryz.func141 ?_
 refine Z ?_
 refine A9 [1,2,3] h (fun _ h=>?_)
 refine Z ?_
 refine Fv h (fun _ h=>?_) (fun _ h=>?_)
 exact Y
 refine Z ?_
 refine A9 [1,2,3] h (fun _ h=>?_)
 refine Z ?_
 refine Va.mk 3 (by kernel_rfl) ?_
 exact Y⟩
instance {a0:List Bb} {b2:List (ByteArray×Int)} {b3:List (ByteArray×(List Dl))} {b1_0:List Ap} {b1_1:List Ah} {b1_2 b1_3:Int} {b1_4:List Ah}:OK (Aak a0 b2 b3 b1_0 b1_1 b1_2 b1_3 b1_4) fun r=>Bn Tryz.prog 213 [(As 2 Dd) a0,(.fn 141 [(.loc 0 0)])] [.cells 74 [(.loc 1 0)],.cells 119 [(.sl 3 (List.map Cd b1_0)),(.sl 3 (Bk b1_1)),(O .i64 b1_2),(O .i64 b1_3),(.sl 3 (Bk b1_4)),(.mp 2),(.mp 3)],.map (Bm (O .i64) b2),.map (Bm (As 5 Ew) b3)] ((O .i64) r) [.cells 74 [(.loc 1 0)],.cells 119 [(.sl 3 (List.map Cd b1_0)),(.sl 3 (Bk b1_1)),(O .i64 b1_2),(O .i64 b1_3),(.sl 3 (Bk b1_4)),(.mp 2),(.mp 3)],.map (Bm (O .i64) b2),.map (Bm (As 5 Ew) b3)]:=⟨fun {r} h=>by
 refine aw C0 true Tryz.func213 ?_
 refine Z ?_
 refine A7 h (fun v3=>[(4,(O .i64 0)),(8,(O .i64 v3))]) (fun v3=>[]) ?_
 rintro v3 _ _ _ h _ _
 refine Z ?_
 refine Ao h (fun _ h=>?_) (fun _ h=>?_)
 refine Z ?_
 refine B3 h (fun _ _ _ _ h=>?_)
 refine Z ?_
 refine A9 [0,1,2,3] h (fun _ h=>?_)
 exact Y
 exact Y⟩
instance {a0:List Bb} {b2:List (ByteArray×Int)} {b3:List (ByteArray×(List Dl))} {b1_0:List Ap} {b1_1:List Ah} {b1_2 b1_3:Int} {b1_4:List Ah}:OK (Aaf a0 b2 b3 b1_0 b1_1 b1_2 b1_3 b1_4) fun r=>Bn Tryz.prog 140 [(As 2 Dd) a0,(.fn 141 [(.loc 0 0)])] [.cells 74 [(.loc 1 0)],.cells 119 [(.sl 3 (List.map Cd b1_0)),(.sl 3 (Bk b1_1)),(O .i64 b1_2),(O .i64 b1_3),(.sl 3 (Bk b1_4)),(.mp 2),(.mp 3)],.map (Bm (O .i64) b2),.map (Bm (As 5 Ew) b3)] (Aq r) [.cells 74 [(.loc 1 0)],.cells 119 [(.sl 3 (List.map Cd b1_0)),(.sl 3 (Bk b1_1)),(O .i64 b1_2),(O .i64 b1_3),(.sl 3 (Bk b1_4)),(.mp 2),(.mp 3)],.map (Bm (O .i64) b2),.map (Bm (As 5 Ew) b3)]:=⟨fun {r} h=>by
 refine aw C0 true Tryz.func140 ?_
 refine Z ?_
 refine A9 [0,1,2,3] h (fun _ h=>?_)
 exact Y⟩
instance {a0:Be} {b1:List (ByteArray×Int)} {b2:List (ByteArray×(List Dl))} {b0_0:List Ap} {b0_1:List Ah} {b0_2 b0_3:Int} {b0_4:List Ah}:OK (Ql a0 b1 b2 b0_0 b0_1 b0_2 b0_3 b0_4) fun r=>Bn Tryz.prog 81 [(.loc 0 0),Gm a0] [.cells 119 [(.sl 3 (List.map Cd b0_0)),(.sl 3 (Bk b0_1)),(O .i64 b0_2),(O .i64 b0_3),(.sl 3 (Bk b0_4)),(.mp 1),(.mp 2)],.map (Bm (O .i64) b1),.map (Bm (As 5 Ew) b2)] (Aq r) [.cells 119 [(.sl 3 (List.map Cd b0_0)),(.sl 3 (Bk b0_1)),(O .i64 b0_2),(O .i64 b0_3),(.sl 3 (Bk b0_4)),(.mp 1),(.mp 2)],.map (Bm (O .i64) b1),.map (Bm (As 5 Ew) b2)]:=⟨fun {r} h=>by
 refine aw C0 true Tryz.func81 ?_
 refine Z ?_
 refine A9 [3,0,1,2] h (fun _ h=>?_)
 exact Y⟩
instance {a0:A8} {b1:List (ByteArray×Int)} {b2:List (ByteArray×(List Dl))} {b0_0:List Ap} {b0_1:List Ah} {b0_2 b0_3:Int} {b0_4:List Ah}:OK (We a0 b1 b2 b0_0 b0_1 b0_2 b0_3 b0_4) fun r=>Bn Tryz.prog 161 [(.loc 0 0),Ir a0] [.cells 119 [(.sl 3 (List.map Cd b0_0)),(.sl 3 (Bk b0_1)),(O .i64 b0_2),(O .i64 b0_3),(.sl 3 (Bk b0_4)),(.mp 1),(.mp 2)],.map (Bm (O .i64) b1),.map (Bm (As 5 Ew) b2)] (Aq r.1) [.cells 119 [(.sl 3 (List.map Cd b0_0)),(.sl 3 (Bk b0_1)),(O .i64 b0_2),(O .i64 b0_3),(.sl 3 (Bk b0_4)),(.mp 1),(.mp 2)],.map (Bm (O .i64) r.2),.map (Bm (As 5 Ew) b2)]:=⟨fun {r} h=>by
 refine aw C0 true Tryz.func161 ?_
 refine Z ?_
 refine A7 h (fun (v6,o7)=>[(4,(Aq false)),(12,(O .i64 v6))]) (fun (v6,o7)=>[(1,.map (Bm (O .i64) o7))]) ?_
 rintro ⟨v6,o7⟩ _ _ _ h _ _
 refine Z ?_
 refine Ao h (fun _ h=>?_) (fun _ h=>?_)
 refine Z ?_
 refine B3 h (fun _ _ _ _ h=>?_)
 refine Z ?_
 refine A9 [0,1,2] h (fun _ h=>?_)
 refine Z ?_
 refine Fv h (fun _ h=>?_) (fun _ h=>?_)
 exact Y
 refine Z ?_
 refine A9 [0,1,2] h (fun _ h=>?_)
 exact Y
 replace h:=Ck h
 refine Z ?_
 refine A7 h (fun v18=>[(4,(Aq false)),(34,(O .i64 v18))]) (fun v18=>[]) ?_
 rintro v18 _ _ _ h _ _
 refine Z ?_
 refine Ao h (fun _ h=>?_) (fun _ h=>?_)
 refine Z ?_
 refine B3 h (fun _ _ _ _ h=>?_)
 refine Z ?_
 refine Fv h (fun _ h=>?_) (fun _ h=>?_)
 exact Y
 refine Z ?_
 refine A9 [0,1,2] h (fun _ h=>?_)
 exact Y
 exact Y⟩
instance {a0:A8} {b1:List (ByteArray×Int)} {b2:List (ByteArray×(List Dl))} {b0_0:List Ap} {b0_1:List Ah} {b0_2 b0_3:Int} {b0_4:List Ah}:OK (Tb a0 b1 b2 b0_0 b0_1 b0_2 b0_3 b0_4) fun r=>Bn Tryz.prog 100 [(.loc 0 0),Ir a0] [.cells 119 [(.sl 3 (List.map Cd b0_0)),(.sl 3 (Bk b0_1)),(O .i64 b0_2),(O .i64 b0_3),(.sl 3 (Bk b0_4)),(.mp 1),(.mp 2)],.map (Bm (O .i64) b1),.map (Bm (As 5 Ew) b2)] (Aq r.1) [.cells 119 [(.sl 3 (List.map Cd b0_0)),(.sl 3 (Bk b0_1)),(O .i64 b0_2),(O .i64 b0_3),(.sl 3 (Bk b0_4)),(.mp 1),(.mp 2)],.map (Bm (O .i64) r.2),.map (Bm (As 5 Ew) b2)]:=⟨fun {r} h=>by
 refine aw C0 true Tryz.func100 ?_
 refine ZS ?_
 refine Cm ?_
 refine ZO ?_
 refine Az (Az ?_)
 refine Cn h (fun (v4,o5)=>[(18,(Aq v4))]) (fun (v4,o5)=>[(1,.map (Bm (O .i64) o5))]) ?_ ?_
 intro _ h _ _ _
 refine Z ?_
 refine A9 [0,1,2] h (fun _ h=>?_)
 refine Z ?_
 refine Fv h (fun _ h=>?_) (fun _ h=>?_)
 exact Y
 refine Z ?_
 refine A9 [0,1,2] h (fun _ h=>?_)
 exact Y
 rintro ⟨v4,o5⟩ _ h
 refine Ao h (fun _ h=>?_) (fun _ h=>?_)
 exact Y
 refine Z ?_
 refine A7 h (fun (v9,o10)=>[(4,(Aq false)),(22,(O .i64 v9))]) (fun (v9,o10)=>[(1,.map (Bm (O .i64) o10))]) ?_
 rintro ⟨v9,o10⟩ _ _ _ h _ _
 refine Z ?_
 refine Ao h (fun _ h=>?_) (fun _ h=>?_)
 refine Z ?_
 refine B3 h (fun _ _ _ _ h=>?_)
 refine Z ?_
 refine A9 [0,1,2] h (fun _ h=>?_)
 exact Y
 replace h:=Ck h
 refine Z ?_
 refine A7 h (fun v22=>[(4,(Aq false)),(54,(O .i64 v22))]) (fun v22=>[]) ?_
 rintro v22 _ _ _ h _ _
 refine Z ?_
 refine Ao h (fun _ h=>?_) (fun _ h=>?_)
 refine Z ?_
 refine B3 h (fun _ _ _ _ h=>?_)
 refine ZO ?_
 refine Az (Az ?_)
 refine Cn h (fun v26=>[(74,(Aq v26))]) (fun v26=>[]) ?_ ?_
 intro _ h _ _ _
 exact Y
 rintro v26 _ h
 exact Y
 exact Y⟩
instance {a0 a1:List Int}:OK (Qq a0 a1) fun r=>Ax Tryz.prog 135 [(As 1 (O .u32)) a0,(As 1 (O .u32)) a1] ((O .i64) r):=⟨fun {r} h=>by
 refine pw C0 Tryz.func135 ?_
 refine Z ?_
 refine Ao h (fun _ h=>?_) (fun _ h=>?_)
 exact Y
 refine Z ?_
 refine A7 h (fun v5=>[(4,(O .i64 0)),(5,(O .i64 v5))]) (fun v5=>[]) ?_
 rintro v5 _ _ _ h _ _
 exact Y⟩
instance {a0:List Int}:OK (Jw a0) fun r=>Ax Tryz.prog 133 [(As 1 (O .u32)) a0] ((As 1 (O .u32)) r):=⟨fun {r} h=>by
 refine pw {T:=Cb,an:=(fun _=>.ask),nl:=(fun s=>bif Nat.beq s 2 then [(0,1)] else [])} Tryz.func133 ?_
 refine Z ?_
 refine A7 h (fun v2=>[(3,(O .i64 v2))]) (fun v2=>[]) ?_
 rintro v2 _ _ _ h _ _
 exact Y⟩
instance {a0:List Int} {a1:Int}:OK (Q8 a0 a1) fun r=>Ax Tryz.prog 262 [(As 1 (O .u32)) a0,(O .u64) a1] (.tup [(As 1 (O .u32)) r.1,(O .u64) r.2]):=⟨fun {r} h=>by
 refine pw {T:=Cb,an:=(fun _=>.ask),nl:=(fun s=>bif Nat.beq s 4 then [(0,1)] else [])} Tryz.func262 ?_
 refine Z ?_
 refine Hf h (fun o1 h=>?_)
 refine Z ?_
 refine D7 h (fun (v7,v8,o9)=>[(7,(O .u64 v7)),(8,(O .i64 v8))]) (fun (v7,v8,o9)=>[(0,.rows 141 1 (List.map (O .u32) o9))]) (fun (v7,v8,o9)=>o1.length=o9.length) ?_
 rintro ⟨v7,v8,o9⟩ _ _ _ h _ _ q9
 refine Z ?_
 refine Ao h (fun _ h=>?_) (fun _ h=>?_)
 exact Y
 replace h:=Ck h
 refine Gc (Gb rfl (Az ?_))
 refine Dr [.fz 6] ?_
 exact Y⟩
instance {a0:Int}:OK (Nl a0) fun r=>Ax Tryz.prog 127 [(O .u64) a0] ((As 1 (O .u32)) r):=⟨fun {r} h=>by
 refine pw {T:=Cb,an:=(fun s=>bif Nat.beq s 3 then .own else .ask),nl:=(fun s=>bif Nat.beq s 3 then [(0,1)] else bif Nat.beq s 2 then [(0,1)] else [])} Tryz.func127 ?_
 refine Z ?_
 refine A7 h (fun (v10,o11)=>[(0,(O .u64 v10)),(3,(.arr 0 o11.length 0 o11.length))]) (fun (v10,o11)=>[(0,.rows 141 1 (List.map (O .u32) o11))]) ?_
 rintro ⟨v10,o11⟩ _ _ _ h _ _
 exact Y⟩
instance {a0:List Int} {a1:Int}:OK (Tu a0 a1) fun r=>Bn Tryz.prog 263 [(As 1 (O .u32)) a0,(O .u64) a1] [] (.arr 0 r.length 0 r.length) [.rows 141 1 (List.map (O .u32) r)]:=⟨fun {r} h=>by
 refine aw {T:=Cb,an:=(fun _=>.ask),nl:=(fun s=>bif Nat.beq s 4 then [(0,1)] else [])} false Tryz.func263 ?_
 refine Z ?_
 refine Hf h (fun o1 h=>?_)
 refine Z ?_
 refine D7 h (fun (v7,v8,o9)=>[(6,(O .u64 v7)),(15,(O .i64 v8))]) (fun (v7,v8,o9)=>[(0,.rows 141 1 (List.map (O .u32) o9))]) (fun (v7,v8,o9)=>o1.length=o9.length) ?_
 rintro ⟨v7,v8,o9⟩ _ _ _ h _ _ q9
 refine Z ?_
 refine Ao h (fun _ h=>?_) (fun _ h=>?_)
 exact Y
 replace h:=Ck h
 refine Z ?_
 refine Gx h (fun _ _ hiv16 _ h=>?_)
 refine Z ?_
 refine K0 (f:=(O .u32)) (x:=(B8 v7)) (j:=(a0.length:Int)) rfl rfl (Nat.zero_add _) hiv16 ?_
 refine Z ?_
 cases h
 exact ⟨congrArg (fun q_=>AV.arr 0 q_ 0 q_) (Hm (l:=o9) q9 (a0.length:Int) (B8 v7)),rfl,trivial⟩⟩
instance {a0:List Int} {a1:Int}:OK (Afg a0 a1) fun r=>Ax Tryz.prog 263 [(As 1 (O .u32)) a0,(O .u64) a1] ((As 1 (O .u32)) r):=⟨fun {r} h=>by
 refine pw {T:=Cb,an:=(fun _=>.ask),nl:=(fun s=>bif Nat.beq s 4 then [(0,1)] else [])} Tryz.func263 ?_
 refine Z ?_
 refine Hf h (fun o1 h=>?_)
 refine Z ?_
 refine D7 h (fun (v7,v8,o9)=>[(6,(O .u64 v7)),(15,(O .i64 v8))]) (fun (v7,v8,o9)=>[(0,.rows 141 1 (List.map (O .u32) o9))]) (fun (v7,v8,o9)=>o1.length=o9.length) ?_
 rintro ⟨v7,v8,o9⟩ _ _ _ h _ _ q9
 exact Y⟩
end Go.Ab
namespace Go.Ab
open Go Go.Proofs
set_option maxRecDepth 10000
set_option maxHeartbeats 4000000
set_option linter.unusedVariables false
instance {a0 a1:Nat} {a2 b0:List Int}:OK (Ws a0 a1 a2 b0) fun r=>Bn Tryz.prog 264 [(.arr 0 b0.length a0 a1),(As 1 (O .u32)) a2] [.rows 141 1 (List.map (O .u32) b0)] ((O .u32) r.1) [.rows 141 1 (List.map (O .u32) r.2)]:=⟨fun {r} h=>by
 refine aw C0 true Tryz.func264 ?_
 refine Z ?_
 refine B3 h (fun _ _ _ _ h=>?_)
 refine Z ?_
 refine B3 h (fun _ _ _ _ h=>?_)
 refine Z ?_
 refine K7 h (fun _ _ _ _ h=>?_)
 refine Z ?_
 refine K7 h (fun _ _ _ _ h=>?_)
 refine Z ?_
 refine Vk h (fun _ h=>?_)
 refine Z ?_
 refine Zz h (fun _ h=>?_)
 refine Z ?_
 refine A7 h (fun (v9,v10)=>[(9,(O .u64 v9)),(10,(O .u64 v10))]) (fun (v9,v10)=>[]) ?_
 rintro ⟨v9,v10⟩ _ _ _ h _ _
 refine Az (Az ?_)
 refine Cn h (fun v12=>[(71,(Aq v12))]) (fun v12=>[]) ?_ ?_
 intro _ h _ _ _
 exact Y
 rintro v12 _ h
 refine Ao h (fun _ h=>?_) (fun _ h=>?_)
 exact Y
 replace h:=Ck h
 refine Z ?_
 refine D7 h (fun (v24,v25,o26)=>[(11,(O .i64 v24)),(78,(O .i64 v25))]) (fun (v24,v25,o26)=>[(0,.rows 141 1 (List.map (O .u32) o26))]) (fun (v24,v25,o26)=>b0.length=o26.length) ?_
 rintro ⟨v24,v25,o26⟩ _ _ _ h _ _ q26
 refine Z ?_
 refine Ao h (fun _ h=>?_) (fun _ h=>?_)
 refine Z ?_
 refine K7 h (fun _ _ _ _ h=>?_)
 refine Z ?_
 refine B3 h (fun _ _ _ _ h=>?_)
 refine Z ?_
 refine Zz h (fun _ h=>?_)
 refine Z ?_
 refine B3 h (fun _ _ _ _ h=>?_)
 refine Z ?_
 refine Vk h (fun _ h=>?_)
 refine Z ?_
 refine A7 h (fun (v32,v33)=>[(11,(O .i64 v32)),(13,(O .i64 v33))]) (fun (v32,v33)=>[]) ?_
 rintro ⟨v32,v33⟩ _ _ _ h _ _
 exact Y
 replace h:=Ck h
 refine Z ?_
 refine K7 h (fun _ _ _ _ h=>?_)
 refine Z ?_
 refine Ao h (fun _ h=>?_) (fun _ h=>?_)
 exact Y
 refine Z ?_
 refine D7 h (fun (v46,v47,o48)=>[(15,(O .u32 v46)),(136,(O .i64 v47))]) (fun (v46,v47,o48)=>[(0,.rows 141 1 (List.map (O .u32) o48))]) (fun (v46,v47,o48)=>b0.length=o48.length) ?_
 rintro ⟨v46,v47,o48⟩ _ _ _ h _ _ q48
 exact Y⟩
instance {a0 a1:List Int}:OK (Q2 a0 a1) fun r=>Ax Tryz.prog 203 [(As 1 (O .u32)) a0,(As 1 (O .u32)) a1] (.tup [(As 1 (O .u32)) r.1,(As 1 (O .u32)) r.2]):=⟨fun {r} h=>by
 refine pw {T:=Cb,an:=(fun _=>.ask),nl:=(fun s=>bif Nat.beq s 5 then [(0,1)] else bif Nat.beq s 4 then [(0,1)] else [])} Tryz.func203 ?_
 refine Z ?_
 refine Bh h (fun _ h=>?_)
 refine Z ?_
 refine Ao h (fun _ h=>?_) (fun _ h=>?_)
 exact Y
 refine Z ?_
 refine Ao h (fun _ h=>?_) (fun _ h=>?_)
 exact Y
 refine Z ?_
 refine B3 h (fun _ _ _ _ h=>?_)
 refine Z ?_
 refine Vk h (fun _ h=>?_)
 refine Z ?_
 refine A9 [] h (fun v9 h=>?_)
 refine Z ?_
 refine Bh h (fun _ h=>?_)
 refine Z ?_
 refine Rl h (fun v12 h=>?_)
 refine Z ?_
 refine Hf h (fun o13 h=>?_)
 refine Z ?_
 refine D7 h (fun (v19,o20,o21)=>[(13,(O .i64 v19))]) (fun (v19,o20,o21)=>[(0,.rows 141 1 (List.map (O .u32) o20)),(1,.rows 141 1 (List.map (O .u32) o21))]) (fun (v19,o20,o21)=>v9.length=o20.length/\o13.length=o21.length) ?_ (h0:=(⟨rfl,rfl⟩))
 rintro ⟨v19,o20,o21⟩ _ _ _ h _ hn1 ⟨q20,q21⟩
 refine Z ?_
 refine Ao h (fun _ h=>?_) (fun _ h=>?_)
 refine Z ?_
 refine Akk (f:=(O .u32)) rfl q20 h (fun v22 h=>?_)
 refine Z ?_
 refine C3 h (fun v23 hcv23 h=>?_)
 have okv23:=(OK.ok hcv23 :)
 rw [<-q20] at okv23
 refine Fk.act [0] _ _ _ _ okv23 rfl rfl ⟨rfl,trivial⟩ ?_
 refine C3 h (fun v24 hgv24 h=>?_)
 refine Z ?_
 refine Gx h (fun _ _ hiv25 _ h=>?_)
 refine Z ?_
 refine K0 (f:=(O .u32)) (x:=v23.1) (j:=v19) rfl rfl (Nat.zero_add _) hiv25 ?_
 refine Z ?_
 exact hn1 _ _ _ _ (Option.some.inj h) ⟨rfl,trivial⟩ ⟨⟨rfl,rfl⟩,⟨rfl,rfl⟩,trivial⟩ (⟨I1 hgv24,Hm (l:=o21) q21 v19 v23.1⟩)
 replace h:=Ck h
 refine Gc (Gb rfl (Az ?_))
 refine Dr [.fz 10] ?_
 refine Z ?_
 refine Bh h (fun _ h=>?_)
 refine Z ?_
 refine Bh h (fun _ h=>?_)
 refine ZO ?_
 refine Az ?_
 refine Dr [.fz 12] ?_
 exact Y⟩
instance {a0:List Int}:OK (Tt a0) fun r=>Ax Tryz.prog 261 [(As 1 (O .u32)) a0] (.tup [(O .u64) r.1,Aq r.2]):=⟨fun {r} h=>by
 refine pw C0 Tryz.func261 ?_
 refine Z ?_
 refine A7 h (fun (v3,v4)=>[(2,(O .u64 0)),(3,(Aq false)),(4,(O .u64 v3)),(9,(O .i64 v4))]) (fun (v3,v4)=>[]) ?_
 rintro ⟨v3,v4⟩ _ _ _ h _ _
 exact Y⟩
instance {a0 a1:List Int}:OK (Wm a0 a1) fun r=>Ax Tryz.prog 202 [(As 1 (O .u32)) a0,(As 1 (O .u32)) a1] ((As 1 (O .u32)) r):=⟨fun {r} h=>by
 refine pw {T:=Cb,an:=(fun _=>.ask),nl:=(fun s=>bif Nat.beq s 4 then [(0,1)] else [])} Tryz.func202 ?_
 refine Z ?_
 refine A7 h (fun (v12,v13)=>[(0,(.sl 1 (List.map (O .u32) v12))),(1,(.sl 1 (List.map (O .u32) v13))),(4,(.sl 1 (List.map (O .u32) [])))]) (fun (v12,v13)=>[]) ?_
 rintro ⟨v12,v13⟩ _ _ _ h _ _
 refine Z ?_
 refine Ao h (fun _ h=>?_) (fun _ h=>?_)
 refine Jt (K1 (Az (Az ?_)))
 refine Cn h (fun v14=>[(21,(Aq v14))]) (fun v14=>[]) ?_ ?_
 intro _ h _ _ _
 exact Y
 rintro v14 _ h
 refine Ao h (fun _ h=>?_) (fun _ h=>?_)
 refine Z ?_
 refine Bh h (fun _ h=>?_)
 refine Z ?_
 refine Bh h (fun _ h=>?_)
 refine Z ?_
 refine A7 h (fun (v18,v19)=>[(5,(O .u64 v18)),(7,(O .u64 v19))]) (fun (v18,v19)=>[]) ?_
 rintro ⟨v18,v19⟩ _ _ _ h _ _
 exact Y
 exact Y
 exact Y⟩
instance {a0:List Int}:OK (Qz a0) fun r=>Ax Tryz.prog 201 [(As 1 (O .u32)) a0] (Aq r):=⟨fun {r} h=>by
 refine pw C0 Tryz.func201 ?_
 exact Y⟩
instance {a0:Gp}:OK (Aae a0) fun r=>Ax Tryz.prog 128 [Oz a0] (Oz r):=⟨fun {r} h=>by
 refine pw {T:=Cb,an:=(fun _=>.ask),nl:=(fun s=>bif Nat.beq s 13 then [(1,1)] else [])} Tryz.func128 ?_
 exact Y⟩
instance {a0:Gp}:OK (Mm a0) fun r=>Ax Tryz.prog 72 [Oz a0] (Cr r):=⟨fun {r} h=>by
 refine pw C0 Tryz.func72 ?_
 exact Y⟩
instance {a0:List Int}:OK (Tf a0) fun r=>Ax Tryz.prog 132 [(As 1 (O .u32)) a0] ((As 1 (O .u32)) r):=⟨fun {r} h=>by
 refine pw {T:=Cb,an:=(fun _=>.ask),nl:=(fun s=>bif Nat.beq s 2 then [(0,1)] else [])} Tryz.func132 ?_
 refine Z ?_
 refine Hf h (fun _ h=>?_)
 refine Z ?_
 refine A7 h (fun (v14,v15,o16)=>[(3,(.arr 0 o16.length 0 o16.length)),(4,(O .u64 v14)),(13,(O .i64 v15))]) (fun (v14,v15,o16)=>[(0,.rows 141 1 (List.map (O .u32) o16))]) ?_
 rintro ⟨v14,v15,o16⟩ _ _ _ h _ _
 refine Z ?_
 refine Ao h (fun _ h=>?_) (fun _ h=>?_)
 exact Y
 replace h:=Ck h
 refine Z ?_
 refine Ao h (fun _ h=>?_) (fun _ h=>?_)
 refine Z ?_
 refine O4 h (fun _ h=>?_)
 refine ZO ?_
 refine Az ?_
 refine Dr [.fz 3] ?_
 exact Y
 refine Jt (Az ?_)
 refine Dr [.fz 3] ?_
 exact Y⟩
instance {a0:Ak}:OK (K4 a0) fun r=>Ax Tryz.prog 75 [Cr a0] (Oz r):=⟨fun {r} h=>by
 refine pw {T:=Cb,an:=(fun _=>.ask),nl:=(fun s=>bif Nat.beq s 20 then [(1,1)] else [])} Tryz.func75 ?_
 refine Z ?_
 refine Bh h (fun _ h=>?_)
 refine Z ?_
 refine Bh h (fun _ h=>?_)
 refine ZO ?_
 refine Az (Az ?_)
 refine Cn h (fun v5=>[(18,(Aq v5))]) (fun v5=>[]) ?_ ?_
 intro _ h _ _ _
 exact Y
 rintro v5 _ h
 exact Y⟩
instance {a0:Ak}:OK (Nh a0) fun r=>Ax Tryz.prog 98 [Cr a0] (Cr r):=⟨fun {r} h=>by
 refine pw C0 Tryz.func98 ?_
 exact Y⟩
instance {a0:Gp}:OK (V2 a0) fun r=>Ax Tryz.prog 106 [Oz a0] ((O .i64) r):=⟨fun {r} h=>by
 refine pw C0 Tryz.func106 ?_
 exact Y⟩
instance {a0:Ak}:OK (He a0) fun r=>Ax Tryz.prog 55 [Cr a0] ((O .i64) r):=⟨fun {r} h=>by
 refine pw C0 Tryz.func55 ?_
 exact Y⟩
instance {a0 a1:List Int}:OK (Mn a0 a1) fun r=>Ax Tryz.prog 99 [(As 1 (O .u32)) a0,(As 1 (O .u32)) a1] (Aq r):=⟨fun {r} h=>by
 refine pw C0 Tryz.func99 ?_
 refine Z ?_
 refine Ao h (fun _ h=>?_) (fun _ h=>?_)
 exact Y
 refine Z ?_
 refine A7 h (fun v3=>[(4,(Aq false)),(13,(O .i64 v3))]) (fun v3=>[]) ?_
 rintro v3 _ _ _ h _ _
 exact Y⟩
instance {a0:List Aj} {b1:List (ByteArray×Int)} {b2:List (ByteArray×(List Dl))} {b0_0:List Ap} {b0_1:List Ah} {b0_2 b0_3:Int} {b0_4:List Ah}:OK (Vq a0 b1 b2 b0_0 b0_1 b0_2 b0_3 b0_4) fun r=>Bn Tryz.prog 53 [(.loc 0 0),(As 5 Cj) a0] [.cells 119 [(.sl 3 (List.map Cd b0_0)),(.sl 3 (Bk b0_1)),(O .i64 b0_2),(O .i64 b0_3),(.sl 3 (Bk b0_4)),(.mp 1),(.mp 2)],.map (Bm (O .i64) b1),.map (Bm (As 5 Ew) b2)] (Aq r.1) [.cells 119 [(.sl 3 (List.map Cd b0_0)),(.sl 3 (Bk b0_1)),(O .i64 b0_2),(O .i64 b0_3),(.sl 3 (Bk b0_4)),(.mp 1),(.mp 2)],.map (Bm (O .i64) r.2),.map (Bm (As 5 Ew) b2)]:=⟨fun {r} h=>by
 refine aw C0 true Tryz.func53 ?_
 refine Z ?_
 refine Ao h (fun _ h=>?_) (fun _ h=>?_)
 exact Y
 refine Z ?_
 refine A7 h (fun (v10,o11)=>[(4,(Aq false)),(14,(O .i64 v10))]) (fun (v10,o11)=>[(1,.map (Bm (O .i64) o11))]) ?_
 rintro ⟨v10,o11⟩ _ _ _ h _ _
 refine Z ?_
 refine Ao h (fun _ h=>?_) (fun _ h=>?_)
 refine Z ?_
 refine B3 h (fun _ _ _ _ h=>?_)
 refine Z ?_
 refine Bh h (fun _ h=>?_)
 refine ZO ?_
 refine Az ?_
 refine Cn h (fun v18=>[(8,(Aq v18))]) (fun v18=>[]) ?_ ?_
 intro _ h _ _ _
 exact Y
 rintro v18 _ h
 refine Z ?_
 refine Fv h (fun _ h=>?_) (fun _ h=>?_)
 exact Y
 refine Z ?_
 refine Bh h (fun _ h=>?_)
 refine Z ?_
 refine Fv h (fun _ h=>?_) (fun _ h=>?_)
 exact Y
 refine Z ?_
 refine A9 [0,1,2] h (fun _ h=>?_)
 exact Y
 exact Y⟩
theorem W7 {a0:Bo} {a1:List (List Aj)} {r:(Bool×Bo×(List (ByteArray×Int))×(List (ByteArray×(List Dl)))×(List Ap)×(List Ah)×Int×Int×(List Ah))} (h:Ju a0 a1=some (.inl r)):Bn Tryz.prog 26 [Kf a0,(As 1 (As 5 Cj)) a1] [] (.tup [.loc 3 0,Aq r.1]) [.cells 31 [(.sl 3 (List.map Cd r.2.1.Data)),(.sl 3 (Bk r.2.1.Vars)),(O .i64 r.2.1.Res.Kind),(O .i64 r.2.1.Res.Num),(.sl 3 (Bk r.2.1.Res.Args))],.map (Bm (O .i64) r.2.2.1),.map (Bm (As 5 Ew) r.2.2.2.1),.cells 119 [(.sl 3 (List.map Cd r.2.2.2.2.1)),(.sl 3 (Bk r.2.2.2.2.2.1)),(O .i64 r.2.2.2.2.2.2.1),(O .i64 r.2.2.2.2.2.2.2.1),(.sl 3 (Bk r.2.2.2.2.2.2.2.2)),(.mp 1),(.mp 2)]]:=by
 refine aw {T:=Cb,an:=(fun _=>.ask),nl:=(fun s=>bif Nat.beq s 18 then [(1,7),(2,3),(3,8)] else [])} true Tryz.func26 ?_
 refine ZS ?_
 refine Cm ?_
 refine ZO ?_
 refine Az (Az ?_)
 refine Cn h (fun v4=>[(29,(Aq v4))]) (fun v4=>[]) ?_ ?_
 intro _ h _ _ _
 exact Y
 rintro v4 _ h
 refine Ao h (fun _ h=>?_) (fun _ h=>?_)
 exact Y
 refine Z ?_
 refine A7 h (fun v8=>[(4,(.val (.pointer none))),(5,(Aq false)),(33,(O .i64 v8))]) (fun v8=>[]) ?_
 rintro v8 _ _ _ h _ _
 refine Z ?_
 refine Ao h (fun _ h=>?_) (fun _ h=>?_)
 exact Y
 replace h:=Ck h
 refine Z ?_
 refine A7 h (fun (v18,o19)=>[(4,(.val (.pointer none))),(5,(Aq false)),(50,(O .i64 v18))]) (fun (v18,o19)=>[(1,.map (Bm (O .i64) o19))]) ?_
 rintro ⟨v18,o19⟩ _ _ _ h _ _
 refine Z ?_
 refine Ao h (fun _ h=>?_) (fun _ h=>?_)
 refine Z ?_
 refine B3 h (fun _ _ _ _ h=>?_)
 refine Z ?_
 refine A9 [3,1,2] h (fun _ h=>?_)
 exact Y
 exact Y
theorem W8 {a0:Bo} {a1:List (List Aj)} {r:Bool} (h:Ju a0 a1=some (.inr r)):Bn Tryz.prog 26 [Kf a0,(As 1 (As 5 Cj)) a1] [] (.tup [.val (.pointer none),Aq r]) []:=by
 refine aw {T:=Cb,an:=(fun _=>.ask),nl:=(fun s=>bif Nat.beq s 18 then [(1,7),(2,3),(3,8)] else [])} true Tryz.func26 ?_
 refine ZS ?_
 refine Cm ?_
 refine ZO ?_
 refine Az (Az ?_)
 refine Cn h (fun v4=>[(29,(Aq v4))]) (fun v4=>[]) ?_ ?_
 intro _ h _ _ _
 exact Y
 rintro v4 _ h
 refine Ao h (fun _ h=>?_) (fun _ h=>?_)
 exact Y
 refine Z ?_
 refine A7 h (fun v8=>[(4,(.val (.pointer none))),(5,(Aq false)),(33,(O .i64 v8))]) (fun v8=>[]) ?_
 rintro v8 _ _ _ h _ _
 refine Z ?_
 refine Ao h (fun _ h=>?_) (fun _ h=>?_)
 exact Y
 replace h:=Ck h
 refine Z ?_
 refine A7 h (fun (v18,o19)=>[(4,(.val (.pointer none))),(5,(Aq false)),(50,(O .i64 v18))]) (fun (v18,o19)=>[(1,.map (Bm (O .i64) o19))]) ?_
 rintro ⟨v18,o19⟩ _ _ _ h _ _
 refine Z ?_
 refine Ao h (fun _ h=>?_) (fun _ h=>?_)
 refine Z ?_
 refine B3 h (fun _ _ _ _ h=>?_)
 refine Z ?_
 refine A9 [3,1,2] h (fun _ h=>?_)
 exact Y
 exact Y
instance {a0:Int}:OK (Aaz a0) fun r=>Ax Tryz.prog 37 [(.val (.pointer none)),(O .i64) a0] (E4 r):=⟨fun {r} h=>by
 refine pw C0 Tryz.func37 ?_
 exact Y⟩
instance {a0:Int}:OK (Ak4 a0) fun r=>Ax Tryz.prog 142 [(.val (.pointer none)),(O .i64) a0] (Aq r):=⟨fun {r} h=>by
 refine pw C0 Tryz.func142 ?_
 exact Y⟩
instance {a0:Bb}:OK (Ak5 a0) fun r=>Bn Tryz.prog 141 [Dd a0,(.loc 0 0)] [.cells 74 [(.val (.pointer none))]] (Aq r) [.cells 74 [(.val (.pointer none))]]:=⟨fun {r} h=>by
 refine aw C0 true Tryz.func141 ?_
 refine Z ?_
 refine Bh h (fun _ h=>?_)
 refine Z ?_
 refine Fv h (fun _ h=>?_) (fun _ h=>?_)
 exact Y
 refine Z ?_
 refine Bh h (fun _ h=>?_)
 refine Z ?_
 refine Va.mk 3 (by kernel_rfl) ?_
 exact Y⟩
instance {a0:List Bb}:OK (Ak6 a0) fun r=>Bn Tryz.prog 213 [(As 2 Dd) a0,(.fn 141 [(.loc 0 0)])] [.cells 74 [(.val (.pointer none))]] ((O .i64) r) [.cells 74 [(.val (.pointer none))]]:=⟨fun {r} h=>by
 refine aw C0 true Tryz.func213 ?_
 refine Z ?_
 refine A7 h (fun v3=>[(4,(O .i64 0)),(8,(O .i64 v3))]) (fun v3=>[]) ?_
 rintro v3 _ _ _ h _ _
 refine Z ?_
 refine Ao h (fun _ h=>?_) (fun _ h=>?_)
 refine Z ?_
 refine B3 h (fun _ _ _ _ h=>?_)
 refine Z ?_
 refine A9 [0] h (fun _ h=>?_)
 exact Y
 exact Y⟩
instance {a0:List Bb}:OK (Ak7 a0) fun r=>Bn Tryz.prog 140 [(As 2 Dd) a0,(.fn 141 [(.loc 0 0)])] [.cells 74 [(.val (.pointer none))]] (Aq r) [.cells 74 [(.val (.pointer none))]]:=⟨fun {r} h=>by
 refine aw C0 true Tryz.func140 ?_
 refine Z ?_
 refine A9 [0] h (fun _ h=>?_)
 exact Y⟩
instance {a0:Be}:OK (Ak8 a0) fun r=>Ax Tryz.prog 81 [(.val (.pointer none)),Gm a0] (Aq r):=⟨fun {r} h=>by
 refine pw C0 Tryz.func81 ?_
 refine Z ?_
 refine A9 [0] h (fun _ h=>?_)
 exact Y⟩
instance  : OK (J9) fun r=>Bn Tryz.prog 27 [] [] (.loc 1 0) [.map (Bm (O .i64) r.1),.cells 122 [(.mp 0),(.arr 2 r.2.length 0 r.2.length)],.rows 72 5 (List.map Cj r.2)]:=⟨fun {r} h=>by
 refine aw C0 true Tryz.func27 ?_
 refine ZS ?_
 refine Cm ?_
 refine ZS ?_
 refine Cm ?_
 refine ZO ?_
 refine Dr [.own 3 1 72 5] ?_
 exact Y⟩
instance {a0:Be} {a1:Int}:OK (Q6 a0 a1) fun r=>Ax Tryz.prog 224 [Gm a0,(O .i64) a1] ((As 3 Ev) r):=⟨fun {r} h=>by
 refine pw {T:=Cb,an:=(fun _=>.ask),nl:=(fun s=>bif Nat.beq s 4 then [(0,3)] else [])} Tryz.func224 ?_
 exact Y⟩
instance {a0:Int}:OK (Qj a0) fun r=>Ax Tryz.prog 71 [(O .i64) a0] ((As 1 (O .u32)) r):=⟨fun {r} h=>by
 refine pw {T:=Cb,an:=(fun _=>.ask),nl:=(fun s=>bif Nat.beq s 2 then [(0,1)] else [])} Tryz.func71 ?_
 exact Y⟩
instance {a0:Int}:OK (Dn a0) fun r=>Ax Tryz.prog 38 [(O .i64) a0] (Cr r):=⟨fun {r} h=>by
 refine pw C0 Tryz.func38 ?_
 exact Y⟩
instance {a0 a1:List Int}:OK (Nd a0 a1) fun r=>Ax Tryz.prog 76 [(As 1 (O .u32)) a0,(As 1 (O .u32)) a1] ((As 1 (O .u32)) r):=⟨fun {r} h=>by
 refine pw {T:=Cb,an:=(fun _=>.ask),nl:=(fun s=>bif Nat.beq s 4 then [(0,1)] else [])} Tryz.func76 ?_
 refine ZS ?_
 refine Cm ?_
 refine ZO ?_
 refine Az (Az ?_)
 refine Cn h (fun v1=>[(17,(Aq v1))]) (fun v1=>[]) ?_ ?_
 intro _ h _ _ _
 exact Y
 rintro v1 _ h
 refine Ao h (fun _ h=>?_) (fun _ h=>?_)
 exact Y
 refine Z ?_
 refine Hf h (fun o2 h=>?_)
 refine Z ?_
 refine D7 h (fun (v23,o24)=>[(26,(O .i64 v23))]) (fun (v23,o24)=>[(0,.rows 141 1 (List.map (O .u32) o24))]) (fun (v23,o24)=>o2.length=o24.length) ?_
 rintro ⟨v23,o24⟩ _ _ _ h _ _ q24
 refine Z ?_
 refine Ao h (fun _ h=>?_) (fun _ h=>?_)
 refine Z ?_
 refine D7 h (fun (v31,v32,o33)=>[(7,(O .u64 v31)),(31,(O .i64 v32))]) (fun (v31,v32,o33)=>[(0,.rows 141 1 (List.map (O .u32) o33))]) (fun (v31,v32,o33)=>o2.length=o33.length) ?_
 rintro ⟨v31,v32,o33⟩ _ _ _ h _ _ q33
 exact Y
 replace h:=Ck h
 refine Gc (Gb rfl (Az ?_))
 refine Dr [.fz 5] ?_
 exact Y⟩
instance {a0 a1:Ak}:OK (Eb a0 a1) fun r=>Ax Tryz.prog 40 [Cr a0,Cr a1] (Cr r):=⟨fun {r} h=>by
 refine pw C0 Tryz.func40 ?_
 exact Y⟩
instance {a0 a1:Int}:OK (Nf a0 a1) fun r=>Ax Tryz.prog 79 [(O .i64) a0,(O .i64) a1] (Cr r):=⟨fun {r} h=>by
 refine pw C0 Tryz.func79 ?_
 exact Y⟩
instance {a0 a1:Int}:OK (Q3 a0 a1) fun r=>Ax Tryz.prog 206 [(O .i64) a0,(O .i64) a1] (Cr r):=⟨fun {r} h=>by
 refine pw C0 Tryz.func206 ?_
 refine Z ?_
 refine Bh h (fun _ h=>?_)
 refine Z ?_
 refine A7 h (fun (v7,v8,v9,v10)=>[(9,(O .i64 v7))]) (fun (v7,v8,v9,v10)=>[(1,.cells 58 [(Aq v8),(.sl 1 (List.map (O .u32) v9)),(.sl 1 (List.map (O .u32) v10))])]) ?_
 rintro ⟨v7,v8,v9,v10⟩ _ _ _ h _ _
 exact Y⟩
instance {a0 a1:Int}:OK (T3 a0 a1) fun r=>Ax Tryz.prog 130 [(O .i64) a0,(O .i64) a1] (.tup [Cr r.1,Aq r.2]):=⟨fun {r} h=>by
 refine pw C0 Tryz.func130 ?_
 refine ZS ?_
 refine Cm ?_
 refine ZO ?_
 refine Az (Az ?_)
 refine Cn h (fun v2=>[(11,(Aq v2))]) (fun v2=>[]) ?_ ?_
 intro _ h _ _ _
 exact Y
 rintro v2 _ h
 exact Y⟩
instance {a0:List Ak}:OK (Mr a0) fun r=>Ax Tryz.prog 302 [(As 3 Cr) a0] ((As 3 Cr) r):=⟨fun {r} h=>by
 refine pw {T:=Cb,an:=(fun _=>.ask),nl:=(fun s=>bif Nat.beq s 2 then [(0,3)] else [])} Tryz.func302 ?_
 refine Z ?_
 refine A7 h (fun v3=>[(3,(O .i64 v3))]) (fun v3=>[]) ?_
 rintro v3 _ _ _ h _ _
 refine Z ?_
 refine Fv h (fun _ h=>?_) (fun _ h=>?_)
 refine Z ?_
 refine B3 h (fun _ _ _ _ h=>?_)
 refine Z ?_
 refine Bh h (fun _ h=>?_)
 refine Z ?_
 refine Ao h (fun _ h=>?_) (fun _ h=>?_)
 exact Y
 replace h:=Ck h
 refine Z ?_
 refine Qc (f:=Cr) (z:=((Ak.mk false [] []):Ak)) (by repeat (first | exact E8.nil | apply E8.sl | apply E8.same)) h (fun o7 h=>?_)
 refine Z ?_
 refine D7 h (fun (v12,o13)=>[(25,(O .i64 v12))]) (fun (v12,o13)=>[(0,.rows 58 3 (List.map Cr o13))]) (fun (v12,o13)=>o7.length=o13.length) ?_
 rintro ⟨v12,o13⟩ _ _ _ h _ _ q13
 exact Y
 replace h:=Ck h
 refine Z ?_
 refine Qc (f:=Cr) (z:=((Ak.mk false [] []):Ak)) (by repeat (first | exact E8.nil | apply E8.sl | apply E8.same)) h (fun o7 h=>?_)
 refine Z ?_
 refine D7 h (fun (v12,o13)=>[(25,(O .i64 v12))]) (fun (v12,o13)=>[(0,.rows 58 3 (List.map Cr o13))]) (fun (v12,o13)=>o7.length=o13.length) ?_
 rintro ⟨v12,o13⟩ _ _ _ h _ _ q13
 exact Y⟩
instance {a0 a1:List Int}:OK (Wb a0 a1) fun r=>Ax Tryz.prog 134 [(As 1 (O .u32)) a0,(As 1 (O .u32)) a1] ((As 1 (O .u32)) r):=⟨fun {r} h=>by
 refine pw {T:=Cb,an:=(fun _=>.ask),nl:=(fun s=>bif Nat.beq s 4 then [(0,1)] else [])} Tryz.func134 ?_
 refine ZS ?_
 refine Cm ?_
 refine ZS ?_
 refine Cm ?_
 refine ZO ?_
 refine Cn h (fun (v1,v2)=>[(0,(.sl 1 (List.map (O .u32) v1))),(1,(.sl 1 (List.map (O .u32) v2)))]) (fun (v1,v2)=>[]) ?_ ?_
 intro _ h _ _ _
 exact Y
 rintro ⟨v1,v2⟩ _ h
 refine Z ?_
 refine Hf h (fun _ h=>?_)
 refine Z ?_
 refine A7 h (fun (v20,v21,o22)=>[(5,(.arr 0 o22.length 0 o22.length)),(6,(O .u32 v20)),(22,(O .i64 v21))]) (fun (v20,v21,o22)=>[(0,.rows 141 1 (List.map (O .u32) o22))]) ?_
 rintro ⟨v20,v21,o22⟩ _ _ _ h _ _
 refine Z ?_
 refine Ao h (fun _ h=>?_) (fun _ h=>?_)
 refine Z ?_
 refine B3 h (fun _ _ _ _ h=>?_)
 refine ZS ?_
 refine Cm ?_
 refine ZO ?_
 refine Cn h (fun v25=>[(8,(O .u32 v25))]) (fun v25=>[]) ?_ ?_
 intro _ h _ _ _
 exact Y
 rintro v25 _ h
 exact Y
 exact Y⟩
instance {a0 a1:List Int}:OK (Tg a0 a1) fun r=>Ax Tryz.prog 136 [(As 1 (O .u32)) a0,(As 1 (O .u32)) a1] ((As 1 (O .u32)) r):=⟨fun {r} h=>by
 refine pw {T:=Cb,an:=(fun _=>.ask),nl:=(fun s=>bif Nat.beq s 4 then [(0,1)] else [])} Tryz.func136 ?_
 refine Z ?_
 refine Hf h (fun _ h=>?_)
 refine Z ?_
 refine A7 h (fun (v8,v9,o10)=>[(5,(.arr 0 o10.length 0 o10.length)),(6,(O .i64 v8)),(14,(O .i64 v9))]) (fun (v8,v9,o10)=>[(0,.rows 141 1 (List.map (O .u32) o10))]) ?_
 rintro ⟨v8,v9,o10⟩ _ _ _ h _ _
 refine Z ?_
 refine Ao h (fun _ h=>?_) (fun _ h=>?_)
 refine Z ?_
 refine B3 h (fun _ _ _ _ h=>?_)
 refine ZS ?_
 refine Cm ?_
 refine ZO ?_
 refine Cn h (fun v13=>[(8,(O .i64 v13))]) (fun v13=>[]) ?_ ?_
 intro _ h _ _ _
 exact Y
 rintro v13 _ h
 exact Y
 replace h:=Ck h
 refine Gc (Gb rfl (Az ?_))
 refine Dr [.fz 5] ?_
 exact Y⟩
instance {a0 a1:Gp}:OK (Ta a0 a1) fun r=>Ax Tryz.prog 77 [Oz a0,Oz a1] (Oz r):=⟨fun {r} h=>by
 refine pw C0 Tryz.func77 ?_
 exact Y⟩
instance {a0 a1:Ak}:OK (Hc a0 a1) fun r=>Ax Tryz.prog 41 [Cr a0,Cr a1] (Cr r):=⟨fun {r} h=>by
 refine pw C0 Tryz.func41 ?_
 exact Y⟩
instance {a0 a1 b0:Ak}:OK (Wx a0 a1 b0) fun r=>Bn Tryz.prog 305 [Cr a0,Cr a1,(.loc 0 0)] [.cells 58 [(Aq b0.Neg),(.sl 1 (List.map (O .u32) b0.Num)),(.sl 1 (List.map (O .u32) b0.Den))]] (Cr r) [.cells 58 [(Aq b0.Neg),(.sl 1 (List.map (O .u32) b0.Num)),(.sl 1 (List.map (O .u32) b0.Den))]]:=⟨fun {r} h=>by
 refine aw C0 true Tryz.func305 ?_
 exact Y⟩
instance {a0 a1:List Ak} {b0:Ak}:OK (Re a0 a1 b0) fun r=>Bn Tryz.prog 303 [(As 3 Cr) a0,(As 3 Cr) a1,(.fn 305 [(.loc 0 0)])] [.cells 58 [(Aq b0.Neg),(.sl 1 (List.map (O .u32) b0.Num)),(.sl 1 (List.map (O .u32) b0.Den))]] ((As 3 Cr) r) [.cells 58 [(Aq b0.Neg),(.sl 1 (List.map (O .u32) b0.Num)),(.sl 1 (List.map (O .u32) b0.Den))]]:=⟨fun {r} h=>by
 refine aw {T:=Cb,an:=(fun _=>.ask),nl:=(fun s=>bif Nat.beq s 6 then [(0,3)] else [])} true Tryz.func303 ?_
 refine Z ?_
 refine Qc (f:=Cr) (z:=((Ak.mk false [] []):Ak)) (by repeat (first | exact E8.nil | apply E8.sl | apply E8.same)) h (fun o1 h=>?_)
 refine Z ?_
 refine D7 h (fun (v15,o16)=>[(19,(O .i64 v15))]) (fun (v15,o16)=>[(1,.rows 58 3 (List.map Cr o16))]) (fun (v15,o16)=>o1.length=o16.length) ?_
 rintro ⟨v15,o16⟩ _ _ _ h _ _ q16
 refine Z ?_
 refine Ao h (fun _ h=>?_) (fun _ h=>?_)
 refine ZS ?_
 refine Cm ?_
 refine ZS ?_
 refine Cm ?_
 refine ZO ?_
 refine Az (Az ?_)
 refine Dr [.nil 9 1 1,.nil 9 2 1,.nil 10 1 1,.nil 10 2 1] ?_
 refine ZS ?_
 refine Cm ?_
 refine ZO ?_
 refine Cn h (fun (v20,v21,v22)=>[]) (fun (v20,v21,v22)=>[(2,.cells 58 [(Aq v20),(.sl 1 (List.map (O .u32) v21)),(.sl 1 (List.map (O .u32) v22))])]) ?_ ?_
 intro _ h _ _ _
 exact Y
 rintro ⟨v20,v21,v22⟩ _ h
 refine ZS ?_
 refine Cm ?_
 refine ZO ?_
 refine Cn h (fun (v24,v25,v26)=>[]) (fun (v24,v25,v26)=>[(3,.cells 58 [(Aq v24),(.sl 1 (List.map (O .u32) v25)),(.sl 1 (List.map (O .u32) v26))])]) ?_ ?_
 intro _ h _ _ _
 exact Y
 rintro ⟨v24,v25,v26⟩ _ h
 refine Z ?_
 refine A9 [0] h (fun _ h=>?_)
 exact Y
 exact Y⟩
instance {a0 a1:Int}:OK (Aa0 a0 a1) fun r=>Ax Tryz.prog 206 [(O .i64) a0,(O .i64) a1] (Cr r):=⟨fun {r} h=>by
 refine pw C0 Tryz.func206 ?_
 refine Z ?_
 refine Bh h (fun _ h=>?_)
 refine Z ?_
 refine A7 h (fun (v7,v8,v9,v10)=>[(9,(O .i64 v7))]) (fun (v7,v8,v9,v10)=>[(1,.cells 58 [(Aq v8),(.sl 1 (List.map (O .u32) v9)),(.sl 1 (List.map (O .u32) v10))])]) ?_
 rintro ⟨v7,v8,v9,v10⟩ _ _ _ h _ _
 exact Y⟩
instance {a0:Int}:OK (W2 a0) fun r=>Bn Tryz.prog 334 [(O .i64) a0] [] (.arr 0 r.length 0 r.length) [.rows 58 3 (List.map Cr r)]:=⟨fun {r} h=>by
 refine aw {T:=Cb,an:=(fun _=>.ask),nl:=(fun s=>bif Nat.beq s 2 then [(0,3)] else [])} false Tryz.func334 ?_
 refine Z ?_
 refine Qc (f:=Cr) (z:=((Ak.mk false [] []):Ak)) (by repeat (first | exact E8.nil | apply E8.sl | apply E8.same)) h (fun o1 h=>?_)
 refine Z ?_
 refine D7 h (fun (v5,o6)=>[(9,(O .i64 v5))]) (fun (v5,o6)=>[(0,.rows 58 3 (List.map Cr o6))]) (fun (v5,o6)=>o1.length=o6.length) ?_
 rintro ⟨v5,o6⟩ _ _ _ h _ _ q6
 refine Z ?_
 refine Ao h (fun _ h=>?_) (fun _ h=>?_)
 exact Y
 replace h:=Ck h
 refine Z ?_
 cases h
 exact ⟨congrArg (fun q_=>AV.arr 0 q_ 0 q_) q6,rfl,trivial⟩⟩
instance {a0 a1:Int}:OK (Tw a0 a1) fun r=>Ax Tryz.prog 304 [(O .i64) a0,(O .i64) a1] ((As 3 Cr) r):=⟨fun {r} h=>by
 refine pw {T:=Cb,an:=(fun _=>.ask),nl:=(fun s=>bif Nat.beq s 4 then [(0,3)] else [])} Tryz.func304 ?_
 refine Z ?_
 refine A9 [] h (fun v1 h=>?_)
 refine Z ?_
 refine D7 h (fun (v7,o8)=>[(6,(O .i64 v7))]) (fun (v7,o8)=>[(0,.rows 58 3 (List.map Cr o8))]) (fun (v7,o8)=>v1.length=o8.length) ?_
 rintro ⟨v7,o8⟩ _ _ _ h _ _ q8
 exact Y⟩
instance {a0 a1:List Ak}:OK (Wt a0 a1) fun r=>Ax Tryz.prog 271 [(As 3 Cr) a0,(As 3 Cr) a1] (.tup [(As 3 Cr) r.1,Aq r.2]):=⟨fun {r} h=>by
 refine pw {T:=Cb,an:=(fun _=>.ask),nl:=(fun s=>bif Nat.beq s 6 then [(0,3)] else bif Nat.beq s 4 then [(0,3)] else [])} Tryz.func271 ?_
 refine ZS ?_
 refine Cm ?_
 refine ZO ?_
 refine Az (Az ?_)
 refine Cn h (fun v1=>[(19,(Aq v1))]) (fun v1=>[]) ?_ ?_
 intro _ h _ _ _
 exact Y
 rintro v1 _ h
 refine Ao h (fun _ h=>?_) (fun _ h=>?_)
 exact Y
 refine Z ?_
 refine Bh h (fun _ h=>?_)
 refine Z ?_
 refine Bh h (fun _ h=>?_)
 refine ZO ?_
 refine Az (Az ?_)
 refine Cn h (fun v4=>[(31,(Aq v4))]) (fun v4=>[]) ?_ ?_
 intro _ h _ _ _
 exact Y
 rintro v4 _ h
 refine Ao h (fun _ h=>?_) (fun _ h=>?_)
 exact Y
 refine Z ?_
 refine Ao h (fun _ h=>?_) (fun _ h=>?_)
 exact Y
 refine Z ?_
 refine A7 h (fun (v25,v26)=>[(6,(.sl 3 (List.map Cr v25))),(40,(O .i64 v26))]) (fun (v25,v26)=>[]) ?_
 rintro ⟨v25,v26⟩ _ _ _ h _ _
 refine Z ?_
 refine Ao h (fun _ h=>?_) (fun _ h=>?_)
 refine Z ?_
 refine B3 h (fun _ _ _ _ h=>?_)
 refine Z ?_
 refine A7 h (fun (v36,v37)=>[(6,(.sl 3 (List.map Cr v36))),(47,(O .i64 v37))]) (fun (v36,v37)=>[]) ?_
 rintro ⟨v36,v37⟩ _ _ _ h _ _
 refine Z ?_
 refine Ao h (fun _ h=>?_) (fun _ h=>?_)
 refine Z ?_
 refine B3 h (fun _ _ _ _ h=>?_)
 refine Z ?_
 refine Bh h (fun _ h=>?_)
 refine Z ?_
 refine Bh h (fun _ h=>?_)
 refine Z ?_
 refine Ao h (fun _ h=>?_) (fun _ h=>?_)
 exact Y
 refine Z ?_
 refine Bh h (fun _ h=>?_)
 refine Z ?_
 refine A9 [2] h (fun _ h=>?_)
 exact Y
 exact Y
 exact Y⟩
theorem Axh {a0:List Ba} {r:(List Ak)} (h:Aa1 a0=some r):Ax Tryz.prog 223 [(As 3 Ev) a0] ((As 3 Cr) r):=by
 refine pw {T:=Cb,an:=(fun s=>bif Nat.beq s 10 then .own else .ask),nl:=(fun s=>bif Nat.beq s 2 then [(0,3)] else [])} Tryz.func223 ?_
 refine Z ?_
 refine Bh h (fun _ h=>?_)
 refine Z ?_
 refine D7 h (fun (v14,o15)=>[(3,(.arr 0 1 0 1)),(13,(O .i64 v14))]) (fun (v14,o15)=>[(0,.rows 58 3 (List.map Cr o15))]) (fun (v14,o15)=>1=o15.length) ?_
 rintro ⟨v14,o15⟩ _ _ _ h _ _ q15
 refine Z ?_
 refine Ao h (fun _ h=>?_) (fun _ h=>?_)
 refine Z ?_
 refine B3 h (fun _ _ _ _ h=>?_)
 refine Z ?_
 refine Ao h (fun _ h=>?_) (fun _ h=>?_)
 exact Y
 refine Z ?_
 refine Qc (f:=Cr) (z:=((Ak.mk false [] []):Ak)) (by repeat (first | exact E8.nil | apply E8.sl | apply E8.same)) h (fun o23 h=>?_)
 exact Y
 exact Y
theorem Axi {a0:List Ba} {r:(List Ak)} (h:Aa2 a0=some r):Ax Tryz.prog 223 [(As 3 Ev) a0] ((As 3 Cr) r):=by
 refine pw {T:=Cb,an:=(fun _=>.ask),nl:=(fun s=>bif Nat.beq s 2 then [(0,3)] else [])} Tryz.func223 ?_
 refine Z ?_
 refine Bh h (fun _ h=>?_)
 refine Z ?_
 refine A7 h (fun (v9,v10)=>[(3,(.sl 3 (List.map Cr v9))),(13,(O .i64 v10))]) (fun (v9,v10)=>[]) ?_
 rintro ⟨v9,v10⟩ _ _ _ h _ _
 refine Z ?_
 refine Ao h (fun _ h=>?_) (fun _ h=>?_)
 refine Z ?_
 refine B3 h (fun _ v11 _ _ h=>?_)
 refine Z ?_
 refine Ao h (fun _ h=>?_) (fun _ h=>?_)
 exact Y
 refine Z ?_
 refine Qc (f:=Cr) (z:=((Ak.mk false [] []):Ak)) (by repeat (first | exact E8.nil | apply E8.sl | apply E8.same)) h (fun o13 h=>?_)
 refine Z ?_
 refine Bh h (fun v15 h=>?_)
 refine Z ?_
 refine Gx h (fun _ _ hiv16 _ h=>?_)
 refine Z ?_
 refine K0 (f:=Cr) (x:=v15) (j:=v11.Deg) rfl rfl (Nat.zero_add _) hiv16 ?_
 refine ZO ?_
 refine Dr [.fz 8] ?_
 exact Y
 exact Y
instance {a0:List Ba}:OK (Lw a0) fun r=>Ax Tryz.prog 223 [(As 3 Ev) a0] ((As 3 Cr) r):=⟨fun {r} h=>by
 unfold Lw at h
 cases hv:Aa3 a0 with
 | true=>rw [hv] at h; exact Axh h
 | false=>rw [hv] at h; exact Axi h⟩
instance {a0:Int}:OK (Aat a0) fun r=>Bn Tryz.prog 273 [(.val (.slice none 0 0)),(O .i64) a0] [] (.arr 0 r.length 0 r.length) [.rows 101 3 (List.map Ev r)]:=⟨fun {r} h=>by
 exact Axb h⟩
instance {a0:List (List Ba)}:OK (Aam a0) fun r=>Ax Tryz.prog 226 [(As 1 (As 3 Ev)) a0] ((As 3 Ev) r):=⟨fun {r} h=>by
 refine pw {T:=Cb,an:=(fun _=>.ask),nl:=(fun s=>bif Nat.beq s 2 then [(0,3)] else [])} Tryz.func226 ?_
 refine Z ?_
 refine A7 h (fun (v2,v3)=>[(3,(O .i64 v2)),(11,(O .i64 v3))]) (fun (v2,v3)=>[]) ?_
 rintro ⟨v2,v3⟩ _ _ _ h _ _
 refine Z ?_
 refine Ao h (fun _ h=>?_) (fun _ h=>?_)
 exact Y
 replace h:=Ck h
 refine Z ?_
 refine A9 [] h (fun _ h=>?_)
 refine Z ?_
 refine A7 h (fun (v14,o15)=>[(6,(.arr 0 o15.length 0 o15.length)),(27,(O .i64 v14))]) (fun (v14,o15)=>[(0,.rows 101 3 (List.map Ev o15))]) ?_
 rintro ⟨v14,o15⟩ _ _ _ h _ _
 exact Y⟩
instance {a0:Int}:OK (Aas a0) fun r=>Bn Tryz.prog 272 [(.val (.slice none 0 0)),(O .i64) a0] [] (.arr 0 r.length 0 r.length) [.rows 97 3 (List.map Fo r)]:=⟨fun {r} h=>by
 exact Aw8 h⟩
instance {a0:List (List Cg)}:OK (Aal a0) fun r=>Ax Tryz.prog 225 [(As 1 (As 3 Fo)) a0] ((As 3 Fo) r):=⟨fun {r} h=>by
 refine pw {T:=Cb,an:=(fun _=>.ask),nl:=(fun s=>bif Nat.beq s 2 then [(0,3)] else [])} Tryz.func225 ?_
 refine Z ?_
 refine A7 h (fun (v2,v3)=>[(3,(O .i64 v2)),(11,(O .i64 v3))]) (fun (v2,v3)=>[]) ?_
 rintro ⟨v2,v3⟩ _ _ _ h _ _
 refine Z ?_
 refine Ao h (fun _ h=>?_) (fun _ h=>?_)
 exact Y
 replace h:=Ck h
 refine Z ?_
 refine A9 [] h (fun _ h=>?_)
 refine Z ?_
 refine A7 h (fun (v14,o15)=>[(6,(.arr 0 o15.length 0 o15.length)),(27,(O .i64 v14))]) (fun (v14,o15)=>[(0,.rows 97 3 (List.map Fo o15))]) ?_
 rintro ⟨v14,o15⟩ _ _ _ h _ _
 exact Y⟩
instance {a0 a1:A8}:OK (Ol a0 a1) fun r=>Ax Tryz.prog 145 [Ir a0,Ir a1] (Ir r):=⟨fun {r} h=>by
 refine pw C0 Tryz.func145 ?_
 exact Y⟩
instance {a0:Aj} {a1:Ak} {a2:A8}:OK (Q5 a0 a1 a2) fun r=>Ax Tryz.prog 218 [Cj a0,Cr a1,Ir a2] (Cj r):=⟨fun {r} h=>by
 refine pw C0 Tryz.func218 ?_
 exact Y⟩
instance {a0:List Ba}:OK (To a0) fun r=>Bn Tryz.prog 220 [(As 3 Ev) a0] [] (.arr 1 r.2.length 0 r.2.length) [.rows 101 3 (List.map Ev r.1),.rows 101 3 (List.map Ev r.2)]:=⟨fun {r} h=>by
 exact Awq h⟩
end Go.Ab
namespace Go.Ab
open Go Go.Proofs
set_option maxRecDepth 10000
set_option maxHeartbeats 4000000
set_option linter.unusedVariables false
instance {a0:List Cg}:OK (Wq a0) fun r=>Bn Tryz.prog 214 [(As 3 Fo) a0] [] (.arr 1 r.2.length 0 r.2.length) [.rows 97 3 (List.map Fo r.1),.rows 97 3 (List.map Fo r.2)]:=⟨fun {r} h=>by
 exact Awp h⟩
instance {a0 a1:Ba}:OK (Tq a0 a1) fun r=>Ax Tryz.prog 222 [Ev a0,Ev a1] ((O .i64) r):=⟨fun {r} h=>by
 refine pw C0 Tryz.func222 ?_
 exact Y⟩
instance {a0 a1:Int} {b0:List Ba}:OK (Aav a0 a1 b0) fun r=>Bn Tryz.prog 300 [(.arr 0 b0.length 0 b0.length),(O .i64) a0,(O .i64) a1,(.fn 222 [])] [.rows 101 3 (List.map Ev b0)] (.tup []) [.rows 101 3 (List.map Ev r)]:=⟨fun {r} h=>by
 refine aw C0 true Tryz.func300 ?_
 refine Z ?_
 refine D7 h (fun (v21,o22)=>[(8,(O .i64 v21))]) (fun (v21,o22)=>[(0,.rows 101 3 (List.map Ev o22))]) (fun (v21,o22)=>b0.length=o22.length) ?_
 rintro ⟨v21,o22⟩ _ _ _ h _ _ q22
 refine Z ?_
 refine Ao h (fun _ h=>?_) (fun _ h=>?_)
 refine Z ?_
 refine D7 h (fun (v31,o32)=>[(9,(O .i64 v31))]) (fun (v31,o32)=>[(0,.rows 101 3 (List.map Ev o32))]) (fun (v31,o32)=>b0.length=o32.length) ?_
 rintro ⟨v31,o32⟩ _ _ _ h _ _ q32
 refine Az (Az ?_)
 refine Cn h (fun v36=>[(34,(Aq v36))]) (fun v36=>[]) ?_ ?_
 intro _ h _ _ _
 exact Y
 rintro v36 _ h
 exact Y
 exact Y⟩
instance {a0:Int} {b0:List Ba}:OK (Aar a0 b0) fun r=>Bn Tryz.prog 270 [(.arr 0 b0.length 0 b0.length),(O .i64) a0,(.fn 222 [])] [.rows 101 3 (List.map Ev b0)] (.tup []) [.rows 101 3 (List.map Ev r)]:=⟨fun {r} h=>by
 refine aw C0 true Tryz.func270 ?_
 refine Z ?_
 refine D7 h (fun (v3,v4,o5)=>[(7,(O .i64 v3)),(8,(O .i64 v4))]) (fun (v3,v4,o5)=>[(0,.rows 101 3 (List.map Ev o5))]) (fun (v3,v4,o5)=>b0.length=o5.length) ?_
 rintro ⟨v3,v4,o5⟩ _ _ _ h _ hn1 q5
 refine Z ?_
 refine Ao h (fun _ h=>?_) (fun _ h=>?_)
 refine Z ?_
 refine C3 h (fun v6 hcv6 h=>?_)
 have okv6:=(OK.ok hcv6 :)
 rw [<-q5] at okv6
 refine Fk.act [0] _ _ _ _ okv6 rfl rfl ⟨rfl,trivial⟩ ?_
 refine C3 h (fun v7 hgv7 h=>?_)
 refine Z ?_
 exact hn1 _ _ _ _ (Option.some.inj h) ⟨rfl,rfl,trivial⟩ ⟨⟨rfl,rfl⟩,trivial⟩ (I1 hgv7)
 replace h:=Ck h
 refine Z ?_
 refine C3 h (fun v11 hcv11 h=>?_)
 have okv11:=(OK.ok hcv11 :)
 rw [<-q5] at okv11
 refine Fk.act [0] _ _ _ _ okv11 rfl rfl ⟨rfl,trivial⟩ ?_
 refine C3 h (fun v12 hgv12 h=>?_)
 refine Z ?_
 refine A7 h (fun (v13,v14,v15)=>[(6,(O .i64 v13)),(7,(O .i64 v14)),(8,(O .i64 v15))]) (fun (v13,v14,v15)=>[]) ?_
 rintro ⟨v13,v14,v15⟩ _ _ _ h _ _
 refine Z ?_
 refine Ao h (fun _ h=>?_) (fun _ h=>?_)
 refine Z ?_
 refine A7 h (fun _=>[(7,(O .i64 0)),(8,(O .i64 (Ac (2*v13))))]) (fun _=>[]) ?_
 rintro _ _ _ _ h _ _
 exact Y
 exact Y⟩
instance {b0:List Ba}:OK (Tp b0) fun r=>Bn Tryz.prog 221 [(.arr 0 b0.length 0 b0.length),(.fn 222 [])] [.rows 101 3 (List.map Ev b0)] (.tup []) [.rows 101 3 (List.map Ev r)]:=⟨fun {r} h=>by
 refine aw C0 true Tryz.func221 ?_
 refine Z ?_
 refine A9 [0] h (fun _ h=>?_)
 refine C3 h (fun v2 hgv2 h=>?_)
 exact Y⟩
instance {a0 a1:Cg}:OK (Wr a0 a1) fun r=>Ax Tryz.prog 216 [Fo a0,Fo a1] ((O .i64) r):=⟨fun {r} h=>by
 refine pw C0 Tryz.func216 ?_
 exact Y⟩
instance {a0 a1:Int} {b0:List Cg}:OK (Aau a0 a1 b0) fun r=>Bn Tryz.prog 291 [(.arr 0 b0.length 0 b0.length),(O .i64) a0,(O .i64) a1,(.fn 216 [])] [.rows 97 3 (List.map Fo b0)] (.tup []) [.rows 97 3 (List.map Fo r)]:=⟨fun {r} h=>by
 refine aw C0 true Tryz.func291 ?_
 refine Z ?_
 refine D7 h (fun (v21,o22)=>[(8,(O .i64 v21))]) (fun (v21,o22)=>[(0,.rows 97 3 (List.map Fo o22))]) (fun (v21,o22)=>b0.length=o22.length) ?_
 rintro ⟨v21,o22⟩ _ _ _ h _ _ q22
 refine Z ?_
 refine Ao h (fun _ h=>?_) (fun _ h=>?_)
 refine Z ?_
 refine D7 h (fun (v31,o32)=>[(9,(O .i64 v31))]) (fun (v31,o32)=>[(0,.rows 97 3 (List.map Fo o32))]) (fun (v31,o32)=>b0.length=o32.length) ?_
 rintro ⟨v31,o32⟩ _ _ _ h _ _ q32
 refine Az (Az ?_)
 refine Cn h (fun v36=>[(34,(Aq v36))]) (fun v36=>[]) ?_ ?_
 intro _ h _ _ _
 exact Y
 rintro v36 _ h
 exact Y
 exact Y⟩
instance {a0:Int} {b0:List Cg}:OK (Aaq a0 b0) fun r=>Bn Tryz.prog 268 [(.arr 0 b0.length 0 b0.length),(O .i64) a0,(.fn 216 [])] [.rows 97 3 (List.map Fo b0)] (.tup []) [.rows 97 3 (List.map Fo r)]:=⟨fun {r} h=>by
 refine aw C0 true Tryz.func268 ?_
 refine Z ?_
 refine D7 h (fun (v3,v4,o5)=>[(7,(O .i64 v3)),(8,(O .i64 v4))]) (fun (v3,v4,o5)=>[(0,.rows 97 3 (List.map Fo o5))]) (fun (v3,v4,o5)=>b0.length=o5.length) ?_
 rintro ⟨v3,v4,o5⟩ _ _ _ h _ hn1 q5
 refine Z ?_
 refine Ao h (fun _ h=>?_) (fun _ h=>?_)
 refine Z ?_
 refine C3 h (fun v6 hcv6 h=>?_)
 have okv6:=(OK.ok hcv6 :)
 rw [<-q5] at okv6
 refine Fk.act [0] _ _ _ _ okv6 rfl rfl ⟨rfl,trivial⟩ ?_
 refine C3 h (fun v7 hgv7 h=>?_)
 refine Z ?_
 exact hn1 _ _ _ _ (Option.some.inj h) ⟨rfl,rfl,trivial⟩ ⟨⟨rfl,rfl⟩,trivial⟩ (I1 hgv7)
 replace h:=Ck h
 refine Z ?_
 refine C3 h (fun v11 hcv11 h=>?_)
 have okv11:=(OK.ok hcv11 :)
 rw [<-q5] at okv11
 refine Fk.act [0] _ _ _ _ okv11 rfl rfl ⟨rfl,trivial⟩ ?_
 refine C3 h (fun v12 hgv12 h=>?_)
 refine Z ?_
 refine A7 h (fun (v13,v14,v15)=>[(6,(O .i64 v13)),(7,(O .i64 v14)),(8,(O .i64 v15))]) (fun (v13,v14,v15)=>[]) ?_
 rintro ⟨v13,v14,v15⟩ _ _ _ h _ _
 refine Z ?_
 refine Ao h (fun _ h=>?_) (fun _ h=>?_)
 refine Z ?_
 refine A7 h (fun _=>[(7,(O .i64 0)),(8,(O .i64 (Ac (2*v13))))]) (fun _=>[]) ?_
 rintro _ _ _ _ h _ _
 exact Y
 exact Y⟩
instance {b0:List Cg}:OK (Tn b0) fun r=>Bn Tryz.prog 215 [(.arr 0 b0.length 0 b0.length),(.fn 216 [])] [.rows 97 3 (List.map Fo b0)] (.tup []) [.rows 97 3 (List.map Fo r)]:=⟨fun {r} h=>by
 refine aw C0 true Tryz.func215 ?_
 refine Z ?_
 refine A9 [0] h (fun _ h=>?_)
 refine C3 h (fun v2 hgv2 h=>?_)
 exact Y⟩
instance {a0:Ak} {a1:A8} {b1:List (ByteArray×Int)} {b2:List (ByteArray×(List Dl))} {b0_0:List Ap} {b0_1:List Ah} {b0_2 b0_3:Int} {b0_4:List Ah}:OK (Tj a0 a1 b1 b2 b0_0 b0_1 b0_2 b0_3 b0_4) fun r=>Bn Tryz.prog 143 [(.loc 0 0),Cr a0,Ir a1] [.cells 119 [(.sl 3 (List.map Cd b0_0)),(.sl 3 (Bk b0_1)),(O .i64 b0_2),(O .i64 b0_3),(.sl 3 (Bk b0_4)),(.mp 1),(.mp 2)],.map (Bm (O .i64) b1),.map (Bm (As 5 Ew) b2)] (.tup [(As 5 Cj) r.1,(O .i64) r.2]) [.cells 119 [(.sl 3 (List.map Cd b0_0)),(.sl 3 (Bk b0_1)),(O .i64 b0_2),(O .i64 b0_3),(.sl 3 (Bk b0_4)),(.mp 1),(.mp 2)],.map (Bm (O .i64) b1),.map (Bm (As 5 Ew) b2)]:=⟨fun {r} h=>by
 refine aw {T:=Cb,an:=(fun s=>bif Nat.beq s 22 then .own else .ask),nl:=(fun s=>bif Nat.beq s 155 then [(0,3)] else bif Nat.beq s 31 then [(3,3),(4,3)] else bif Nat.beq s 22 then [(0,5)] else bif Nat.beq s 6 then [(0,5)] else [])} true Tryz.func143 ?_
 refine Z ?_
 refine Bh h (fun _ h=>?_)
 refine Z ?_
 refine Ao h (fun _ h=>?_) (fun _ h=>?_)
 exact Y
 refine Z ?_
 refine A9 [] h (fun v4 h=>?_)
 refine Z ?_
 refine A9 [6] h (fun _ h=>?_)
 refine C3 h (fun v8 hgv8 h=>?_)
 refine Z ?_
 refine A7 h (fun _=>[(6,(.sl 5 (List.map Cj []))),(7,(O .i64 0)),(8,(.sl 5 (List.map Cj [(Aj.mk a0 (A8.mk [] []))]))),(9,(.arr 6 v4.2.length 0 v4.2.length))]) (fun _=>[]) ?_
 rintro _ _ _ _ h _ _
 refine Z ?_
 refine Ao h (fun _ h=>?_) (fun _ h=>?_)
 refine Z ?_
 refine Gx h (fun _ _ _ _ h=>?_)
 refine Z ?_
 refine A7 h (fun v11=>[(11,(O .i64 v11))]) (fun v11=>[]) ?_
 rintro v11 _ _ _ h _ _
 refine Z ?_
 refine Fv h (fun _ h=>?_) (fun _ h=>?_)
 refine Z ?_
 refine Gx h (fun _ _ _ _ h=>?_)
 refine Z ?_
 refine Ao h (fun _ h=>?_) (fun _ h=>?_)
 exact Y
 replace h:=Ck h
 refine Gc (Gb rfl (Az ?_))
 refine Dr [.fz 9] ?_
 exact Y
 replace h:=Ck h
 refine ZO ?_
 refine Sy (Gc (Gb rfl (Az ?_)))
 refine Dr [.fz 9] ?_
 exact Y
 replace h:=Ck h
 refine Z ?_
 refine A9 [] h (fun _ h=>?_)
 refine Z ?_
 refine A9 [8] h (fun _ h=>?_)
 refine C3 h (fun v19 hgv19 h=>?_)
 refine ZO ?_
 refine Az (K1 ?_)
 refine Dr [.fz 19] ?_
 refine Z ?_
 refine A7 h (fun (v110,v111)=>[(8,(.sl 5 (List.map Cj v110))),(19,(.sl 3 (List.map Ev v111)))]) (fun (v110,v111)=>[]) ?_
 rintro ⟨v110,v111⟩ _ _ _ h _ _
 refine Z ?_
 refine Ao h (fun _ h=>?_) (fun _ h=>?_)
 refine Z ?_
 refine B3 h (fun _ _ _ _ h=>?_)
 refine Z ?_
 refine A7 h (fun v116=>[(21,(O .i64 v116))]) (fun v116=>[]) ?_
 rintro v116 _ _ _ h _ _
 refine Z ?_
 refine Fv h (fun _ h=>?_) (fun _ h=>?_)
 refine Z ?_
 refine B3 h (fun _ _ _ _ h=>?_)
 refine Z ?_
 refine Bh h (fun _ h=>?_)
 refine Z ?_
 refine Ao h (fun _ h=>?_) (fun _ h=>?_)
 exact Y
 replace h:=Ck h
 refine Z ?_
 refine Rl h (fun _ h=>?_)
 refine Z ?_
 refine Bh h (fun _ h=>?_)
 refine Z ?_
 refine A7 h (fun (v173,o174)=>[(22,(.arr 10 o174.length 0 o174.length)),(135,(O .i64 v173))]) (fun (v173,o174)=>[(10,.rows 72 5 (List.map Cj o174))]) ?_
 rintro ⟨v173,o174⟩ _ _ _ h _ _
 refine Z ?_
 refine Ao h (fun _ h=>?_) (fun _ h=>?_)
 refine Z ?_
 refine B3 h (fun _ _ _ _ h=>?_)
 refine Z ?_
 refine Bh h (fun _ h=>?_)
 refine Z ?_
 refine Ao h (fun _ h=>?_) (fun _ h=>?_)
 exact Y
 refine Z ?_
 refine A7 h (fun (v190,o191)=>[(22,(.arr 10 o191.length 0 o191.length)),(145,(O .i64 v190))]) (fun (v190,o191)=>[(10,.rows 72 5 (List.map Cj o191))]) ?_
 rintro ⟨v190,o191⟩ _ _ _ h _ _
 exact Y
 replace h:=Ck h
 refine Gc (Gb rfl ?_)
 refine Dr [.fz 22] ?_
 exact Y
 replace h:=Ck h
 refine Z ?_
 refine Rl h (fun _ h=>?_)
 refine Z ?_
 refine Bh h (fun _ h=>?_)
 refine Z ?_
 refine A7 h (fun (v173,o174)=>[(22,(.arr 10 o174.length 0 o174.length)),(135,(O .i64 v173))]) (fun (v173,o174)=>[(10,.rows 72 5 (List.map Cj o174))]) ?_
 rintro ⟨v173,o174⟩ _ _ _ h _ _
 refine Z ?_
 refine Ao h (fun _ h=>?_) (fun _ h=>?_)
 refine Z ?_
 refine B3 h (fun _ _ _ _ h=>?_)
 refine Z ?_
 refine Bh h (fun _ h=>?_)
 refine Z ?_
 refine Ao h (fun _ h=>?_) (fun _ h=>?_)
 exact Y
 refine Z ?_
 refine A7 h (fun (v190,o191)=>[(22,(.arr 10 o191.length 0 o191.length)),(145,(O .i64 v190))]) (fun (v190,o191)=>[(10,.rows 72 5 (List.map Cj o191))]) ?_
 rintro ⟨v190,o191⟩ _ _ _ h _ _
 exact Y
 replace h:=Ck h
 refine Gc (Gb rfl ?_)
 refine Dr [.fz 22] ?_
 exact Y
 exact Y⟩
theorem Al8 {a0:Int} {a1:Bool} {b1:List Int} {r:(Int×(List Int))} (h:Qw a0 a1 b1=some (.inl r)):Bn Tryz.prog 167 [(.loc 0 0),(O .i64) a0,Aq a1] [.cells 165 [(.val (.pointer none)),(.arr 1 b1.length 0 b1.length)],.rows 5 1 (List.map (O .u8) b1)] ((O .i64) r.1) [.cells 165 [(.loc 0 0),(.arr 1 r.2.length 0 r.2.length)],.rows 5 1 (List.map (O .u8) r.2)]:=by
 refine aw C0 true Tryz.func167 ?_
 refine ZS ?_
 refine Cm ?_
 refine ZO ?_
 refine Az (K1 (Az ?_))
 refine Cn h (fun v1=>[(7,(Aq v1))]) (fun v1=>[]) ?_ ?_
 intro _ h _ _ _
 exact Y
 rintro v1 _ h
 refine Ao h (fun _ h=>?_) (fun _ h=>?_)
 refine Z ?_
 refine A9 [0,1] h (fun _ h=>?_)
 exact Y
 refine Z ?_
 refine Ao h (fun _ h=>?_) (fun _ h=>?_)
 refine Z ?_
 refine A9 [0,1] h (fun _ h=>?_)
 exact Y
 refine Z ?_
 refine Ao h (fun _ h=>?_) (fun _ h=>?_)
 refine Z ?_
 refine A9 [0,1] h (fun _ h=>?_)
 exact Y
 exact Y
theorem Al9 {a0:Int} {a1:Bool} {b1:List Int} {r:(Int×(List Int))} (h:Qw a0 a1 b1=some (.inr r)):Bn Tryz.prog 167 [(.loc 0 0),(O .i64) a0,Aq a1] [.cells 165 [(.val (.pointer none)),(.arr 1 b1.length 0 b1.length)],.rows 5 1 (List.map (O .u8) b1)] ((O .i64) r.1) [.cells 165 [(.val (.pointer none)),(.arr 1 r.2.length 0 r.2.length)],.rows 5 1 (List.map (O .u8) r.2)]:=by
 refine aw C0 true Tryz.func167 ?_
 refine ZS ?_
 refine Cm ?_
 refine ZO ?_
 refine Az (K1 (Az ?_))
 refine Cn h (fun v1=>[(7,(Aq v1))]) (fun v1=>[]) ?_ ?_
 intro _ h _ _ _
 exact Y
 rintro v1 _ h
 refine Ao h (fun _ h=>?_) (fun _ h=>?_)
 refine Z ?_
 refine A9 [0,1] h (fun _ h=>?_)
 exact Y
 refine Z ?_
 refine Ao h (fun _ h=>?_) (fun _ h=>?_)
 refine Z ?_
 refine A9 [0,1] h (fun _ h=>?_)
 exact Y
 refine Z ?_
 refine Ao h (fun _ h=>?_) (fun _ h=>?_)
 refine Z ?_
 refine A9 [0,1] h (fun _ h=>?_)
 exact Y
 exact Y
instance {a0:Int} {a1:Bool} {b1:List Int}:OK (W5 a0 a1 b1) fun r=>Bn Tryz.prog 167 [(.loc 0 0),(O .i64) a0,Aq a1] [.cells 165 [(.loc 0 0),(.arr 1 b1.length 0 b1.length)],.rows 5 1 (List.map (O .u8) b1)] ((O .i64) r.1) [.cells 165 [(.loc 0 0),(.arr 1 r.2.length 0 r.2.length)],.rows 5 1 (List.map (O .u8) r.2)]:=⟨fun {r} h=>by
 refine aw C0 true Tryz.func167 ?_
 refine ZS ?_
 refine Cm ?_
 refine ZO ?_
 refine Az (K1 (Az ?_))
 refine Cn h (fun v1=>[(7,(Aq v1))]) (fun v1=>[]) ?_ ?_
 intro _ h _ _ _
 exact Y
 rintro v1 _ h
 refine Ao h (fun _ h=>?_) (fun _ h=>?_)
 refine Z ?_
 refine A9 [0,1] h (fun _ h=>?_)
 exact Y
 refine Z ?_
 refine Ao h (fun _ h=>?_) (fun _ h=>?_)
 refine Z ?_
 refine A9 [0,1] h (fun _ h=>?_)
 exact Y
 refine Z ?_
 refine Ao h (fun _ h=>?_) (fun _ h=>?_)
 refine Z ?_
 refine A9 [0,1] h (fun _ h=>?_)
 exact Y
 exact Y⟩
instance {a0 a1:Int}:OK (Lv a0 a1) fun r=>Ax Tryz.prog 168 [(O .i64) a0,(O .i64) a1] (Fe r):=⟨fun {r} h=>by
 exact Awi h⟩
instance {b1:List Int}:OK (Aa4 b1) fun r=>Bn Tryz.prog 105 [(.loc 0 0)] [.cells 165 [(.val (.pointer none)),(.arr 1 b1.length 0 b1.length)],.rows 5 1 (List.map (O .u8) b1)] (Fe r) [.cells 165 [(.val (.pointer none)),(.arr 1 b1.length 0 b1.length)],.dead]:=⟨fun {r} h=>by
 exact Alg h⟩
instance {a0:Be}:OK (Nj a0) fun r=>Ax Tryz.prog 104 [Gm a0] (Fe r):=⟨fun {r} h=>by
 refine pw C0 Tryz.func104 ?_
 refine Z ?_
 refine Bh h (fun _ h=>?_)
 refine Z ?_
 refine Ao h (fun _ h=>?_) (fun _ h=>?_)
 exact Y
 refine ZS ?_
 refine Cm ?_
 refine ZO ?_
 refine Az (Az ?_)
 refine Dr [.own 3 1 5 1] ?_
 refine Z ?_
 refine Z2 ?_
 refine Z ?_
 refine Ao h (fun _ h=>?_) (fun _ h=>?_)
 refine Jt (Az ?_)
 refine Cn h (fun (v30,o31)=>[(4,(O .i64 0)),(6,(O .i64 v30))]) (fun (v30,o31)=>[(1,.cells 165 [(.loc 1 0),(.arr 2 o31.length 0 o31.length)]),(2,.rows 5 1 (List.map (O .u8) o31))]) ?_ ?_
 intro _ h _ _ _
 refine Z ?_
 refine B3 h (fun _ v5 _ _ h=>?_)
 refine Z ?_
 refine C3 h (fun v7 hcv7 h=>?_)
 rcases v7 with v8 | v9
 refine Fk.act [1,2] _ _ _ _ (Al8 (a0:=v5.Coef) (a1:=true) (b1:=[]) hcv7) rfl rfl ⟨rfl,rfl,trivial⟩ ?_
 refine ZS ?_
 refine Cm ?_
 refine ZO ?_
 refine Cn h (fun o14=>[]) (fun o14=>[(1,.cells 165 [(.loc 1 0),(.arr 2 o14.length 0 o14.length)]),(2,.rows 5 1 (List.map (O .u8) o14))]) ?_ ?_
 intro _ h _ _ _
 refine Ao h (fun _ h=>?_) (fun _ h=>?_)
 refine Z ?_
 refine Bh h (fun _ h=>?_)
 refine Z ?_
 refine Gv h (fun h=>?_)
 refine Z ?_
 refine A9 [1,2] h (fun _ h=>?_)
 exact Y
 exact Y
 rintro o14 _ h
 refine Z ?_
 refine Ao h (fun _ h=>?_) (fun _ h=>?_)
 refine Z ?_
 refine A9 [1,2] h (fun _ h=>?_)
 exact Y
 refine Z ?_
 refine Bh h (fun _ h=>?_)
 refine Z ?_
 refine Gv h (fun h=>?_)
 refine Z ?_
 refine A9 [1,2] h (fun _ h=>?_)
 exact Y
 refine Fk.act [1,2] _ _ _ _ (Al9 (a0:=v5.Coef) (a1:=true) (b1:=[]) hcv7) rfl rfl ⟨rfl,rfl,trivial⟩ ?_
 refine Z ?_
 refine Ao h (fun _ h=>?_) (fun _ h=>?_)
 refine Z ?_
 refine Bh h (fun _ h=>?_)
 refine Z ?_
 refine Gv h (fun h=>?_)
 refine Z ?_
 refine A9 [1,2] h (fun _ h=>?_)
 refine Z ?_
 refine Ao h (fun _ h=>?_) (fun _ h=>?_)
 refine Z ?_
 refine A9 [1,2] h (fun _ h=>?_)
 exact Y
 refine Z ?_
 refine Bh h (fun _ h=>?_)
 refine Z ?_
 refine Gv h (fun h=>?_)
 refine Z ?_
 refine A9 [1,2] h (fun _ h=>?_)
 exact Y
 refine Z ?_
 refine Ao h (fun _ h=>?_) (fun _ h=>?_)
 refine Z ?_
 refine A9 [1,2] h (fun _ h=>?_)
 exact Y
 refine Z ?_
 refine Bh h (fun _ h=>?_)
 refine Z ?_
 refine Gv h (fun h=>?_)
 refine Z ?_
 refine A9 [1,2] h (fun _ h=>?_)
 exact Y
 rintro ⟨v30,o31⟩ _ h
 refine Z ?_
 refine A7 h (fun (v43,o44)=>[(13,(O .i64 v43))]) (fun (v43,o44)=>[(1,.cells 165 [(.loc 1 0),(.arr 2 o44.length 0 o44.length)]),(2,.rows 5 1 (List.map (O .u8) o44))]) ?_
 rintro ⟨v43,o44⟩ _ _ _ h _ _
 refine Z ?_
 refine Ao h (fun _ h=>?_) (fun _ h=>?_)
 refine Z ?_
 refine B3 h (fun _ _ _ _ h=>?_)
 refine Z ?_
 refine A9 [1,2] h (fun _ h=>?_)
 refine ZS ?_
 refine Cm ?_
 refine ZO ?_
 refine Cn h (fun o51=>[]) (fun o51=>[(1,.cells 165 [(.loc 1 0),(.arr 2 o51.length 0 o51.length)]),(2,.rows 5 1 (List.map (O .u8) o51))]) ?_ ?_
 intro _ h _ _ _
 refine Ao h (fun _ h=>?_) (fun _ h=>?_)
 refine Z ?_
 refine Bh h (fun _ h=>?_)
 refine Z ?_
 refine Gv h (fun h=>?_)
 refine Z ?_
 refine A9 [1,2] h (fun _ h=>?_)
 exact Y
 exact Y
 rintro o51 _ h
 refine Z ?_
 refine Ao h (fun _ h=>?_) (fun _ h=>?_)
 refine Z ?_
 refine A9 [1,2] h (fun _ h=>?_)
 exact Y
 refine Z ?_
 refine Bh h (fun _ h=>?_)
 refine Z ?_
 refine Gv h (fun h=>?_)
 refine Z ?_
 refine A9 [1,2] h (fun _ h=>?_)
 exact Y
 replace h:=Ck h
 refine Gc (Gb rfl (Az (Az ?_)))
 refine Cn h (fun v57=>[(47,(Aq v57))]) (fun v57=>[]) ?_ ?_
 intro _ h _ _ _
 exact Y
 rintro v57 _ h
 refine Ao h (fun _ h=>?_) (fun _ h=>?_)
 refine Z ?_
 refine A9 [1,2] h (fun _ h=>?_)
 refine Z ?_
 refine Bh h (fun _ h=>?_)
 refine Z ?_
 refine A9 [1,2] h (fun _ h=>?_)
 refine Z ?_
 refine A9 [1,2] h (fun _ h=>?_)
 exact Y
 refine Z ?_
 refine A9 [1,2] h (fun _ h=>?_)
 exact Y
 refine Gc (Gb rfl (Az (Az ?_)))
 refine Cn h (fun v63=>[(47,(Aq v63))]) (fun v63=>[]) ?_ ?_
 intro _ h _ _ _
 exact Y
 rintro v63 _ h
 refine Ao h (fun _ h=>?_) (fun _ h=>?_)
 refine Z ?_
 refine C3 h (fun v64 hcv64 h=>?_)
 rcases v64 with v65 | v66
 refine Fk.act [1,2] _ _ _ _ (Al8 (a0:=a0.Const) (a1:=((a0.Terms.length:Int)==(0:Int))) (b1:=[]) hcv64) rfl rfl ⟨rfl,rfl,trivial⟩ ?_
 refine Z ?_
 refine Bh h (fun _ h=>?_)
 refine Z ?_
 refine A9 [1,2] h (fun _ h=>?_)
 refine Z ?_
 refine A9 [1,2] h (fun _ h=>?_)
 exact Y
 refine Fk.act [1,2] _ _ _ _ (Al9 (a0:=a0.Const) (a1:=((a0.Terms.length:Int)==(0:Int))) (b1:=[]) hcv64) rfl rfl ⟨rfl,rfl,trivial⟩ ?_
 refine Z ?_
 refine Bh h (fun _ h=>?_)
 refine Z ?_
 refine A9 [1,2] h (fun _ h=>?_)
 refine Z ?_
 refine A9 [1,2] h (fun _ h=>?_)
 exact Y
 refine Z ?_
 refine A9 [1,2] h (fun _ h=>?_)
 exact Y⟩
instance {a0:A8}:OK (Vr a0) fun r=>Ax Tryz.prog 54 [Ir a0] (Fe r):=⟨fun {r} h=>by
 refine pw C0 Tryz.func54 ?_
 refine ZS ?_
 refine Cm ?_
 refine ZS ?_
 refine Cm ?_
 refine ZO ?_
 refine Az (Az ?_)
 refine Dr [.own 3 1 5 1] ?_
 refine Z ?_
 refine Z2 ?_
 refine Z ?_
 refine Ao h (fun _ h=>?_) (fun _ h=>?_)
 refine Z ?_
 refine B3 h (fun _ _ _ _ h=>?_)
 refine Z ?_
 refine Bh h (fun _ h=>?_)
 refine Z ?_
 refine A9 [1,2] h (fun _ h=>?_)
 refine Z ?_
 refine A7 h (fun (v18,o19)=>[(11,(O .i64 v18))]) (fun (v18,o19)=>[(1,.cells 165 [(.loc 1 0),(.arr 2 o19.length 0 o19.length)]),(2,.rows 5 1 (List.map (O .u8) o19))]) ?_
 rintro ⟨v18,o19⟩ _ _ _ h _ _
 refine Z ?_
 refine Ao h (fun _ h=>?_) (fun _ h=>?_)
 refine Z ?_
 refine B3 h (fun _ _ _ _ h=>?_)
 refine Z ?_
 refine Bh h (fun _ h=>?_)
 refine Z ?_
 refine A9 [1,2] h (fun _ h=>?_)
 exact Y
 replace h:=Ck h
 refine Z ?_
 refine Z2 ?_
 refine Z ?_
 refine Ao h (fun _ h=>?_) (fun _ h=>?_)
 refine Z ?_
 refine B3 h (fun _ _ _ _ h=>?_)
 refine Z ?_
 refine Bh h (fun _ h=>?_)
 refine Z ?_
 refine Gv h (fun h=>?_)
 refine Z ?_
 refine Gv h (fun h=>?_)
 refine Z ?_
 refine Bh h (fun _ h=>?_)
 refine Z ?_
 refine Gv h (fun h=>?_)
 refine Z ?_
 refine A9 [1,2] h (fun _ h=>?_)
 refine Z ?_
 refine A7 h (fun (v51,o52)=>[(25,(O .i64 v51))]) (fun (v51,o52)=>[(1,.cells 165 [(.loc 1 0),(.arr 2 o52.length 0 o52.length)]),(2,.rows 5 1 (List.map (O .u8) o52))]) ?_
 rintro ⟨v51,o52⟩ _ _ _ h _ _
 refine Z ?_
 refine Ao h (fun _ h=>?_) (fun _ h=>?_)
 refine Z ?_
 refine B3 h (fun _ _ _ _ h=>?_)
 refine Z ?_
 refine Bh h (fun _ h=>?_)
 refine Z ?_
 refine Gv h (fun h=>?_)
 refine Z ?_
 refine Gv h (fun h=>?_)
 refine Z ?_
 refine Bh h (fun _ h=>?_)
 refine Z ?_
 refine Gv h (fun h=>?_)
 refine Z ?_
 refine A9 [1,2] h (fun _ h=>?_)
 exact Y
 replace h:=Ck h
 refine Z ?_
 refine A9 [1,2] h (fun _ h=>?_)
 exact Y
 refine Z ?_
 refine A9 [1,2] h (fun _ h=>?_)
 exact Y
 refine Z ?_
 refine Z2 ?_
 refine Z ?_
 refine Ao h (fun _ h=>?_) (fun _ h=>?_)
 refine Z ?_
 refine B3 h (fun _ _ _ _ h=>?_)
 refine Z ?_
 refine Bh h (fun _ h=>?_)
 refine Z ?_
 refine Gv h (fun h=>?_)
 refine Z ?_
 refine Gv h (fun h=>?_)
 refine Z ?_
 refine Bh h (fun _ h=>?_)
 refine Z ?_
 refine Gv h (fun h=>?_)
 refine Z ?_
 refine A9 [1,2] h (fun _ h=>?_)
 refine Z ?_
 refine A7 h (fun (v90,o91)=>[(25,(O .i64 v90))]) (fun (v90,o91)=>[(1,.cells 165 [(.loc 1 0),(.arr 2 o91.length 0 o91.length)]),(2,.rows 5 1 (List.map (O .u8) o91))]) ?_
 rintro ⟨v90,o91⟩ _ _ _ h _ _
 refine Z ?_
 refine Ao h (fun _ h=>?_) (fun _ h=>?_)
 refine Z ?_
 refine B3 h (fun _ _ _ _ h=>?_)
 refine Z ?_
 refine Bh h (fun _ h=>?_)
 refine Z ?_
 refine Gv h (fun h=>?_)
 refine Z ?_
 refine Gv h (fun h=>?_)
 refine Z ?_
 refine Bh h (fun _ h=>?_)
 refine Z ?_
 refine Gv h (fun h=>?_)
 refine Z ?_
 refine A9 [1,2] h (fun _ h=>?_)
 exact Y
 replace h:=Ck h
 refine Z ?_
 refine A9 [1,2] h (fun _ h=>?_)
 exact Y
 refine Z ?_
 refine A9 [1,2] h (fun _ h=>?_)
 exact Y⟩
instance {a0:List Aj} {b1:List (ByteArray×Int)} {b2:List Aj}:OK (Jv a0 b1 b2) fun r=>Bn Tryz.prog 28 [(.loc 0 0),(As 5 Cj) a0] [.cells 122 [(.mp 1),(.arr 2 b2.length 0 b2.length)],.map (Bm (O .i64) b1),.rows 72 5 (List.map Cj b2)] (.tup []) [.cells 122 [(.mp 1),(.arr 2 r.2.length 0 r.2.length)],.map (Bm (O .i64) r.1),.rows 72 5 (List.map Cj r.2)]:=⟨fun {r} h=>by
 refine aw C0 true Tryz.func28 ?_
 refine Z ?_
 refine A7 h (fun (v10,o11,o12)=>[(11,(O .i64 v10))]) (fun (v10,o11,o12)=>[(0,.cells 122 [(.mp 1),(.arr 2 o12.length 0 o12.length)]),(1,.map (Bm (O .i64) o11)),(2,.rows 72 5 (List.map Cj o12))]) ?_
 rintro ⟨v10,o11,o12⟩ _ _ _ h _ hn1
 refine Z ?_
 refine Ao h (fun _ h=>?_) (fun _ h=>?_)
 refine Z ?_
 refine B3 h (fun _ _ _ _ h=>?_)
 refine Z ?_
 refine Bh h (fun _ h=>?_)
 refine ZO ?_
 refine Az (Az ?_)
 refine Cn h (fun (v16,v17)=>[(7,(O .i64 v16)),(8,(Aq v17))]) (fun (v16,v17)=>[]) ?_ ?_
 intro _ h _ _ _
 refine Z ?_
 refine Zy (f:=(O .i64)) (l:=o11) rfl (0:Int) h (fun j_ hb h=>?_) (fun hb h=>?_)
 exact Y
 exact Y
 rintro ⟨v16,v17⟩ _ h
 refine Z ?_
 refine Ao h (fun _ h=>?_) (fun _ h=>?_)
 refine Z ?_
 refine Gx h (fun _ _ _ _ h=>?_)
 refine Z ?_
 refine Bh h (fun v19 h=>?_)
 refine Z ?_
 refine Gx h (fun _ v20 hiv20 _ h=>?_)
 refine Z ?_
 refine K0 (f:=Cj) (x:=(Aj.mk v19 v20.Mono)) (j:=v16) rfl rfl (Nat.zero_add _) hiv20 ?_
 refine Z ?_
 exact hn1 _ _ _ _ (Option.some.inj h) ⟨rfl,trivial⟩ ⟨⟨rfl,rfl⟩,⟨rfl,rfl⟩,⟨congrArg (fun q_=>Bl.cells 122 [(.mp 1),(.arr 2 q_ 0 q_)]) (Hm (l:=o12) rfl v16 (Aj.mk v19 v20.Mono)),rfl⟩,trivial⟩ trivial
 refine Z ?_
 refine Vj (f:=(O .i64)) (l:=o11) (x:=((o12.length:Nat):Int)) rfl rfl ?_
 exact Y
 exact Y⟩
abbrev Ama (k:Nat):Prop:=∀{a0:Bc},OK (Qy k a0) fun r=>Ax Tryz.prog 184 [Hw a0] (Hw r)
theorem Axj (k:Nat):Ama k:=by
 induction k with
 | zero=>exact okz
 | succ k ih=>
  refine @fun a0=>⟨fun {r} h=>?_⟩
  .unfold Qy at h
   refine pw {T:=Cb,an:=(fun _=>.ask),nl:=(fun s=>bif Nat.beq s 17 then [(0,2)] else [])} Tryz.func184 ?_
   refine ZS ?_
   refine Cm ?_
   refine ZS ?_
   refine Cm ?_
   refine ZO ?_
   refine Az (Az ?_)
   refine Dr [.own 3 1 95 2] ?_
   refine Z ?_
   refine A7 h (fun (v15,o16)=>[(12,(O .i64 v15))]) (fun (v15,o16)=>[(2,.cells 95 [(O .i64 a0.Num),(.arr 3 o16.length 0 o16.length)]),(3,.rows 95 2 (I3 o16))]) ?_
   rintro ⟨v15,o16⟩ _ _ _ h _ _
   exact Y
instance {k:Nat}:Ama k:=(Axj k)
instance {a0:List Bb}:OK (S8 a0) fun r=>Ax Tryz.prog 65 [(As 2 Dd) a0] ((As 2 Dd) r):=⟨fun {r} h=>by
 exact Awn h⟩
instance {a0:A8}:OK (V6 a0) fun r=>Ax Tryz.prog 117 [Ir a0] (Ir r):=⟨fun {r} h=>by
 refine pw {T:=Cb,an:=(fun _=>.ask),nl:=(fun s=>bif Nat.beq s 44 then [(0,3)] else bif Nat.beq s 17 then [(0,3)] else [])} Tryz.func117 ?_
 refine ZS ?_
 refine Cm ?_
 refine ZS ?_
 refine Cm ?_
 refine ZO ?_
 refine Az (Az ?_)
 refine Dr [.own 3 0 97 3,.own 3 1 101 3] ?_
 refine Z ?_
 refine A7 h (fun (v16,o17)=>[(12,(O .i64 v16))]) (fun (v16,o17)=>[(2,.cells 70 [(.arr 3 o17.length 0 o17.length),(.arr 4 0 0 0)]),(3,.rows 97 3 (List.map Fo o17))]) ?_
 rintro ⟨v16,o17⟩ _ _ _ h _ _
 refine Z ?_
 refine Ao h (fun _ h=>?_) (fun _ h=>?_)
 exact Y
 replace h:=Ck h
 refine Z ?_
 refine A7 h (fun (v35,o36)=>[(31,(O .i64 v35))]) (fun (v35,o36)=>[(2,.cells 70 [(.arr 3 o17.length 0 o17.length),(.arr 4 o36.length 0 o36.length)]),(4,.rows 101 3 (List.map Ev o36))]) ?_
 rintro ⟨v35,o36⟩ _ _ _ h _ _
 exact Y⟩
instance {a0:List Aj}:OK (Vs a0) fun r=>Ax Tryz.prog 59 [(As 5 Cj) a0] ((As 5 Cj) r):=⟨fun {r} h=>by
 refine pw {T:=Cb,an:=(fun s=>bif Nat.beq s 3 then .own else .ask),nl:=(fun s=>bif Nat.beq s 3 then [(0,5)] else bif Nat.beq s 2 then [(0,5)] else [])} Tryz.func59 ?_
 refine Z ?_
 refine A7 h (fun (v14,o15)=>[(3,(.arr 0 o15.length 0 o15.length)),(8,(O .i64 v14))]) (fun (v14,o15)=>[(0,.rows 72 5 (List.map Cj o15))]) ?_
 rintro ⟨v14,o15⟩ _ _ _ h _ _
 exact Y⟩
instance {a0 a1:Aj}:OK (Nc a0 a1) fun r=>Ax Tryz.prog 57 [Cj a0,Cj a1] ((O .i64) r):=⟨fun {r} h=>by
 refine pw C0 Tryz.func57 ?_
 exact Y⟩
instance {a0 a1:Int} {b0:List Aj}:OK (Wg a0 a1 b0) fun r=>Bn Tryz.prog 169 [(.arr 0 b0.length 0 b0.length),(O .i64) a0,(O .i64) a1,(.fn 57 [])] [.rows 72 5 (List.map Cj b0)] (.tup []) [.rows 72 5 (List.map Cj r)]:=⟨fun {r} h=>by
 refine aw C0 true Tryz.func169 ?_
 refine Z ?_
 refine D7 h (fun (v21,o22)=>[(8,(O .i64 v21))]) (fun (v21,o22)=>[(0,.rows 72 5 (List.map Cj o22))]) (fun (v21,o22)=>b0.length=o22.length) ?_
 rintro ⟨v21,o22⟩ _ _ _ h _ _ q22
 refine Z ?_
 refine Ao h (fun _ h=>?_) (fun _ h=>?_)
 refine Z ?_
 refine D7 h (fun (v31,o32)=>[(9,(O .i64 v31))]) (fun (v31,o32)=>[(0,.rows 72 5 (List.map Cj o32))]) (fun (v31,o32)=>b0.length=o32.length) ?_
 rintro ⟨v31,o32⟩ _ _ _ h _ _ q32
 refine Az (Az ?_)
 refine Cn h (fun v36=>[(34,(Aq v36))]) (fun v36=>[]) ?_ ?_
 intro _ h _ _ _
 exact Y
 rintro v36 _ h
 exact Y
 exact Y⟩
instance {a0 a1 a2:Int} {b0:List Aj}:OK (V3 a0 a1 a2 b0) fun r=>Bn Tryz.prog 107 [(.arr 0 b0.length 0 b0.length),(O .i64) a0,(O .i64) a1,(O .i64) a2,(.fn 57 [])] [.rows 72 5 (List.map Cj b0)] (.tup []) [.rows 72 5 (List.map Cj r)]:=⟨fun {r} h=>by
 refine aw C0 true Tryz.func107 ?_
 refine Z ?_
 refine A7 h (fun _=>[(1,(O .i64 a0)),(2,(O .i64 a1)),(3,(O .i64 a2)),(10,(Aq true)),(11,(Aq true))]) (fun _=>[]) ?_
 rintro _ _ _ _ h _ _
 refine Z ?_
 refine Ao h (fun _ h=>?_) (fun _ h=>?_)
 refine Z ?_
 refine A9 [0] h (fun _ h=>?_)
 refine C3 h (fun v2 hgv2 h=>?_)
 exact Y
 exact Y⟩
theorem Axk {b0:List Aj} {r:(List Aj)} (h:Afh b0=some r):Bn Tryz.prog 56 [(.arr 0 b0.length 0 b0.length),(.fn 57 [])] [.rows 72 5 (List.map Cj b0)] (.tup []) [.rows 72 5 (List.map Cj r)]:=by
 refine aw C0 true Tryz.func56 ?_
 refine Z ?_
 refine Bh h (fun _ h=>?_)
 refine Z ?_
 refine A9 [0] h (fun _ h=>?_)
 refine C3 h (fun v3 hgv3 h=>?_)
 exact Y
instance {b0:List Aj}:OK (Nb b0) fun r=>Bn Tryz.prog 56 [(.arr 0 b0.length 0 b0.length),(.fn 57 [])] [.rows 72 5 (List.map Cj b0)] (.tup []) [.rows 72 5 (List.map Cj r)]:=⟨fun {r} h=>by
 unfold Nb at h
 cases hb:Nat.ble b0.length 12 with
 | true=>rw [hb] at h; exact Axk h
 | false=>rw [hb] at h; exact Awz (eA:=Cj) (cmp:=Nc) (g:=57) (enters_of Tryz.func57 (by kernel_rfl) rfl) (fun x y n h=>(OK.ok h :)) (fun x=>⟨_,rfl⟩) h (by rintro rfl; cases hb)⟩
instance {b1:List (ByteArray×Int)} {b2:List Aj}:OK (Ka b1 b2) fun r=>Bn Tryz.prog 29 [(.loc 0 0)] [.cells 122 [(.mp 1),(.arr 2 b2.length 0 b2.length)],.map (Bm (O .i64) b1),.rows 72 5 (List.map Cj b2)] (.tup [(As 5 Cj) r.1,(O .i64) r.2]) [.cells 122 [(.mp 1),(.arr 2 b2.length 0 b2.length)],.map (Bm (O .i64) b1),.rows 72 5 (List.map Cj b2)]:=⟨fun {r} h=>by
 refine aw {T:=Cb,an:=(fun s=>bif Nat.beq s 4 then .own else .ask),nl:=(fun s=>bif Nat.beq s 4 then [(0,5)] else bif Nat.beq s 2 then [(0,5)] else [])} true Tryz.func29 ?_
 refine Z ?_
 refine A7 h (fun (v12,o13)=>[(4,(.arr 3 o13.length 0 o13.length)),(12,(O .i64 v12))]) (fun (v12,o13)=>[(3,.rows 72 5 (List.map Cj o13))]) ?_
 rintro ⟨v12,o13⟩ _ _ _ h _ _
 refine Z ?_
 refine Ao h (fun _ h=>?_) (fun _ h=>?_)
 exact Y
 replace h:=Ck h
 refine Z ?_
 refine Ao h (fun _ h=>?_) (fun _ h=>?_)
 exact Y
 refine Z ?_
 refine A9 [3] h (fun _ h=>?_)
 refine C3 h (fun v20 hgv20 h=>?_)
 refine ZO ?_
 refine Az ?_
 refine Dr [.fz 4] ?_
 exact Y⟩
instance {a0:A8} {b1:List (ByteArray×Int)} {b2:List (ByteArray×(List Dl))} {b0_0:List Ap} {b0_1:List Ah} {b0_2 b0_3:Int} {b0_4:List Ah}:OK (Qm a0 b1 b2 b0_0 b0_1 b0_2 b0_3 b0_4) fun r=>Bn Tryz.prog 82 [(.loc 0 0),Ir a0] [.cells 119 [(.sl 3 (List.map Cd b0_0)),(.sl 3 (Bk b0_1)),(O .i64 b0_2),(O .i64 b0_3),(.sl 3 (Bk b0_4)),(.mp 1),(.mp 2)],.map (Bm (O .i64) b1),.map (Bm (As 5 Ew) b2)] (.tup [(As 5 Cj) r.1,(O .i64) r.2]) [.cells 119 [(.sl 3 (List.map Cd b0_0)),(.sl 3 (Bk b0_1)),(O .i64 b0_2),(O .i64 b0_3),(.sl 3 (Bk b0_4)),(.mp 1),(.mp 2)],.map (Bm (O .i64) b1),.map (Bm (As 5 Ew) b2)]:=⟨fun {r} h=>by
 refine aw {T:=Cb,an:=(fun _=>.ask),nl:=(fun s=>bif Nat.beq s 4 then [(0,5)] else [])} true Tryz.func82 ?_
 refine Z ?_
 refine Bh h (fun _ h=>?_)
 refine Z ?_
 refine A9 [0,1,2] h (fun _ h=>?_)
 refine Z ?_
 refine Ao h (fun _ h=>?_) (fun _ h=>?_)
 exact Y
 refine Z ?_
 refine A9 [] h (fun _ h=>?_)
 refine Z ?_
 refine A9 [5,4,6] h (fun _ h=>?_)
 refine Z ?_
 refine A9 [5,4,6] h (fun _ h=>?_)
 exact Y⟩
end Go.Ab
