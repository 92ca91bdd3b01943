/- The contracts of the functions, each by its walk (made by a program). -/
import Derived.Test.YtbobikfnkmhgnaaGreatDoorBpHand
import Derived.Test.YtbobikfnkmhgnaaGreatDoorBpDef
namespace Go.Ab
open Go Go.Proofs
set_option maxRecDepth 10000
set_option maxHeartbeats 4000000
set_option linter.unusedVariables false
instance {a0:List Az}:OK (Adh a0) fun r=>As Tryz.prog 159 [Q5 (It.mk a0 [] [] [])] (An r):=⟨fun {r} h=>by
 refine pw C0 Tryz.func159 ?_
 refine Z ?_
 refine Gx h (fun _ h=>?_)
 refine Z ?_
 refine A6 h (fun _=>[(2,(An false)),(20,(O .i64 0))]) (fun _=>[]) ?_
 rintro _ _ _ _ h _ _
 replace h:=Ck h
 refine Z ?_
 refine A6 h (fun _=>[(2,(An false)),(40,(O .i64 0))]) (fun _=>[]) ?_
 rintro _ _ _ _ h _ _
 exact Y⟩
instance {a0:List Az}:OK (Adf a0) fun r=>As Tryz.prog 157 [Q5 (It.mk a0 [] [] [])] (An r):=⟨fun {r} h=>by
 refine pw C0 Tryz.func157 ?_
 refine Z ?_
 refine A6 h (fun _=>[(2,(An false)),(4,(An false)),(21,(O .i64 0))]) (fun _=>[]) ?_
 rintro _ _ _ _ h _ _
 exact Y⟩
instance {a0:Int}:OK (V3 a0) fun r=>As Tryz.prog 325 [(O .u8) a0] (An r):=⟨fun {r} h=>by
 refine pw C0 Tryz.func325 ?_
 exact Y⟩
instance {a0:ByteArray}:OK (V7 a0) fun r=>As Tryz.prog 359 [Du a0] (An r):=⟨fun {r} h=>by
 refine pw C0 Tryz.func359 ?_
 exact Y⟩
instance {a0:Int}:OK (Oo a0) fun r=>As Tryz.prog 360 [(O .u8) a0] (An r):=⟨fun {r} h=>by
 refine pw C0 Tryz.func360 ?_
 exact Y⟩
instance {a0:Int}:OK (S6 a0) fun r=>As Tryz.prog 355 [(O .u8) a0] (An r):=⟨fun {r} h=>by
 refine pw C0 Tryz.func355 ?_
 exact Y⟩
instance {a0:Int}:OK (Q2 a0) fun r=>As Tryz.prog 356 [(O .u8) a0] (An r):=⟨fun {r} h=>by
 refine pw C0 Tryz.func356 ?_
 exact Y⟩
instance {a0:Int}:OK (S7 a0) fun r=>As Tryz.prog 358 [(O .u8) a0] (An r):=⟨fun {r} h=>by
 refine pw C0 Tryz.func358 ?_
 exact Y⟩
instance {a0:ByteArray}:OK (V6 a0) fun r=>As Tryz.prog 357 [Du a0,(.fn 358 [])] (Du r):=⟨fun {r} h=>by
 refine pw C0 Tryz.func357 ?_
 refine Z ?_
 refine A6 h (fun v3=>[(5,(O .i64 v3))]) (fun v3=>[]) ?_
 rintro v3 _ _ _ h _ _
 exact Y⟩
instance {a0:ByteArray}:OK (Y6 a0) fun r=>As Tryz.prog 357 [Du a0,(.fn 360 [])] (Du r):=⟨fun {r} h=>by
 refine pw C0 Tryz.func357 ?_
 refine Z ?_
 refine A6 h (fun v3=>[(5,(O .i64 v3))]) (fun v3=>[]) ?_
 rintro v3 _ _ _ h _ _
 exact Y⟩
instance {a0:ByteArray}:OK (V9 a0) fun r=>As Tryz.prog 362 [Du a0] (Du r):=⟨fun {r} h=>by
 refine pw C0 Tryz.func362 ?_
 refine ZS ?_
 refine Bt ?_
 refine ZS ?_
 refine Bt ?_
 refine ZO ?_
 refine Wd (fun (x:Unit)=>(.inr x)) h (fun _=>[(2,(Du (ByteArray.mk #[])))]) (fun _=>[]) ?_ ?_
 intro _ h _ _ _
 exact Y
 rintro _ _ h
 exact Y⟩
instance {a0:ByteArray}:OK (V8 a0) fun r=>As Tryz.prog 361 [Du a0] (An r):=⟨fun {r} h=>by
 refine pw C0 Tryz.func361 ?_
 refine Z ?_
 refine A6 h (fun (v2,v3)=>[(2,(An false)),(3,(O .i64 v2)),(7,(O .i64 v3))]) (fun (v2,v3)=>[]) ?_
 rintro ⟨v2,v3⟩ _ _ _ h _ _
 exact Y⟩
instance {a0:ByteArray} {a1:Int}:OK (V4 a0 a1) fun r=>As Tryz.prog 326 [Du a0,(O .i64) a1] (.tup [Y5 r.1,(O .i64) r.2]):=⟨fun {r} h=>by
 refine pw C0 Tryz.func326 ?_
 refine Z ?_
 refine K7 h (fun _ h=>?_)
 refine ZO ?_
 refine Ju (Ar ?_)
 refine Bu h (fun v6=>[(23,(An v6))]) (fun v6=>[]) ?_ ?_
 intro _ h _ _ _
 exact Y
 rintro v6 _ h
 refine Ao h (fun _ h=>?_) (fun _ h=>?_)
 exact Y
 refine Z ?_
 refine Bl h (fun _ h=>?_)
 refine Z ?_
 refine Ao h (fun _ h=>?_) (fun _ h=>?_)
 refine Z ?_
 refine Acy h (fun _ _ _ _ h=>?_)
 refine Z ?_
 refine Bl h (fun _ h=>?_)
 refine ZO ?_
 refine Ar (Ar ?_)
 refine Bu h (fun v14=>[(67,(An v14))]) (fun v14=>[]) ?_ ?_
 intro _ h _ _ _
 exact Y
 rintro v14 _ h
 exact Y
 exact Y⟩
instance {a0:ByteArray}:OK (Y2 a0) fun r=>As Tryz.prog 271 [Du a0] (.tup [(Aw 3 Y5) r.1,(O .i64) r.2.1,(O .i64) r.2.2]):=⟨fun {r} h=>by
 refine pw {T:=B8,an:=(fun s=>bif Nat.beq s 5 then .own else .ask),nl:=(fun s=>bif Nat.beq s 5 then [(0,3)] else bif Nat.beq s 2 then [(0,3)] else [])} Tryz.func271 ?_
 refine Z ?_
 refine Ao h (fun _ h=>?_) (fun _ h=>?_)
 exact Y
 refine Z ?_
 refine A6 h (fun (v26,o27)=>[(2,(.sl 3 (List.map Y5 []))),(3,(O .i64 0)),(4,(O .i64 0)),(5,(.arr 0 o27.length 0 o27.length)),(6,(O .i64 v26))]) (fun (v26,o27)=>[(0,.rows 311 3 (List.map Y5 o27))]) ?_
 rintro ⟨v26,o27⟩ _ _ _ h _ _
 refine Z ?_
 refine Ao h (fun _ h=>?_) (fun _ h=>?_)
 refine Z ?_
 refine K7 h (fun _ h=>?_)
 refine Z ?_
 refine Bl h (fun _ h=>?_)
 refine Z ?_
 refine Ao h (fun _ h=>?_) (fun _ h=>?_)
 exact Y
 refine Z ?_
 refine K7 h (fun _ h=>?_)
 refine Z ?_
 refine Ao h (fun _ h=>?_) (fun _ h=>?_)
 refine Z ?_
 refine A6 h (fun v32=>[(6,(O .i64 v32))]) (fun v32=>[]) ?_
 rintro v32 _ _ _ h _ _
 exact Y
 exact Y
 exact Y⟩
instance {a0:ByteArray}:OK (Qm a0) fun r=>As Tryz.prog 220 [Du a0] (An r):=⟨fun {r} h=>by
 refine pw C0 Tryz.func220 ?_
 exact Y⟩
abbrev Ai1 (k:Nat):Prop:=∀{a0:Ai} {a1:Int},OK (Qv k a0 a1) fun r=>As Tryz.prog 272 [Dm a0,(O .i64) a1] (An r)
abbrev Ai2 (k:Nat):Prop:=∀{a0:Ai} {b0:Int},OK (V5 k a0 b0) fun r=>Ct Tryz.prog 327 [Dm a0,(.loc 0 0)] [.cells 3 [(O .i64 b0)]] (An r) [.cells 3 [(O .i64 b0)]]
abbrev Ai3 (k:Nat):Prop:=∀{a0:List Ai} {b0:Int},OK (S8 k a0 b0) fun r=>Ct Tryz.prog 222 [(Gd 3 Bv) a0,(.fn 327 [(.loc 0 0)])] [.cells 3 [(O .i64 b0)]] (An r) [.cells 3 [(O .i64 b0)]]
abbrev Ai4 (k:Nat):Prop:=∀{a0:List Ai} {b0:Int},OK (Y7 k a0 b0) fun r=>Ct Tryz.prog 273 [(Gd 3 Bv) a0,(.fn 327 [(.loc 0 0)])] [.cells 3 [(O .i64 b0)]] ((O .i64) r) [.cells 3 [(O .i64 b0)]]
theorem Zd (k:Nat):Ai1 k/\Ai2 k/\Ai3 k/\Ai4 k:=by
 induction k with
 | zero=>exact ⟨okz,okz,okz,okz⟩
 | succ k ih=>
  obtain ⟨i0_,i1_,i2_,i3_⟩:=ih
  refine ⟨@fun a0 a1=>⟨fun {r} h=>?_⟩,@fun a0 b0=>⟨fun {r} h=>?_⟩,@fun a0 b0=>⟨fun {r} h=>?_⟩,@fun a0 b0=>⟨fun {r} h=>?_⟩⟩
  .unfold Qv at h
   refine pw C0 Tryz.func272 ?_
   refine Z ?_
   refine Fx h (fun _ h=>?_) (fun _ h=>?_)
   refine Z ?_
   refine Fx h (fun _ h=>?_) (fun _ h=>?_)
   exact Y
   refine Z ?_
   refine Bm [1] h (fun _ h=>?_)
   exact Y
   refine Z ?_
   refine Bm [1] h (fun _ h=>?_)
   exact Y
  .unfold V5 at h
   refine aw C0 true Tryz.func327 ?_
   exact Y
  .unfold S8 at h
   refine aw C0 true Tryz.func222 ?_
   refine Z ?_
   refine Bm [0] h (fun _ h=>?_)
   exact Y
  .unfold Y7 at h
   refine aw C0 true Tryz.func273 ?_
   refine Z ?_
   refine A6 h (fun v3=>[(4,(O .i64 0)),(8,(O .i64 v3))]) (fun v3=>[]) ?_
   rintro v3 _ _ _ h _ _
   refine Z ?_
   refine Ao h (fun _ h=>?_) (fun _ h=>?_)
   refine Z ?_
   refine Cg h (fun _ _ _ _ h=>?_)
   refine Z ?_
   refine Bm [0] h (fun _ h=>?_)
   exact Y
   exact Y
instance {k:Nat}:Ai1 k:=(Zd k).1
instance {k:Nat}:Ai2 k:=(Zd k).2.1
instance {k:Nat}:Ai3 k:=(Zd k).2.2.1
instance {k:Nat}:Ai4 k:=(Zd k).2.2.2
instance {a0:List Az} {a1 a2:Int}:OK (Qo a0 a1 a2) fun r=>As Tryz.prog 237 [(Aw 3 Cn) a0,(O .i64) a1,(O .i64) a2] ((Aw 1 An) r):=⟨fun {r} h=>by
 refine pw {T:=B8,an:=(fun _=>.ask),nl:=(fun s=>bif Nat.beq s 6 then [(0,1)] else [])} Tryz.func237 ?_
 refine ZS ?_
 refine Bt ?_
 refine ZO ?_
 refine Ar (Ar ?_)
 refine Bu h (fun v2=>[(34,(An v2))]) (fun v2=>[]) ?_ ?_
 intro _ h _ _ _
 exact Y
 rintro v2 _ h
 refine Ao h (fun _ h=>?_) (fun _ h=>?_)
 exact Y
 refine Z ?_
 refine Cg h (fun _ _ _ _ h=>?_)
 refine Z ?_
 refine Cg h (fun _ _ _ _ h=>?_)
 refine Z ?_
 refine Gx h (fun o5 h=>?_)
 refine Z ?_
 refine Hj h (fun (v28,o29)=>[(49,(O .i64 v28))]) (fun (v28,o29)=>[(0,.rows 4 1 (List.map An o29))]) (fun (v28,o29)=>o5.length=o29.length) ?_
 rintro ⟨v28,o29⟩ _ _ _ h _ _ q29
 refine Z ?_
 refine Ao h (fun _ h=>?_) (fun _ h=>?_)
 refine Z ?_
 refine Cg h (fun _ v30 _ _ h=>?_)
 refine ZO ?_
 refine Ar ?_
 refine Mr h (fun o3_ h hj3=>?_)
 refine Lx (fun (o36:(List Bool))=>o36=o3_/\o5.length=o36.length) (fun o36=>[]) (fun o36=>[(0,.rows 4 1 (List.map An o36))]) (fun _=>rfl) ?_ ?_
 intro K3 hK3
 refine Z ?_
 refine Fx h (fun _ h=>?_) (fun _ h=>?_)
 refine Z ?_
 refine Fx h (fun _ h=>?_) (fun _ h=>?_)
 refine Z ?_
 refine Cg h (fun _ v32 _ _ h=>?_)
 refine Z ?_
 refine Hi h (fun _ _ hiv33 _ h=>?_)
 refine Z ?_
 refine Gw (f:=An) (x:=((v30.Args.length:Int)==v32.Vars)) (j:=v28) rfl rfl (Nat.zero_add _) hiv33 ?_
 refine Z ?_
 exact hK3 (Cd o29 v28 ((v30.Args.length:Int)==v32.Vars)) _ _ _ ⟨(Option.some.inj h),Dz (l:=o29) q29 v28 ((v30.Args.length:Int)==v32.Vars)⟩ trivial ⟨⟨rfl,rfl⟩,⟨rfl,rfl⟩,trivial⟩
 refine Z ?_
 refine Hi h (fun _ _ hiv34 _ h=>?_)
 refine Z ?_
 refine Gw (f:=An) (x:=false) (j:=v28) rfl rfl (Nat.zero_add _) hiv34 ?_
 refine Z ?_
 exact hK3 (Cd o29 v28 false) _ _ _ ⟨(Option.some.inj h),Dz (l:=o29) q29 v28 false⟩ trivial ⟨⟨rfl,rfl⟩,⟨rfl,rfl⟩,trivial⟩
 refine Z ?_
 refine Hi h (fun _ _ hiv35 _ h=>?_)
 refine Z ?_
 refine Gw (f:=An) (x:=false) (j:=v28) rfl rfl (Nat.zero_add _) hiv35 ?_
 refine Z ?_
 exact hK3 (Cd o29 v28 false) _ _ _ ⟨(Option.some.inj h),Dz (l:=o29) q29 v28 false⟩ trivial ⟨⟨rfl,rfl⟩,⟨rfl,rfl⟩,trivial⟩
 rintro o36 u3 ⟨hJ3,q36⟩
 have h:=hj3 _ hJ3
 refine Z ?_
 refine Hj h (fun (v42,o43)=>[(80,(O .i64 v42))]) (fun (v42,o43)=>[(0,.rows 4 1 (List.map An o43))]) (fun (v42,o43)=>o5.length=o43.length) ?_
 rintro ⟨v42,o43⟩ _ _ _ h _ _ q43
 exact Y
 exact Y⟩
abbrev Ai5 (k:Nat):Prop:=∀{a0:List Ai} {b1:Fo},OK (S9 k a0 b1) fun r=>Ct Tryz.prog 222 [(Gd 3 Bv) a0,(.fn 230 [(.loc 0 0)])] [.cells 193 [(.loc 1 0)],.cells 195 [(.sl 3 (List.map Cn b1.data)),(O .i64 b1.vars),(O .i64 b1.left)]] (An r.1) [.cells 193 [(.loc 1 0)],.cells 195 [(.sl 3 (List.map Cn r.2.data)),(O .i64 r.2.vars),(O .i64 r.2.left)]]
abbrev Ai6 (k:Nat):Prop:=∀{a0:List Ai} {b1:Fo},OK (Wa k a0 b1) fun r=>Ct Tryz.prog 273 [(Gd 3 Bv) a0,(.fn 230 [(.loc 0 0)])] [.cells 193 [(.loc 1 0)],.cells 195 [(.sl 3 (List.map Cn b1.data)),(O .i64 b1.vars),(O .i64 b1.left)]] ((O .i64) r.1) [.cells 193 [(.loc 1 0)],.cells 195 [(.sl 3 (List.map Cn r.2.data)),(O .i64 r.2.vars),(O .i64 r.2.left)]]
abbrev Ai7 (k:Nat):Prop:=∀{a0:Ai} {b0:Fo},OK (Lg k a0 b0) fun r=>Ct Tryz.prog 162 [(.loc 0 0),Dm a0] [.cells 195 [(.sl 3 (List.map Cn b0.data)),(O .i64 b0.vars),(O .i64 b0.left)]] (An r.1) [.cells 195 [(.sl 3 (List.map Cn r.2.data)),(O .i64 r.2.vars),(O .i64 r.2.left)]]
abbrev Ai8 (k:Nat):Prop:=∀{a0:Ai} {b1:Fo},OK (Vo k a0 b1) fun r=>Ct Tryz.prog 230 [Dm a0,(.loc 0 0)] [.cells 193 [(.loc 1 0)],.cells 195 [(.sl 3 (List.map Cn b1.data)),(O .i64 b1.vars),(O .i64 b1.left)]] (An r.1) [.cells 193 [(.loc 1 0)],.cells 195 [(.sl 3 (List.map Cn r.2.data)),(O .i64 r.2.vars),(O .i64 r.2.left)]]
theorem Ze (k:Nat):Ai5 k/\Ai6 k/\Ai7 k/\Ai8 k:=by
 induction k with
 | zero=>exact ⟨okz,okz,okz,okz⟩
 | succ k ih=>
  obtain ⟨i0_,i1_,i2_,i3_⟩:=ih
  refine ⟨@fun a0 b1=>⟨fun {r} h=>?_⟩,@fun a0 b1=>⟨fun {r} h=>?_⟩,@fun a0 b0=>⟨fun {r} h=>?_⟩,@fun a0 b1=>⟨fun {r} h=>?_⟩⟩
  .unfold S9 at h
   refine aw C0 true Tryz.func222 ?_
   refine Z ?_
   refine Bm [0,1] h (fun _ h=>?_)
   exact Y
  .unfold Wa at h
   refine aw C0 true Tryz.func273 ?_
   refine Z ?_
   refine A6 h (fun (v3,v4,v5,v6)=>[(4,(O .i64 0)),(8,(O .i64 v3))]) (fun (v3,v4,v5,v6)=>[(1,.cells 195 [(.sl 3 (List.map Cn v4)),(O .i64 v5),(O .i64 v6)])]) ?_
   rintro ⟨v3,v4,v5,v6⟩ _ _ _ h _ _
   refine Z ?_
   refine Ao h (fun _ h=>?_) (fun _ h=>?_)
   refine Z ?_
   refine Cg h (fun _ _ _ _ h=>?_)
   refine Z ?_
   refine Bm [0,1] h (fun _ h=>?_)
   exact Y
   exact Y
  .unfold Lg at h
   refine aw C0 true Tryz.func162 ?_
   refine Z ?_
   refine Ao h (fun _ h=>?_) (fun _ h=>?_)
   exact Y
   refine ZS ?_
   refine Bt ?_
   refine ZS ?_
   refine Bt ?_
   refine ZO ?_
   refine Wd (fun (x:(Int×Int))=>(.inl x)) h (fun (v8,v9)=>[(4,(An false)),(5,(O .i64 v8)),(6,(O .i64 v9))]) (fun (v8,v9)=>[]) ?_ ?_
   intro _ h _ _ _
   refine ZS ?_
   refine Bt ?_
   refine ZO ?_
   refine Bu h (fun v3=>[(21,(An v3))]) (fun v3=>[]) ?_ ?_
   intro _ h _ _ _
   exact Y
   rintro v3 _ h
   refine Ao h (fun _ h=>?_) (fun _ h=>?_)
   exact Y
   refine Z ?_
   refine Ao h (fun _ h=>?_) (fun _ h=>?_)
   exact Y
   refine Z ?_
   refine Ao h (fun _ h=>?_) (fun _ h=>?_)
   refine Ar (Ar ?_)
   refine Bu h (fun v4=>[(53,(An v4))]) (fun v4=>[]) ?_ ?_
   intro _ h _ _ _
   exact Y
   rintro v4 _ h
   exact Y
   refine Z ?_
   refine Ao h (fun _ h=>?_) (fun _ h=>?_)
   exact Y
   refine ZS ?_
   refine Bt ?_
   refine ZO ?_
   refine Bu h (fun v7=>[(74,(An v7))]) (fun v7=>[]) ?_ ?_
   intro _ h _ _ _
   exact Y
   rintro v7 _ h
   exact Y
   rintro ⟨v8,v9⟩ _ h
   refine Ar (Ar ?_)
   refine Bu h (fun v10=>[(91,(An v10))]) (fun v10=>[]) ?_ ?_
   intro _ h _ _ _
   exact Y
   rintro v10 _ h
   refine Ao h (fun _ h=>?_) (fun _ h=>?_)
   exact Y
   refine K9 (Ar (Ar ?_))
   refine Bu h (fun v11=>[(103,(An v11))]) (fun v11=>[]) ?_ ?_
   intro _ h _ _ _
   exact Y
   rintro v11 _ h
   refine Ao h (fun _ h=>?_) (fun _ h=>?_)
   exact Y
   refine Z ?_
   refine Bm [1,0] h (fun _ h=>?_)
   exact Y
  .unfold Vo at h
   refine aw C0 true Tryz.func230 ?_
   refine Z ?_
   refine Bm [1] h (fun _ h=>?_)
   exact Y
instance {k:Nat}:Ai5 k:=(Ze k).1
instance {k:Nat}:Ai6 k:=(Ze k).2.1
instance {k:Nat}:Ai7 k:=(Ze k).2.2.1
instance {k:Nat}:Ai8 k:=(Ze k).2.2.2
instance {a0:List Az} {a1:Ai} {a2:Int}:OK (Mv a0 a1 a2) fun r=>As Tryz.prog 98 [(Aw 3 Cn) a0,Dm a1,(O .i64) a2] (An r):=⟨fun {r} h=>by
 refine pw C0 Tryz.func98 ?_
 refine Z ?_
 refine Bm [1] h (fun _ h=>?_)
 exact Y⟩
instance {a0:List Az} {a1 a2:Int}:OK (Ol a0 a1 a2) fun r=>As Tryz.prog 221 [(Aw 3 Cn) a0,(O .i64) a1,(O .i64) a2] (An r):=⟨fun {r} h=>by
 refine pw C0 Tryz.func221 ?_
 refine Z ?_
 refine Cg h (fun _ _ _ _ h=>?_)
 refine Z ?_
 refine Cg h (fun _ _ _ _ h=>?_)
 refine Z ?_
 refine Ao h (fun _ h=>?_) (fun _ h=>?_)
 exact Y
 refine Z ?_
 refine Bl h (fun _ h=>?_)
 refine Z ?_
 refine A6 h (fun v11=>[(6,(An false)),(29,(O .i64 v11))]) (fun v11=>[]) ?_
 rintro v11 _ _ _ h _ _
 exact Y⟩
instance {a0:List Az}:OK (Vb a0) fun r=>As Tryz.prog 155 [(Aw 3 Cn) a0] (An r):=⟨fun {r} h=>by
 refine pw C0 Tryz.func155 ?_
 refine Z ?_
 refine Ao h (fun _ h=>?_) (fun _ h=>?_)
 exact Y
 refine Z ?_
 refine A6 h (fun (v31,o32,o33)=>[(2,(An false)),(15,(O .i64 v31))]) (fun (v31,o32,o33)=>[(0,.map (B0 An o32)),(1,.map (B0 An o33))]) ?_
 rintro ⟨v31,o32,o33⟩ _ _ _ h _ _
 refine Z ?_
 refine Ao h (fun _ h=>?_) (fun _ h=>?_)
 refine ZS ?_
 refine Bt ?_
 refine ZO ?_
 refine Ar (Ar ?_)
 refine Bu h (fun v41=>[(49,(An v41))]) (fun v41=>[]) ?_ ?_
 intro _ h _ _ _
 refine Z ?_
 refine Cg h (fun _ _ _ _ h=>?_)
 refine Z ?_
 refine Bl h (fun _ h=>?_)
 refine Z ?_
 refine Fx h (fun _ h=>?_) (fun _ h=>?_)
 exact Y
 refine Z ?_
 refine Cg h (fun _ _ _ _ h=>?_)
 refine Z ?_
 refine Yb (f:=An) (l:=o32) rfl (false:Bool) h (fun j_ hb h=>?_) (fun hb h=>?_)
 exact Y
 exact Y
 rintro v41 _ h
 refine Ao h (fun _ h=>?_) (fun _ h=>?_)
 exact Y
 refine Z ?_
 refine Cg h (fun _ _ _ _ h=>?_)
 refine Z ?_
 refine Uh (f:=An) (l:=o32) (x:=true) rfl rfl ?_
 refine ZO ?_
 refine Ar (Ar ?_)
 refine Bu h (fun v45=>[(71,(An v45))]) (fun v45=>[]) ?_ ?_
 intro _ h _ _ _
 exact Y
 rintro v45 _ h
 refine Ao h (fun _ h=>?_) (fun _ h=>?_)
 exact Y
 refine Z ?_
 refine Cg h (fun _ _ _ _ h=>?_)
 refine Z ?_
 refine A6 h (fun (v52,o53)=>[(2,(An false)),(78,(O .i64 v52))]) (fun (v52,o53)=>[(1,.map (B0 An o53))]) ?_
 rintro ⟨v52,o53⟩ _ _ _ h _ _
 refine Z ?_
 refine Ao h (fun _ h=>?_) (fun _ h=>?_)
 refine Z ?_
 refine Cg h (fun _ _ _ _ h=>?_)
 refine Z ?_
 refine Bl h (fun _ h=>?_)
 refine Z ?_
 refine Fx h (fun _ h=>?_) (fun _ h=>?_)
 exact Y
 refine Z ?_
 refine Yb (f:=An) (l:=o53) rfl (false:Bool) h (fun j_ hb h=>?_) (fun hb h=>?_)
 refine Z ?_
 refine Fx h (fun _ h=>?_) (fun _ h=>?_)
 exact Y
 refine Z ?_
 refine Bl h (fun _ h=>?_)
 refine Z ?_
 refine Ao h (fun _ h=>?_) (fun _ h=>?_)
 exact Y
 refine Z ?_
 refine Uh (f:=An) (l:=o53) (x:=true) rfl rfl ?_
 exact Y
 refine Z ?_
 refine Bl h (fun _ h=>?_)
 refine Z ?_
 refine Ao h (fun _ h=>?_) (fun _ h=>?_)
 exact Y
 refine Z ?_
 refine Uh (f:=An) (l:=o53) (x:=true) rfl rfl ?_
 exact Y
 exact Y
 exact Y⟩
instance {a0:List Az}:OK (Adj a0) fun r=>As Tryz.prog 161 [Q5 (It.mk a0 [] [] [])] (An r):=⟨fun {r} h=>by
 refine pw C0 Tryz.func161 ?_
 refine Z ?_
 refine Gx h (fun _ h=>?_)
 refine Z ?_
 refine A6 h (fun _=>[(2,(An false)),(18,(O .i64 0))]) (fun _=>[]) ?_
 rintro _ _ _ _ h _ _
 replace h:=Ck h
 refine Z ?_
 refine A6 h (fun _=>[(2,(An false)),(30,(O .i64 0))]) (fun _=>[]) ?_
 rintro _ _ _ _ h _ _
 exact Y⟩
instance {a0:List Az}:OK (Adi a0) fun r=>As Tryz.prog 160 [Q5 (It.mk a0 [] [] [])] (An r):=⟨fun {r} h=>by
 refine pw C0 Tryz.func160 ?_
 refine Z ?_
 refine Gx h (fun _ h=>?_)
 refine Z ?_
 refine A6 h (fun _=>[(2,(An false)),(17,(O .i64 0))]) (fun _=>[]) ?_
 rintro _ _ _ _ h _ _
 exact Y⟩
instance {a0:List Az}:OK (Adg a0) fun r=>As Tryz.prog 158 [Q5 (It.mk a0 [] [] [])] (An r):=⟨fun {r} h=>by
 refine pw C0 Tryz.func158 ?_
 refine Z ?_
 refine Gx h (fun _ h=>?_)
 refine Z ?_
 refine A6 h (fun _=>[(2,(An false)),(20,(O .i64 0))]) (fun _=>[]) ?_
 rintro _ _ _ _ h _ _
 replace h:=Ck h
 refine Z ?_
 refine A6 h (fun _=>[(2,(An false)),(33,(O .i64 0))]) (fun _=>[]) ?_
 rintro _ _ _ _ h _ _
 exact Y⟩
instance {a0:Ai} {b0:It}:OK (Adm a0 b0) fun r=>Ct Tryz.prog 223 [Dm a0,(.loc 0 0)] [.cells 138 [(.sl 3 (List.map Cn b0.Data)),(.sl 7 (List.map Q3 b0.Codes)),(.sl 3 (Bv b0.Vars)),(.sl 8 (List.map Q4 b0.Exprs))]] (An r) [.cells 138 [(.sl 3 (List.map Cn b0.Data)),(.sl 7 (List.map Q3 b0.Codes)),(.sl 3 (Bv b0.Vars)),(.sl 8 (List.map Q4 b0.Exprs))]]:=⟨fun {r} h=>by
 refine aw C0 true Tryz.func223 ?_
 exact Y⟩
instance {a0:List Ai} {b0:It}:OK (Ado a0 b0) fun r=>Ct Tryz.prog 273 [(Gd 3 Bv) a0,(.fn 223 [(.loc 0 0)])] [.cells 138 [(.sl 3 (List.map Cn b0.Data)),(.sl 7 (List.map Q3 b0.Codes)),(.sl 3 (Bv b0.Vars)),(.sl 8 (List.map Q4 b0.Exprs))]] ((O .i64) r) [.cells 138 [(.sl 3 (List.map Cn b0.Data)),(.sl 7 (List.map Q3 b0.Codes)),(.sl 3 (Bv b0.Vars)),(.sl 8 (List.map Q4 b0.Exprs))]]:=⟨fun {r} h=>by
 refine aw C0 true Tryz.func273 ?_
 refine Z ?_
 refine A6 h (fun v3=>[(4,(O .i64 0)),(8,(O .i64 v3))]) (fun v3=>[]) ?_
 rintro v3 _ _ _ h _ _
 refine Z ?_
 refine Ao h (fun _ h=>?_) (fun _ h=>?_)
 refine Z ?_
 refine Cg h (fun _ _ _ _ h=>?_)
 refine Z ?_
 refine Bm [0] h (fun _ h=>?_)
 exact Y
 exact Y⟩
instance {a0:List Ai} {b0:It}:OK (Adl a0 b0) fun r=>Ct Tryz.prog 222 [(Gd 3 Bv) a0,(.fn 223 [(.loc 0 0)])] [.cells 138 [(.sl 3 (List.map Cn b0.Data)),(.sl 7 (List.map Q3 b0.Codes)),(.sl 3 (Bv b0.Vars)),(.sl 8 (List.map Q4 b0.Exprs))]] (An r) [.cells 138 [(.sl 3 (List.map Cn b0.Data)),(.sl 7 (List.map Q3 b0.Codes)),(.sl 3 (Bv b0.Vars)),(.sl 8 (List.map Q4 b0.Exprs))]]:=⟨fun {r} h=>by
 refine aw C0 true Tryz.func222 ?_
 refine Z ?_
 refine Bm [0] h (fun _ h=>?_)
 exact Y⟩
instance {a0:List Az}:OK (Ade a0) fun r=>As Tryz.prog 156 [Q5 (It.mk a0 [] [] [])] (An r):=⟨fun {r} h=>by
 refine pw C0 Tryz.func156 ?_
 refine Z ?_
 refine Bm [0] h (fun _ h=>?_)
 exact Y⟩
instance {a0:List Az}:OK (Sh a0) fun r=>As Tryz.prog 97 [Q5 (It.mk a0 [] [] [])] (An r):=⟨fun {r} h=>by
 refine pw C0 Tryz.func97 ?_
 exact Y⟩
instance {a0:Int}:OK (Vj a0) fun r=>As Tryz.prog 213 [(O .i64) a0] (An r):=⟨fun {r} h=>by
 refine pw C0 Tryz.func213 ?_
 exact Y⟩
instance {a0 a1:Int}:OK (Ke a0 a1) fun r=>As Tryz.prog 138 [(O .i64) a0,(O .i64) a1] ((O .i64) r):=⟨fun {r} h=>by
 refine pw C0 Tryz.func138 ?_
 exact Y⟩
instance {a0:List Int}:OK (L0 a0) fun r=>As Tryz.prog 141 [(Aw 1 (O .i64)) a0] ((O .i64) r):=⟨fun {r} h=>by
 refine pw C0 Tryz.func141 ?_
 refine Z ?_
 refine A6 h (fun v2=>[(2,(O .i64 0)),(8,(O .i64 v2))]) (fun v2=>[]) ?_
 rintro v2 _ _ _ h _ _
 exact Y⟩
instance {a0:Int}:OK (Y1 a0) fun r=>As Tryz.prog 270 [(O .i64) a0] (An r):=⟨fun {r} h=>by
 refine pw C0 Tryz.func270 ?_
 exact Y⟩
instance {a0 a1:Int}:OK (Vm a0 a1) fun r=>As Tryz.prog 217 [(O .i64) a0,(O .i64) a1] ((O .i64) r):=⟨fun {r} h=>by
 refine pw C0 Tryz.func217 ?_
 exact Y⟩
instance {a0 a1:Bw}:OK (Vl a0 a1) fun r=>As Tryz.prog 216 [Dn a0,Dn a1] ((O .i64) r):=⟨fun {r} h=>by
 refine pw C0 Tryz.func216 ?_
 exact Y⟩
instance {a0 a1:List Bw}:OK (Yy a0 a1) fun r=>As Tryz.prog 215 [(Aw 2 Dn) a0,(Aw 2 Dn) a1,(.fn 216 [])] ((O .i64) r):=⟨fun {r} h=>by
 refine pw C0 Tryz.func215 ?_
 refine Z ?_
 refine A6 h (fun v6=>[(6,(O .i64 0)),(13,(O .i64 v6))]) (fun v6=>[]) ?_
 rintro v6 _ _ _ h _ _
 exact Y⟩
instance {a0 a1:Ce}:OK (Oe a0 a1) fun r=>As Tryz.prog 145 [G6 a0,G6 a1] ((O .i64) r):=⟨fun {r} h=>by
 refine pw C0 Tryz.func145 ?_
 exact Y⟩
instance {a0 a1:B5}:OK (U8 a0 a1) fun r=>As Tryz.prog 144 [Ew a0,Ew a1] ((O .i64) r):=⟨fun {r} h=>by
 refine pw C0 Tryz.func144 ?_
 exact Y⟩
instance {a0 a1:List B5}:OK (Yr a0 a1) fun r=>As Tryz.prog 143 [(Aw 3 Ew) a0,(Aw 3 Ew) a1,(.fn 144 [])] ((O .i64) r):=⟨fun {r} h=>by
 refine pw C0 Tryz.func143 ?_
 refine Z ?_
 refine A6 h (fun v6=>[(6,(O .i64 0)),(13,(O .i64 v6))]) (fun v6=>[]) ?_
 rintro v6 _ _ _ h _ _
 exact Y⟩
abbrev Ai9 (k:Nat):Prop:=∀{a0 a1:A9},OK (Od k a0 a1) fun r=>As Tryz.prog 142 [Ez a0,Ez a1] ((O .i64) r)
abbrev Aja (k:Nat):Prop:=∀{a0 a1:List A9},OK (Vk k a0 a1) fun r=>As Tryz.prog 214 [(Gd 2 G5) a0,(Gd 2 G5) a1,(.fn 142 [])] ((O .i64) r)
theorem Ajb (k:Nat):Ai9 k/\Aja k:=by
 induction k with
 | zero=>exact ⟨okz,okz⟩
 | succ k ih=>
  obtain ⟨i0_,i1_⟩:=ih
  refine ⟨@fun a0 a1=>⟨fun {r} h=>?_⟩,@fun a0 a1=>⟨fun {r} h=>?_⟩⟩
  .unfold Od at h
   refine pw C0 Tryz.func142 ?_
   exact Y
  .unfold Vk at h
   refine pw C0 Tryz.func214 ?_
   refine Z ?_
   refine A6 h (fun v6=>[(6,(O .i64 0)),(13,(O .i64 v6))]) (fun v6=>[]) ?_
   rintro v6 _ _ _ h _ _
   exact Y
instance {k:Nat}:Ai9 k:=(Ajb k).1
instance {k:Nat}:Aja k:=(Ajb k).2
instance {a0 a1:Cj}:OK (U7 a0 a1) fun r=>As Tryz.prog 140 [E2 a0,E2 a1] ((O .i64) r):=⟨fun {r} h=>by
 refine pw C0 Tryz.func140 ?_
 exact Y⟩
instance {a0 a1:List Cj}:OK (Yq a0 a1) fun r=>As Tryz.prog 139 [(Aw 3 E2) a0,(Aw 3 E2) a1,(.fn 140 [])] ((O .i64) r):=⟨fun {r} h=>by
 refine pw C0 Tryz.func139 ?_
 refine Z ?_
 refine A6 h (fun v6=>[(6,(O .i64 0)),(13,(O .i64 v6))]) (fun v6=>[]) ?_
 rintro v6 _ _ _ h _ _
 exact Y⟩
instance {a0 a1:A8}:OK (Ld a0 a1) fun r=>As Tryz.prog 84 [F5 a0,F5 a1] ((O .i64) r):=⟨fun {r} h=>by
 refine pw C0 Tryz.func84 ?_
 exact Y⟩
instance {a0:Int}:OK (Si a0) fun r=>As Tryz.prog 110 [(O .i64) a0] (An r):=⟨fun {r} h=>by
 refine pw C0 Tryz.func110 ?_
 exact Y⟩
instance {a0:Int}:OK (Uw a0) fun r=>As Tryz.prog 111 [(O .i64) a0] (An r):=⟨fun {r} h=>by
 refine pw C0 Tryz.func111 ?_
 exact Y⟩
instance {a0:Ce}:OK (P7 a0) fun r=>As Tryz.prog 56 [G6 a0] (An r):=⟨fun {r} h=>by
 refine pw C0 Tryz.func56 ?_
 refine ZS ?_
 refine Bt ?_
 refine ZO ?_
 refine Ar (Ar ?_)
 refine Bu h (fun v3=>[(14,(An v3))]) (fun v3=>[]) ?_ ?_
 intro _ h _ _ _
 exact Y
 rintro v3 _ h
 refine Ao h (fun _ h=>?_) (fun _ h=>?_)
 exact Y
 refine Z ?_
 refine A6 h (fun v8=>[(2,(An false)),(18,(O .i64 v8))]) (fun v8=>[]) ?_
 rintro v8 _ _ _ h _ _
 exact Y⟩
instance {a0:Int}:OK (G4 a0) fun r=>As Tryz.prog 166 [(O .i64) a0] (Du r):=⟨fun {r} h=>by
 exact Ar6 h⟩
instance {b1:List Int}:OK (Ta b1) fun r=>Ct Tryz.prog 233 [(.loc 0 0)] [.cells 199 [(.loc 0 0),(.arr 1 b1.length 0 b1.length)],.rows 5 1 (List.map (O .u8) b1)] (.tup []) [.cells 199 [(.loc 0 0),(.arr 1 b1.length 0 b1.length)],.rows 5 1 (List.map (O .u8) b1)]:=⟨fun {r} h=>by
 cases h
 exact Ar9 _ _⟩
instance {a0:Int} {b1:List Int}:OK (Sw a0 b1) fun r=>Ct Tryz.prog 235 [(.loc 0 0),(O .u8) a0] [.cells 199 [(.loc 0 0),(.arr 1 b1.length 0 b1.length)],.rows 5 1 (List.map (O .u8) b1)] (.val .nilIface) [.cells 199 [(.loc 0 0),(.arr 1 r.length 0 r.length)],.rows 5 1 (List.map (O .u8) r)]:=⟨fun {r} h=>by
 refine aw C0 true Tryz.func235 ?_
 refine Z ?_
 refine Bm [0,1] h (fun _ h=>?_)
 exact Y⟩
instance {a0:ByteArray} {b1:List Int}:OK (Fw a0 b1) fun r=>Ct Tryz.prog 165 [(.loc 0 0),Du a0] [.cells 199 [(.loc 0 0),(.arr 1 b1.length 0 b1.length)],.rows 5 1 (List.map (O .u8) b1)] (.tup [(O .i64) r.1,.val .nilIface]) [.cells 199 [(.loc 0 0),(.arr 1 r.2.length 0 r.2.length)],.rows 5 1 (List.map (O .u8) r.2)]:=⟨fun {r} h=>by
 refine aw C0 true Tryz.func165 ?_
 refine Z ?_
 refine Bm [0,1] h (fun _ h=>?_)
 exact Y⟩
abbrev Ajc (k:Nat):Prop:=∀{a0:A9} {b1:List Int},OK (Qi k a0 b1) fun r=>Ct Tryz.prog 167 [(.loc 0 0),Ez a0] [.cells 199 [(.loc 0 0),(.arr 1 b1.length 0 b1.length)],.rows 5 1 (List.map (O .u8) b1)] (.tup []) [.cells 199 [(.loc 0 0),(.arr 1 r.length 0 r.length)],.rows 5 1 (List.map (O .u8) r)]
theorem Asn (k:Nat):Ajc k:=by
 induction k with
 | zero=>exact okz
 | succ k ih=>
  refine @fun a0 b1=>⟨fun {r} h=>?_⟩
  .unfold Qi at h
   refine aw C0 true Tryz.func167 ?_
   refine Z ?_
   refine Bl h (fun _ h=>?_)
   refine Z ?_
   refine Bm [0,1] h (fun _ h=>?_)
   refine Z ?_
   refine Ao h (fun _ h=>?_) (fun _ h=>?_)
   refine Z ?_
   refine Bm [0,1] h (fun _ h=>?_)
   refine Z ?_
   refine A6 h (fun (v15,o16)=>[(20,(O .i64 v15))]) (fun (v15,o16)=>[(0,.cells 199 [(.loc 0 0),(.arr 1 o16.length 0 o16.length)]),(1,.rows 5 1 (List.map (O .u8) o16))]) ?_
   rintro ⟨v15,o16⟩ _ _ _ h _ _
   refine Z ?_
   refine Ao h (fun _ h=>?_) (fun _ h=>?_)
   refine Z ?_
   refine Cg h (fun _ _ _ _ h=>?_)
   refine Z ?_
   refine Bm [0,1] h (fun _ h=>?_)
   refine Z ?_
   refine Bm [0,1] h (fun _ h=>?_)
   exact Y
   replace h:=Ck h
   refine Z ?_
   refine Bm [0,1] h (fun _ h=>?_)
   exact Y
   exact Y
instance {k:Nat}:Ajc k:=(Asn k)
instance {b1:List Int}:OK (Kf b1) fun r=>Ct Tryz.prog 168 [(.loc 0 0)] [.cells 199 [(.loc 0 0),(.arr 1 b1.length 0 b1.length)],.rows 5 1 (List.map (O .u8) b1)] (Du r) [.cells 199 [(.loc 0 0),(.fb r)],.dead]:=⟨fun {r} h=>by
 exact Ait h⟩
instance {b1:List Int}:OK (Vr b1) fun r=>Ct Tryz.prog 233 [(.loc 0 0)] [.cells 199 [(.val (.pointer none)),(.arr 1 b1.length 0 b1.length)],.rows 5 1 (List.map (O .u8) b1)] (.tup []) [.cells 199 [(.loc 0 0),(.arr 1 b1.length 0 b1.length)],.rows 5 1 (List.map (O .u8) b1)]:=⟨fun {r} h=>by
 cases h
 exact Asa _ _⟩
instance {a0:ByteArray} {b1:List Int}:OK (Is a0 b1) fun r=>Ct Tryz.prog 165 [(.loc 0 0),Du a0] [.cells 199 [(.val (.pointer none)),(.arr 1 b1.length 0 b1.length)],.rows 5 1 (List.map (O .u8) b1)] (.tup [(O .i64) r.1,(.val .nilIface)]) [.cells 199 [(.loc 0 0),(.arr 1 r.2.length 0 r.2.length)],.rows 5 1 (List.map (O .u8) r.2)]:=⟨fun {r} h=>by
 refine aw C0 true Tryz.func165 ?_
 refine Z ?_
 refine Bm [0,1] h (fun _ h=>?_)
 exact Y⟩
instance {a0:Int} {a1:A9}:OK (N7 a0 a1) fun r=>As Tryz.prog 100 [(O .i64) a0,Ez a1] (Du r):=⟨fun {r} h=>by
 refine pw C0 Tryz.func100 ?_
 refine ZS ?_
 refine Bt ?_
 refine ZS ?_
 refine Bt ?_
 refine ZO ?_
 refine Ar ?_
 refine Dh [.own 5 1 5 1] ?_
 refine Z ?_
 refine Bl h (fun _ h=>?_)
 refine Z ?_
 refine F8 h (fun h=>?_)
 refine Z ?_
 refine F8 h (fun h=>?_)
 refine Z ?_
 refine Bm [1,2] h (fun _ h=>?_)
 refine Z ?_
 refine Bm [1,2] h (fun _ h=>?_)
 refine Z ?_
 refine Bm [1,2] h (fun _ h=>?_)
 exact Y⟩
abbrev Ajd (k:Nat):Prop:=∀{a0:Ai},OK (Qw k a0) fun r=>As Tryz.prog 286 [Dm a0] ((O .i64) r)
theorem Aso (k:Nat):Ajd k:=by
 induction k with
 | zero=>exact okz
 | succ k ih=>
  refine @fun a0=>⟨fun {r} h=>?_⟩
  .unfold Qw at h
   refine pw C0 Tryz.func286 ?_
   refine Z ?_
   refine A6 h (fun (v5,v6)=>[(3,(O .i64 v5)),(9,(O .i64 v6))]) (fun (v5,v6)=>[]) ?_
   rintro ⟨v5,v6⟩ _ _ _ h _ _
   exact Y
instance {k:Nat}:Ajd k:=(Aso k)
end Go.Ab
namespace Go.Ab
open Go Go.Proofs
set_option maxRecDepth 10000
set_option maxHeartbeats 4000000
set_option linter.unusedVariables false
abbrev Aje (k:Nat):Prop:=∀{a0:Ai} {a1:List Ai},OK (Om k a0 a1) fun r=>As Tryz.prog 288 [Dm a0,(Gd 3 Bv) a1] (Dm r)
theorem Asp (k:Nat):Aje k:=by
 induction k with
 | zero=>exact okz
 | succ k ih=>
  refine @fun a0 a1=>⟨fun {r} h=>?_⟩
  .unfold Om at h
   refine pw {T:=B8,an:=(fun _=>.ask),nl:=(fun s=>bif Nat.beq s 42 then [(0,3)] else [])} Tryz.func288 ?_
   refine ZS ?_
   refine Bt ?_
   refine ZO ?_
   refine Ar (Ar ?_)
   refine Bu h (fun v3=>[(22,(An v3))]) (fun v3=>[]) ?_ ?_
   intro _ h _ _ _
   exact Y
   rintro v3 _ h
   refine Ao h (fun _ h=>?_) (fun _ h=>?_)
   exact Y
   refine ZS ?_
   refine Bt ?_
   refine ZO ?_
   refine Ar (Ar ?_)
   refine Dh [.own 5 2 25 3] ?_
   refine Z ?_
   refine A6 h (fun (v18,o19)=>[(37,(O .i64 v18))]) (fun (v18,o19)=>[(2,.cells 25 [(O .i64 a0.Kind),(O .i64 a0.Num),(.arr 3 o19.length 0 o19.length)]),(3,.rows 25 3 (Bv o19))]) ?_
   rintro ⟨v18,o19⟩ _ _ _ h _ _
   exact Y
instance {k:Nat}:Aje k:=(Asp k)
abbrev Ajf (k:Nat):Prop:=∀{a0:Ai} {a1:List Int},OK (Qx k a0 a1) fun r=>As Tryz.prog 287 [Dm a0,(Aw 1 (O .i64)) a1] ((O .i64) r)
theorem Asq (k:Nat):Ajf k:=by
 induction k with
 | zero=>exact okz
 | succ k ih=>
  refine @fun a0 a1=>⟨fun {r} h=>?_⟩
  .unfold Qx at h
   refine pw C0 Tryz.func287 ?_
   refine ZS ?_
   refine Bt ?_
   refine ZO ?_
   refine Ar (Ar ?_)
   refine Bu h (fun v2=>[(22,(An v2))]) (fun v2=>[]) ?_ ?_
   intro _ h _ _ _
   exact Y
   rintro v2 _ h
   refine Ao h (fun _ h=>?_) (fun _ h=>?_)
   exact Y
   refine Z ?_
   refine A6 h (fun (v7,v8)=>[(5,(O .i64 v7)),(31,(O .i64 v8))]) (fun (v7,v8)=>[]) ?_
   rintro ⟨v7,v8⟩ _ _ _ h _ _
   exact Y
instance {k:Nat}:Ajf k:=(Asq k)
instance {a0:List Az} {a1:Ai} {a2:Int}:OK (Sx a0 a1 a2) fun r=>As Tryz.prog 236 [(Aw 3 Cn) a0,Dm a1,(O .i64) a2] (.tup [(Gd 3 Bv) r.1,An r.2]):=⟨fun {r} h=>by
 refine pw {T:=B8,an:=(fun s=>bif Nat.beq s 14 then .own else .ask),nl:=(fun s=>bif Nat.beq s 14 then [(0,3)] else bif Nat.beq s 6 then [(0,3)] else [])} Tryz.func236 ?_
 refine ZS ?_
 refine Bt ?_
 refine ZO ?_
 refine Ar (Ar ?_)
 refine Bu h (fun v2=>[(31,(An v2))]) (fun v2=>[]) ?_ ?_
 intro _ h _ _ _
 exact Y
 rintro v2 _ h
 refine Ao h (fun _ h=>?_) (fun _ h=>?_)
 exact Y
 refine Z ?_
 refine Cg h (fun _ _ _ _ h=>?_)
 refine ZO ?_
 refine Ar (Ar ?_)
 refine Bu h (fun v5=>[(53,(An v5))]) (fun v5=>[]) ?_ ?_
 intro _ h _ _ _
 exact Y
 rintro v5 _ h
 refine Ao h (fun _ h=>?_) (fun _ h=>?_)
 exact Y
 refine Z ?_
 refine Gx h (fun o6 h=>?_)
 refine Z ?_
 refine Hj h (fun (v12,o13)=>[(61,(O .i64 v12))]) (fun (v12,o13)=>[(2,.rows 3 1 (List.map (O .i64) o13))]) (fun (v12,o13)=>o6.length=o13.length) ?_
 rintro ⟨v12,o13⟩ _ _ _ h _ _ q13
 refine Z ?_
 refine Ao h (fun _ h=>?_) (fun _ h=>?_)
 exact Y
 replace h:=Ck h
 refine Z ?_
 refine Cg h (fun _ _ _ _ h=>?_)
 refine ZO ?_
 refine Ju ?_
 refine Dh [.fz 9] ?_
 refine Z ?_
 refine A6 h (fun v23=>[(6,(.sl 3 (Bv []))),(7,(An false)),(79,(O .i64 v23))]) (fun v23=>[]) ?_
 rintro v23 _ _ _ h _ _
 refine Z ?_
 refine Ao h (fun _ h=>?_) (fun _ h=>?_)
 exact Y
 replace h:=Ck h
 refine Z ?_
 refine Cg h (fun _ _ _ _ h=>?_)
 refine Z ?_
 refine A6 h (fun (v41,o42)=>[(14,(.arr 3 o42.length 0 o42.length)),(95,(O .i64 v41))]) (fun (v41,o42)=>[(3,.rows 25 3 (Bv o42))]) ?_
 rintro ⟨v41,o42⟩ _ _ _ h _ _
 exact Y⟩
abbrev Ajg (k:Nat):Prop:=∀{a0:Ai} {a1:A9} {b1:List (ByteArray×Int)} {b2:List (ByteArray×(List Eh))} {b0_0:List Az} {b0_1:List Ai} {b0_2 b0_3:Int} {b0_4:List Ai},OK (Qk k a0 a1 b1 b2 b0_0 b0_1 b0_2 b0_3 b0_4) fun r=>Ct Tryz.prog 170 [(.loc 0 0),Dm a0,Ez a1] [.cells 143 [(.sl 3 (List.map Cn b0_0)),(.sl 3 (Bv b0_1)),(O .i64 b0_2),(O .i64 b0_3),(.sl 3 (Bv b0_4)),(.mp 1),(.mp 2)],.map (B0 (O .i64) b1),.map (B0 (Aw 5 Ff) b2)] ((O .i64) r) [.cells 143 [(.sl 3 (List.map Cn b0_0)),(.sl 3 (Bv b0_1)),(O .i64 b0_2),(O .i64 b0_3),(.sl 3 (Bv b0_4)),(.mp 1),(.mp 2)],.map (B0 (O .i64) b1),.map (B0 (Aw 5 Ff) b2)]
abbrev Ajh (k:Nat):Prop:=∀{a0:Ai} {a1:A9} {b1:List (ByteArray×Int)} {b2:List (ByteArray×(List Eh))} {b0_0:List Az} {b0_1:List Ai} {b0_2 b0_3:Int} {b0_4:List Ai},OK (N8 k a0 a1 b1 b2 b0_0 b0_1 b0_2 b0_3 b0_4) fun r=>Ct Tryz.prog 101 [(.loc 0 0),Dm a0,Ez a1] [.cells 143 [(.sl 3 (List.map Cn b0_0)),(.sl 3 (Bv b0_1)),(O .i64 b0_2),(O .i64 b0_3),(.sl 3 (Bv b0_4)),(.mp 1),(.mp 2)],.map (B0 (O .i64) b1),.map (B0 (Aw 5 Ff) b2)] ((O .i64) r) [.cells 143 [(.sl 3 (List.map Cn b0_0)),(.sl 3 (Bv b0_1)),(O .i64 b0_2),(O .i64 b0_3),(.sl 3 (Bv b0_4)),(.mp 1),(.mp 2)],.map (B0 (O .i64) b1),.map (B0 (Aw 5 Ff) b2)]
abbrev Aji (k:Nat):Prop:=∀{a0:List Ai} {a1:List A9} {b1:List (ByteArray×Int)} {b2:List (ByteArray×(List Eh))} {b0_0:List Az} {b0_1:List Ai} {b0_2 b0_3:Int} {b0_4:List Ai},OK (Qj k a0 a1 b1 b2 b0_0 b0_1 b0_2 b0_3 b0_4) fun r=>Ct Tryz.prog 169 [(.loc 0 0),(Gd 3 Bv) a0,(Gd 2 G5) a1] [.cells 143 [(.sl 3 (List.map Cn b0_0)),(.sl 3 (Bv b0_1)),(O .i64 b0_2),(O .i64 b0_3),(.sl 3 (Bv b0_4)),(.mp 1),(.mp 2)],.map (B0 (O .i64) b1),.map (B0 (Aw 5 Ff) b2)] ((O .i64) r) [.cells 143 [(.sl 3 (List.map Cn b0_0)),(.sl 3 (Bv b0_1)),(O .i64 b0_2),(O .i64 b0_3),(.sl 3 (Bv b0_4)),(.mp 1),(.mp 2)],.map (B0 (O .i64) b1),.map (B0 (Aw 5 Ff) b2)]
theorem Adw (k:Nat):Ajg k/\Ajh k/\Aji k:=by
 induction k with
 | zero=>exact ⟨okz,okz,okz⟩
 | succ k ih=>
  obtain ⟨i0_,i1_,i2_⟩:=ih
  refine ⟨@fun a0 a1 b1 b2 b0_0 b0_1 b0_2 b0_3 b0_4=>⟨fun {r} h=>?_⟩,@fun a0 a1 b1 b2 b0_0 b0_1 b0_2 b0_3 b0_4=>⟨fun {r} h=>?_⟩,@fun a0 a1 b1 b2 b0_0 b0_1 b0_2 b0_3 b0_4=>⟨fun {r} h=>?_⟩⟩
  .unfold Qk at h
   refine aw {T:=B8,an:=(fun s=>bif Nat.beq s 9 then .own else .ask),nl:=(fun s=>bif Nat.beq s 9 then [(0,3)] else [])} true Tryz.func170 ?_
   refine Z ?_
   refine Bl h (fun _ h=>?_)
   refine Z ?_
   refine Ao h (fun _ h=>?_) (fun _ h=>?_)
   exact Y
   refine Z ?_
   refine Bl h (fun _ h=>?_)
   refine Z ?_
   refine A6 h (fun (v14,o15)=>[(9,(.arr 5 o15.length 0 o15.length)),(38,(O .i64 v14))]) (fun (v14,o15)=>[(5,.rows 25 3 (Bv o15))]) ?_
   rintro ⟨v14,o15⟩ _ _ _ h _ _
   refine Z ?_
   refine Ao h (fun _ h=>?_) (fun _ h=>?_)
   exact Y
   replace h:=Ck h
   refine Fc (Fa rfl (Ar ?_))
   refine Dh [.fz 9] ?_
   refine Z ?_
   refine Bm [0,1,2] h (fun _ h=>?_)
   exact Y
  .unfold N8 at h
   refine aw C0 true Tryz.func101 ?_
   refine Z ?_
   refine Ao h (fun _ h=>?_) (fun _ h=>?_)
   refine Z ?_
   refine Ao h (fun _ h=>?_) (fun _ h=>?_)
   refine Z ?_
   refine Bm [0,1,2] h (fun _ h=>?_)
   exact Y
   exact Y
   refine Z ?_
   refine Ao h (fun _ h=>?_) (fun _ h=>?_)
   exact Y
   refine Z ?_
   refine Ao h (fun _ h=>?_) (fun _ h=>?_)
   refine Z ?_
   refine Ao h (fun _ h=>?_) (fun _ h=>?_)
   exact Y
   refine Z ?_
   refine A6 h (fun (v7,v8)=>[(6,(O .i64 0)),(7,(O .i64 v7)),(50,(O .i64 v8))]) (fun (v7,v8)=>[]) ?_
   rintro ⟨v7,v8⟩ _ _ _ h _ _
   refine Z ?_
   refine Ao h (fun _ h=>?_) (fun _ h=>?_)
   refine Z ?_
   refine Cg h (fun _ _ _ _ h=>?_)
   refine Z ?_
   refine Bm [0,1,2] h (fun _ h=>?_)
   exact Y
   exact Y
   exact Y
  .unfold Qj at h
   refine aw C0 true Tryz.func169 ?_
   refine Z ?_
   refine Ao h (fun _ h=>?_) (fun _ h=>?_)
   exact Y
   refine Z ?_
   refine A6 h (fun (v5,v6)=>[(6,(O .i64 0)),(7,(O .i64 v5)),(18,(O .i64 v6))]) (fun (v5,v6)=>[]) ?_
   rintro ⟨v5,v6⟩ _ _ _ h _ _
   refine Z ?_
   refine Ao h (fun _ h=>?_) (fun _ h=>?_)
   refine Z ?_
   refine Cg h (fun _ _ _ _ h=>?_)
   refine Z ?_
   refine Cg h (fun _ _ _ _ h=>?_)
   refine Z ?_
   refine Bm [0,1,2] h (fun _ h=>?_)
   exact Y
   exact Y
instance {k:Nat}:Ajg k:=(Adw k).1
instance {k:Nat}:Ajh k:=(Adw k).2.1
instance {k:Nat}:Aji k:=(Adw k).2.2
instance {a0:Int} {b1:List (ByteArray×Int)} {b2:List (ByteArray×(List Eh))} {b0_0:List Az} {b0_1:List Ai} {b0_2 b0_3:Int} {b0_4:List Ai}:OK (N9 a0 b1 b2 b0_0 b0_1 b0_2 b0_3 b0_4) fun r=>Ct Tryz.prog 102 [(.loc 0 0),(O .i64) a0] [.cells 143 [(.sl 3 (List.map Cn b0_0)),(.sl 3 (Bv b0_1)),(O .i64 b0_2),(O .i64 b0_3),(.sl 3 (Bv b0_4)),(.mp 1),(.mp 2)],.map (B0 (O .i64) b1),.map (B0 (Aw 5 Ff) b2)] (Dm r) [.cells 143 [(.sl 3 (List.map Cn b0_0)),(.sl 3 (Bv b0_1)),(O .i64 b0_2),(O .i64 b0_3),(.sl 3 (Bv b0_4)),(.mp 1),(.mp 2)],.map (B0 (O .i64) b1),.map (B0 (Aw 5 Ff) b2)]:=⟨fun {r} h=>by
 refine aw C0 true Tryz.func102 ?_
 exact Y⟩
instance {a0:Int} {a1:A9} {b1:List (ByteArray×Int)} {b2:List (ByteArray×(List Eh))} {b0_0:List Az} {b0_1:List Ai} {b0_2 b0_3:Int} {b0_4:List Ai}:OK (Lz a0 a1 b1 b2 b0_0 b0_1 b0_2 b0_3 b0_4) fun r=>Ct Tryz.prog 50 [(.loc 0 0),(O .i64) a0,Ez a1] [.cells 143 [(.sl 3 (List.map Cn b0_0)),(.sl 3 (Bv b0_1)),(O .i64 b0_2),(O .i64 b0_3),(.sl 3 (Bv b0_4)),(.mp 1),(.mp 2)],.map (B0 (O .i64) b1),.map (B0 (Aw 5 Ff) b2)] ((O .i64) r.1) [.cells 143 [(.sl 3 (List.map Cn b0_0)),(.sl 3 (Bv b0_1)),(O .i64 b0_2),(O .i64 b0_3),(.sl 3 (Bv b0_4)),(.mp 1),(.mp 2)],.map (B0 (O .i64) r.2),.map (B0 (Aw 5 Ff) b2)]:=⟨fun {r} h=>by
 refine aw C0 true Tryz.func50 ?_
 refine Z ?_
 refine Bl h (fun _ h=>?_)
 refine ZO ?_
 refine Ar ?_
 refine Bu h (fun (v3,v4)=>[(8,(O .i64 v3)),(9,(An v4))]) (fun (v3,v4)=>[]) ?_ ?_
 intro _ h _ _ _
 refine Z ?_
 refine Yb (f:=(O .i64)) (l:=b1) rfl (0:Int) h (fun j_ hb h=>?_) (fun hb h=>?_)
 exact Y
 exact Y
 rintro ⟨v3,v4⟩ _ h
 refine Z ?_
 refine Ao h (fun _ h=>?_) (fun _ h=>?_)
 refine Z ?_
 refine Bm [0,1,2] h (fun _ h=>?_)
 refine Z ?_
 refine Bm [0,1,2] h (fun _ h=>?_)
 refine ZS ?_
 refine Bt ?_
 refine ZO ?_
 refine Bu h (fun v7=>[(8,(O .i64 v7))]) (fun v7=>[]) ?_ ?_
 intro _ h _ _ _
 exact Y
 rintro v7 _ h
 refine Z ?_
 refine Uh (f:=(O .i64)) (l:=b1) (x:=v7) rfl rfl ?_
 exact Y
 exact Y⟩
instance {a0:A8} {b1:List (ByteArray×Int)} {b2:List (ByteArray×(List Eh))} {b0_0:List Az} {b0_1:List Ai} {b0_2 b0_3:Int} {b0_4:List Ai}:OK (Vq a0 b1 b2 b0_0 b0_1 b0_2 b0_3 b0_4) fun r=>Ct Tryz.prog 232 [(.loc 0 0),F5 a0] [.cells 143 [(.sl 3 (List.map Cn b0_0)),(.sl 3 (Bv b0_1)),(O .i64 b0_2),(O .i64 b0_3),(.sl 3 (Bv b0_4)),(.mp 1),(.mp 2)],.map (B0 (O .i64) b1),.map (B0 (Aw 5 Ff) b2)] ((O .i64) r.1) [.cells 143 [(.sl 3 (List.map Cn b0_0)),(.sl 3 (Bv b0_1)),(O .i64 b0_2),(O .i64 b0_3),(.sl 3 (Bv b0_4)),(.mp 1),(.mp 2)],.map (B0 (O .i64) r.2),.map (B0 (Aw 5 Ff) b2)]:=⟨fun {r} h=>by
 refine aw C0 true Tryz.func232 ?_
 refine Z ?_
 refine A6 h (fun (v5,v6,o7)=>[(5,(O .i64 v5)),(13,(O .i64 v6))]) (fun (v5,v6,o7)=>[(1,.map (B0 (O .i64) o7))]) ?_
 rintro ⟨v5,v6,o7⟩ _ _ _ h _ _
 refine Z ?_
 refine Ao h (fun _ h=>?_) (fun _ h=>?_)
 refine Z ?_
 refine Cg h (fun _ _ _ _ h=>?_)
 refine Z ?_
 refine Ao h (fun _ h=>?_) (fun _ h=>?_)
 refine Z ?_
 refine Bm [0,1,2] h (fun _ h=>?_)
 exact Y
 exact Y
 replace h:=Ck h
 refine Z ?_
 refine A6 h (fun (v15,v16)=>[(5,(O .i64 v15)),(31,(O .i64 v16))]) (fun (v15,v16)=>[]) ?_
 rintro ⟨v15,v16⟩ _ _ _ h _ _
 exact Y⟩
instance {a0:Int} {b1:List (ByteArray×Int)} {b2:List (ByteArray×(List Eh))} {b0_0:List Az} {b0_1:List Ai} {b0_2 b0_3:Int} {b0_4:List Ai}:OK (P6 a0 b1 b2 b0_0 b0_1 b0_2 b0_3 b0_4) fun r=>Ct Tryz.prog 49 [(.loc 0 0),(O .i64) a0] [.cells 143 [(.sl 3 (List.map Cn b0_0)),(.sl 3 (Bv b0_1)),(O .i64 b0_2),(O .i64 b0_3),(.sl 3 (Bv b0_4)),(.mp 1),(.mp 2)],.map (B0 (O .i64) b1),.map (B0 (Aw 5 Ff) b2)] (An r) [.cells 143 [(.sl 3 (List.map Cn b0_0)),(.sl 3 (Bv b0_1)),(O .i64 b0_2),(O .i64 b0_3),(.sl 3 (Bv b0_4)),(.mp 1),(.mp 2)],.map (B0 (O .i64) b1),.map (B0 (Aw 5 Ff) b2)]:=⟨fun {r} h=>by
 refine aw C0 true Tryz.func49 ?_
 exact Y⟩
instance {a0:Bw} {b2:List (ByteArray×Int)} {b3:List (ByteArray×(List Eh))} {b1_0:List Az} {b1_1:List Ai} {b1_2 b1_3:Int} {b1_4:List Ai}:OK (Sj a0 b2 b3 b1_0 b1_1 b1_2 b1_3 b1_4) fun r=>Ct Tryz.prog 113 [Dn a0,(.loc 0 0)] [.cells 78 [(.loc 1 0)],.cells 143 [(.sl 3 (List.map Cn b1_0)),(.sl 3 (Bv b1_1)),(O .i64 b1_2),(O .i64 b1_3),(.sl 3 (Bv b1_4)),(.mp 2),(.mp 3)],.map (B0 (O .i64) b2),.map (B0 (Aw 5 Ff) b3)] (An r) [.cells 78 [(.loc 1 0)],.cells 143 [(.sl 3 (List.map Cn b1_0)),(.sl 3 (Bv b1_1)),(O .i64 b1_2),(O .i64 b1_3),(.sl 3 (Bv b1_4)),(.mp 2),(.mp 3)],.map (B0 (O .i64) b2),.map (B0 (Aw 5 Ff) b3)]:=⟨fun {r} h=>by
 refine aw C0 true Tryz.func113 ?_
 refine Z ?_
 refine Bm [1,2,3] h (fun _ h=>?_)
 refine Z ?_
 refine Fx h (fun _ h=>?_) (fun _ h=>?_)
 exact Y
 refine Z ?_
 refine Bm [1,2,3] h (fun _ h=>?_)
 refine Z ?_
 refine Ahc.mk 3 (by kernel_rfl) ?_
 exact Y⟩
instance {a0:List Bw} {b2:List (ByteArray×Int)} {b3:List (ByteArray×(List Eh))} {b1_0:List Az} {b1_1:List Ai} {b1_2 b1_3:Int} {b1_4:List Ai}:OK (Ys a0 b2 b3 b1_0 b1_1 b1_2 b1_3 b1_4) fun r=>Ct Tryz.prog 193 [(Aw 2 Dn) a0,(.fn 113 [(.loc 0 0)])] [.cells 78 [(.loc 1 0)],.cells 143 [(.sl 3 (List.map Cn b1_0)),(.sl 3 (Bv b1_1)),(O .i64 b1_2),(O .i64 b1_3),(.sl 3 (Bv b1_4)),(.mp 2),(.mp 3)],.map (B0 (O .i64) b2),.map (B0 (Aw 5 Ff) b3)] ((O .i64) r) [.cells 78 [(.loc 1 0)],.cells 143 [(.sl 3 (List.map Cn b1_0)),(.sl 3 (Bv b1_1)),(O .i64 b1_2),(O .i64 b1_3),(.sl 3 (Bv b1_4)),(.mp 2),(.mp 3)],.map (B0 (O .i64) b2),.map (B0 (Aw 5 Ff) b3)]:=⟨fun {r} h=>by
 refine aw C0 true Tryz.func193 ?_
 refine Z ?_
 refine A6 h (fun v3=>[(4,(O .i64 0)),(8,(O .i64 v3))]) (fun v3=>[]) ?_
 rintro v3 _ _ _ h _ _
 refine Z ?_
 refine Ao h (fun _ h=>?_) (fun _ h=>?_)
 refine Z ?_
 refine Cg h (fun _ _ _ _ h=>?_)
 refine Z ?_
 refine Bm [0,1,2,3] h (fun _ h=>?_)
 exact Y
 exact Y⟩
instance {a0:List Bw} {b2:List (ByteArray×Int)} {b3:List (ByteArray×(List Eh))} {b1_0:List Az} {b1_1:List Ai} {b1_2 b1_3:Int} {b1_4:List Ai}:OK (Yo a0 b2 b3 b1_0 b1_1 b1_2 b1_3 b1_4) fun r=>Ct Tryz.prog 112 [(Aw 2 Dn) a0,(.fn 113 [(.loc 0 0)])] [.cells 78 [(.loc 1 0)],.cells 143 [(.sl 3 (List.map Cn b1_0)),(.sl 3 (Bv b1_1)),(O .i64 b1_2),(O .i64 b1_3),(.sl 3 (Bv b1_4)),(.mp 2),(.mp 3)],.map (B0 (O .i64) b2),.map (B0 (Aw 5 Ff) b3)] (An r) [.cells 78 [(.loc 1 0)],.cells 143 [(.sl 3 (List.map Cn b1_0)),(.sl 3 (Bv b1_1)),(O .i64 b1_2),(O .i64 b1_3),(.sl 3 (Bv b1_4)),(.mp 2),(.mp 3)],.map (B0 (O .i64) b2),.map (B0 (Aw 5 Ff) b3)]:=⟨fun {r} h=>by
 refine aw C0 true Tryz.func112 ?_
 refine Z ?_
 refine Bm [0,1,2,3] h (fun _ h=>?_)
 exact Y⟩
instance {a0:Ce} {b1:List (ByteArray×Int)} {b2:List (ByteArray×(List Eh))} {b0_0:List Az} {b0_1:List Ai} {b0_2 b0_3:Int} {b0_4:List Ai}:OK (Se a0 b1 b2 b0_0 b0_1 b0_2 b0_3 b0_4) fun r=>Ct Tryz.prog 57 [(.loc 0 0),G6 a0] [.cells 143 [(.sl 3 (List.map Cn b0_0)),(.sl 3 (Bv b0_1)),(O .i64 b0_2),(O .i64 b0_3),(.sl 3 (Bv b0_4)),(.mp 1),(.mp 2)],.map (B0 (O .i64) b1),.map (B0 (Aw 5 Ff) b2)] (An r) [.cells 143 [(.sl 3 (List.map Cn b0_0)),(.sl 3 (Bv b0_1)),(O .i64 b0_2),(O .i64 b0_3),(.sl 3 (Bv b0_4)),(.mp 1),(.mp 2)],.map (B0 (O .i64) b1),.map (B0 (Aw 5 Ff) b2)]:=⟨fun {r} h=>by
 refine aw C0 true Tryz.func57 ?_
 refine Z ?_
 refine Bm [3,0,1,2] h (fun _ h=>?_)
 exact Y⟩
instance {a0:A8} {b1:List (ByteArray×Int)} {b2:List (ByteArray×(List Eh))} {b0_0:List Az} {b0_1:List Ai} {b0_2 b0_3:Int} {b0_4:List Ai}:OK (Vp a0 b1 b2 b0_0 b0_1 b0_2 b0_3 b0_4) fun r=>Ct Tryz.prog 231 [(.loc 0 0),F5 a0] [.cells 143 [(.sl 3 (List.map Cn b0_0)),(.sl 3 (Bv b0_1)),(O .i64 b0_2),(O .i64 b0_3),(.sl 3 (Bv b0_4)),(.mp 1),(.mp 2)],.map (B0 (O .i64) b1),.map (B0 (Aw 5 Ff) b2)] (An r.1) [.cells 143 [(.sl 3 (List.map Cn b0_0)),(.sl 3 (Bv b0_1)),(O .i64 b0_2),(O .i64 b0_3),(.sl 3 (Bv b0_4)),(.mp 1),(.mp 2)],.map (B0 (O .i64) r.2),.map (B0 (Aw 5 Ff) b2)]:=⟨fun {r} h=>by
 refine aw C0 true Tryz.func231 ?_
 refine Z ?_
 refine A6 h (fun (v6,o7)=>[(4,(An false)),(12,(O .i64 v6))]) (fun (v6,o7)=>[(1,.map (B0 (O .i64) o7))]) ?_
 rintro ⟨v6,o7⟩ _ _ _ h _ _
 refine Z ?_
 refine Ao h (fun _ h=>?_) (fun _ h=>?_)
 refine Z ?_
 refine Cg h (fun _ _ _ _ h=>?_)
 refine Z ?_
 refine Bm [0,1,2] h (fun _ h=>?_)
 refine Z ?_
 refine Fx h (fun _ h=>?_) (fun _ h=>?_)
 exact Y
 refine Z ?_
 refine Bm [0,1,2] h (fun _ h=>?_)
 exact Y
 replace h:=Ck h
 refine Z ?_
 refine A6 h (fun v18=>[(4,(An false)),(34,(O .i64 v18))]) (fun v18=>[]) ?_
 rintro v18 _ _ _ h _ _
 refine Z ?_
 refine Ao h (fun _ h=>?_) (fun _ h=>?_)
 refine Z ?_
 refine Cg h (fun _ _ _ _ h=>?_)
 refine Z ?_
 refine Fx h (fun _ h=>?_) (fun _ h=>?_)
 exact Y
 refine Z ?_
 refine Bm [0,1,2] h (fun _ h=>?_)
 exact Y
 exact Y⟩
instance {a0:A8} {b1:List (ByteArray×Int)} {b2:List (ByteArray×(List Eh))} {b0_0:List Az} {b0_1:List Ai} {b0_2 b0_3:Int} {b0_4:List Ai}:OK (Sp a0 b1 b2 b0_0 b0_1 b0_2 b0_3 b0_4) fun r=>Ct Tryz.prog 164 [(.loc 0 0),F5 a0] [.cells 143 [(.sl 3 (List.map Cn b0_0)),(.sl 3 (Bv b0_1)),(O .i64 b0_2),(O .i64 b0_3),(.sl 3 (Bv b0_4)),(.mp 1),(.mp 2)],.map (B0 (O .i64) b1),.map (B0 (Aw 5 Ff) b2)] (An r.1) [.cells 143 [(.sl 3 (List.map Cn b0_0)),(.sl 3 (Bv b0_1)),(O .i64 b0_2),(O .i64 b0_3),(.sl 3 (Bv b0_4)),(.mp 1),(.mp 2)],.map (B0 (O .i64) r.2),.map (B0 (Aw 5 Ff) b2)]:=⟨fun {r} h=>by
 refine aw C0 true Tryz.func164 ?_
 refine ZS ?_
 refine Bt ?_
 refine ZO ?_
 refine Ar (Ar ?_)
 refine Bu h (fun (v4,o5)=>[(18,(An v4))]) (fun (v4,o5)=>[(1,.map (B0 (O .i64) o5))]) ?_ ?_
 intro _ h _ _ _
 refine Z ?_
 refine Bm [0,1,2] h (fun _ h=>?_)
 refine Z ?_
 refine Fx h (fun _ h=>?_) (fun _ h=>?_)
 exact Y
 refine Z ?_
 refine Bm [0,1,2] h (fun _ h=>?_)
 exact Y
 rintro ⟨v4,o5⟩ _ h
 refine Ao h (fun _ h=>?_) (fun _ h=>?_)
 exact Y
 refine Z ?_
 refine A6 h (fun (v9,o10)=>[(4,(An false)),(22,(O .i64 v9))]) (fun (v9,o10)=>[(1,.map (B0 (O .i64) o10))]) ?_
 rintro ⟨v9,o10⟩ _ _ _ h _ _
 refine Z ?_
 refine Ao h (fun _ h=>?_) (fun _ h=>?_)
 refine Z ?_
 refine Cg h (fun _ _ _ _ h=>?_)
 refine Z ?_
 refine Bm [0,1,2] h (fun _ h=>?_)
 exact Y
 replace h:=Ck h
 refine Z ?_
 refine A6 h (fun v22=>[(4,(An false)),(54,(O .i64 v22))]) (fun v22=>[]) ?_
 rintro v22 _ _ _ h _ _
 refine Z ?_
 refine Ao h (fun _ h=>?_) (fun _ h=>?_)
 refine Z ?_
 refine Cg h (fun _ _ _ _ h=>?_)
 refine ZO ?_
 refine Ar (Ar ?_)
 refine Bu h (fun v26=>[(74,(An v26))]) (fun v26=>[]) ?_ ?_
 intro _ h _ _ _
 exact Y
 rintro v26 _ h
 exact Y
 exact Y⟩
instance {a0 a1:List Int}:OK (N4 a0 a1) fun r=>As Tryz.prog 86 [(Aw 1 (O .u32)) a0,(Aw 1 (O .u32)) a1] ((O .i64) r):=⟨fun {r} h=>by
 refine pw C0 Tryz.func86 ?_
 refine Z ?_
 refine Ao h (fun _ h=>?_) (fun _ h=>?_)
 exact Y
 refine Z ?_
 refine A6 h (fun v5=>[(4,(O .i64 0)),(5,(O .i64 v5))]) (fun v5=>[]) ?_
 rintro v5 _ _ _ h _ _
 exact Y⟩
instance {a0:List Int}:OK (Jc a0) fun r=>As Tryz.prog 148 [(Aw 1 (O .u32)) a0] ((Aw 1 (O .u32)) r):=⟨fun {r} h=>by
 refine pw {T:=B8,an:=(fun _=>.ask),nl:=(fun s=>bif Nat.beq s 2 then [(0,1)] else [])} Tryz.func148 ?_
 refine Z ?_
 refine A6 h (fun v2=>[(3,(O .i64 v2))]) (fun v2=>[]) ?_
 rintro v2 _ _ _ h _ _
 exact Y⟩
instance {a0:List Int} {a1:Int}:OK (Qy a0 a1) fun r=>As Tryz.prog 317 [(Aw 1 (O .u32)) a0,(O .u64) a1] (.tup [(Aw 1 (O .u32)) r.1,(O .u64) r.2]):=⟨fun {r} h=>by
 refine pw {T:=B8,an:=(fun _=>.ask),nl:=(fun s=>bif Nat.beq s 4 then [(0,1)] else [])} Tryz.func317 ?_
 refine Z ?_
 refine Gx h (fun o1 h=>?_)
 refine Z ?_
 refine Hj h (fun (v7,v8,o9)=>[(7,(O .u64 v7)),(8,(O .i64 v8))]) (fun (v7,v8,o9)=>[(0,.rows 106 1 (List.map (O .u32) o9))]) (fun (v7,v8,o9)=>o1.length=o9.length) ?_
 rintro ⟨v7,v8,o9⟩ _ _ _ h _ _ q9
 refine Z ?_
 refine Ao h (fun _ h=>?_) (fun _ h=>?_)
 exact Y
 replace h:=Ck h
 refine Fc (Fa rfl (Ar ?_))
 refine Dh [.fz 6] ?_
 exact Y⟩
instance {a0:Int}:OK (M2 a0) fun r=>As Tryz.prog 207 [(O .u64) a0] ((Aw 1 (O .u32)) r):=⟨fun {r} h=>by
 refine pw {T:=B8,an:=(fun s=>bif Nat.beq s 3 then .own else .ask),nl:=(fun s=>bif Nat.beq s 3 then [(0,1)] else bif Nat.beq s 2 then [(0,1)] else [])} Tryz.func207 ?_
 refine Z ?_
 refine A6 h (fun (v10,o11)=>[(0,(O .u64 v10)),(3,(.arr 0 o11.length 0 o11.length))]) (fun (v10,o11)=>[(0,.rows 106 1 (List.map (O .u32) o11))]) ?_
 rintro ⟨v10,o11⟩ _ _ _ h _ _
 exact Y⟩
instance {a0:List Int} {a1:Int}:OK (S5 a0 a1) fun r=>Ct Tryz.prog 318 [(Aw 1 (O .u32)) a0,(O .u64) a1] [] (.arr 0 r.length 0 r.length) [.rows 106 1 (List.map (O .u32) r)]:=⟨fun {r} h=>by
 refine aw {T:=B8,an:=(fun _=>.ask),nl:=(fun s=>bif Nat.beq s 4 then [(0,1)] else [])} false Tryz.func318 ?_
 refine Z ?_
 refine Gx h (fun o1 h=>?_)
 refine Z ?_
 refine Hj h (fun (v7,v8,o9)=>[(6,(O .u64 v7)),(15,(O .i64 v8))]) (fun (v7,v8,o9)=>[(0,.rows 106 1 (List.map (O .u32) o9))]) (fun (v7,v8,o9)=>o1.length=o9.length) ?_
 rintro ⟨v7,v8,o9⟩ _ _ _ h _ _ q9
 refine Z ?_
 refine Ao h (fun _ h=>?_) (fun _ h=>?_)
 exact Y
 replace h:=Ck h
 refine Z ?_
 refine Hi h (fun _ _ hiv16 _ h=>?_)
 refine Z ?_
 refine Gw (f:=(O .u32)) (x:=(B6 v7)) (j:=(a0.length:Int)) rfl rfl (Nat.zero_add _) hiv16 ?_
 refine Z ?_
 cases h
 exact ⟨congrArg (fun q_=>AV.arr 0 q_ 0 q_) (Dz (l:=o9) q9 (a0.length:Int) (B6 v7)),rfl,trivial⟩⟩
instance {a0:List Int} {a1:Int}:OK (Ads a0 a1) fun r=>As Tryz.prog 318 [(Aw 1 (O .u32)) a0,(O .u64) a1] ((Aw 1 (O .u32)) r):=⟨fun {r} h=>by
 refine pw {T:=B8,an:=(fun _=>.ask),nl:=(fun s=>bif Nat.beq s 4 then [(0,1)] else [])} Tryz.func318 ?_
 refine Z ?_
 refine Gx h (fun o1 h=>?_)
 refine Z ?_
 refine Hj h (fun (v7,v8,o9)=>[(6,(O .u64 v7)),(15,(O .i64 v8))]) (fun (v7,v8,o9)=>[(0,.rows 106 1 (List.map (O .u32) o9))]) (fun (v7,v8,o9)=>o1.length=o9.length) ?_
 rintro ⟨v7,v8,o9⟩ _ _ _ h _ _ q9
 exact Y⟩
instance {a0 a1:Nat} {a2 b0:List Int}:OK (V2 a0 a1 a2 b0) fun r=>Ct Tryz.prog 319 [(.arr 0 b0.length a0 a1),(Aw 1 (O .u32)) a2] [.rows 106 1 (List.map (O .u32) b0)] ((O .u32) r.1) [.rows 106 1 (List.map (O .u32) r.2)]:=⟨fun {r} h=>by
 refine aw C0 true Tryz.func319 ?_
 refine Z ?_
 refine Cg h (fun _ _ _ _ h=>?_)
 refine Z ?_
 refine Cg h (fun _ _ _ _ h=>?_)
 refine Z ?_
 refine G7 h (fun _ _ _ _ h=>?_)
 refine Z ?_
 refine G7 h (fun _ _ _ _ h=>?_)
 refine Z ?_
 refine Ui h (fun _ h=>?_)
 refine Z ?_
 refine Yc h (fun _ h=>?_)
 refine Z ?_
 refine A6 h (fun (v9,v10)=>[(9,(O .u64 v9)),(10,(O .u64 v10))]) (fun (v9,v10)=>[]) ?_
 rintro ⟨v9,v10⟩ _ _ _ h _ _
 refine Ar (Ar ?_)
 refine Bu h (fun v12=>[(71,(An v12))]) (fun v12=>[]) ?_ ?_
 intro _ h _ _ _
 exact Y
 rintro v12 _ h
 refine Ao h (fun _ h=>?_) (fun _ h=>?_)
 exact Y
 replace h:=Ck h
 refine Z ?_
 refine Hj h (fun (v24,v25,o26)=>[(11,(O .i64 v24)),(78,(O .i64 v25))]) (fun (v24,v25,o26)=>[(0,.rows 106 1 (List.map (O .u32) o26))]) (fun (v24,v25,o26)=>b0.length=o26.length) ?_
 rintro ⟨v24,v25,o26⟩ _ _ _ h _ _ q26
 refine Z ?_
 refine Ao h (fun _ h=>?_) (fun _ h=>?_)
 refine Z ?_
 refine G7 h (fun _ _ _ _ h=>?_)
 refine Z ?_
 refine Cg h (fun _ _ _ _ h=>?_)
 refine Z ?_
 refine Yc h (fun _ h=>?_)
 refine Z ?_
 refine Cg h (fun _ _ _ _ h=>?_)
 refine Z ?_
 refine Ui h (fun _ h=>?_)
 refine Z ?_
 refine A6 h (fun (v32,v33)=>[(11,(O .i64 v32)),(13,(O .i64 v33))]) (fun (v32,v33)=>[]) ?_
 rintro ⟨v32,v33⟩ _ _ _ h _ _
 exact Y
 replace h:=Ck h
 refine Z ?_
 refine G7 h (fun _ _ _ _ h=>?_)
 refine Z ?_
 refine Ao h (fun _ h=>?_) (fun _ h=>?_)
 exact Y
 refine Z ?_
 refine Hj h (fun (v46,v47,o48)=>[(15,(O .u32 v46)),(136,(O .i64 v47))]) (fun (v46,v47,o48)=>[(0,.rows 106 1 (List.map (O .u32) o48))]) (fun (v46,v47,o48)=>b0.length=o48.length) ?_
 rintro ⟨v46,v47,o48⟩ _ _ _ h _ _ q48
 exact Y⟩
instance {a0 a1:List Int}:OK (Qs a0 a1) fun r=>As Tryz.prog 252 [(Aw 1 (O .u32)) a0,(Aw 1 (O .u32)) a1] (.tup [(Aw 1 (O .u32)) r.1,(Aw 1 (O .u32)) r.2]):=⟨fun {r} h=>by
 refine pw {T:=B8,an:=(fun _=>.ask),nl:=(fun s=>bif Nat.beq s 5 then [(0,1)] else bif Nat.beq s 4 then [(0,1)] else [])} Tryz.func252 ?_
 refine Z ?_
 refine Bl h (fun _ h=>?_)
 refine Z ?_
 refine Ao h (fun _ h=>?_) (fun _ h=>?_)
 exact Y
 refine Z ?_
 refine Ao h (fun _ h=>?_) (fun _ h=>?_)
 exact Y
 refine Z ?_
 refine Cg h (fun _ _ _ _ h=>?_)
 refine Z ?_
 refine Ui h (fun _ h=>?_)
 refine Z ?_
 refine Bm [] h (fun v9 h=>?_)
 refine Z ?_
 refine Bl h (fun _ h=>?_)
 refine Z ?_
 refine Adv h (fun v12 h=>?_)
 refine Z ?_
 refine Gx h (fun o13 h=>?_)
 refine Z ?_
 refine Hj h (fun (v19,o20,o21)=>[(13,(O .i64 v19))]) (fun (v19,o20,o21)=>[(0,.rows 106 1 (List.map (O .u32) o20)),(1,.rows 106 1 (List.map (O .u32) o21))]) (fun (v19,o20,o21)=>v9.length=o20.length/\o13.length=o21.length) ?_ (h0:=(⟨rfl,rfl⟩))
 rintro ⟨v19,o20,o21⟩ _ _ _ h _ hn1 ⟨q20,q21⟩
 refine Z ?_
 refine Ao h (fun _ h=>?_) (fun _ h=>?_)
 refine Z ?_
 refine Iq (f:=(O .u32)) rfl q20 h (fun v22 h=>?_)
 refine Z ?_
 refine Ee h (fun v23 hcv23 h=>?_)
 have okv23:=(OK.ok hcv23 :)
 rw [<-q20] at okv23
 refine Hg.act [0] _ _ _ _ okv23 rfl rfl ⟨rfl,trivial⟩ ?_
 refine Ee h (fun v24 hgv24 h=>?_)
 refine Z ?_
 refine Hi h (fun _ _ hiv25 _ h=>?_)
 refine Z ?_
 refine Gw (f:=(O .u32)) (x:=v23.1) (j:=v19) rfl rfl (Nat.zero_add _) hiv25 ?_
 refine Z ?_
 exact hn1 _ _ _ _ (Option.some.inj h) ⟨rfl,trivial⟩ ⟨⟨rfl,rfl⟩,⟨rfl,rfl⟩,trivial⟩ (⟨Jt hgv24,Dz (l:=o21) q21 v19 v23.1⟩)
 replace h:=Ck h
 refine Fc (Fa rfl (Ar ?_))
 refine Dh [.fz 10] ?_
 refine Z ?_
 refine Bl h (fun _ h=>?_)
 refine Z ?_
 refine Bl h (fun _ h=>?_)
 refine ZO ?_
 refine Ar ?_
 refine Dh [.fz 12] ?_
 exact Y⟩
instance {a0:List Int}:OK (S4 a0) fun r=>As Tryz.prog 316 [(Aw 1 (O .u32)) a0] (.tup [(O .u64) r.1,An r.2]):=⟨fun {r} h=>by
 refine pw C0 Tryz.func316 ?_
 refine Z ?_
 refine A6 h (fun (v3,v4)=>[(2,(O .u64 0)),(3,(An false)),(4,(O .u64 v3)),(9,(O .i64 v4))]) (fun (v3,v4)=>[]) ?_
 rintro ⟨v3,v4⟩ _ _ _ h _ _
 exact Y⟩
instance {a0 a1:List Int}:OK (Vt a0 a1) fun r=>As Tryz.prog 251 [(Aw 1 (O .u32)) a0,(Aw 1 (O .u32)) a1] ((Aw 1 (O .u32)) r):=⟨fun {r} h=>by
 refine pw {T:=B8,an:=(fun _=>.ask),nl:=(fun s=>bif Nat.beq s 4 then [(0,1)] else [])} Tryz.func251 ?_
 refine Z ?_
 refine A6 h (fun (v12,v13)=>[(0,(.sl 1 (List.map (O .u32) v12))),(1,(.sl 1 (List.map (O .u32) v13))),(4,(.sl 1 (List.map (O .u32) [])))]) (fun (v12,v13)=>[]) ?_
 rintro ⟨v12,v13⟩ _ _ _ h _ _
 refine Z ?_
 refine Ao h (fun _ h=>?_) (fun _ h=>?_)
 refine K9 (Ju (Ar (Ar ?_)))
 refine Bu h (fun v14=>[(21,(An v14))]) (fun v14=>[]) ?_ ?_
 intro _ h _ _ _
 exact Y
 rintro v14 _ h
 refine Ao h (fun _ h=>?_) (fun _ h=>?_)
 refine Z ?_
 refine Bl h (fun _ h=>?_)
 refine Z ?_
 refine Bl h (fun _ h=>?_)
 refine Z ?_
 refine A6 h (fun (v18,v19)=>[(5,(O .u64 v18)),(7,(O .u64 v19))]) (fun (v18,v19)=>[]) ?_
 rintro ⟨v18,v19⟩ _ _ _ h _ _
 exact Y
 exact Y
 exact Y⟩
instance {a0:List Int}:OK (Qq a0) fun r=>As Tryz.prog 250 [(Aw 1 (O .u32)) a0] (An r):=⟨fun {r} h=>by
 refine pw C0 Tryz.func250 ?_
 exact Y⟩
instance {a0:Ge}:OK (Yw a0) fun r=>As Tryz.prog 198 [Oq a0] (Oq r):=⟨fun {r} h=>by
 refine pw {T:=B8,an:=(fun _=>.ask),nl:=(fun s=>bif Nat.beq s 13 then [(1,1)] else [])} Tryz.func198 ?_
 exact Y⟩
instance {a0:Ge}:OK (Ob a0) fun r=>As Tryz.prog 119 [Oq a0] (Cr r):=⟨fun {r} h=>by
 refine pw C0 Tryz.func119 ?_
 exact Y⟩
instance {a0:List Int}:OK (Sl a0) fun r=>As Tryz.prog 135 [(Aw 1 (O .u32)) a0] ((Aw 1 (O .u32)) r):=⟨fun {r} h=>by
 refine pw {T:=B8,an:=(fun _=>.ask),nl:=(fun s=>bif Nat.beq s 2 then [(0,1)] else [])} Tryz.func135 ?_
 refine Z ?_
 refine Gx h (fun _ h=>?_)
 refine Z ?_
 refine A6 h (fun (v14,v15,o16)=>[(3,(.arr 0 o16.length 0 o16.length)),(4,(O .u64 v14)),(13,(O .i64 v15))]) (fun (v14,v15,o16)=>[(0,.rows 106 1 (List.map (O .u32) o16))]) ?_
 rintro ⟨v14,v15,o16⟩ _ _ _ h _ _
 refine Z ?_
 refine Ao h (fun _ h=>?_) (fun _ h=>?_)
 exact Y
 replace h:=Ck h
 refine Z ?_
 refine Ao h (fun _ h=>?_) (fun _ h=>?_)
 refine Z ?_
 refine Kh h (fun _ h=>?_)
 refine ZO ?_
 refine Ar ?_
 refine Dh [.fz 3] ?_
 exact Y
 refine K9 (Ar ?_)
 refine Dh [.fz 3] ?_
 exact Y⟩
instance {a0:Aq}:OK (Kc a0) fun r=>As Tryz.prog 78 [Cr a0] (Oq r):=⟨fun {r} h=>by
 refine pw {T:=B8,an:=(fun _=>.ask),nl:=(fun s=>bif Nat.beq s 20 then [(1,1)] else [])} Tryz.func78 ?_
 refine Z ?_
 refine Bl h (fun _ h=>?_)
 refine Z ?_
 refine Bl h (fun _ h=>?_)
 refine ZO ?_
 refine Ar (Ar ?_)
 refine Bu h (fun v5=>[(18,(An v5))]) (fun v5=>[]) ?_ ?_
 intro _ h _ _ _
 exact Y
 rintro v5 _ h
 exact Y⟩
instance {a0:Aq}:OK (I9 a0) fun r=>As Tryz.prog 63 [Cr a0] (Cr r):=⟨fun {r} h=>by
 refine pw C0 Tryz.func63 ?_
 exact Y⟩
instance {a0:Ge}:OK (Qa a0) fun r=>As Tryz.prog 79 [Oq a0] ((O .i64) r):=⟨fun {r} h=>by
 refine pw C0 Tryz.func79 ?_
 exact Y⟩
instance {a0:Aq}:OK (Hz a0) fun r=>As Tryz.prog 35 [Cr a0] ((O .i64) r):=⟨fun {r} h=>by
 refine pw C0 Tryz.func35 ?_
 exact Y⟩
instance {a0 a1:List Int}:OK (L1 a0 a1) fun r=>As Tryz.prog 163 [(Aw 1 (O .u32)) a0,(Aw 1 (O .u32)) a1] (An r):=⟨fun {r} h=>by
 refine pw C0 Tryz.func163 ?_
 refine Z ?_
 refine Ao h (fun _ h=>?_) (fun _ h=>?_)
 exact Y
 refine Z ?_
 refine A6 h (fun v3=>[(4,(An false)),(13,(O .i64 v3))]) (fun v3=>[]) ?_
 rintro v3 _ _ _ h _ _
 exact Y⟩
end Go.Ab
namespace Go.Ab
open Go Go.Proofs
set_option maxRecDepth 10000
set_option maxHeartbeats 4000000
set_option linter.unusedVariables false
instance {a0:List Ag} {b1:List (ByteArray×Int)} {b2:List (ByteArray×(List Eh))} {b0_0:List Az} {b0_1:List Ai} {b0_2 b0_3:Int} {b0_4:List Ai}:OK (Ut a0 b1 b2 b0_0 b0_1 b0_2 b0_3 b0_4) fun r=>Ct Tryz.prog 99 [(.loc 0 0),(Aw 5 Bc) a0] [.cells 143 [(.sl 3 (List.map Cn b0_0)),(.sl 3 (Bv b0_1)),(O .i64 b0_2),(O .i64 b0_3),(.sl 3 (Bv b0_4)),(.mp 1),(.mp 2)],.map (B0 (O .i64) b1),.map (B0 (Aw 5 Ff) b2)] (An r.1) [.cells 143 [(.sl 3 (List.map Cn b0_0)),(.sl 3 (Bv b0_1)),(O .i64 b0_2),(O .i64 b0_3),(.sl 3 (Bv b0_4)),(.mp 1),(.mp 2)],.map (B0 (O .i64) r.2),.map (B0 (Aw 5 Ff) b2)]:=⟨fun {r} h=>by
 refine aw C0 true Tryz.func99 ?_
 refine Z ?_
 refine Ao h (fun _ h=>?_) (fun _ h=>?_)
 exact Y
 refine Z ?_
 refine A6 h (fun (v10,o11)=>[(4,(An false)),(14,(O .i64 v10))]) (fun (v10,o11)=>[(1,.map (B0 (O .i64) o11))]) ?_
 rintro ⟨v10,o11⟩ _ _ _ h _ _
 refine Z ?_
 refine Ao h (fun _ h=>?_) (fun _ h=>?_)
 refine Z ?_
 refine Cg h (fun _ _ _ _ h=>?_)
 refine Z ?_
 refine Bl h (fun _ h=>?_)
 refine ZO ?_
 refine Ar ?_
 refine Bu h (fun v18=>[(8,(An v18))]) (fun v18=>[]) ?_ ?_
 intro _ h _ _ _
 exact Y
 rintro v18 _ h
 refine Z ?_
 refine Fx h (fun _ h=>?_) (fun _ h=>?_)
 exact Y
 refine Z ?_
 refine Bl h (fun _ h=>?_)
 refine Z ?_
 refine Fx h (fun _ h=>?_) (fun _ h=>?_)
 exact Y
 refine Z ?_
 refine Bm [0,1,2] h (fun _ h=>?_)
 exact Y
 exact Y⟩
theorem Ajj {a0:Bh} {a1:List (List Ag)} {r:(Bool×Bh×(List (ByteArray×Int))×(List (ByteArray×(List Eh)))×(List Az)×(List Ai)×Int×Int×(List Ai))} (h:Ms a0 a1=some (.inl r)):Ct Tryz.prog 48 [Ev a0,(Aw 1 (Aw 5 Bc)) a1] [] (.tup [.loc 3 0,An r.1]) [.cells 27 [(.sl 3 (List.map Cn r.2.1.Data)),(.sl 3 (Bv r.2.1.Vars)),(O .i64 r.2.1.Res.Kind),(O .i64 r.2.1.Res.Num),(.sl 3 (Bv r.2.1.Res.Args))],.map (B0 (O .i64) r.2.2.1),.map (B0 (Aw 5 Ff) r.2.2.2.1),.cells 143 [(.sl 3 (List.map Cn r.2.2.2.2.1)),(.sl 3 (Bv r.2.2.2.2.2.1)),(O .i64 r.2.2.2.2.2.2.1),(O .i64 r.2.2.2.2.2.2.2.1),(.sl 3 (Bv r.2.2.2.2.2.2.2.2)),(.mp 1),(.mp 2)]]:=by
 refine aw {T:=B8,an:=(fun _=>.ask),nl:=(fun s=>bif Nat.beq s 18 then [(1,7),(2,3),(3,8)] else [])} true Tryz.func48 ?_
 refine ZS ?_
 refine Bt ?_
 refine ZO ?_
 refine Ar (Ar ?_)
 refine Bu h (fun v4=>[(29,(An v4))]) (fun v4=>[]) ?_ ?_
 intro _ h _ _ _
 exact Y
 rintro v4 _ h
 refine Ao h (fun _ h=>?_) (fun _ h=>?_)
 exact Y
 refine Z ?_
 refine A6 h (fun v8=>[(4,(.val (.pointer none))),(5,(An false)),(33,(O .i64 v8))]) (fun v8=>[]) ?_
 rintro v8 _ _ _ h _ _
 refine Z ?_
 refine Ao h (fun _ h=>?_) (fun _ h=>?_)
 exact Y
 replace h:=Ck h
 refine Z ?_
 refine A6 h (fun (v18,o19)=>[(4,(.val (.pointer none))),(5,(An false)),(50,(O .i64 v18))]) (fun (v18,o19)=>[(1,.map (B0 (O .i64) o19))]) ?_
 rintro ⟨v18,o19⟩ _ _ _ h _ _
 refine Z ?_
 refine Ao h (fun _ h=>?_) (fun _ h=>?_)
 refine Z ?_
 refine Cg h (fun _ _ _ _ h=>?_)
 refine Z ?_
 refine Bm [3,1,2] h (fun _ h=>?_)
 exact Y
 exact Y
theorem Ajk {a0:Bh} {a1:List (List Ag)} {r:Bool} (h:Ms a0 a1=some (.inr r)):Ct Tryz.prog 48 [Ev a0,(Aw 1 (Aw 5 Bc)) a1] [] (.tup [.val (.pointer none),An r]) []:=by
 refine aw {T:=B8,an:=(fun _=>.ask),nl:=(fun s=>bif Nat.beq s 18 then [(1,7),(2,3),(3,8)] else [])} true Tryz.func48 ?_
 refine ZS ?_
 refine Bt ?_
 refine ZO ?_
 refine Ar (Ar ?_)
 refine Bu h (fun v4=>[(29,(An v4))]) (fun v4=>[]) ?_ ?_
 intro _ h _ _ _
 exact Y
 rintro v4 _ h
 refine Ao h (fun _ h=>?_) (fun _ h=>?_)
 exact Y
 refine Z ?_
 refine A6 h (fun v8=>[(4,(.val (.pointer none))),(5,(An false)),(33,(O .i64 v8))]) (fun v8=>[]) ?_
 rintro v8 _ _ _ h _ _
 refine Z ?_
 refine Ao h (fun _ h=>?_) (fun _ h=>?_)
 exact Y
 replace h:=Ck h
 refine Z ?_
 refine A6 h (fun (v18,o19)=>[(4,(.val (.pointer none))),(5,(An false)),(50,(O .i64 v18))]) (fun (v18,o19)=>[(1,.map (B0 (O .i64) o19))]) ?_
 rintro ⟨v18,o19⟩ _ _ _ h _ _
 refine Z ?_
 refine Ao h (fun _ h=>?_) (fun _ h=>?_)
 refine Z ?_
 refine Cg h (fun _ _ _ _ h=>?_)
 refine Z ?_
 refine Bm [3,1,2] h (fun _ h=>?_)
 exact Y
 exact Y
instance  : OK (Yn) fun r=>Ct Tryz.prog 74 [] [] (.loc 1 0) [.map (B0 (O .i64) r.1),.cells 172 [(.mp 0),(.arr 2 r.2.length 0 r.2.length)],.rows 61 5 (List.map Bc r.2)]:=⟨fun {r} h=>by
 refine aw C0 true Tryz.func74 ?_
 refine ZS ?_
 refine Bt ?_
 refine ZS ?_
 refine Bt ?_
 refine ZO ?_
 refine Dh [.own 3 1 61 5] ?_
 exact Y⟩
instance {a0 a1:List Int}:OK (Lf a0 a1) fun r=>As Tryz.prog 87 [(Aw 1 (O .u32)) a0,(Aw 1 (O .u32)) a1] ((Aw 1 (O .u32)) r):=⟨fun {r} h=>by
 refine pw {T:=B8,an:=(fun _=>.ask),nl:=(fun s=>bif Nat.beq s 4 then [(0,1)] else [])} Tryz.func87 ?_
 refine ZS ?_
 refine Bt ?_
 refine ZO ?_
 refine Ar (Ar ?_)
 refine Bu h (fun v1=>[(17,(An v1))]) (fun v1=>[]) ?_ ?_
 intro _ h _ _ _
 exact Y
 rintro v1 _ h
 refine Ao h (fun _ h=>?_) (fun _ h=>?_)
 exact Y
 refine Z ?_
 refine Gx h (fun o2 h=>?_)
 refine Z ?_
 refine Hj h (fun (v23,o24)=>[(26,(O .i64 v23))]) (fun (v23,o24)=>[(0,.rows 106 1 (List.map (O .u32) o24))]) (fun (v23,o24)=>o2.length=o24.length) ?_
 rintro ⟨v23,o24⟩ _ _ _ h _ _ q24
 refine Z ?_
 refine Ao h (fun _ h=>?_) (fun _ h=>?_)
 refine Z ?_
 refine Hj h (fun (v31,v32,o33)=>[(7,(O .u64 v31)),(31,(O .i64 v32))]) (fun (v31,v32,o33)=>[(0,.rows 106 1 (List.map (O .u32) o33))]) (fun (v31,v32,o33)=>o2.length=o33.length) ?_
 rintro ⟨v31,v32,o33⟩ _ _ _ h _ _ q33
 exact Y
 replace h:=Ck h
 refine Fc (Fa rfl (Ar ?_))
 refine Dh [.fz 5] ?_
 exact Y⟩
instance {a0 a1:Aq}:OK (Mx a0 a1) fun r=>As Tryz.prog 131 [Cr a0,Cr a1] (Cr r):=⟨fun {r} h=>by
 refine pw C0 Tryz.func131 ?_
 exact Y⟩
instance {a0:List Ag} {a1:Aq}:OK (Uq a0 a1) fun r=>As Tryz.prog 76 [(Aw 5 Bc) a0,Cr a1] ((Aw 5 Bc) r):=⟨fun {r} h=>by
 refine pw {T:=B8,an:=(fun s=>bif Nat.beq s 5 then .own else .ask),nl:=(fun s=>bif Nat.beq s 5 then [(0,5)] else bif Nat.beq s 4 then [(0,5)] else [])} Tryz.func76 ?_
 refine Z ?_
 refine A6 h (fun (v13,o14)=>[(5,(.arr 1 o14.length 0 o14.length)),(10,(O .i64 v13))]) (fun (v13,o14)=>[(1,.rows 61 5 (List.map Bc o14))]) ?_
 rintro ⟨v13,o14⟩ _ _ _ h _ _
 exact Y⟩
theorem Ajl {a0:Int} {a1:Bool} {b1:List Int} {r:(Int×(List Int))} (h:Qt a0 a1 b1=some (.inl r)):Ct Tryz.prog 255 [(.loc 0 0),(O .i64) a0,An a1] [.cells 199 [(.val (.pointer none)),(.arr 1 b1.length 0 b1.length)],.rows 5 1 (List.map (O .u8) b1)] ((O .i64) r.1) [.cells 199 [(.loc 0 0),(.arr 1 r.2.length 0 r.2.length)],.rows 5 1 (List.map (O .u8) r.2)]:=by
 refine aw C0 true Tryz.func255 ?_
 refine ZS ?_
 refine Bt ?_
 refine ZO ?_
 refine Ar (Ju (Ar ?_))
 refine Bu h (fun v1=>[(7,(An v1))]) (fun v1=>[]) ?_ ?_
 intro _ h _ _ _
 exact Y
 rintro v1 _ h
 refine Ao h (fun _ h=>?_) (fun _ h=>?_)
 refine Z ?_
 refine Bm [0,1] h (fun _ h=>?_)
 exact Y
 refine Z ?_
 refine Ao h (fun _ h=>?_) (fun _ h=>?_)
 refine Z ?_
 refine Bm [0,1] h (fun _ h=>?_)
 exact Y
 refine Z ?_
 refine Ao h (fun _ h=>?_) (fun _ h=>?_)
 refine Z ?_
 refine Bm [0,1] h (fun _ h=>?_)
 exact Y
 exact Y
theorem Ajm {a0:Int} {a1:Bool} {b1:List Int} {r:(Int×(List Int))} (h:Qt a0 a1 b1=some (.inr r)):Ct Tryz.prog 255 [(.loc 0 0),(O .i64) a0,An a1] [.cells 199 [(.val (.pointer none)),(.arr 1 b1.length 0 b1.length)],.rows 5 1 (List.map (O .u8) b1)] ((O .i64) r.1) [.cells 199 [(.val (.pointer none)),(.arr 1 r.2.length 0 r.2.length)],.rows 5 1 (List.map (O .u8) r.2)]:=by
 refine aw C0 true Tryz.func255 ?_
 refine ZS ?_
 refine Bt ?_
 refine ZO ?_
 refine Ar (Ju (Ar ?_))
 refine Bu h (fun v1=>[(7,(An v1))]) (fun v1=>[]) ?_ ?_
 intro _ h _ _ _
 exact Y
 rintro v1 _ h
 refine Ao h (fun _ h=>?_) (fun _ h=>?_)
 refine Z ?_
 refine Bm [0,1] h (fun _ h=>?_)
 exact Y
 refine Z ?_
 refine Ao h (fun _ h=>?_) (fun _ h=>?_)
 refine Z ?_
 refine Bm [0,1] h (fun _ h=>?_)
 exact Y
 refine Z ?_
 refine Ao h (fun _ h=>?_) (fun _ h=>?_)
 refine Z ?_
 refine Bm [0,1] h (fun _ h=>?_)
 exact Y
 exact Y
instance {a0:Int} {a1:Bool} {b1:List Int}:OK (Wb a0 a1 b1) fun r=>Ct Tryz.prog 255 [(.loc 0 0),(O .i64) a0,An a1] [.cells 199 [(.loc 0 0),(.arr 1 b1.length 0 b1.length)],.rows 5 1 (List.map (O .u8) b1)] ((O .i64) r.1) [.cells 199 [(.loc 0 0),(.arr 1 r.2.length 0 r.2.length)],.rows 5 1 (List.map (O .u8) r.2)]:=⟨fun {r} h=>by
 refine aw C0 true Tryz.func255 ?_
 refine ZS ?_
 refine Bt ?_
 refine ZO ?_
 refine Ar (Ju (Ar ?_))
 refine Bu h (fun v1=>[(7,(An v1))]) (fun v1=>[]) ?_ ?_
 intro _ h _ _ _
 exact Y
 rintro v1 _ h
 refine Ao h (fun _ h=>?_) (fun _ h=>?_)
 refine Z ?_
 refine Bm [0,1] h (fun _ h=>?_)
 exact Y
 refine Z ?_
 refine Ao h (fun _ h=>?_) (fun _ h=>?_)
 refine Z ?_
 refine Bm [0,1] h (fun _ h=>?_)
 exact Y
 refine Z ?_
 refine Ao h (fun _ h=>?_) (fun _ h=>?_)
 refine Z ?_
 refine Bm [0,1] h (fun _ h=>?_)
 exact Y
 exact Y⟩
instance {a0 a1:Int}:OK (Lh a0 a1) fun r=>As Tryz.prog 256 [(O .i64) a0,(O .i64) a1] (Du r):=⟨fun {r} h=>by
 exact Ar8 h⟩
instance {b1:List Int}:OK (Y8 b1) fun r=>Ct Tryz.prog 168 [(.loc 0 0)] [.cells 199 [(.val (.pointer none)),(.arr 1 b1.length 0 b1.length)],.rows 5 1 (List.map (O .u8) b1)] (Du r) [.cells 199 [(.val (.pointer none)),(.fb r)],.dead]:=⟨fun {r} h=>by
 exact Ait h⟩
instance {a0:Ce}:OK (M3 a0) fun r=>As Tryz.prog 208 [G6 a0] (Du r):=⟨fun {r} h=>by
 refine pw C0 Tryz.func208 ?_
 refine Z ?_
 refine Bl h (fun _ h=>?_)
 refine Z ?_
 refine Ao h (fun _ h=>?_) (fun _ h=>?_)
 exact Y
 refine ZS ?_
 refine Bt ?_
 refine ZO ?_
 refine Ar (Ar ?_)
 refine Dh [.own 3 1 5 1] ?_
 refine Z ?_
 refine Yf ?_
 refine Z ?_
 refine Ao h (fun _ h=>?_) (fun _ h=>?_)
 refine K9 (Ar ?_)
 refine Bu h (fun (v30,o31)=>[(4,(O .i64 0)),(6,(O .i64 v30))]) (fun (v30,o31)=>[(1,.cells 199 [(.loc 1 0),(.arr 2 o31.length 0 o31.length)]),(2,.rows 5 1 (List.map (O .u8) o31))]) ?_ ?_
 intro _ h _ _ _
 refine Z ?_
 refine Cg h (fun _ v5 _ _ h=>?_)
 refine Z ?_
 refine Ee h (fun v7 hcv7 h=>?_)
 rcases v7 with v8 | v9
 refine Hg.act [1,2] _ _ _ _ (Ajl (a0:=v5.Coef) (a1:=true) (b1:=[]) hcv7) rfl rfl ⟨rfl,rfl,trivial⟩ ?_
 refine ZS ?_
 refine Bt ?_
 refine ZO ?_
 refine Bu h (fun o14=>[]) (fun o14=>[(1,.cells 199 [(.loc 1 0),(.arr 2 o14.length 0 o14.length)]),(2,.rows 5 1 (List.map (O .u8) o14))]) ?_ ?_
 intro _ h _ _ _
 refine Ao h (fun _ h=>?_) (fun _ h=>?_)
 refine Z ?_
 refine Bl h (fun _ h=>?_)
 refine Z ?_
 refine F8 h (fun h=>?_)
 refine Z ?_
 refine Bm [1,2] h (fun _ h=>?_)
 exact Y
 exact Y
 rintro o14 _ h
 refine Z ?_
 refine Ao h (fun _ h=>?_) (fun _ h=>?_)
 refine Z ?_
 refine Bm [1,2] h (fun _ h=>?_)
 exact Y
 refine Z ?_
 refine Bl h (fun _ h=>?_)
 refine Z ?_
 refine F8 h (fun h=>?_)
 refine Z ?_
 refine Bm [1,2] h (fun _ h=>?_)
 exact Y
 refine Hg.act [1,2] _ _ _ _ (Ajm (a0:=v5.Coef) (a1:=true) (b1:=[]) hcv7) rfl rfl ⟨rfl,rfl,trivial⟩ ?_
 refine Z ?_
 refine Ao h (fun _ h=>?_) (fun _ h=>?_)
 refine Z ?_
 refine Bl h (fun _ h=>?_)
 refine Z ?_
 refine F8 h (fun h=>?_)
 refine Z ?_
 refine Bm [1,2] h (fun _ h=>?_)
 refine Z ?_
 refine Ao h (fun _ h=>?_) (fun _ h=>?_)
 refine Z ?_
 refine Bm [1,2] h (fun _ h=>?_)
 exact Y
 refine Z ?_
 refine Bl h (fun _ h=>?_)
 refine Z ?_
 refine F8 h (fun h=>?_)
 refine Z ?_
 refine Bm [1,2] h (fun _ h=>?_)
 exact Y
 refine Z ?_
 refine Ao h (fun _ h=>?_) (fun _ h=>?_)
 refine Z ?_
 refine Bm [1,2] h (fun _ h=>?_)
 exact Y
 refine Z ?_
 refine Bl h (fun _ h=>?_)
 refine Z ?_
 refine F8 h (fun h=>?_)
 refine Z ?_
 refine Bm [1,2] h (fun _ h=>?_)
 exact Y
 rintro ⟨v30,o31⟩ _ h
 refine Z ?_
 refine A6 h (fun (v43,o44)=>[(13,(O .i64 v43))]) (fun (v43,o44)=>[(1,.cells 199 [(.loc 1 0),(.arr 2 o44.length 0 o44.length)]),(2,.rows 5 1 (List.map (O .u8) o44))]) ?_
 rintro ⟨v43,o44⟩ _ _ _ h _ _
 refine Z ?_
 refine Ao h (fun _ h=>?_) (fun _ h=>?_)
 refine Z ?_
 refine Cg h (fun _ _ _ _ h=>?_)
 refine Z ?_
 refine Bm [1,2] h (fun _ h=>?_)
 refine ZS ?_
 refine Bt ?_
 refine ZO ?_
 refine Bu h (fun o51=>[]) (fun o51=>[(1,.cells 199 [(.loc 1 0),(.arr 2 o51.length 0 o51.length)]),(2,.rows 5 1 (List.map (O .u8) o51))]) ?_ ?_
 intro _ h _ _ _
 refine Ao h (fun _ h=>?_) (fun _ h=>?_)
 refine Z ?_
 refine Bl h (fun _ h=>?_)
 refine Z ?_
 refine F8 h (fun h=>?_)
 refine Z ?_
 refine Bm [1,2] h (fun _ h=>?_)
 exact Y
 exact Y
 rintro o51 _ h
 refine Z ?_
 refine Ao h (fun _ h=>?_) (fun _ h=>?_)
 refine Z ?_
 refine Bm [1,2] h (fun _ h=>?_)
 exact Y
 refine Z ?_
 refine Bl h (fun _ h=>?_)
 refine Z ?_
 refine F8 h (fun h=>?_)
 refine Z ?_
 refine Bm [1,2] h (fun _ h=>?_)
 exact Y
 replace h:=Ck h
 refine Fc (Fa rfl (Ar (Ar ?_)))
 refine Bu h (fun v57=>[(47,(An v57))]) (fun v57=>[]) ?_ ?_
 intro _ h _ _ _
 exact Y
 rintro v57 _ h
 refine Ao h (fun _ h=>?_) (fun _ h=>?_)
 refine Z ?_
 refine Bm [1,2] h (fun _ h=>?_)
 refine Z ?_
 refine Bl h (fun _ h=>?_)
 refine Z ?_
 refine Bm [1,2] h (fun _ h=>?_)
 refine Z ?_
 refine Bm [1,2] h (fun _ h=>?_)
 exact Y
 refine Z ?_
 refine Bm [1,2] h (fun _ h=>?_)
 exact Y
 refine Fc (Fa rfl (Ar (Ar ?_)))
 refine Bu h (fun v63=>[(47,(An v63))]) (fun v63=>[]) ?_ ?_
 intro _ h _ _ _
 exact Y
 rintro v63 _ h
 refine Ao h (fun _ h=>?_) (fun _ h=>?_)
 refine Z ?_
 refine Ee h (fun v64 hcv64 h=>?_)
 rcases v64 with v65 | v66
 refine Hg.act [1,2] _ _ _ _ (Ajl (a0:=a0.Const) (a1:=((a0.Terms.length:Int)==(0:Int))) (b1:=[]) hcv64) rfl rfl ⟨rfl,rfl,trivial⟩ ?_
 refine Z ?_
 refine Bl h (fun _ h=>?_)
 refine Z ?_
 refine Bm [1,2] h (fun _ h=>?_)
 refine Z ?_
 refine Bm [1,2] h (fun _ h=>?_)
 exact Y
 refine Hg.act [1,2] _ _ _ _ (Ajm (a0:=a0.Const) (a1:=((a0.Terms.length:Int)==(0:Int))) (b1:=[]) hcv64) rfl rfl ⟨rfl,rfl,trivial⟩ ?_
 refine Z ?_
 refine Bl h (fun _ h=>?_)
 refine Z ?_
 refine Bm [1,2] h (fun _ h=>?_)
 refine Z ?_
 refine Bm [1,2] h (fun _ h=>?_)
 exact Y
 refine Z ?_
 refine Bm [1,2] h (fun _ h=>?_)
 exact Y⟩
instance {a0:A8}:OK (U3 a0) fun r=>As Tryz.prog 129 [F5 a0] (Du r):=⟨fun {r} h=>by
 refine pw C0 Tryz.func129 ?_
 refine ZS ?_
 refine Bt ?_
 refine ZS ?_
 refine Bt ?_
 refine ZO ?_
 refine Ar (Ar ?_)
 refine Dh [.own 3 1 5 1] ?_
 refine Z ?_
 refine Yf ?_
 refine Z ?_
 refine Ao h (fun _ h=>?_) (fun _ h=>?_)
 refine Z ?_
 refine Cg h (fun _ _ _ _ h=>?_)
 refine Z ?_
 refine Bl h (fun _ h=>?_)
 refine Z ?_
 refine Bm [1,2] h (fun _ h=>?_)
 refine Z ?_
 refine A6 h (fun (v18,o19)=>[(11,(O .i64 v18))]) (fun (v18,o19)=>[(1,.cells 199 [(.loc 1 0),(.arr 2 o19.length 0 o19.length)]),(2,.rows 5 1 (List.map (O .u8) o19))]) ?_
 rintro ⟨v18,o19⟩ _ _ _ h _ _
 refine Z ?_
 refine Ao h (fun _ h=>?_) (fun _ h=>?_)
 refine Z ?_
 refine Cg h (fun _ _ _ _ h=>?_)
 refine Z ?_
 refine Bl h (fun _ h=>?_)
 refine Z ?_
 refine Bm [1,2] h (fun _ h=>?_)
 exact Y
 replace h:=Ck h
 refine Z ?_
 refine Yf ?_
 refine Z ?_
 refine Ao h (fun _ h=>?_) (fun _ h=>?_)
 refine Z ?_
 refine Cg h (fun _ _ _ _ h=>?_)
 refine Z ?_
 refine Bl h (fun _ h=>?_)
 refine Z ?_
 refine F8 h (fun h=>?_)
 refine Z ?_
 refine F8 h (fun h=>?_)
 refine Z ?_
 refine Bl h (fun _ h=>?_)
 refine Z ?_
 refine F8 h (fun h=>?_)
 refine Z ?_
 refine Bm [1,2] h (fun _ h=>?_)
 refine Z ?_
 refine A6 h (fun (v51,o52)=>[(25,(O .i64 v51))]) (fun (v51,o52)=>[(1,.cells 199 [(.loc 1 0),(.arr 2 o52.length 0 o52.length)]),(2,.rows 5 1 (List.map (O .u8) o52))]) ?_
 rintro ⟨v51,o52⟩ _ _ _ h _ _
 refine Z ?_
 refine Ao h (fun _ h=>?_) (fun _ h=>?_)
 refine Z ?_
 refine Cg h (fun _ _ _ _ h=>?_)
 refine Z ?_
 refine Bl h (fun _ h=>?_)
 refine Z ?_
 refine F8 h (fun h=>?_)
 refine Z ?_
 refine F8 h (fun h=>?_)
 refine Z ?_
 refine Bl h (fun _ h=>?_)
 refine Z ?_
 refine F8 h (fun h=>?_)
 refine Z ?_
 refine Bm [1,2] h (fun _ h=>?_)
 exact Y
 replace h:=Ck h
 refine Z ?_
 refine Bm [1,2] h (fun _ h=>?_)
 exact Y
 refine Z ?_
 refine Bm [1,2] h (fun _ h=>?_)
 exact Y
 refine Z ?_
 refine Yf ?_
 refine Z ?_
 refine Ao h (fun _ h=>?_) (fun _ h=>?_)
 refine Z ?_
 refine Cg h (fun _ _ _ _ h=>?_)
 refine Z ?_
 refine Bl h (fun _ h=>?_)
 refine Z ?_
 refine F8 h (fun h=>?_)
 refine Z ?_
 refine F8 h (fun h=>?_)
 refine Z ?_
 refine Bl h (fun _ h=>?_)
 refine Z ?_
 refine F8 h (fun h=>?_)
 refine Z ?_
 refine Bm [1,2] h (fun _ h=>?_)
 refine Z ?_
 refine A6 h (fun (v90,o91)=>[(25,(O .i64 v90))]) (fun (v90,o91)=>[(1,.cells 199 [(.loc 1 0),(.arr 2 o91.length 0 o91.length)]),(2,.rows 5 1 (List.map (O .u8) o91))]) ?_
 rintro ⟨v90,o91⟩ _ _ _ h _ _
 refine Z ?_
 refine Ao h (fun _ h=>?_) (fun _ h=>?_)
 refine Z ?_
 refine Cg h (fun _ _ _ _ h=>?_)
 refine Z ?_
 refine Bl h (fun _ h=>?_)
 refine Z ?_
 refine F8 h (fun h=>?_)
 refine Z ?_
 refine F8 h (fun h=>?_)
 refine Z ?_
 refine Bl h (fun _ h=>?_)
 refine Z ?_
 refine F8 h (fun h=>?_)
 refine Z ?_
 refine Bm [1,2] h (fun _ h=>?_)
 exact Y
 replace h:=Ck h
 refine Z ?_
 refine Bm [1,2] h (fun _ h=>?_)
 exact Y
 refine Z ?_
 refine Bm [1,2] h (fun _ h=>?_)
 exact Y⟩
instance {a0 a1:List Int}:OK (Vv a0 a1) fun r=>As Tryz.prog 257 [(Aw 1 (O .u32)) a0,(Aw 1 (O .u32)) a1] ((Aw 1 (O .u32)) r):=⟨fun {r} h=>by
 refine pw {T:=B8,an:=(fun _=>.ask),nl:=(fun s=>bif Nat.beq s 4 then [(0,1)] else [])} Tryz.func257 ?_
 refine ZS ?_
 refine Bt ?_
 refine ZS ?_
 refine Bt ?_
 refine ZO ?_
 refine Bu h (fun (v1,v2)=>[(0,(.sl 1 (List.map (O .u32) v1))),(1,(.sl 1 (List.map (O .u32) v2)))]) (fun (v1,v2)=>[]) ?_ ?_
 intro _ h _ _ _
 exact Y
 rintro ⟨v1,v2⟩ _ h
 refine Z ?_
 refine Gx h (fun _ h=>?_)
 refine Z ?_
 refine A6 h (fun (v20,v21,o22)=>[(5,(.arr 0 o22.length 0 o22.length)),(6,(O .u32 v20)),(22,(O .i64 v21))]) (fun (v20,v21,o22)=>[(0,.rows 106 1 (List.map (O .u32) o22))]) ?_
 rintro ⟨v20,v21,o22⟩ _ _ _ h _ _
 refine Z ?_
 refine Ao h (fun _ h=>?_) (fun _ h=>?_)
 refine Z ?_
 refine Cg h (fun _ _ _ _ h=>?_)
 refine ZS ?_
 refine Bt ?_
 refine ZO ?_
 refine Bu h (fun v25=>[(8,(O .u32 v25))]) (fun v25=>[]) ?_ ?_
 intro _ h _ _ _
 exact Y
 rintro v25 _ h
 exact Y
 exact Y⟩
instance {a0 a1:List Int}:OK (Sy a0 a1) fun r=>As Tryz.prog 258 [(Aw 1 (O .u32)) a0,(Aw 1 (O .u32)) a1] ((Aw 1 (O .u32)) r):=⟨fun {r} h=>by
 refine pw {T:=B8,an:=(fun _=>.ask),nl:=(fun s=>bif Nat.beq s 4 then [(0,1)] else [])} Tryz.func258 ?_
 refine Z ?_
 refine Gx h (fun _ h=>?_)
 refine Z ?_
 refine A6 h (fun (v8,v9,o10)=>[(5,(.arr 0 o10.length 0 o10.length)),(6,(O .i64 v8)),(14,(O .i64 v9))]) (fun (v8,v9,o10)=>[(0,.rows 106 1 (List.map (O .u32) o10))]) ?_
 rintro ⟨v8,v9,o10⟩ _ _ _ h _ _
 refine Z ?_
 refine Ao h (fun _ h=>?_) (fun _ h=>?_)
 refine Z ?_
 refine Cg h (fun _ _ _ _ h=>?_)
 refine ZS ?_
 refine Bt ?_
 refine ZO ?_
 refine Bu h (fun v13=>[(8,(O .i64 v13))]) (fun v13=>[]) ?_ ?_
 intro _ h _ _ _
 exact Y
 rintro v13 _ h
 exact Y
 replace h:=Ck h
 refine Fc (Fa rfl (Ar ?_))
 refine Dh [.fz 5] ?_
 exact Y⟩
instance {a0 a1:Ge}:OK (Yx a0 a1) fun r=>As Tryz.prog 209 [Oq a0,Oq a1] (Oq r):=⟨fun {r} h=>by
 refine pw C0 Tryz.func209 ?_
 exact Y⟩
instance {a0 a1:Aq}:OK (Oc a0 a1) fun r=>As Tryz.prog 130 [Cr a0,Cr a1] (Cr r):=⟨fun {r} h=>by
 refine pw C0 Tryz.func130 ?_
 exact Y⟩
instance {a0:List Ag} {b1:List (ByteArray×Int)} {b2:List Ag}:OK (P9 a0 b1 b2) fun r=>Ct Tryz.prog 75 [(.loc 0 0),(Aw 5 Bc) a0] [.cells 172 [(.mp 1),(.arr 2 b2.length 0 b2.length)],.map (B0 (O .i64) b1),.rows 61 5 (List.map Bc b2)] (.tup []) [.cells 172 [(.mp 1),(.arr 2 r.2.length 0 r.2.length)],.map (B0 (O .i64) r.1),.rows 61 5 (List.map Bc r.2)]:=⟨fun {r} h=>by
 refine aw C0 true Tryz.func75 ?_
 refine Z ?_
 refine A6 h (fun (v10,o11,o12)=>[(11,(O .i64 v10))]) (fun (v10,o11,o12)=>[(0,.cells 172 [(.mp 1),(.arr 2 o12.length 0 o12.length)]),(1,.map (B0 (O .i64) o11)),(2,.rows 61 5 (List.map Bc o12))]) ?_
 rintro ⟨v10,o11,o12⟩ _ _ _ h _ hn1
 refine Z ?_
 refine Ao h (fun _ h=>?_) (fun _ h=>?_)
 refine Z ?_
 refine Cg h (fun _ _ _ _ h=>?_)
 refine Z ?_
 refine Bl h (fun _ h=>?_)
 refine ZO ?_
 refine Ar (Ar ?_)
 refine Bu h (fun (v16,v17)=>[(7,(O .i64 v16)),(8,(An v17))]) (fun (v16,v17)=>[]) ?_ ?_
 intro _ h _ _ _
 refine Z ?_
 refine Yb (f:=(O .i64)) (l:=o11) rfl (0:Int) h (fun j_ hb h=>?_) (fun hb h=>?_)
 exact Y
 exact Y
 rintro ⟨v16,v17⟩ _ h
 refine Z ?_
 refine Ao h (fun _ h=>?_) (fun _ h=>?_)
 refine Z ?_
 refine Hi h (fun _ _ _ _ h=>?_)
 refine Z ?_
 refine Bl h (fun v19 h=>?_)
 refine Z ?_
 refine Hi h (fun _ v20 hiv20 _ h=>?_)
 refine Z ?_
 refine Gw (f:=Bc) (x:=(Ag.mk v19 v20.Mono)) (j:=v16) rfl rfl (Nat.zero_add _) hiv20 ?_
 refine Z ?_
 exact hn1 _ _ _ _ (Option.some.inj h) ⟨rfl,trivial⟩ ⟨⟨rfl,rfl⟩,⟨rfl,rfl⟩,⟨congrArg (fun q_=>Bk.cells 172 [(.mp 1),(.arr 2 q_ 0 q_)]) (Dz (l:=o12) rfl v16 (Ag.mk v19 v20.Mono)),rfl⟩,trivial⟩ trivial
 refine Z ?_
 refine Uh (f:=(O .i64)) (l:=o11) (x:=((o12.length:Nat):Int)) rfl rfl ?_
 exact Y
 exact Y⟩
abbrev Ajn (k:Nat):Prop:=∀{a0:A9},OK (Qu k a0) fun r=>As Tryz.prog 269 [Ez a0] (Ez r)
theorem Asr (k:Nat):Ajn k:=by
 induction k with
 | zero=>exact okz
 | succ k ih=>
  refine @fun a0=>⟨fun {r} h=>?_⟩
  .unfold Qu at h
   refine pw {T:=B8,an:=(fun _=>.ask),nl:=(fun s=>bif Nat.beq s 17 then [(0,2)] else [])} Tryz.func269 ?_
   refine ZS ?_
   refine Bt ?_
   refine ZS ?_
   refine Bt ?_
   refine ZO ?_
   refine Ar (Ar ?_)
   refine Dh [.own 3 1 42 2] ?_
   refine Z ?_
   refine A6 h (fun (v15,o16)=>[(12,(O .i64 v15))]) (fun (v15,o16)=>[(2,.cells 42 [(O .i64 a0.Num),(.arr 3 o16.length 0 o16.length)]),(3,.rows 42 2 (G5 o16))]) ?_
   rintro ⟨v15,o16⟩ _ _ _ h _ _
   exact Y
instance {k:Nat}:Ajn k:=(Asr k)
instance {a0:List Bw}:OK (Sn a0) fun r=>As Tryz.prog 147 [(Aw 2 Dn) a0] ((Aw 2 Dn) r):=⟨fun {r} h=>by
 exact Ase h⟩
instance {a0:A8}:OK (Vi a0) fun r=>As Tryz.prog 212 [F5 a0] (F5 r):=⟨fun {r} h=>by
 refine pw {T:=B8,an:=(fun _=>.ask),nl:=(fun s=>bif Nat.beq s 44 then [(0,3)] else bif Nat.beq s 17 then [(0,3)] else [])} Tryz.func212 ?_
 refine ZS ?_
 refine Bt ?_
 refine ZS ?_
 refine Bt ?_
 refine ZO ?_
 refine Ar (Ar ?_)
 refine Dh [.own 3 0 85 3,.own 3 1 91 3] ?_
 refine Z ?_
 refine A6 h (fun (v16,o17)=>[(12,(O .i64 v16))]) (fun (v16,o17)=>[(2,.cells 59 [(.arr 3 o17.length 0 o17.length),(.arr 4 0 0 0)]),(3,.rows 85 3 (List.map E2 o17))]) ?_
 rintro ⟨v16,o17⟩ _ _ _ h _ _
 refine Z ?_
 refine Ao h (fun _ h=>?_) (fun _ h=>?_)
 exact Y
 replace h:=Ck h
 refine Z ?_
 refine A6 h (fun (v35,o36)=>[(31,(O .i64 v35))]) (fun (v35,o36)=>[(2,.cells 59 [(.arr 3 o17.length 0 o17.length),(.arr 4 o36.length 0 o36.length)]),(4,.rows 91 3 (List.map Ew o36))]) ?_
 rintro ⟨v35,o36⟩ _ _ _ h _ _
 exact Y⟩
instance {a0:List Ag}:OK (U4 a0) fun r=>As Tryz.prog 134 [(Aw 5 Bc) a0] ((Aw 5 Bc) r):=⟨fun {r} h=>by
 refine pw {T:=B8,an:=(fun s=>bif Nat.beq s 3 then .own else .ask),nl:=(fun s=>bif Nat.beq s 3 then [(0,5)] else bif Nat.beq s 2 then [(0,5)] else [])} Tryz.func134 ?_
 refine Z ?_
 refine A6 h (fun (v14,o15)=>[(3,(.arr 0 o15.length 0 o15.length)),(8,(O .i64 v14))]) (fun (v14,o15)=>[(0,.rows 61 5 (List.map Bc o15))]) ?_
 rintro ⟨v14,o15⟩ _ _ _ h _ _
 exact Y⟩
instance {a0:Int}:OK (Y0 a0) fun r=>As Tryz.prog 268 [(O .u64) a0] ((O .i64) r):=⟨fun {r} h=>by
 refine pw C0 Tryz.func268 ?_
 refine ZS ?_
 refine Bt ?_
 refine ZS ?_
 refine Bt ?_
 refine ZO ?_
 refine Bu h (fun (v2,v3)=>[(0,(O .u64 v2)),(2,(O .i64 v3))]) (fun (v2,v3)=>[]) ?_ ?_
 intro _ h _ _ _
 exact Y
 rintro ⟨v2,v3⟩ _ h
 refine ZS ?_
 refine Bt ?_
 refine ZO ?_
 refine Bu h (fun (v5,v6)=>[(0,(O .u64 v5)),(2,(O .i64 v6))]) (fun (v5,v6)=>[]) ?_ ?_
 intro _ h _ _ _
 exact Y
 rintro ⟨v5,v6⟩ _ h
 refine ZS ?_
 refine Bt ?_
 refine ZO ?_
 refine Bu h (fun (v8,v9)=>[(0,(O .u64 v8)),(2,(O .i64 v9))]) (fun (v8,v9)=>[]) ?_ ?_
 intro _ h _ _ _
 exact Y
 rintro ⟨v8,v9⟩ _ h
 exact Y⟩
instance {a0:Int}:OK (Vh a0) fun r=>As Tryz.prog 211 [(O .u64) a0] ((O .i64) r):=⟨fun {r} h=>by
 refine pw C0 Tryz.func211 ?_
 exact Y⟩
instance {a0 a1:Ag}:OK (Mz a0 a1) fun r=>As Tryz.prog 133 [Bc a0,Bc a1] ((O .i64) r):=⟨fun {r} h=>by
 refine pw C0 Tryz.func133 ?_
 exact Y⟩
instance {a0 a1:Int} {b0:List Ag}:OK (Vx a0 a1 b0) fun r=>Ct Tryz.prog 259 [(.arr 0 b0.length 0 b0.length),(O .i64) a0,(O .i64) a1,(.fn 133 [])] [.rows 61 5 (List.map Bc b0)] (.tup []) [.rows 61 5 (List.map Bc r)]:=⟨fun {r} h=>by
 refine aw C0 true Tryz.func259 ?_
 refine Z ?_
 refine Hj h (fun (v21,o22)=>[(8,(O .i64 v21))]) (fun (v21,o22)=>[(0,.rows 61 5 (List.map Bc o22))]) (fun (v21,o22)=>b0.length=o22.length) ?_
 rintro ⟨v21,o22⟩ _ _ _ h _ _ q22
 refine Z ?_
 refine Ao h (fun _ h=>?_) (fun _ h=>?_)
 refine Z ?_
 refine Hj h (fun (v31,o32)=>[(9,(O .i64 v31))]) (fun (v31,o32)=>[(0,.rows 61 5 (List.map Bc o32))]) (fun (v31,o32)=>b0.length=o32.length) ?_
 rintro ⟨v31,o32⟩ _ _ _ h _ _ q32
 refine Ar (Ar ?_)
 refine Bu h (fun v36=>[(34,(An v36))]) (fun v36=>[]) ?_ ?_
 intro _ h _ _ _
 exact Y
 rintro v36 _ h
 exact Y
 exact Y⟩
instance {a0 a1 a2:Int} {b0:List Ag}:OK (Vg a0 a1 a2 b0) fun r=>Ct Tryz.prog 210 [(.arr 0 b0.length 0 b0.length),(O .i64) a0,(O .i64) a1,(O .i64) a2,(.fn 133 [])] [.rows 61 5 (List.map Bc b0)] (.tup []) [.rows 61 5 (List.map Bc r)]:=⟨fun {r} h=>by
 refine aw C0 true Tryz.func210 ?_
 refine Z ?_
 refine A6 h (fun _=>[(1,(O .i64 a0)),(2,(O .i64 a1)),(3,(O .i64 a2)),(10,(An true)),(11,(An true))]) (fun _=>[]) ?_
 rintro _ _ _ _ h _ _
 refine Z ?_
 refine Ao h (fun _ h=>?_) (fun _ h=>?_)
 refine Z ?_
 refine Bm [0] h (fun _ h=>?_)
 refine Ee h (fun v2 hgv2 h=>?_)
 exact Y
 exact Y⟩
theorem Ass {b0:List Ag} {r:(List Ag)} (h:Adt b0=some r):Ct Tryz.prog 132 [(.arr 0 b0.length 0 b0.length),(.fn 133 [])] [.rows 61 5 (List.map Bc b0)] (.tup []) [.rows 61 5 (List.map Bc r)]:=by
 refine aw C0 true Tryz.func132 ?_
 refine Z ?_
 refine Bl h (fun _ h=>?_)
 refine Z ?_
 refine Bm [0] h (fun _ h=>?_)
 refine Ee h (fun v3 hgv3 h=>?_)
 exact Y
instance {b0:List Ag}:OK (My b0) fun r=>Ct Tryz.prog 132 [(.arr 0 b0.length 0 b0.length),(.fn 133 [])] [.rows 61 5 (List.map Bc b0)] (.tup []) [.rows 61 5 (List.map Bc r)]:=⟨fun {r} h=>by
 unfold My at h
 cases hb:Nat.ble b0.length 12 with
 | true=>rw [hb] at h; exact Ass h
 | false=>rw [hb] at h; exact Asm (eA:=Bc) (cmp:=Mz) (g:=133) (enters_of Tryz.func133 (by kernel_rfl) rfl) (fun x y n h=>(OK.ok h :)) (fun x=>⟨_,rfl⟩) h (by rintro rfl; cases hb)⟩
instance {b1:List (ByteArray×Int)} {b2:List Ag}:OK (Sf b1 b2) fun r=>Ct Tryz.prog 77 [(.loc 0 0)] [.cells 172 [(.mp 1),(.arr 2 b2.length 0 b2.length)],.map (B0 (O .i64) b1),.rows 61 5 (List.map Bc b2)] (.tup [(Aw 5 Bc) r.1,(O .i64) r.2]) [.cells 172 [(.mp 1),(.arr 2 b2.length 0 b2.length)],.map (B0 (O .i64) b1),.rows 61 5 (List.map Bc b2)]:=⟨fun {r} h=>by
 refine aw {T:=B8,an:=(fun s=>bif Nat.beq s 4 then .own else .ask),nl:=(fun s=>bif Nat.beq s 4 then [(0,5)] else bif Nat.beq s 2 then [(0,5)] else [])} true Tryz.func77 ?_
 refine Z ?_
 refine A6 h (fun (v12,o13)=>[(4,(.arr 3 o13.length 0 o13.length)),(12,(O .i64 v12))]) (fun (v12,o13)=>[(3,.rows 61 5 (List.map Bc o13))]) ?_
 rintro ⟨v12,o13⟩ _ _ _ h _ _
 refine Z ?_
 refine Ao h (fun _ h=>?_) (fun _ h=>?_)
 exact Y
 replace h:=Ck h
 refine Z ?_
 refine Ao h (fun _ h=>?_) (fun _ h=>?_)
 exact Y
 refine Z ?_
 refine Bm [3] h (fun _ h=>?_)
 refine Ee h (fun v20 hgv20 h=>?_)
 refine ZO ?_
 refine Ar ?_
 refine Dh [.fz 4] ?_
 exact Y⟩
instance {a0:Int}:OK (U1 a0) fun r=>As Tryz.prog 126 [(O .i64) a0] ((Aw 1 (O .u32)) r):=⟨fun {r} h=>by
 refine pw {T:=B8,an:=(fun _=>.ask),nl:=(fun s=>bif Nat.beq s 2 then [(0,1)] else [])} Tryz.func126 ?_
 exact Y⟩
instance {a0:Int}:OK (Ir a0) fun r=>As Tryz.prog 70 [(O .i64) a0] (Cr r):=⟨fun {r} h=>by
 refine pw C0 Tryz.func70 ?_
 exact Y⟩
instance {a0:Bh} {a1 a2:List Ag}:OK (Ul a0 a1 a2) fun r=>As Tryz.prog 34 [Ev a0,(Aw 5 Bc) a1,(Aw 5 Bc) a2] (.tup [(Aw 5 Bc) r.1,(O .i64) r.2]):=⟨fun {r} h=>by
 refine pw {T:=B8,an:=(fun _=>.ask),nl:=(fun s=>bif Nat.beq s 6 then [(0,5)] else [])} Tryz.func34 ?_
 refine ZS ?_
 refine Bt ?_
 refine ZO ?_
 refine Ar (Ar ?_)
 refine Bu h (fun v9=>[(9,(An v9))]) (fun v9=>[]) ?_ ?_
 intro _ h _ _ _
 refine Z ?_
 refine Ee h (fun v2 hcv2 h=>?_)
 rcases v2 with v3 | v8
 refine Hg.act [] _ _ _ _ (Ajj (a0:=a0) (a1:=[a1,a2]) hcv2) rfl rfl trivial ?_
 exact Y
 refine Hg.act [] _ _ _ _ (Ajk (a0:=a0) (a1:=[a1,a2]) hcv2) rfl rfl trivial ?_
 exact Y
 rintro v9 _ h
 refine Z ?_
 refine Ao h (fun _ h=>?_) (fun _ h=>?_)
 exact Y
 refine Z ?_
 refine Bm [] h (fun _ h=>?_)
 refine Z ?_
 refine Bm [2,1,3] h (fun _ h=>?_)
 refine Z ?_
 refine Bl h (fun _ h=>?_)
 refine Z ?_
 refine Bl h (fun _ h=>?_)
 refine Z ?_
 refine Bm [2,1,3] h (fun _ h=>?_)
 refine Z ?_
 refine Bm [2,1,3] h (fun _ h=>?_)
 exact Y⟩
instance {a0:Bh} {a1:List Ag}:OK (Ka a0 a1) fun r=>As Tryz.prog 33 [Ev a0,(Aw 5 Bc) a1] (An r):=⟨fun {r} h=>by
 refine pw C0 Tryz.func33 ?_
 refine Z ?_
 refine Ee h (fun v2 hcv2 h=>?_)
 rcases v2 with v3 | v8
 refine Hg.act [] _ _ _ _ (Ajj (a0:=a0) (a1:=[a1]) hcv2) rfl rfl trivial ?_
 exact Y
 refine Hg.act [] _ _ _ _ (Ajk (a0:=a0) (a1:=[a1]) hcv2) rfl rfl trivial ?_
 exact Y⟩
end Go.Ab
namespace Go.Ab
open Go Go.Proofs
set_option maxRecDepth 10000
set_option maxHeartbeats 4000000
set_option linter.unusedVariables false
instance {a0:Bh} {a1 a2:List Ag}:OK (P2 a0 a1 a2) fun r=>As Tryz.prog 7 [Ev a0,(Aw 5 Bc) a1,(Aw 5 Bc) a2] (.tup [(O .i64) r.1,(O .i64) r.2]):=⟨fun {r} h=>by
 refine pw C0 Tryz.func7 ?_
 refine ZS ?_
 refine Bt ?_
 refine ZO ?_
 refine Ar (Ar ?_)
 refine Bu h (fun v4=>[(23,(An v4))]) (fun v4=>[]) ?_ ?_
 intro _ h _ _ _
 exact Y
 rintro v4 _ h
 refine Ao h (fun _ h=>?_) (fun _ h=>?_)
 exact Y
 refine Z ?_
 refine Bl h (fun _ h=>?_)
 refine Z ?_
 refine Ao h (fun _ h=>?_) (fun _ h=>?_)
 exact Y
 refine Z ?_
 refine A6 h (fun (v10,v11,v12)=>[(10,(An v10)),(11,(An v11)),(36,(O .i64 v12))]) (fun (v10,v11,v12)=>[]) ?_
 rintro ⟨v10,v11,v12⟩ _ _ _ h _ _
 refine Z ?_
 refine Ao h (fun _ h=>?_) (fun _ h=>?_)
 refine Z ?_
 refine Cg h (fun _ _ _ _ h=>?_)
 refine ZO ?_
 refine Ar ?_
 refine Bu h (fun v16=>[(10,(An v16))]) (fun v16=>[]) ?_ ?_
 intro _ h _ _ _
 exact Y
 rintro v16 _ h
 exact Y
 replace h:=Ck h
 refine Fc (Fa rfl (Ar (Ju (Ar ?_))))
 refine Bu h (fun v20=>[(55,(An v20))]) (fun v20=>[]) ?_ ?_
 intro _ h _ _ _
 exact Y
 rintro v20 _ h
 exact Y⟩
instance {a0 a1:Aq}:OK (Sb a0 a1) fun r=>As Tryz.prog 41 [Cr a0,Cr a1] ((O .i64) r):=⟨fun {r} h=>by
 refine pw C0 Tryz.func41 ?_
 exact Y⟩
instance {a0 a1:Aq}:OK (Sa a0 a1) fun r=>As Tryz.prog 40 [Cr a0,Cr a1] (Cr r):=⟨fun {r} h=>by
 refine pw C0 Tryz.func40 ?_
 exact Y⟩
abbrev Ajo (k:Nat):Prop:=∀{a0:A9},OK (Qg k a0) fun r=>As Tryz.prog 146 [Ez a0] (Ez r)
theorem Ast (k:Nat):Ajo k:=by
 induction k with
 | zero=>exact okz
 | succ k ih=>
  refine @fun a0=>⟨fun {r} h=>?_⟩
  .unfold Qg at h
   refine pw {T:=B8,an:=(fun _=>.ask),nl:=(fun s=>bif Nat.beq s 17 then [(0,2)] else [])} Tryz.func146 ?_
   refine ZS ?_
   refine Bt ?_
   refine ZS ?_
   refine Bt ?_
   refine ZO ?_
   refine Ar (Ar ?_)
   refine Dh [.own 3 1 42 2] ?_
   refine Z ?_
   refine A6 h (fun (v15,o16)=>[(12,(O .i64 v15))]) (fun (v15,o16)=>[(2,.cells 42 [(O .i64 a0.Num),(.arr 3 o16.length 0 o16.length)]),(3,.rows 42 2 (G5 o16))]) ?_
   rintro ⟨v15,o16⟩ _ _ _ h _ _
   exact Y
instance {k:Nat}:Ajo k:=(Ast k)
instance {a0:A8}:OK (N3 a0) fun r=>As Tryz.prog 85 [F5 a0] (F5 r):=⟨fun {r} h=>by
 refine pw {T:=B8,an:=(fun _=>.ask),nl:=(fun s=>bif Nat.beq s 44 then [(0,3)] else bif Nat.beq s 17 then [(0,3)] else [])} Tryz.func85 ?_
 refine ZS ?_
 refine Bt ?_
 refine ZS ?_
 refine Bt ?_
 refine ZO ?_
 refine Ar (Ar ?_)
 refine Dh [.own 3 0 85 3,.own 3 1 91 3] ?_
 refine Z ?_
 refine A6 h (fun (v16,o17)=>[(12,(O .i64 v16))]) (fun (v16,o17)=>[(2,.cells 59 [(.arr 3 o17.length 0 o17.length),(.arr 4 0 0 0)]),(3,.rows 85 3 (List.map E2 o17))]) ?_
 rintro ⟨v16,o17⟩ _ _ _ h _ _
 refine Z ?_
 refine Ao h (fun _ h=>?_) (fun _ h=>?_)
 exact Y
 replace h:=Ck h
 refine Z ?_
 refine A6 h (fun (v35,o36)=>[(31,(O .i64 v35))]) (fun (v35,o36)=>[(2,.cells 59 [(.arr 3 o17.length 0 o17.length),(.arr 4 o36.length 0 o36.length)]),(4,.rows 91 3 (List.map Ew o36))]) ?_
 rintro ⟨v35,o36⟩ _ _ _ h _ _
 exact Y⟩
instance {a0:Bh} {a1 a2:List Ag}:OK (Un a0 a1 a2) fun r=>As Tryz.prog 39 [Ev a0,(Aw 5 Bc) a1,(Aw 5 Bc) a2,(.fn 40 [])] (.tup [(Aw 5 Bc) r.1,(O .i64) r.2]):=⟨fun {r} h=>by
 refine pw {T:=B8,an:=(fun s=>bif Nat.beq s 10 then .own else .ask),nl:=(fun s=>bif Nat.beq s 10 then [(0,5)] else bif Nat.beq s 8 then [(0,5)] else [])} Tryz.func39 ?_
 refine ZS ?_
 refine Bt ?_
 refine ZO ?_
 refine Ar (Ar ?_)
 refine Bu h (fun v4=>[(25,(An v4))]) (fun v4=>[]) ?_ ?_
 intro _ h _ _ _
 exact Y
 rintro v4 _ h
 refine Ao h (fun _ h=>?_) (fun _ h=>?_)
 exact Y
 refine Z ?_
 refine A6 h (fun (v77,v78,o79)=>[(1,(.sl 5 (List.map Bc v77))),(2,(.sl 5 (List.map Bc v78))),(10,(.arr 1 o79.length 0 o79.length))]) (fun (v77,v78,o79)=>[(1,.rows 61 5 (List.map Bc o79))]) ?_
 rintro ⟨v77,v78,o79⟩ _ _ _ h _ _
 refine Ar (Ar ?_)
 refine Bu h (fun v80=>[(33,(An v80))]) (fun v80=>[]) ?_ ?_
 intro _ h _ _ _
 exact Y
 rintro v80 _ h
 refine Ao h (fun _ h=>?_) (fun _ h=>?_)
 refine ZS ?_
 refine Bt ?_
 refine ZO ?_
 refine Ar ?_
 refine Bu h (fun v84=>[(11,(O .i64 v84))]) (fun v84=>[]) ?_ ?_
 intro _ h _ _ _
 exact Y
 rintro v84 _ h
 refine Z ?_
 refine Bl h (fun _ h=>?_)
 refine Z ?_
 refine Bl h (fun _ h=>?_)
 refine ZS ?_
 refine Bt ?_
 refine ZO ?_
 refine Ar (Ar ?_)
 refine Dh [.nil 14 0 3,.nil 14 1 3] ?_
 refine ZS ?_
 refine Bt ?_
 refine ZO ?_
 refine Bu h (fun (v93,v94,v95,v96,v97,v98)=>[(2,(.sl 5 (List.map Bc v93)))]) (fun (v93,v94,v95,v96,v97,v98)=>[(3,.cells 39 [(An v94),(.sl 1 (List.map (O .u32) v95)),(.sl 1 (List.map (O .u32) v96))]),(4,.cells 59 [(.sl 3 (List.map E2 v97)),(.sl 3 (List.map Ew v98))])]) ?_ ?_
 intro _ h _ _ _
 exact Y
 rintro ⟨v93,v94,v95,v96,v97,v98⟩ _ h
 refine ZS ?_
 refine Bt ?_
 refine ZO ?_
 refine Bu h (fun (v102,v103,v104,v105,v106,v107)=>[(1,(.sl 5 (List.map Bc v102)))]) (fun (v102,v103,v104,v105,v106,v107)=>[(2,.cells 39 [(An v103),(.sl 1 (List.map (O .u32) v104)),(.sl 1 (List.map (O .u32) v105))]),(4,.cells 59 [(.sl 3 (List.map E2 v106)),(.sl 3 (List.map Ew v107))])]) ?_ ?_
 intro _ h _ _ _
 exact Y
 rintro ⟨v102,v103,v104,v105,v106,v107⟩ _ h
 exact Y
 exact Y⟩
instance {a0:Bh} {a1 a2:List Ag}:OK (Ny a0 a1 a2) fun r=>As Tryz.prog 9 [Ev a0,(Aw 5 Bc) a1,(Aw 5 Bc) a2] (.tup [(Aw 5 Bc) r.1,(O .i64) r.2]):=⟨fun {r} h=>by
 refine pw {T:=B8,an:=(fun _=>.ask),nl:=(fun s=>bif Nat.beq s 6 then [(0,5)] else [])} Tryz.func9 ?_
 exact Y⟩
instance {a0 a1:Aq}:OK (Sc a0 a1) fun r=>As Tryz.prog 43 [Cr a0,Cr a1] (Cr r):=⟨fun {r} h=>by
 refine pw C0 Tryz.func43 ?_
 exact Y⟩
instance {a0:Bh} {a1 a2:List Ag}:OK (Y9 a0 a1 a2) fun r=>As Tryz.prog 39 [Ev a0,(Aw 5 Bc) a1,(Aw 5 Bc) a2,(.fn 43 [])] (.tup [(Aw 5 Bc) r.1,(O .i64) r.2]):=⟨fun {r} h=>by
 refine pw {T:=B8,an:=(fun s=>bif Nat.beq s 10 then .own else .ask),nl:=(fun s=>bif Nat.beq s 10 then [(0,5)] else bif Nat.beq s 8 then [(0,5)] else [])} Tryz.func39 ?_
 refine ZS ?_
 refine Bt ?_
 refine ZO ?_
 refine Ar (Ar ?_)
 refine Bu h (fun v4=>[(25,(An v4))]) (fun v4=>[]) ?_ ?_
 intro _ h _ _ _
 exact Y
 rintro v4 _ h
 refine Ao h (fun _ h=>?_) (fun _ h=>?_)
 exact Y
 refine Z ?_
 refine A6 h (fun (v77,v78,o79)=>[(1,(.sl 5 (List.map Bc v77))),(2,(.sl 5 (List.map Bc v78))),(10,(.arr 1 o79.length 0 o79.length))]) (fun (v77,v78,o79)=>[(1,.rows 61 5 (List.map Bc o79))]) ?_
 rintro ⟨v77,v78,o79⟩ _ _ _ h _ _
 refine Ar (Ar ?_)
 refine Bu h (fun v80=>[(33,(An v80))]) (fun v80=>[]) ?_ ?_
 intro _ h _ _ _
 exact Y
 rintro v80 _ h
 refine Ao h (fun _ h=>?_) (fun _ h=>?_)
 refine ZS ?_
 refine Bt ?_
 refine ZO ?_
 refine Ar ?_
 refine Bu h (fun v84=>[(11,(O .i64 v84))]) (fun v84=>[]) ?_ ?_
 intro _ h _ _ _
 exact Y
 rintro v84 _ h
 refine Z ?_
 refine Bl h (fun _ h=>?_)
 refine Z ?_
 refine Bl h (fun _ h=>?_)
 refine ZS ?_
 refine Bt ?_
 refine ZO ?_
 refine Ar (Ar ?_)
 refine Dh [.nil 14 0 3,.nil 14 1 3] ?_
 refine ZS ?_
 refine Bt ?_
 refine ZO ?_
 refine Bu h (fun (v93,v94,v95,v96,v97,v98)=>[(2,(.sl 5 (List.map Bc v93)))]) (fun (v93,v94,v95,v96,v97,v98)=>[(3,.cells 39 [(An v94),(.sl 1 (List.map (O .u32) v95)),(.sl 1 (List.map (O .u32) v96))]),(4,.cells 59 [(.sl 3 (List.map E2 v97)),(.sl 3 (List.map Ew v98))])]) ?_ ?_
 intro _ h _ _ _
 exact Y
 rintro ⟨v93,v94,v95,v96,v97,v98⟩ _ h
 refine ZS ?_
 refine Bt ?_
 refine ZO ?_
 refine Bu h (fun (v102,v103,v104,v105,v106,v107)=>[(1,(.sl 5 (List.map Bc v102)))]) (fun (v102,v103,v104,v105,v106,v107)=>[(2,.cells 39 [(An v103),(.sl 1 (List.map (O .u32) v104)),(.sl 1 (List.map (O .u32) v105))]),(4,.cells 59 [(.sl 3 (List.map E2 v106)),(.sl 3 (List.map Ew v107))])]) ?_ ?_
 intro _ h _ _ _
 exact Y
 rintro ⟨v102,v103,v104,v105,v106,v107⟩ _ h
 exact Y
 exact Y⟩
instance {a0:Bh} {a1 a2:List Ag}:OK (Nz a0 a1 a2) fun r=>As Tryz.prog 11 [Ev a0,(Aw 5 Bc) a1,(Aw 5 Bc) a2] (.tup [(Aw 5 Bc) r.1,(O .i64) r.2]):=⟨fun {r} h=>by
 refine pw {T:=B8,an:=(fun _=>.ask),nl:=(fun s=>bif Nat.beq s 6 then [(0,5)] else [])} Tryz.func11 ?_
 exact Y⟩
instance {a0:Bh}:OK (Uk a0) fun r=>As Tryz.prog 31 [Ev a0] (An r):=⟨fun {r} h=>by
 refine pw C0 Tryz.func31 ?_
 exact Y⟩
abbrev Ajp (k:Nat):Prop:=∀{a0:A9} {a1:Int},OK (Qf k a0 a1) fun r=>As Tryz.prog 128 [Ez a0,(O .i64) a1] ((O .i64) r)
theorem Asu (k:Nat):Ajp k:=by
 induction k with
 | zero=>exact okz
 | succ k ih=>
  refine @fun a0 a1=>⟨fun {r} h=>?_⟩
  .unfold Qf at h
   refine pw C0 Tryz.func128 ?_
   refine Z ?_
   refine A6 h (fun (v4,v5)=>[(4,(O .i64 0)),(5,(O .i64 v4)),(10,(O .i64 v5))]) (fun (v4,v5)=>[]) ?_
   rintro ⟨v4,v5⟩ _ _ _ h _ _
   exact Y
instance {k:Nat}:Ajp k:=(Asu k)
instance {a0:A8}:OK (Up a0) fun r=>As Tryz.prog 73 [F5 a0] (An r):=⟨fun {r} h=>by
 refine pw C0 Tryz.func73 ?_
 refine ZS ?_
 refine Bt ?_
 refine ZO ?_
 refine Ar (Ar ?_)
 refine Bu h (fun v2=>[(14,(An v2))]) (fun v2=>[]) ?_ ?_
 intro _ h _ _ _
 exact Y
 rintro v2 _ h
 refine Ao h (fun _ h=>?_) (fun _ h=>?_)
 exact Y
 refine Z ?_
 refine A6 h (fun v5=>[(2,(An false)),(18,(O .i64 v5))]) (fun v5=>[]) ?_
 rintro v5 _ _ _ h _ _
 refine Z ?_
 refine Ao h (fun _ h=>?_) (fun _ h=>?_)
 exact Y
 replace h:=Ck h
 refine Z ?_
 refine A6 h (fun v10=>[(2,(An false)),(33,(O .i64 v10))]) (fun v10=>[]) ?_
 rintro v10 _ _ _ h _ _
 exact Y⟩
instance {a0:Aq}:OK (Uo a0) fun r=>As Tryz.prog 72 [Cr a0] (An r):=⟨fun {r} h=>by
 refine pw C0 Tryz.func72 ?_
 exact Y⟩
instance {a0:List Ag} {a1:Int}:OK (N0 a0 a1) fun r=>As Tryz.prog 32 [(Aw 5 Bc) a0,(O .i64) a1] (An r):=⟨fun {r} h=>by
 refine pw C0 Tryz.func32 ?_
 refine Z ?_
 refine Ao h (fun _ h=>?_) (fun _ h=>?_)
 exact Y
 refine Z ?_
 refine A6 h (fun v5=>[(4,(An false)),(12,(O .i64 v5))]) (fun v5=>[]) ?_
 rintro v5 _ _ _ h _ _
 exact Y⟩
instance {a0:Bh} {a1 a2:List Ag}:OK (P1 a0 a1 a2) fun r=>As Tryz.prog 6 [Ev a0,(Aw 5 Bc) a1,(Aw 5 Bc) a2] (An r):=⟨fun {r} h=>by
 refine pw C0 Tryz.func6 ?_
 exact Y⟩
instance {a0:Bh} {a1:Int}:OK (Adc a0 a1) fun r=>As Tryz.prog 124 [Ev a0,(O .i64) a1] (.tup [Dm r.1,An r.2]):=⟨fun {r} h=>by
 refine pw {T:=B8,an:=(fun _=>.ask),nl:=(fun s=>bif Nat.beq s 21 then [(2,3)] else [])} Tryz.func124 ?_
 exact Y⟩
instance {a0:List Az} {a1:Ai} {a2:Int}:OK (Adn a0 a1 a2) fun r=>As Tryz.prog 254 [(Aw 3 Cn) a0,Dm a1,(O .i64) a2] (.tup [(Gd 3 Bv) r.1,An r.2]):=⟨fun {r} h=>by
 refine pw {T:=B8,an:=(fun s=>bif Nat.beq s 10 then .own else .ask),nl:=(fun s=>bif Nat.beq s 10 then [(0,3)] else bif Nat.beq s 6 then [(0,3)] else [])} Tryz.func254 ?_
 refine Z ?_
 refine Bl h (fun _ h=>?_)
 refine Z ?_
 refine Ao h (fun _ h=>?_) (fun _ h=>?_)
 exact Y
 refine Z ?_
 refine Bl h (fun _ h=>?_)
 refine Z ?_
 refine A6 h (fun (v13,o14)=>[(10,(.arr 1 o14.length 0 o14.length)),(28,(O .i64 v13))]) (fun (v13,o14)=>[(1,.rows 25 3 (Bv o14))]) ?_
 rintro ⟨v13,o14⟩ _ _ _ h _ _
 exact Y⟩
abbrev Ajq (k:Nat):Prop:=∀{a0:List Az} {a1:Ai} {a2:A9},OK (Vf k a0 a1 a2) fun r=>As Tryz.prog 206 [(Aw 3 Cn) a0,Dm a1,Ez a2] (.tup [(O .i64) r.1,An r.2])
abbrev Ajr (k:Nat):Prop:=∀{a0:List Az} {a1:List Ai} {a2:List A9},OK (Vu k a0 a1 a2) fun r=>As Tryz.prog 253 [(Aw 3 Cn) a0,(Gd 3 Bv) a1,(Gd 2 G5) a2] (.tup [(O .i64) r.1,An r.2])
theorem Ajs (k:Nat):Ajq k/\Ajr k:=by
 induction k with
 | zero=>exact ⟨okz,okz⟩
 | succ k ih=>
  obtain ⟨i0_,i1_⟩:=ih
  refine ⟨@fun a0 a1 a2=>⟨fun {r} h=>?_⟩,@fun a0 a1 a2=>⟨fun {r} h=>?_⟩⟩
  .unfold Vf at h
   refine pw C0 Tryz.func206 ?_
   refine Z ?_
   refine Ao h (fun _ h=>?_) (fun _ h=>?_)
   exact Y
   refine Z ?_
   refine Ao h (fun _ h=>?_) (fun _ h=>?_)
   exact Y
   refine Z ?_
   refine Ao h (fun _ h=>?_) (fun _ h=>?_)
   refine Z ?_
   refine Ao h (fun _ h=>?_) (fun _ h=>?_)
   exact Y
   refine Z ?_
   refine A6 h (fun (v8,v9)=>[(6,(O .i64 0)),(7,(An false)),(8,(O .i64 v8)),(55,(O .i64 v9))]) (fun (v8,v9)=>[]) ?_
   rintro ⟨v8,v9⟩ _ _ _ h _ _
   exact Y
   exact Y
  .unfold Vu at h
   refine pw C0 Tryz.func253 ?_
   refine Z ?_
   refine Ao h (fun _ h=>?_) (fun _ h=>?_)
   exact Y
   refine Z ?_
   refine A6 h (fun (v5,v6)=>[(6,(O .i64 0)),(7,(An false)),(8,(O .i64 v5)),(20,(O .i64 v6))]) (fun (v5,v6)=>[]) ?_
   rintro ⟨v5,v6⟩ _ _ _ h _ _
   exact Y
instance {k:Nat}:Ajq k:=(Ajs k).1
instance {k:Nat}:Ajr k:=(Ajs k).2
instance {a0:List Az} {a1:Ai}:OK (Adk a0 a1) fun r=>As Tryz.prog 205 [(Aw 3 Cn) a0,Dm a1] (An r):=⟨fun {r} h=>by
 refine pw {T:=B8,an:=(fun _=>.ask),nl:=(fun s=>bif Nat.beq s 6 then [(1,7),(2,3),(3,8)] else [])} Tryz.func205 ?_
 exact Y⟩
instance {a0:List Az} {a1:Ai} {a2:A9}:OK (Add a0 a1 a2) fun r=>As Tryz.prog 125 [(Aw 3 Cn) a0,Dm a1,Ez a2] ((O .i64) r):=⟨fun {r} h=>by
 refine pw C0 Tryz.func125 ?_
 exact Y⟩
instance {a0:Bh} {a1:Cj}:OK (Ym a0 a1) fun r=>As Tryz.prog 69 [Ev a0,E2 a1] (.tup [(O .i64) r.1,(O .i64) r.2.1,An r.2.2]):=⟨fun {r} h=>by
 refine pw C0 Tryz.func69 ?_
 refine Z ?_
 refine Bl h (fun v3 h=>?_)
 refine Z ?_
 refine Ao h (fun _ h=>?_) (fun _ h=>?_)
 exact Y
 refine Z ?_
 refine Ao h (fun _ h=>?_) (fun _ h=>?_)
 exact Y
 refine Z ?_
 refine Ao h (fun _ h=>?_) (fun _ h=>?_)
 refine Ar (Ar ?_)
 refine Bu h (fun v7=>[(47,(An v7))]) (fun v7=>[]) ?_ ?_
 intro _ h _ _ _
 exact Y
 rintro v7 _ h
 refine Ao h (fun _ h=>?_) (fun _ h=>?_)
 exact Y
 refine Z ?_
 refine A6 h (fun v11=>[(4,(O .i64 0)),(5,(O .i64 0)),(6,(An v3.2)),(51,(O .i64 v11))]) (fun v11=>[]) ?_
 rintro v11 _ _ _ h _ _
 exact Y
 exact Y⟩
instance {a0:Bh} {a1:List Ag}:OK (Ac9 a0 a1) fun r=>As Tryz.prog 68 [Ev a0,(Aw 5 Bc) a1] (An r):=⟨fun {r} h=>by
 refine pw C0 Tryz.func68 ?_
 refine Z ?_
 refine Bl h (fun _ h=>?_)
 refine Z ?_
 refine Ao h (fun _ h=>?_) (fun _ h=>?_)
 exact Y
 refine Z ?_
 refine A6 h (fun v14=>[(4,(An false)),(18,(O .i64 v14))]) (fun v14=>[]) ?_
 rintro v14 _ _ _ h _ _
 refine Z ?_
 refine Ao h (fun _ h=>?_) (fun _ h=>?_)
 refine Z ?_
 refine Cg h (fun _ _ _ _ h=>?_)
 refine Z ?_
 refine Ao h (fun _ h=>?_) (fun _ h=>?_)
 exact Y
 refine Z ?_
 refine A6 h (fun v20=>[(4,(An false)),(31,(O .i64 v20))]) (fun v20=>[]) ?_
 rintro v20 _ _ _ h _ _
 exact Y
 exact Y⟩
instance {a0:Bh} {a1:List Ag} {a2 a3:Int}:OK (Ac7 a0 a1 a2 a3) fun r=>As Tryz.prog 29 [Ev a0,(Aw 5 Bc) a1,(O .i64) a2,(O .i64) a3] (.tup [(Aw 3 Cr) r.1,An r.2]):=⟨fun {r} h=>by
 refine pw {T:=B8,an:=(fun s=>bif Nat.beq s 10 then .own else .ask),nl:=(fun s=>bif Nat.beq s 10 then [(0,3)] else bif Nat.beq s 8 then [(0,3)] else [])} Tryz.func29 ?_
 refine Z ?_
 refine Bl h (fun _ h=>?_)
 refine Z ?_
 refine Ao h (fun _ h=>?_) (fun _ h=>?_)
 exact Y
 refine Z ?_
 refine A6 h (fun (v44,o45)=>[(8,(.sl 3 (List.map Cr []))),(9,(An false)),(10,(.arr 1 o45.length 0 o45.length)),(23,(O .i64 v44))]) (fun (v44,o45)=>[(1,.rows 39 3 (List.map Cr o45))]) ?_
 rintro ⟨v44,o45⟩ _ _ _ h _ hn1
 refine Z ?_
 refine Ao h (fun _ h=>?_) (fun _ h=>?_)
 refine Z ?_
 refine Cg h (fun _ _ _ _ h=>?_)
 refine ZS ?_
 refine Bt ?_
 refine ZS ?_
 refine Bt ?_
 refine ZO ?_
 refine Wd (fun (v51:Int)=>(.inl v51)) h (fun v51=>[(8,(.sl 3 (List.map Cr []))),(9,(An false)),(13,(O .i64 v51))]) (fun v51=>[]) ?_ ?_
 intro _ h _ _ _
 exact Y
 rintro v51 _ h
 refine Z ?_
 refine A6 h (fun o57=>[(10,(.arr 1 o57.length 0 o57.length))]) (fun o57=>[(1,.rows 39 3 (List.map Cr o57))]) ?_
 rintro o57 _ _ _ h _ _
 refine Z ?_
 refine Ao h (fun _ h=>?_) (fun _ h=>?_)
 exact Y
 replace h:=Ck h
 refine Z ?_
 refine Bl h (fun v61 h=>?_)
 refine Z ?_
 refine Hi h (fun _ _ hiv62 _ h=>?_)
 refine Z ?_
 refine Gw (f:=Cr) (x:=v61) (j:=v51) rfl rfl (Nat.zero_add _) hiv62 ?_
 refine Z ?_
 exact hn1 _ _ _ _ (Option.some.inj h) ⟨rfl,rfl,congrArg (fun q=>AV.arr 1 q 0 q) (Dz (l:=o57) rfl v51 v61),rfl,trivial⟩ ⟨⟨rfl,rfl⟩,⟨rfl,rfl⟩,trivial⟩ trivial
 exact Y⟩
instance  : OK (Ac8) fun r=>As Tryz.prog 67 [] (Ez r):=⟨fun {r} h=>by
 refine pw {T:=B8,an:=(fun _=>.ask),nl:=(fun s=>bif Nat.beq s 1 then [(1,2)] else [])} Tryz.func67 ?_
 exact Y⟩
instance {a0 a1:Int}:OK (Yj a0 a1) fun r=>As Tryz.prog 28 [(O .i64) a0,(O .i64) a1] (F5 r):=⟨fun {r} h=>by
 refine pw {T:=B8,an:=(fun _=>.ask),nl:=(fun s=>bif Nat.beq s 21 then [(1,3)] else bif Nat.beq s 12 then [(0,2)] else [])} Tryz.func28 ?_
 refine ZS ?_
 refine Bt ?_
 refine ZS ?_
 refine Bt ?_
 refine ZO ?_
 refine Ar ?_
 refine Dh [.own 5 1 42 2] ?_
 refine Z ?_
 refine A6 h (fun (v10,o11)=>[(1,(O .i64 v10))]) (fun (v10,o11)=>[(1,.cells 42 [(O .i64 0),(.arr 2 o11.length 0 o11.length)]),(2,.rows 42 2 (G5 o11))]) ?_
 rintro ⟨v10,o11⟩ _ _ _ h _ _
 refine Z ?_
 refine Ao h (fun _ h=>?_) (fun _ h=>?_)
 exact Y
 replace h:=Ck h
 refine Fc (Fa rfl (Ar ?_))
 refine Dh [.fzc 5 1] ?_
 exact Y⟩
instance  : OK (Ac6) fun r=>As Tryz.prog 26 [] (Ev r):=⟨fun {r} h=>by
 refine pw {T:=B8,an:=(fun _=>.ask),nl:=(fun s=>bif Nat.beq s 24 then [(2,3)] else bif Nat.beq s 12 then [(2,3)] else bif Nat.beq s 11 then [(2,3)] else bif Nat.beq s 10 then [(1,3)] else bif Nat.beq s 6 then [(2,3)] else [])} Tryz.func26 ?_
 exact Y⟩
instance {a0:List Int}:OK (Je a0) fun r=>As Tryz.prog 202 [(Aw 1 (O .u32)) a0] ((Aw 1 (O .u32)) r):=⟨fun {r} h=>by
 refine pw {T:=B8,an:=(fun _=>.ask),nl:=(fun s=>bif Nat.beq s 2 then [(0,1)] else [])} Tryz.func202 ?_
 refine Z ?_
 refine A6 h (fun v2=>[(3,(O .i64 v2))]) (fun v2=>[]) ?_
 rintro v2 _ _ _ h _ _
 exact Y⟩
instance {a0:List Int}:OK (Sk a0) fun r=>As Tryz.prog 121 [(Aw 1 (O .u32)) a0] ((Aw 1 (O .u32)) r):=⟨fun {r} h=>by
 refine pw {T:=B8,an:=(fun s=>bif Nat.beq s 3 then .own else .ask),nl:=(fun s=>bif Nat.beq s 3 then [(0,1)] else bif Nat.beq s 2 then [(0,1)] else [])} Tryz.func121 ?_
 refine Z ?_
 refine A6 h (fun (v13,v14,o15)=>[(3,(.arr 0 o15.length 0 o15.length)),(4,(O .u64 v13)),(5,(O .i64 v14))]) (fun (v13,v14,o15)=>[(0,.rows 106 1 (List.map (O .u32) o15))]) ?_
 rintro ⟨v13,v14,o15⟩ _ _ _ h _ _
 refine Z ?_
 refine Ao h (fun _ h=>?_) (fun _ h=>?_)
 exact Y
 replace h:=Ck h
 refine Z ?_
 refine Ao h (fun _ h=>?_) (fun _ h=>?_)
 refine Z ?_
 refine Kh h (fun _ h=>?_)
 refine ZO ?_
 refine Ar ?_
 refine Dh [.fz 3] ?_
 exact Y
 refine K9 (Ar ?_)
 refine Dh [.fz 3] ?_
 exact Y⟩
instance {a0 a1:List Int}:OK (Ve a0 a1) fun r=>As Tryz.prog 204 [(Aw 1 (O .u32)) a0,(Aw 1 (O .u32)) a1] ((O .u64) r):=⟨fun {r} h=>by
 refine pw C0 Tryz.func204 ?_
 exact Y⟩
instance {a0:Int}:OK (Lc a0) fun r=>As Tryz.prog 66 [(O .u64) a0] ((Aw 1 (O .u32)) r):=⟨fun {r} h=>by
 refine pw {T:=B8,an:=(fun s=>bif Nat.beq s 3 then .own else .ask),nl:=(fun s=>bif Nat.beq s 3 then [(0,1)] else bif Nat.beq s 2 then [(0,1)] else [])} Tryz.func66 ?_
 refine Z ?_
 refine A6 h (fun (v10,o11)=>[(0,(O .u64 v10)),(3,(.arr 0 o11.length 0 o11.length))]) (fun (v10,o11)=>[(0,.rows 106 1 (List.map (O .u32) o11))]) ?_
 rintro ⟨v10,o11⟩ _ _ _ h _ _
 exact Y⟩
instance {a0 a1:List Int}:OK (Oj a0 a1) fun r=>As Tryz.prog 200 [(Aw 1 (O .u32)) a0,(Aw 1 (O .u32)) a1] ((O .i64) r):=⟨fun {r} h=>by
 refine pw C0 Tryz.func200 ?_
 refine Z ?_
 refine Ao h (fun _ h=>?_) (fun _ h=>?_)
 exact Y
 refine Z ?_
 refine A6 h (fun v5=>[(4,(O .i64 0)),(5,(O .i64 v5))]) (fun v5=>[]) ?_
 rintro v5 _ _ _ h _ _
 exact Y⟩
instance {a0 a1:List Int}:OK (Jd a0 a1) fun r=>As Tryz.prog 192 [(Aw 1 (O .u32)) a0,(Aw 1 (O .u32)) a1] ((Aw 1 (O .u32)) r):=⟨fun {r} h=>by
 refine pw {T:=B8,an:=(fun _=>.ask),nl:=(fun s=>bif Nat.beq s 4 then [(0,1)] else [])} Tryz.func192 ?_
 refine Z ?_
 refine Gx h (fun o1 h=>?_)
 refine Z ?_
 refine Hj h (fun (v25,o26)=>[(6,(O .i64 v25))]) (fun (v25,o26)=>[(0,.rows 106 1 (List.map (O .u32) o26))]) (fun (v25,o26)=>o1.length=o26.length) ?_
 rintro ⟨v25,o26⟩ _ _ _ h _ _ q26
 refine Z ?_
 refine Ao h (fun _ h=>?_) (fun _ h=>?_)
 refine Z ?_
 refine Hj h (fun (v35,v36,o37)=>[(7,(O .u64 v35)),(8,(O .i64 v36))]) (fun (v35,v36,o37)=>[(0,.rows 106 1 (List.map (O .u32) o37))]) (fun (v35,v36,o37)=>o1.length=o37.length) ?_
 rintro ⟨v35,v36,o37⟩ _ _ _ h _ _ q37
 refine Ar (Ar ?_)
 refine Bu h (fun v38=>[(29,(An v38))]) (fun v38=>[]) ?_ ?_
 intro _ h _ _ _
 exact Y
 rintro v38 _ h
 refine Ao h (fun _ h=>?_) (fun _ h=>?_)
 refine Z ?_
 refine Hi h (fun _ _ _ _ h=>?_)
 refine ZS ?_
 refine Bt ?_
 refine ZO ?_
 refine Bu h (fun v42=>[(7,(O .u64 v42))]) (fun v42=>[]) ?_ ?_
 intro _ h _ _ _
 exact Y
 rintro v42 _ h
 exact Y
 exact Y
 replace h:=Ck h
 refine Fc (Fa rfl (Ar ?_))
 refine Dh [.fz 5] ?_
 exact Y⟩
instance {a0:List Int} {a1:Int}:OK (Vd a0 a1) fun r=>As Tryz.prog 203 [(Aw 1 (O .u32)) a0,(O .u64) a1] (.tup [(Aw 1 (O .u32)) r.1,(O .u64) r.2]):=⟨fun {r} h=>by
 refine pw {T:=B8,an:=(fun _=>.ask),nl:=(fun s=>bif Nat.beq s 4 then [(0,1)] else [])} Tryz.func203 ?_
 refine Z ?_
 refine Gx h (fun o1 h=>?_)
 refine Z ?_
 refine Hj h (fun (v7,v8,o9)=>[(7,(O .u64 v7)),(8,(O .i64 v8))]) (fun (v7,v8,o9)=>[(0,.rows 106 1 (List.map (O .u32) o9))]) (fun (v7,v8,o9)=>o1.length=o9.length) ?_
 rintro ⟨v7,v8,o9⟩ _ _ _ h _ _ q9
 refine Z ?_
 refine Ao h (fun _ h=>?_) (fun _ h=>?_)
 exact Y
 replace h:=Ck h
 refine Fc (Fa rfl (Ar ?_))
 refine Dh [.fz 6] ?_
 exact Y⟩
instance {a0 a1:List Int}:OK (Ok a0 a1) fun r=>As Tryz.prog 201 [(Aw 1 (O .u32)) a0,(Aw 1 (O .u32)) a1] ((Aw 1 (O .u32)) r):=⟨fun {r} h=>by
 refine pw {T:=B8,an:=(fun _=>.ask),nl:=(fun s=>bif Nat.beq s 4 then [(0,1)] else [])} Tryz.func201 ?_
 refine Z ?_
 refine Gx h (fun o1 h=>?_)
 refine Z ?_
 refine Hj h (fun (v10,v11,o12)=>[(6,(O .u32 v10)),(7,(O .i64 v11))]) (fun (v10,v11,o12)=>[(0,.rows 106 1 (List.map (O .u32) o12))]) (fun (v10,v11,o12)=>o1.length=o12.length) ?_
 rintro ⟨v10,v11,o12⟩ _ _ _ h _ _ q12
 refine Z ?_
 refine Ao h (fun _ h=>?_) (fun _ h=>?_)
 refine ZS ?_
 refine Bt ?_
 refine ZS ?_
 refine Bt ?_
 refine ZO ?_
 refine Bu h (fun v14=>[(8,(O .u32 v14))]) (fun v14=>[]) ?_ ?_
 intro _ h _ _ _
 exact Y
 rintro v14 _ h
 exact Y
 replace h:=Ck h
 refine Fc (Fa rfl (Ar ?_))
 refine Dh [.fz 5] ?_
 exact Y⟩
instance {a0 a1:List Int}:OK (Qd a0 a1) fun r=>As Tryz.prog 123 [(Aw 1 (O .u32)) a0,(Aw 1 (O .u32)) a1] (.tup [(Aw 1 (O .u32)) r.1,(Aw 1 (O .u32)) r.2]):=⟨fun {r} h=>by
 refine pw {T:=B8,an:=(fun s=>bif Nat.beq s 50 then .frz 0 else bif Nat.beq s 47 then .own else .ask),nl:=(fun s=>bif Nat.beq s 9 then [(0,1)] else bif Nat.beq s 5 then [(0,1)] else bif Nat.beq s 4 then [(0,1)] else [])} Tryz.func123 ?_
 refine Z ?_
 refine Bl h (fun _ h=>?_)
 refine Z ?_
 refine Ao h (fun _ h=>?_) (fun _ h=>?_)
 exact Y
 refine Z ?_
 refine Ao h (fun _ h=>?_) (fun _ h=>?_)
 exact Y
 refine Z ?_
 refine Gx h (fun o6 h=>?_)
 refine Z ?_
 refine Hj h (fun (v33,v34,o35)=>[(9,(.sl 1 (List.map (O .u32) v33))),(10,(O .i64 v34))]) (fun (v33,v34,o35)=>[(0,.rows 106 1 (List.map (O .u32) o35))]) (fun (v33,v34,o35)=>o6.length=o35.length) ?_
 rintro ⟨v33,v34,o35⟩ _ _ _ h _ _ q35
 refine Z ?_
 refine Ao h (fun _ h=>?_) (fun _ h=>?_)
 refine Z ?_
 refine Cg h (fun _ _ _ _ h=>?_)
 refine Z ?_
 refine Kh h (fun o38 h=>?_)
 refine Z ?_
 refine Ee h (fun v39 hcv39 h=>?_)
 refine Ahd.mk _ (OK.ok hcv39 :) rfl ?_
 refine Z ?_
 refine Bl h (fun _ h=>?_)
 refine Z ?_
 refine A6 h (fun v44=>[(11,(O .u64 v44))]) (fun v44=>[]) ?_
 rintro v44 _ _ _ h _ _
 refine Z ?_
 refine Fx h (fun _ h=>?_) (fun _ h=>?_)
 refine Z ?_
 refine Bl h (fun _ h=>?_)
 refine Z ?_
 refine Bl h (fun _ h=>?_)
 refine Z ?_
 refine Bl h (fun _ h=>?_)
 refine Z ?_
 refine Ao h (fun _ h=>?_) (fun _ h=>?_)
 exact Y
 replace h:=Ck h
 refine Z ?_
 refine Bl h (fun _ h=>?_)
 refine Z ?_
 refine Bl h (fun _ h=>?_)
 refine Z ?_
 refine Bl h (fun _ h=>?_)
 refine Z ?_
 refine A6 h (fun (v54,v55)=>[(9,(.sl 1 (List.map (O .u32) v54))),(11,(O .u64 v55))]) (fun (v54,v55)=>[]) ?_
 rintro ⟨v54,v55⟩ _ _ _ h _ _
 exact Y
 replace h:=Ck h
 refine Z ?_
 refine Bl h (fun _ h=>?_)
 refine Z ?_
 refine Bl h (fun _ h=>?_)
 refine Z ?_
 refine Bl h (fun _ h=>?_)
 refine Z ?_
 refine A6 h (fun (v54,v55)=>[(9,(.sl 1 (List.map (O .u32) v54))),(11,(O .u64 v55))]) (fun (v54,v55)=>[]) ?_
 rintro ⟨v54,v55⟩ _ _ _ h _ _
 exact Y
 replace h:=Ck h
 refine Fc (Fa rfl (Ar ?_))
 refine Dh [.fz 8] ?_
 exact Y⟩
instance {a0 a1:List Int}:OK (Uz a0 a1) fun r=>As Tryz.prog 122 [(Aw 1 (O .u32)) a0,(Aw 1 (O .u32)) a1] ((Aw 1 (O .u32)) r):=⟨fun {r} h=>by
 refine pw {T:=B8,an:=(fun _=>.ask),nl:=(fun s=>bif Nat.beq s 4 then [(0,1)] else [])} Tryz.func122 ?_
 refine Z ?_
 refine A6 h (fun (v2,v3)=>[(0,(.sl 1 (List.map (O .u32) v2))),(1,(.sl 1 (List.map (O .u32) v3)))]) (fun (v2,v3)=>[]) ?_
 rintro ⟨v2,v3⟩ _ _ _ h _ _
 exact Y⟩
instance {a0:Bool} {a1 a2:List Int}:OK (H9 a0 a1 a2) fun r=>As Tryz.prog 65 [An a0,(Aw 1 (O .u32)) a1,(Aw 1 (O .u32)) a2] (Cr r):=⟨fun {r} h=>by
 refine pw {T:=B8,an:=(fun _=>.ask),nl:=(fun s=>bif Nat.beq s 21 then [(1,1)] else [])} Tryz.func65 ?_
 refine Z ?_
 refine Bl h (fun _ h=>?_)
 refine Z ?_
 refine Bl h (fun _ h=>?_)
 refine ZO ?_
 refine Ar (Ar ?_)
 refine Bu h (fun v4=>[(19,(An v4))]) (fun v4=>[]) ?_ ?_
 intro _ h _ _ _
 exact Y
 rintro v4 _ h
 refine Ao h (fun _ h=>?_) (fun _ h=>?_)
 exact Y
 refine Z ?_
 refine Bl h (fun _ h=>?_)
 refine ZO ?_
 refine Ar (Ar ?_)
 refine Bu h (fun v7=>[(33,(An v7))]) (fun v7=>[]) ?_ ?_
 intro _ h _ _ _
 exact Y
 rintro v7 _ h
 exact Y⟩
instance {a0:Aq}:OK (Jb a0) fun r=>As Tryz.prog 83 [Cr a0] (Cr r):=⟨fun {r} h=>by
 refine pw C0 Tryz.func83 ?_
 exact Y⟩
instance {a0:Aq}:OK (Gq a0) fun r=>As Tryz.prog 38 [Cr a0] ((O .i64) r):=⟨fun {r} h=>by
 refine pw C0 Tryz.func38 ?_
 exact Y⟩
instance {a0 a1:List Int}:OK (Vc a0 a1) fun r=>As Tryz.prog 199 [(Aw 1 (O .u32)) a0,(Aw 1 (O .u32)) a1] ((Aw 1 (O .u32)) r):=⟨fun {r} h=>by
 refine pw {T:=B8,an:=(fun s=>bif Nat.beq s 5 then .own else .ask),nl:=(fun s=>bif Nat.beq s 5 then [(0,1)] else bif Nat.beq s 4 then [(0,1)] else [])} Tryz.func199 ?_
 refine Z ?_
 refine A6 h (fun (v21,v22,o23)=>[(5,(.arr 0 o23.length 0 o23.length)),(6,(O .u32 v21)),(7,(O .i64 v22))]) (fun (v21,v22,o23)=>[(0,.rows 106 1 (List.map (O .u32) o23))]) ?_
 rintro ⟨v21,v22,o23⟩ _ _ _ h _ _
 refine Ar (Ar ?_)
 refine Bu h (fun v24=>[(22,(An v24))]) (fun v24=>[]) ?_ ?_
 intro _ h _ _ _
 exact Y
 rintro v24 _ h
 refine Ao h (fun _ h=>?_) (fun _ h=>?_)
 refine ZS ?_
 refine Bt ?_
 refine ZS ?_
 refine Bt ?_
 refine ZO ?_
 refine Bu h (fun v26=>[(8,(O .u32 v26))]) (fun v26=>[]) ?_ ?_
 intro _ h _ _ _
 exact Y
 rintro v26 _ h
 refine ZS ?_
 refine Bt ?_
 refine ZO ?_
 refine Bu h (fun v28=>[(8,(O .u32 v28))]) (fun v28=>[]) ?_ ?_
 intro _ h _ _ _
 exact Y
 rintro v28 _ h
 exact Y
 exact Y⟩
instance {a0 a1:Aq}:OK (Kd a0 a1) fun r=>As Tryz.prog 120 [Cr a0,Cr a1] (Cr r):=⟨fun {r} h=>by
 refine pw C0 Tryz.func120 ?_
 exact Y⟩
instance {a0:Aq}:OK (U2 a0) fun r=>As Tryz.prog 127 [Cr a0] (Cr r):=⟨fun {r} h=>by
 refine pw C0 Tryz.func127 ?_
 exact Y⟩
instance {a0 a1:Aq}:OK (P8 a0 a1) fun r=>As Tryz.prog 71 [Cr a0,Cr a1] (Cr r):=⟨fun {r} h=>by
 refine pw C0 Tryz.func71 ?_
 exact Y⟩
instance {a0 a1:Aq}:OK (Ly a0 a1) fun r=>As Tryz.prog 30 [Cr a0,Cr a1] ((O .i64) r):=⟨fun {r} h=>by
 refine pw C0 Tryz.func30 ?_
 exact Y⟩
instance {a0:Int}:OK (Ft a0) fun r=>As Tryz.prog 27 [(O .i64) a0] (Cr r):=⟨fun {r} h=>by
 refine pw C0 Tryz.func27 ?_
 exact Y⟩
instance  : OK (Yh) fun r=>As Tryz.prog 5 [] (An r):=⟨fun {r} h=>by
 refine pw {T:=B8,an:=(fun _=>.ask),nl:=(fun s=>bif Nat.beq s 37 then [(3,3),(4,3)] else bif Nat.beq s 18 then [(3,3),(4,3)] else bif Nat.beq s 12 then [(3,3),(4,3)] else [])} Tryz.func5 ?_
 exact Y⟩
instance {a0:Bool}:OK (So a0) fun r=>As Tryz.prog 151 [An a0] ((O .i64) r):=⟨fun {r} h=>by
 refine pw C0 Tryz.func151 ?_
 exact Y⟩
abbrev Ajt (k:Nat):Prop:=∀{a0 a1:A9},OK (N6 k a0 a1) fun r=>As Tryz.prog 91 [Ez a0,Ez a1] ((O .i64) r)
abbrev Aju (k:Nat):Prop:=∀{a0 a1:List A9},OK (Va k a0 a1) fun r=>As Tryz.prog 152 [(Gd 2 G5) a0,(Gd 2 G5) a1] ((O .i64) r)
theorem Ajv (k:Nat):Ajt k/\Aju k:=by
 induction k with
 | zero=>exact ⟨okz,okz⟩
 | succ k ih=>
  obtain ⟨i0_,i1_⟩:=ih
  refine ⟨@fun a0 a1=>⟨fun {r} h=>?_⟩,@fun a0 a1=>⟨fun {r} h=>?_⟩⟩
  .unfold N6 at h
   refine pw C0 Tryz.func91 ?_
   exact Y
  .unfold Va at h
   refine pw C0 Tryz.func152 ?_
   refine Z ?_
   refine Ao h (fun _ h=>?_) (fun _ h=>?_)
   exact Y
   refine Z ?_
   refine A6 h (fun v5=>[(4,(O .i64 0)),(20,(O .i64 v5))]) (fun v5=>[]) ?_
   rintro v5 _ _ _ h _ _
   exact Y
instance {k:Nat}:Ajt k:=(Ajv k).1
instance {k:Nat}:Aju k:=(Ajv k).2
instance {a0:Bool}:OK (Qh a0) fun r=>As Tryz.prog 153 [An a0] ((O .i64) r):=⟨fun {r} h=>by
 refine pw C0 Tryz.func153 ?_
 exact Y⟩
instance {a0 a1:Ce}:OK (Jv a0 a1) fun r=>As Tryz.prog 92 [G6 a0,G6 a1] ((O .i64) r):=⟨fun {r} h=>by
 refine pw C0 Tryz.func92 ?_
 refine Z ?_
 refine Ao h (fun _ h=>?_) (fun _ h=>?_)
 exact Y
 refine Z ?_
 refine A6 h (fun v14=>[(4,(O .i64 0)),(24,(O .i64 v14))]) (fun v14=>[]) ?_
 rintro v14 _ _ _ h _ _
 exact Y⟩
instance {a0:Bool}:OK (Qc a0) fun r=>As Tryz.prog 90 [An a0] ((O .i64) r):=⟨fun {r} h=>by
 refine pw C0 Tryz.func90 ?_
 exact Y⟩
end Go.Ab
