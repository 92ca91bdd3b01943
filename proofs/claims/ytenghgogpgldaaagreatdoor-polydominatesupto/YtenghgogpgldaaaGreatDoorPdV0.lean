/- The contracts of the functions, each by its walk (made by a program). -/
import Derived.Test.YtenghgogpgldaaaGreatDoorPdHand
import Derived.Test.YtenghgogpgldaaaGreatDoorPdDef
namespace Go.Ab
open Go Go.Proofs
set_option maxRecDepth 10000
set_option maxHeartbeats 4000000
set_option linter.unusedVariables false
instance {a0 a1:List Int}:OK (V3 a0 a1) fun r=>Aq Tryz.prog 51 [(Ar 1 (O .u32)) a0,(Ar 1 (O .u32)) a1] (Al r):=⟨fun {r} h=>by
 refine pw C0 Tryz.func51 ?_
 refine Z ?_
 refine Ao h (fun _ h=>?_) (fun _ h=>?_)
 exact Y
 refine Z ?_
 refine A0 h (fun v3=>[(4,(Al false)),(13,(O .i64 v3))]) (fun v3=>[]) ?_
 rintro v3 _ _ _ h _ _
 exact Y⟩
instance {a0 a1:A5}:OK (Aab a0 a1) fun r=>Aq Tryz.prog 21 [C9 a0,C9 a1] (Al r):=⟨fun {r} h=>by
 refine pw C0 Tryz.func21 ?_
 exact Y⟩
instance {a0:Int}:OK (P7 a0) fun r=>Aq Tryz.prog 158 [(O .i64) a0] (Al r):=⟨fun {r} h=>by
 refine pw C0 Tryz.func158 ?_
 exact Y⟩
instance {a0:Int}:OK (S3 a0) fun r=>Aq Tryz.prog 159 [(O .i64) a0] (Al r):=⟨fun {r} h=>by
 refine pw C0 Tryz.func159 ?_
 exact Y⟩
instance {a0:Cu}:OK (Lc a0) fun r=>Aq Tryz.prog 89 [Gk a0] (Al r):=⟨fun {r} h=>by
 refine pw C0 Tryz.func89 ?_
 refine ZS ?_
 refine Bp ?_
 refine ZO ?_
 refine Ay (Ay ?_)
 refine Bj h (fun v3=>[(14,(Al v3))]) (fun v3=>[]) ?_ ?_
 intro _ h _ _ _
 exact Y
 rintro v3 _ h
 refine Ao h (fun _ h=>?_) (fun _ h=>?_)
 exact Y
 refine Z ?_
 refine A0 h (fun v8=>[(2,(Al false)),(18,(O .i64 v8))]) (fun v8=>[]) ?_
 rintro v8 _ _ _ h _ _
 exact Y⟩
instance {a0:List Ax}:OK (Aan a0) fun r=>Aq Tryz.prog 136 [Ox (Hk.mk a0 [] [] [])] (Al r):=⟨fun {r} h=>by
 refine pw C0 Tryz.func136 ?_
 refine Z ?_
 refine F2 h (fun _ h=>?_)
 refine Z ?_
 refine A0 h (fun _=>[(2,(Al false)),(20,(O .i64 0))]) (fun _=>[]) ?_
 rintro _ _ _ _ h _ _
 replace h:=Ce h
 refine Z ?_
 refine A0 h (fun _=>[(2,(Al false)),(40,(O .i64 0))]) (fun _=>[]) ?_
 rintro _ _ _ _ h _ _
 exact Y⟩
instance {a0:List Ax}:OK (Aal a0) fun r=>Aq Tryz.prog 134 [Ox (Hk.mk a0 [] [] [])] (Al r):=⟨fun {r} h=>by
 refine pw C0 Tryz.func134 ?_
 refine Z ?_
 refine A0 h (fun _=>[(2,(Al false)),(4,(Al false)),(21,(O .i64 0))]) (fun _=>[]) ?_
 rintro _ _ _ _ h _ _
 exact Y⟩
instance {a0:Int}:OK (Tj a0) fun r=>Aq Tryz.prog 308 [(O .u8) a0] (Al r):=⟨fun {r} h=>by
 refine pw C0 Tryz.func308 ?_
 exact Y⟩
instance {a0:ByteArray}:OK (Tq a0) fun r=>Aq Tryz.prog 350 [C7 a0] (Al r):=⟨fun {r} h=>by
 refine pw C0 Tryz.func350 ?_
 exact Y⟩
instance {a0:Int}:OK (Mr a0) fun r=>Aq Tryz.prog 351 [(O .u8) a0] (Al r):=⟨fun {r} h=>by
 refine pw C0 Tryz.func351 ?_
 exact Y⟩
instance {a0:Int}:OK (Qp a0) fun r=>Aq Tryz.prog 346 [(O .u8) a0] (Al r):=⟨fun {r} h=>by
 refine pw C0 Tryz.func346 ?_
 exact Y⟩
instance {a0:Int}:OK (Oq a0) fun r=>Aq Tryz.prog 347 [(O .u8) a0] (Al r):=⟨fun {r} h=>by
 refine pw C0 Tryz.func347 ?_
 exact Y⟩
instance {a0:Int}:OK (Qq a0) fun r=>Aq Tryz.prog 349 [(O .u8) a0] (Al r):=⟨fun {r} h=>by
 refine pw C0 Tryz.func349 ?_
 exact Y⟩
instance {a0:ByteArray}:OK (Tp a0) fun r=>Aq Tryz.prog 348 [C7 a0,(.fn 349 [])] (C7 r):=⟨fun {r} h=>by
 refine pw C0 Tryz.func348 ?_
 refine Z ?_
 refine A0 h (fun v3=>[(5,(O .i64 v3))]) (fun v3=>[]) ?_
 rintro v3 _ _ _ h _ _
 exact Y⟩
instance {a0:ByteArray}:OK (Wu a0) fun r=>Aq Tryz.prog 348 [C7 a0,(.fn 351 [])] (C7 r):=⟨fun {r} h=>by
 refine pw C0 Tryz.func348 ?_
 refine Z ?_
 refine A0 h (fun v3=>[(5,(O .i64 v3))]) (fun v3=>[]) ?_
 rintro v3 _ _ _ h _ _
 exact Y⟩
instance {a0:ByteArray}:OK (Tt a0) fun r=>Aq Tryz.prog 353 [C7 a0] (C7 r):=⟨fun {r} h=>by
 refine pw C0 Tryz.func353 ?_
 refine ZS ?_
 refine Bp ?_
 refine ZS ?_
 refine Bp ?_
 refine ZO ?_
 refine Wz (fun (x:Unit)=>(.inr x)) h (fun _=>[(2,(C7 (ByteArray.mk #[])))]) (fun _=>[]) ?_ ?_
 intro _ h _ _ _
 exact Y
 rintro _ _ h
 exact Y⟩
instance {a0:ByteArray}:OK (Ts a0) fun r=>Aq Tryz.prog 352 [C7 a0] (Al r):=⟨fun {r} h=>by
 refine pw C0 Tryz.func352 ?_
 refine Z ?_
 refine A0 h (fun (v2,v3)=>[(2,(Al false)),(3,(O .i64 v2)),(7,(O .i64 v3))]) (fun (v2,v3)=>[]) ?_
 rintro ⟨v2,v3⟩ _ _ _ h _ _
 exact Y⟩
instance {a0:ByteArray} {a1:Int}:OK (Tk a0 a1) fun r=>Aq Tryz.prog 309 [C7 a0,(O .i64) a1] (.tup [Wt r.1,(O .i64) r.2]):=⟨fun {r} h=>by
 refine pw C0 Tryz.func309 ?_
 refine Z ?_
 refine Jt h (fun _ h=>?_)
 refine ZO ?_
 refine Ju (Ay ?_)
 refine Bj h (fun v6=>[(23,(Al v6))]) (fun v6=>[]) ?_ ?_
 intro _ h _ _ _
 exact Y
 rintro v6 _ h
 refine Ao h (fun _ h=>?_) (fun _ h=>?_)
 exact Y
 refine Z ?_
 refine Ba h (fun _ h=>?_)
 refine Z ?_
 refine Ao h (fun _ h=>?_) (fun _ h=>?_)
 refine Z ?_
 refine Z3 h (fun _ _ _ _ h=>?_)
 refine Z ?_
 refine Ba h (fun _ h=>?_)
 refine ZO ?_
 refine Ay (Ay ?_)
 refine Bj h (fun v14=>[(67,(Al v14))]) (fun v14=>[]) ?_ ?_
 intro _ h _ _ _
 exact Y
 rintro v14 _ h
 exact Y
 exact Y⟩
instance {a0:ByteArray}:OK (Wm a0) fun r=>Aq Tryz.prog 273 [C7 a0] (.tup [(Ar 3 Wt) r.1,(O .i64) r.2.1,(O .i64) r.2.2]):=⟨fun {r} h=>by
 refine pw {T:=Cb,an:=(fun s=>bif Nat.beq s 5 then .own else .ask),nl:=(fun s=>bif Nat.beq s 5 then [(0,3)] else bif Nat.beq s 2 then [(0,3)] else [])} Tryz.func273 ?_
 refine Z ?_
 refine Ao h (fun _ h=>?_) (fun _ h=>?_)
 exact Y
 refine Z ?_
 refine A0 h (fun (v26,o27)=>[(2,(.sl 3 (List.map Wt []))),(3,(O .i64 0)),(4,(O .i64 0)),(5,(.arr 0 o27.length 0 o27.length)),(6,(O .i64 v26))]) (fun (v26,o27)=>[(0,.rows 313 3 (List.map Wt o27))]) ?_
 rintro ⟨v26,o27⟩ _ _ _ h _ _
 refine Z ?_
 refine Ao h (fun _ h=>?_) (fun _ h=>?_)
 refine Z ?_
 refine Jt h (fun _ h=>?_)
 refine Z ?_
 refine Ba h (fun _ h=>?_)
 refine Z ?_
 refine Ao h (fun _ h=>?_) (fun _ h=>?_)
 exact Y
 refine Z ?_
 refine Jt h (fun _ h=>?_)
 refine Z ?_
 refine Ao h (fun _ h=>?_) (fun _ h=>?_)
 refine Z ?_
 refine A0 h (fun v32=>[(6,(O .i64 v32))]) (fun v32=>[]) ?_
 rintro v32 _ _ _ h _ _
 exact Y
 exact Y
 exact Y⟩
instance {a0:ByteArray}:OK (N7 a0) fun r=>Aq Tryz.prog 199 [C7 a0] (Al r):=⟨fun {r} h=>by
 refine pw C0 Tryz.func199 ?_
 exact Y⟩
abbrev Agb (k:Nat):Prop:=∀{a0:Ah} {a1:Int},OK (Oj k a0 a1) fun r=>Aq Tryz.prog 274 [C8 a0,(O .i64) a1] (Al r)
abbrev Agc (k:Nat):Prop:=∀{a0:Ah} {b0:Int},OK (Tl k a0 b0) fun r=>Cd Tryz.prog 310 [C8 a0,(.loc 0 0)] [.cells 3 [(O .i64 b0)]] (Al r) [.cells 3 [(O .i64 b0)]]
abbrev Agd (k:Nat):Prop:=∀{a0:List Ah} {b0:Int},OK (Qv k a0 b0) fun r=>Cd Tryz.prog 201 [(F0 3 Bd) a0,(.fn 310 [(.loc 0 0)])] [.cells 3 [(O .i64 b0)]] (Al r) [.cells 3 [(O .i64 b0)]]
abbrev Age (k:Nat):Prop:=∀{a0:List Ah} {b0:Int},OK (Wv k a0 b0) fun r=>Cd Tryz.prog 275 [(F0 3 Bd) a0,(.fn 310 [(.loc 0 0)])] [.cells 3 [(O .i64 b0)]] ((O .i64) r) [.cells 3 [(O .i64 b0)]]
theorem W0 (k:Nat):Agb k/\Agc k/\Agd k/\Age k:=by
 induction k with
 | zero=>exact ⟨okz,okz,okz,okz⟩
 | succ k ih=>
  obtain ⟨i0_,i1_,i2_,i3_⟩:=ih
  refine ⟨@fun a0 a1=>⟨fun {r} h=>?_⟩,@fun a0 b0=>⟨fun {r} h=>?_⟩,@fun a0 b0=>⟨fun {r} h=>?_⟩,@fun a0 b0=>⟨fun {r} h=>?_⟩⟩
  .unfold Oj at h
   refine pw C0 Tryz.func274 ?_
   refine Z ?_
   refine Fd h (fun _ h=>?_) (fun _ h=>?_)
   refine Z ?_
   refine Fd h (fun _ h=>?_) (fun _ h=>?_)
   exact Y
   refine Z ?_
   refine Bc [1] h (fun _ h=>?_)
   exact Y
   refine Z ?_
   refine Bc [1] h (fun _ h=>?_)
   exact Y
  .unfold Tl at h
   refine aw C0 true Tryz.func310 ?_
   exact Y
  .unfold Qv at h
   refine aw C0 true Tryz.func201 ?_
   refine Z ?_
   refine Bc [0] h (fun _ h=>?_)
   exact Y
  .unfold Wv at h
   refine aw C0 true Tryz.func275 ?_
   refine Z ?_
   refine A0 h (fun v3=>[(4,(O .i64 0)),(8,(O .i64 v3))]) (fun v3=>[]) ?_
   rintro v3 _ _ _ h _ _
   refine Z ?_
   refine Ao h (fun _ h=>?_) (fun _ h=>?_)
   refine Z ?_
   refine Bz h (fun _ _ _ _ h=>?_)
   refine Z ?_
   refine Bc [0] h (fun _ h=>?_)
   exact Y
   exact Y
instance {k:Nat}:Agb k:=(W0 k).1
instance {k:Nat}:Agc k:=(W0 k).2.1
instance {k:Nat}:Agd k:=(W0 k).2.2.1
instance {k:Nat}:Age k:=(W0 k).2.2.2
instance {a0:List Ax} {a1 a2:Int}:OK (Qh a0 a1 a2) fun r=>Aq Tryz.prog 271 [(Ar 3 B7) a0,(O .i64) a1,(O .i64) a2] ((Ar 1 Al) r):=⟨fun {r} h=>by
 refine pw {T:=Cb,an:=(fun _=>.ask),nl:=(fun s=>bif Nat.beq s 6 then [(0,1)] else [])} Tryz.func271 ?_
 refine ZS ?_
 refine Bp ?_
 refine ZO ?_
 refine Ay (Ay ?_)
 refine Bj h (fun v2=>[(34,(Al v2))]) (fun v2=>[]) ?_ ?_
 intro _ h _ _ _
 exact Y
 rintro v2 _ h
 refine Ao h (fun _ h=>?_) (fun _ h=>?_)
 exact Y
 refine Z ?_
 refine Bz h (fun _ _ _ _ h=>?_)
 refine Z ?_
 refine Bz h (fun _ _ _ _ h=>?_)
 refine Z ?_
 refine F2 h (fun o5 h=>?_)
 refine Z ?_
 refine F9 h (fun (v28,o29)=>[(49,(O .i64 v28))]) (fun (v28,o29)=>[(0,.rows 4 1 (List.map Al o29))]) (fun (v28,o29)=>o5.length=o29.length) ?_
 rintro ⟨v28,o29⟩ _ _ _ h _ _ q29
 refine Z ?_
 refine Ao h (fun _ h=>?_) (fun _ h=>?_)
 refine Z ?_
 refine Bz h (fun _ v30 _ _ h=>?_)
 refine ZO ?_
 refine Ay ?_
 refine Zx h (fun o3_ h hj3=>?_)
 refine P0 (fun (o36:(List Bool))=>o36=o3_/\o5.length=o36.length) (fun o36=>[]) (fun o36=>[(0,.rows 4 1 (List.map Al o36))]) (fun _=>rfl) ?_ ?_
 intro K3 hK3
 refine Z ?_
 refine Fd h (fun _ h=>?_) (fun _ h=>?_)
 refine Z ?_
 refine Fd h (fun _ h=>?_) (fun _ h=>?_)
 refine Z ?_
 refine Bz h (fun _ v32 _ _ h=>?_)
 refine Z ?_
 refine Km h (fun _ _ hiv33 _ h=>?_)
 refine Z ?_
 refine K6 (f:=Al) (x:=((v30.Args.length:Int)==v32.Vars)) (j:=v28) rfl rfl (Nat.zero_add _) hiv33 ?_
 refine Z ?_
 exact hK3 (Co o29 v28 ((v30.Args.length:Int)==v32.Vars)) _ _ _ ⟨(Option.some.inj h),E2 (l:=o29) q29 v28 ((v30.Args.length:Int)==v32.Vars)⟩ trivial ⟨⟨rfl,rfl⟩,⟨rfl,rfl⟩,trivial⟩
 refine Z ?_
 refine Km h (fun _ _ hiv34 _ h=>?_)
 refine Z ?_
 refine K6 (f:=Al) (x:=false) (j:=v28) rfl rfl (Nat.zero_add _) hiv34 ?_
 refine Z ?_
 exact hK3 (Co o29 v28 false) _ _ _ ⟨(Option.some.inj h),E2 (l:=o29) q29 v28 false⟩ trivial ⟨⟨rfl,rfl⟩,⟨rfl,rfl⟩,trivial⟩
 refine Z ?_
 refine Km h (fun _ _ hiv35 _ h=>?_)
 refine Z ?_
 refine K6 (f:=Al) (x:=false) (j:=v28) rfl rfl (Nat.zero_add _) hiv35 ?_
 refine Z ?_
 exact hK3 (Co o29 v28 false) _ _ _ ⟨(Option.some.inj h),E2 (l:=o29) q29 v28 false⟩ trivial ⟨⟨rfl,rfl⟩,⟨rfl,rfl⟩,trivial⟩
 rintro o36 u3 ⟨hJ3,q36⟩
 have h:=hj3 _ hJ3
 refine Z ?_
 refine F9 h (fun (v42,o43)=>[(80,(O .i64 v42))]) (fun (v42,o43)=>[(0,.rows 4 1 (List.map Al o43))]) (fun (v42,o43)=>o5.length=o43.length) ?_
 rintro ⟨v42,o43⟩ _ _ _ h _ _ q43
 exact Y
 exact Y⟩
abbrev Agf (k:Nat):Prop:=∀{a0:List Ah} {b1:Ew},OK (Qw k a0 b1) fun r=>Cd Tryz.prog 201 [(F0 3 Bd) a0,(.fn 209 [(.loc 0 0)])] [.cells 181 [(.loc 1 0)],.cells 183 [(.sl 3 (List.map B7 b1.data)),(O .i64 b1.vars),(O .i64 b1.left)]] (Al r.1) [.cells 181 [(.loc 1 0)],.cells 183 [(.sl 3 (List.map B7 r.2.data)),(O .i64 r.2.vars),(O .i64 r.2.left)]]
abbrev Agg (k:Nat):Prop:=∀{a0:List Ah} {b1:Ew},OK (Tx k a0 b1) fun r=>Cd Tryz.prog 275 [(F0 3 Bd) a0,(.fn 209 [(.loc 0 0)])] [.cells 181 [(.loc 1 0)],.cells 183 [(.sl 3 (List.map B7 b1.data)),(O .i64 b1.vars),(O .i64 b1.left)]] ((O .i64) r.1) [.cells 181 [(.loc 1 0)],.cells 183 [(.sl 3 (List.map B7 r.2.data)),(O .i64 r.2.vars),(O .i64 r.2.left)]]
abbrev Agh (k:Nat):Prop:=∀{a0:Ah} {b0:Ew},OK (Jx k a0 b0) fun r=>Cd Tryz.prog 139 [(.loc 0 0),C8 a0] [.cells 183 [(.sl 3 (List.map B7 b0.data)),(O .i64 b0.vars),(O .i64 b0.left)]] (Al r.1) [.cells 183 [(.sl 3 (List.map B7 r.2.data)),(O .i64 r.2.vars),(O .i64 r.2.left)]]
abbrev Agi (k:Nat):Prop:=∀{a0:Ah} {b1:Ew},OK (Ta k a0 b1) fun r=>Cd Tryz.prog 209 [C8 a0,(.loc 0 0)] [.cells 181 [(.loc 1 0)],.cells 183 [(.sl 3 (List.map B7 b1.data)),(O .i64 b1.vars),(O .i64 b1.left)]] (Al r.1) [.cells 181 [(.loc 1 0)],.cells 183 [(.sl 3 (List.map B7 r.2.data)),(O .i64 r.2.vars),(O .i64 r.2.left)]]
theorem W1 (k:Nat):Agf k/\Agg k/\Agh k/\Agi k:=by
 induction k with
 | zero=>exact ⟨okz,okz,okz,okz⟩
 | succ k ih=>
  obtain ⟨i0_,i1_,i2_,i3_⟩:=ih
  refine ⟨@fun a0 b1=>⟨fun {r} h=>?_⟩,@fun a0 b1=>⟨fun {r} h=>?_⟩,@fun a0 b0=>⟨fun {r} h=>?_⟩,@fun a0 b1=>⟨fun {r} h=>?_⟩⟩
  .unfold Qw at h
   refine aw C0 true Tryz.func201 ?_
   refine Z ?_
   refine Bc [0,1] h (fun _ h=>?_)
   exact Y
  .unfold Tx at h
   refine aw C0 true Tryz.func275 ?_
   refine Z ?_
   refine A0 h (fun (v3,v4,v5,v6)=>[(4,(O .i64 0)),(8,(O .i64 v3))]) (fun (v3,v4,v5,v6)=>[(1,.cells 183 [(.sl 3 (List.map B7 v4)),(O .i64 v5),(O .i64 v6)])]) ?_
   rintro ⟨v3,v4,v5,v6⟩ _ _ _ h _ _
   refine Z ?_
   refine Ao h (fun _ h=>?_) (fun _ h=>?_)
   refine Z ?_
   refine Bz h (fun _ _ _ _ h=>?_)
   refine Z ?_
   refine Bc [0,1] h (fun _ h=>?_)
   exact Y
   exact Y
  .unfold Jx at h
   refine aw C0 true Tryz.func139 ?_
   refine Z ?_
   refine Ao h (fun _ h=>?_) (fun _ h=>?_)
   exact Y
   refine ZS ?_
   refine Bp ?_
   refine ZS ?_
   refine Bp ?_
   refine ZO ?_
   refine Wz (fun (x:(Int×Int))=>(.inl x)) h (fun (v8,v9)=>[(4,(Al false)),(5,(O .i64 v8)),(6,(O .i64 v9))]) (fun (v8,v9)=>[]) ?_ ?_
   intro _ h _ _ _
   refine ZS ?_
   refine Bp ?_
   refine ZO ?_
   refine Bj h (fun v3=>[(21,(Al v3))]) (fun v3=>[]) ?_ ?_
   intro _ h _ _ _
   exact Y
   rintro v3 _ h
   refine Ao h (fun _ h=>?_) (fun _ h=>?_)
   exact Y
   refine Z ?_
   refine Ao h (fun _ h=>?_) (fun _ h=>?_)
   exact Y
   refine Z ?_
   refine Ao h (fun _ h=>?_) (fun _ h=>?_)
   refine Ay (Ay ?_)
   refine Bj h (fun v4=>[(53,(Al v4))]) (fun v4=>[]) ?_ ?_
   intro _ h _ _ _
   exact Y
   rintro v4 _ h
   exact Y
   refine Z ?_
   refine Ao h (fun _ h=>?_) (fun _ h=>?_)
   exact Y
   refine ZS ?_
   refine Bp ?_
   refine ZO ?_
   refine Bj h (fun v7=>[(74,(Al v7))]) (fun v7=>[]) ?_ ?_
   intro _ h _ _ _
   exact Y
   rintro v7 _ h
   exact Y
   rintro ⟨v8,v9⟩ _ h
   refine Ay (Ay ?_)
   refine Bj h (fun v10=>[(91,(Al v10))]) (fun v10=>[]) ?_ ?_
   intro _ h _ _ _
   exact Y
   rintro v10 _ h
   refine Ao h (fun _ h=>?_) (fun _ h=>?_)
   exact Y
   refine Ix (Ay (Ay ?_))
   refine Bj h (fun v11=>[(103,(Al v11))]) (fun v11=>[]) ?_ ?_
   intro _ h _ _ _
   exact Y
   rintro v11 _ h
   refine Ao h (fun _ h=>?_) (fun _ h=>?_)
   exact Y
   refine Z ?_
   refine Bc [1,0] h (fun _ h=>?_)
   exact Y
  .unfold Ta at h
   refine aw C0 true Tryz.func209 ?_
   refine Z ?_
   refine Bc [1] h (fun _ h=>?_)
   exact Y
instance {k:Nat}:Agf k:=(W1 k).1
instance {k:Nat}:Agg k:=(W1 k).2.1
instance {k:Nat}:Agh k:=(W1 k).2.2.1
instance {k:Nat}:Agi k:=(W1 k).2.2.2
instance {a0:List Ax} {a1:Ah} {a2:Int}:OK (Mb a0 a1 a2) fun r=>Aq Tryz.prog 78 [(Ar 3 B7) a0,C8 a1,(O .i64) a2] (Al r):=⟨fun {r} h=>by
 refine pw C0 Tryz.func78 ?_
 refine Z ?_
 refine Bc [1] h (fun _ h=>?_)
 exact Y⟩
instance {a0:List Ax} {a1 a2:Int}:OK (Mk a0 a1 a2) fun r=>Aq Tryz.prog 200 [(Ar 3 B7) a0,(O .i64) a1,(O .i64) a2] (Al r):=⟨fun {r} h=>by
 refine pw C0 Tryz.func200 ?_
 refine Z ?_
 refine Bz h (fun _ _ _ _ h=>?_)
 refine Z ?_
 refine Bz h (fun _ _ _ _ h=>?_)
 refine Z ?_
 refine Ao h (fun _ h=>?_) (fun _ h=>?_)
 exact Y
 refine Z ?_
 refine Ba h (fun _ h=>?_)
 refine Z ?_
 refine A0 h (fun v11=>[(6,(Al false)),(29,(O .i64 v11))]) (fun v11=>[]) ?_
 rintro v11 _ _ _ h _ _
 exact Y⟩
instance {a0:List Ax}:OK (Sv a0) fun r=>Aq Tryz.prog 132 [(Ar 3 B7) a0] (Al r):=⟨fun {r} h=>by
 refine pw C0 Tryz.func132 ?_
 refine Z ?_
 refine Ao h (fun _ h=>?_) (fun _ h=>?_)
 exact Y
 refine Z ?_
 refine A0 h (fun (v31,o32,o33)=>[(2,(Al false)),(15,(O .i64 v31))]) (fun (v31,o32,o33)=>[(0,.map (Bh Al o32)),(1,.map (Bh Al o33))]) ?_
 rintro ⟨v31,o32,o33⟩ _ _ _ h _ _
 refine Z ?_
 refine Ao h (fun _ h=>?_) (fun _ h=>?_)
 refine ZS ?_
 refine Bp ?_
 refine ZO ?_
 refine Ay (Ay ?_)
 refine Bj h (fun v41=>[(49,(Al v41))]) (fun v41=>[]) ?_ ?_
 intro _ h _ _ _
 refine Z ?_
 refine Bz h (fun _ _ _ _ h=>?_)
 refine Z ?_
 refine Ba h (fun _ h=>?_)
 refine Z ?_
 refine Fd h (fun _ h=>?_) (fun _ h=>?_)
 exact Y
 refine Z ?_
 refine Bz h (fun _ _ _ _ h=>?_)
 refine Z ?_
 refine Vr (f:=Al) (l:=o32) rfl (false:Bool) h (fun j_ hb h=>?_) (fun hb h=>?_)
 exact Y
 exact Y
 rintro v41 _ h
 refine Ao h (fun _ h=>?_) (fun _ h=>?_)
 exact Y
 refine Z ?_
 refine Bz h (fun _ _ _ _ h=>?_)
 refine Z ?_
 refine R4 (f:=Al) (l:=o32) (x:=true) rfl rfl ?_
 refine ZO ?_
 refine Ay (Ay ?_)
 refine Bj h (fun v45=>[(71,(Al v45))]) (fun v45=>[]) ?_ ?_
 intro _ h _ _ _
 exact Y
 rintro v45 _ h
 refine Ao h (fun _ h=>?_) (fun _ h=>?_)
 exact Y
 refine Z ?_
 refine Bz h (fun _ _ _ _ h=>?_)
 refine Z ?_
 refine A0 h (fun (v52,o53)=>[(2,(Al false)),(78,(O .i64 v52))]) (fun (v52,o53)=>[(1,.map (Bh Al o53))]) ?_
 rintro ⟨v52,o53⟩ _ _ _ h _ _
 refine Z ?_
 refine Ao h (fun _ h=>?_) (fun _ h=>?_)
 refine Z ?_
 refine Bz h (fun _ _ _ _ h=>?_)
 refine Z ?_
 refine Ba h (fun _ h=>?_)
 refine Z ?_
 refine Fd h (fun _ h=>?_) (fun _ h=>?_)
 exact Y
 refine Z ?_
 refine Vr (f:=Al) (l:=o53) rfl (false:Bool) h (fun j_ hb h=>?_) (fun hb h=>?_)
 refine Z ?_
 refine Fd h (fun _ h=>?_) (fun _ h=>?_)
 exact Y
 refine Z ?_
 refine Ba h (fun _ h=>?_)
 refine Z ?_
 refine Ao h (fun _ h=>?_) (fun _ h=>?_)
 exact Y
 refine Z ?_
 refine R4 (f:=Al) (l:=o53) (x:=true) rfl rfl ?_
 exact Y
 refine Z ?_
 refine Ba h (fun _ h=>?_)
 refine Z ?_
 refine Ao h (fun _ h=>?_) (fun _ h=>?_)
 exact Y
 refine Z ?_
 refine R4 (f:=Al) (l:=o53) (x:=true) rfl rfl ?_
 exact Y
 exact Y
 exact Y⟩
instance {a0:List Ax}:OK (Aap a0) fun r=>Aq Tryz.prog 138 [Ox (Hk.mk a0 [] [] [])] (Al r):=⟨fun {r} h=>by
 refine pw C0 Tryz.func138 ?_
 refine Z ?_
 refine F2 h (fun _ h=>?_)
 refine Z ?_
 refine A0 h (fun _=>[(2,(Al false)),(18,(O .i64 0))]) (fun _=>[]) ?_
 rintro _ _ _ _ h _ _
 replace h:=Ce h
 refine Z ?_
 refine A0 h (fun _=>[(2,(Al false)),(30,(O .i64 0))]) (fun _=>[]) ?_
 rintro _ _ _ _ h _ _
 exact Y⟩
instance {a0:List Ax}:OK (Aao a0) fun r=>Aq Tryz.prog 137 [Ox (Hk.mk a0 [] [] [])] (Al r):=⟨fun {r} h=>by
 refine pw C0 Tryz.func137 ?_
 refine Z ?_
 refine F2 h (fun _ h=>?_)
 refine Z ?_
 refine A0 h (fun _=>[(2,(Al false)),(17,(O .i64 0))]) (fun _=>[]) ?_
 rintro _ _ _ _ h _ _
 exact Y⟩
instance {a0:List Ax}:OK (Aam a0) fun r=>Aq Tryz.prog 135 [Ox (Hk.mk a0 [] [] [])] (Al r):=⟨fun {r} h=>by
 refine pw C0 Tryz.func135 ?_
 refine Z ?_
 refine F2 h (fun _ h=>?_)
 refine Z ?_
 refine A0 h (fun _=>[(2,(Al false)),(20,(O .i64 0))]) (fun _=>[]) ?_
 rintro _ _ _ _ h _ _
 replace h:=Ce h
 refine Z ?_
 refine A0 h (fun _=>[(2,(Al false)),(33,(O .i64 0))]) (fun _=>[]) ?_
 rintro _ _ _ _ h _ _
 exact Y⟩
instance {a0:Ah} {b0:Hk}:OK (Aav a0 b0) fun r=>Cd Tryz.prog 202 [C8 a0,(.loc 0 0)] [.cells 125 [(.sl 3 (List.map B7 b0.Data)),(.sl 7 (List.map Ov b0.Codes)),(.sl 3 (Bd b0.Vars)),(.sl 8 (List.map Ow b0.Exprs))]] (Al r) [.cells 125 [(.sl 3 (List.map B7 b0.Data)),(.sl 7 (List.map Ov b0.Codes)),(.sl 3 (Bd b0.Vars)),(.sl 8 (List.map Ow b0.Exprs))]]:=⟨fun {r} h=>by
 refine aw C0 true Tryz.func202 ?_
 exact Y⟩
instance {a0:List Ah} {b0:Hk}:OK (Aaz a0 b0) fun r=>Cd Tryz.prog 275 [(F0 3 Bd) a0,(.fn 202 [(.loc 0 0)])] [.cells 125 [(.sl 3 (List.map B7 b0.Data)),(.sl 7 (List.map Ov b0.Codes)),(.sl 3 (Bd b0.Vars)),(.sl 8 (List.map Ow b0.Exprs))]] ((O .i64) r) [.cells 125 [(.sl 3 (List.map B7 b0.Data)),(.sl 7 (List.map Ov b0.Codes)),(.sl 3 (Bd b0.Vars)),(.sl 8 (List.map Ow b0.Exprs))]]:=⟨fun {r} h=>by
 refine aw C0 true Tryz.func275 ?_
 refine Z ?_
 refine A0 h (fun v3=>[(4,(O .i64 0)),(8,(O .i64 v3))]) (fun v3=>[]) ?_
 rintro v3 _ _ _ h _ _
 refine Z ?_
 refine Ao h (fun _ h=>?_) (fun _ h=>?_)
 refine Z ?_
 refine Bz h (fun _ _ _ _ h=>?_)
 refine Z ?_
 refine Bc [0] h (fun _ h=>?_)
 exact Y
 exact Y⟩
instance {a0:List Ah} {b0:Hk}:OK (Aau a0 b0) fun r=>Cd Tryz.prog 201 [(F0 3 Bd) a0,(.fn 202 [(.loc 0 0)])] [.cells 125 [(.sl 3 (List.map B7 b0.Data)),(.sl 7 (List.map Ov b0.Codes)),(.sl 3 (Bd b0.Vars)),(.sl 8 (List.map Ow b0.Exprs))]] (Al r) [.cells 125 [(.sl 3 (List.map B7 b0.Data)),(.sl 7 (List.map Ov b0.Codes)),(.sl 3 (Bd b0.Vars)),(.sl 8 (List.map Ow b0.Exprs))]]:=⟨fun {r} h=>by
 refine aw C0 true Tryz.func201 ?_
 refine Z ?_
 refine Bc [0] h (fun _ h=>?_)
 exact Y⟩
instance {a0:List Ax}:OK (Aak a0) fun r=>Aq Tryz.prog 133 [Ox (Hk.mk a0 [] [] [])] (Al r):=⟨fun {r} h=>by
 refine pw C0 Tryz.func133 ?_
 refine Z ?_
 refine Bc [0] h (fun _ h=>?_)
 exact Y⟩
instance {a0:List Ax}:OK (Sl a0) fun r=>Aq Tryz.prog 77 [Ox (Hk.mk a0 [] [] [])] (Al r):=⟨fun {r} h=>by
 refine pw C0 Tryz.func77 ?_
 exact Y⟩
instance {a0:Int}:OK (S4 a0) fun r=>Aq Tryz.prog 167 [(O .i64) a0] (Al r):=⟨fun {r} h=>by
 refine pw C0 Tryz.func167 ?_
 exact Y⟩
instance {a0 a1:Int}:OK (I0 a0 a1) fun r=>Aq Tryz.prog 98 [(O .i64) a0,(O .i64) a1] ((O .i64) r):=⟨fun {r} h=>by
 refine pw C0 Tryz.func98 ?_
 exact Y⟩
instance {a0:List Int}:OK (Ki a0) fun r=>Aq Tryz.prog 101 [(Ar 1 (O .i64)) a0] ((O .i64) r):=⟨fun {r} h=>by
 refine pw C0 Tryz.func101 ?_
 refine Z ?_
 refine A0 h (fun v2=>[(2,(O .i64 0)),(8,(O .i64 v2))]) (fun v2=>[]) ?_
 rintro v2 _ _ _ h _ _
 exact Y⟩
instance {a0:Int}:OK (Wl a0) fun r=>Aq Tryz.prog 256 [(O .i64) a0] (Al r):=⟨fun {r} h=>by
 refine pw C0 Tryz.func256 ?_
 exact Y⟩
instance {a0 a1:Int}:OK (S7 a0 a1) fun r=>Aq Tryz.prog 171 [(O .i64) a0,(O .i64) a1] ((O .i64) r):=⟨fun {r} h=>by
 refine pw C0 Tryz.func171 ?_
 exact Y⟩
instance {a0 a1:Da}:OK (S6 a0 a1) fun r=>Aq Tryz.prog 170 [F1 a0,F1 a1] ((O .i64) r):=⟨fun {r} h=>by
 refine pw C0 Tryz.func170 ?_
 exact Y⟩
instance {a0 a1:List Da}:OK (Wb a0 a1) fun r=>Aq Tryz.prog 169 [(Ar 2 F1) a0,(Ar 2 F1) a1,(.fn 170 [])] ((O .i64) r):=⟨fun {r} h=>by
 refine pw C0 Tryz.func169 ?_
 refine Z ?_
 refine A0 h (fun v6=>[(6,(O .i64 0)),(13,(O .i64 v6))]) (fun v6=>[]) ?_
 rintro v6 _ _ _ h _ _
 exact Y⟩
instance {a0 a1:Cu}:OK (Jw a0 a1) fun r=>Aq Tryz.prog 105 [Gk a0,Gk a1] ((O .i64) r):=⟨fun {r} h=>by
 refine pw C0 Tryz.func105 ?_
 exact Y⟩
instance {a0 a1:B4}:OK (Sr a0 a1) fun r=>Aq Tryz.prog 104 [Ea a0,Ea a1] ((O .i64) r):=⟨fun {r} h=>by
 refine pw C0 Tryz.func104 ?_
 exact Y⟩
instance {a0 a1:List B4}:OK (V6 a0 a1) fun r=>Aq Tryz.prog 103 [(Ar 3 Ea) a0,(Ar 3 Ea) a1,(.fn 104 [])] ((O .i64) r):=⟨fun {r} h=>by
 refine pw C0 Tryz.func103 ?_
 refine Z ?_
 refine A0 h (fun v6=>[(6,(O .i64 0)),(13,(O .i64 v6))]) (fun v6=>[]) ?_
 rintro v6 _ _ _ h _ _
 exact Y⟩
abbrev Agj (k:Nat):Prop:=∀{a0 a1:A6},OK (Mc k a0 a1) fun r=>Aq Tryz.prog 102 [Ev a0,Ev a1] ((O .i64) r)
abbrev Agk (k:Nat):Prop:=∀{a0 a1:List A6},OK (S5 k a0 a1) fun r=>Aq Tryz.prog 168 [(F0 2 G4) a0,(F0 2 G4) a1,(.fn 102 [])] ((O .i64) r)
theorem Agl (k:Nat):Agj k/\Agk k:=by
 induction k with
 | zero=>exact ⟨okz,okz⟩
 | succ k ih=>
  obtain ⟨i0_,i1_⟩:=ih
  refine ⟨@fun a0 a1=>⟨fun {r} h=>?_⟩,@fun a0 a1=>⟨fun {r} h=>?_⟩⟩
  .unfold Mc at h
   refine pw C0 Tryz.func102 ?_
   exact Y
  .unfold S5 at h
   refine pw C0 Tryz.func168 ?_
   refine Z ?_
   refine A0 h (fun v6=>[(6,(O .i64 0)),(13,(O .i64 v6))]) (fun v6=>[]) ?_
   rintro v6 _ _ _ h _ _
   exact Y
instance {k:Nat}:Agj k:=(Agl k).1
instance {k:Nat}:Agk k:=(Agl k).2
instance {a0 a1:Ch}:OK (Sq a0 a1) fun r=>Aq Tryz.prog 100 [Eg a0,Eg a1] ((O .i64) r):=⟨fun {r} h=>by
 refine pw C0 Tryz.func100 ?_
 exact Y⟩
instance {a0 a1:List Ch}:OK (V5 a0 a1) fun r=>Aq Tryz.prog 99 [(Ar 3 Eg) a0,(Ar 3 Eg) a1,(.fn 100 [])] ((O .i64) r):=⟨fun {r} h=>by
 refine pw C0 Tryz.func99 ?_
 refine Z ?_
 refine A0 h (fun v6=>[(6,(O .i64 0)),(13,(O .i64 v6))]) (fun v6=>[]) ?_
 rintro v6 _ _ _ h _ _
 exact Y⟩
instance {a0 a1:Bb}:OK (L9 a0 a1) fun r=>Aq Tryz.prog 52 [E3 a0,E3 a1] ((O .i64) r):=⟨fun {r} h=>by
 refine pw C0 Tryz.func52 ?_
 exact Y⟩
instance {a0:Int}:OK (F8 a0) fun r=>Aq Tryz.prog 145 [(O .i64) a0] (C7 r):=⟨fun {r} h=>by
 exact Aou h⟩
instance {b1:List Int}:OK (Qx b1) fun r=>Cd Tryz.prog 213 [(.loc 0 0)] [.cells 187 [(.loc 0 0),(.arr 1 b1.length 0 b1.length)],.rows 5 1 (List.map (O .u8) b1)] (.tup []) [.cells 187 [(.loc 0 0),(.arr 1 b1.length 0 b1.length)],.rows 5 1 (List.map (O .u8) b1)]:=⟨fun {r} h=>by
 cases h
 exact Aoy _ _⟩
instance {a0:Int} {b1:List Int}:OK (Qi a0 b1) fun r=>Cd Tryz.prog 288 [(.loc 0 0),(O .u8) a0] [.cells 187 [(.loc 0 0),(.arr 1 b1.length 0 b1.length)],.rows 5 1 (List.map (O .u8) b1)] (.val .nilIface) [.cells 187 [(.loc 0 0),(.arr 1 r.length 0 r.length)],.rows 5 1 (List.map (O .u8) r)]:=⟨fun {r} h=>by
 refine aw C0 true Tryz.func288 ?_
 refine Z ?_
 refine Bc [0,1] h (fun _ h=>?_)
 exact Y⟩
instance {a0:ByteArray} {b1:List Int}:OK (E6 a0 b1) fun r=>Cd Tryz.prog 143 [(.loc 0 0),C7 a0] [.cells 187 [(.loc 0 0),(.arr 1 b1.length 0 b1.length)],.rows 5 1 (List.map (O .u8) b1)] (.tup [(O .i64) r.1,.val .nilIface]) [.cells 187 [(.loc 0 0),(.arr 1 r.2.length 0 r.2.length)],.rows 5 1 (List.map (O .u8) r.2)]:=⟨fun {r} h=>by
 refine aw C0 true Tryz.func143 ?_
 refine Z ?_
 refine Bc [0,1] h (fun _ h=>?_)
 exact Y⟩
abbrev Agm (k:Nat):Prop:=∀{a0:A6} {b1:List Int},OK (N8 k a0 b1) fun r=>Cd Tryz.prog 214 [(.loc 0 0),Ev a0] [.cells 187 [(.loc 0 0),(.arr 1 b1.length 0 b1.length)],.rows 5 1 (List.map (O .u8) b1)] (.tup []) [.cells 187 [(.loc 0 0),(.arr 1 r.length 0 r.length)],.rows 5 1 (List.map (O .u8) r)]
theorem Ao5 (k:Nat):Agm k:=by
 induction k with
 | zero=>exact okz
 | succ k ih=>
  refine @fun a0 b1=>⟨fun {r} h=>?_⟩
  .unfold N8 at h
   refine aw C0 true Tryz.func214 ?_
   refine Z ?_
   refine Ba h (fun _ h=>?_)
   refine Z ?_
   refine Bc [0,1] h (fun _ h=>?_)
   refine Z ?_
   refine Ao h (fun _ h=>?_) (fun _ h=>?_)
   refine Z ?_
   refine Bc [0,1] h (fun _ h=>?_)
   refine Z ?_
   refine A0 h (fun (v15,o16)=>[(20,(O .i64 v15))]) (fun (v15,o16)=>[(0,.cells 187 [(.loc 0 0),(.arr 1 o16.length 0 o16.length)]),(1,.rows 5 1 (List.map (O .u8) o16))]) ?_
   rintro ⟨v15,o16⟩ _ _ _ h _ _
   refine Z ?_
   refine Ao h (fun _ h=>?_) (fun _ h=>?_)
   refine Z ?_
   refine Bz h (fun _ _ _ _ h=>?_)
   refine Z ?_
   refine Bc [0,1] h (fun _ h=>?_)
   refine Z ?_
   refine Bc [0,1] h (fun _ h=>?_)
   exact Y
   replace h:=Ce h
   refine Z ?_
   refine Bc [0,1] h (fun _ h=>?_)
   exact Y
   exact Y
instance {k:Nat}:Agm k:=(Ao5 k)
instance {b1:List Int}:OK (I2 b1) fun r=>Cd Tryz.prog 147 [(.loc 0 0)] [.cells 187 [(.loc 0 0),(.arr 1 b1.length 0 b1.length)],.rows 5 1 (List.map (O .u8) b1)] (C7 r) [.cells 187 [(.loc 0 0),(.arr 1 b1.length 0 b1.length)],.dead]:=⟨fun {r} h=>by
 exact Af3 h⟩
instance {b1:List Int}:OK (Td b1) fun r=>Cd Tryz.prog 213 [(.loc 0 0)] [.cells 187 [(.val (.pointer none)),(.arr 1 b1.length 0 b1.length)],.rows 5 1 (List.map (O .u8) b1)] (.tup []) [.cells 187 [(.loc 0 0),(.arr 1 b1.length 0 b1.length)],.rows 5 1 (List.map (O .u8) b1)]:=⟨fun {r} h=>by
 cases h
 exact Aoz _ _⟩
instance {a0:ByteArray} {b1:List Int}:OK (Hj a0 b1) fun r=>Cd Tryz.prog 143 [(.loc 0 0),C7 a0] [.cells 187 [(.val (.pointer none)),(.arr 1 b1.length 0 b1.length)],.rows 5 1 (List.map (O .u8) b1)] (.tup [(O .i64) r.1,(.val .nilIface)]) [.cells 187 [(.loc 0 0),(.arr 1 r.2.length 0 r.2.length)],.rows 5 1 (List.map (O .u8) r.2)]:=⟨fun {r} h=>by
 refine aw C0 true Tryz.func143 ?_
 refine Z ?_
 refine Bc [0,1] h (fun _ h=>?_)
 exact Y⟩
instance {a0:Int} {a1:A6}:OK (Mj a0 a1) fun r=>Aq Tryz.prog 144 [(O .i64) a0,Ev a1] (C7 r):=⟨fun {r} h=>by
 refine pw C0 Tryz.func144 ?_
 refine ZS ?_
 refine Bp ?_
 refine ZS ?_
 refine Bp ?_
 refine ZO ?_
 refine Ay ?_
 refine D4 [.own 5 1 5 1] ?_
 refine Z ?_
 refine Ba h (fun _ h=>?_)
 refine Z ?_
 refine Ff h (fun h=>?_)
 refine Z ?_
 refine Ff h (fun h=>?_)
 refine Z ?_
 refine Bc [1,2] h (fun _ h=>?_)
 refine Z ?_
 refine Bc [1,2] h (fun _ h=>?_)
 refine Z ?_
 refine Bc [1,2] h (fun _ h=>?_)
 exact Y⟩
abbrev Agn (k:Nat):Prop:=∀{a0:Ah},OK (Oh k a0) fun r=>Aq Tryz.prog 265 [C8 a0] ((O .i64) r)
theorem Ao6 (k:Nat):Agn k:=by
 induction k with
 | zero=>exact okz
 | succ k ih=>
  refine @fun a0=>⟨fun {r} h=>?_⟩
  .unfold Oh at h
   refine pw C0 Tryz.func265 ?_
   refine Z ?_
   refine A0 h (fun (v5,v6)=>[(3,(O .i64 v5)),(9,(O .i64 v6))]) (fun (v5,v6)=>[]) ?_
   rintro ⟨v5,v6⟩ _ _ _ h _ _
   exact Y
instance {k:Nat}:Agn k:=(Ao6 k)
end Go.Ab
namespace Go.Ab
open Go Go.Proofs
set_option maxRecDepth 10000
set_option maxHeartbeats 4000000
set_option linter.unusedVariables false
abbrev Ago (k:Nat):Prop:=∀{a0:Ah} {a1:List Ah},OK (Mn k a0 a1) fun r=>Aq Tryz.prog 267 [C8 a0,(F0 3 Bd) a1] (C8 r)
theorem Ao7 (k:Nat):Ago k:=by
 induction k with
 | zero=>exact okz
 | succ k ih=>
  refine @fun a0 a1=>⟨fun {r} h=>?_⟩
  .unfold Mn at h
   refine pw {T:=Cb,an:=(fun _=>.ask),nl:=(fun s=>bif Nat.beq s 42 then [(0,3)] else [])} Tryz.func267 ?_
   refine ZS ?_
   refine Bp ?_
   refine ZO ?_
   refine Ay (Ay ?_)
   refine Bj h (fun v3=>[(22,(Al v3))]) (fun v3=>[]) ?_ ?_
   intro _ h _ _ _
   exact Y
   rintro v3 _ h
   refine Ao h (fun _ h=>?_) (fun _ h=>?_)
   exact Y
   refine ZS ?_
   refine Bp ?_
   refine ZO ?_
   refine Ay (Ay ?_)
   refine D4 [.own 5 2 25 3] ?_
   refine Z ?_
   refine A0 h (fun (v18,o19)=>[(37,(O .i64 v18))]) (fun (v18,o19)=>[(2,.cells 25 [(O .i64 a0.Kind),(O .i64 a0.Num),(.arr 3 o19.length 0 o19.length)]),(3,.rows 25 3 (Bd o19))]) ?_
   rintro ⟨v18,o19⟩ _ _ _ h _ _
   exact Y
instance {k:Nat}:Ago k:=(Ao7 k)
abbrev Agp (k:Nat):Prop:=∀{a0:Ah} {a1:List Int},OK (Oi k a0 a1) fun r=>Aq Tryz.prog 266 [C8 a0,(Ar 1 (O .i64)) a1] ((O .i64) r)
theorem Ao8 (k:Nat):Agp k:=by
 induction k with
 | zero=>exact okz
 | succ k ih=>
  refine @fun a0 a1=>⟨fun {r} h=>?_⟩
  .unfold Oi at h
   refine pw C0 Tryz.func266 ?_
   refine ZS ?_
   refine Bp ?_
   refine ZO ?_
   refine Ay (Ay ?_)
   refine Bj h (fun v2=>[(22,(Al v2))]) (fun v2=>[]) ?_ ?_
   intro _ h _ _ _
   exact Y
   rintro v2 _ h
   refine Ao h (fun _ h=>?_) (fun _ h=>?_)
   exact Y
   refine Z ?_
   refine A0 h (fun (v7,v8)=>[(5,(O .i64 v7)),(31,(O .i64 v8))]) (fun (v7,v8)=>[]) ?_
   rintro ⟨v7,v8⟩ _ _ _ h _ _
   exact Y
instance {k:Nat}:Agp k:=(Ao8 k)
instance {a0:List Ax} {a1:Ah} {a2:Int}:OK (Ww a0 a1 a2) fun r=>Aq Tryz.prog 193 [(Ar 3 B7) a0,C8 a1,(O .i64) a2] (.tup [(F0 3 Bd) r.1,Al r.2]):=⟨fun {r} h=>by
 refine pw {T:=Cb,an:=(fun s=>bif Nat.beq s 14 then .own else .ask),nl:=(fun s=>bif Nat.beq s 14 then [(0,3)] else bif Nat.beq s 6 then [(0,3)] else [])} Tryz.func193 ?_
 refine ZS ?_
 refine Bp ?_
 refine ZO ?_
 refine Ay (Ay ?_)
 refine Bj h (fun v2=>[(31,(Al v2))]) (fun v2=>[]) ?_ ?_
 intro _ h _ _ _
 exact Y
 rintro v2 _ h
 refine Ao h (fun _ h=>?_) (fun _ h=>?_)
 exact Y
 refine Z ?_
 refine Bz h (fun _ _ _ _ h=>?_)
 refine ZO ?_
 refine Ay (Ay ?_)
 refine Bj h (fun v5=>[(53,(Al v5))]) (fun v5=>[]) ?_ ?_
 intro _ h _ _ _
 exact Y
 rintro v5 _ h
 refine Ao h (fun _ h=>?_) (fun _ h=>?_)
 exact Y
 refine Z ?_
 refine F2 h (fun o6 h=>?_)
 refine Z ?_
 refine F9 h (fun (v12,o13)=>[(61,(O .i64 v12))]) (fun (v12,o13)=>[(2,.rows 3 1 (List.map (O .i64) o13))]) (fun (v12,o13)=>o6.length=o13.length) ?_
 rintro ⟨v12,o13⟩ _ _ _ h _ _ q13
 refine Z ?_
 refine Ao h (fun _ h=>?_) (fun _ h=>?_)
 exact Y
 replace h:=Ce h
 refine Z ?_
 refine Bz h (fun _ _ _ _ h=>?_)
 refine ZO ?_
 refine Ju ?_
 refine D4 [.fz 9] ?_
 refine Z ?_
 refine A0 h (fun v23=>[(6,(.sl 3 (Bd []))),(7,(Al false)),(79,(O .i64 v23))]) (fun v23=>[]) ?_
 rintro v23 _ _ _ h _ _
 refine Z ?_
 refine Ao h (fun _ h=>?_) (fun _ h=>?_)
 exact Y
 replace h:=Ce h
 refine Z ?_
 refine Bz h (fun _ _ _ _ h=>?_)
 refine Z ?_
 refine A0 h (fun (v41,o42)=>[(14,(.arr 3 o42.length 0 o42.length)),(95,(O .i64 v41))]) (fun (v41,o42)=>[(3,.rows 25 3 (Bd o42))]) ?_
 rintro ⟨v41,o42⟩ _ _ _ h _ _
 exact Y⟩
abbrev Agq (k:Nat):Prop:=∀{a0:Ah} {a1:A6} {b1:List (ByteArray×Int)} {b2:List (ByteArray×(List Dk))} {b0_0:List Ax} {b0_1:List Ah} {b0_2 b0_3:Int} {b0_4:List Ah},OK (Om k a0 a1 b1 b2 b0_0 b0_1 b0_2 b0_3 b0_4) fun r=>Cd Tryz.prog 315 [(.loc 0 0),C8 a0,Ev a1] [.cells 129 [(.sl 3 (List.map B7 b0_0)),(.sl 3 (Bd b0_1)),(O .i64 b0_2),(O .i64 b0_3),(.sl 3 (Bd b0_4)),(.mp 1),(.mp 2)],.map (Bh (O .i64) b1),.map (Bh (Ar 5 Eb) b2)] ((O .i64) r) [.cells 129 [(.sl 3 (List.map B7 b0_0)),(.sl 3 (Bd b0_1)),(O .i64 b0_2),(O .i64 b0_3),(.sl 3 (Bd b0_4)),(.mp 1),(.mp 2)],.map (Bh (O .i64) b1),.map (Bh (Ar 5 Eb) b2)]
abbrev Agr (k:Nat):Prop:=∀{a0:Ah} {a1:A6} {b1:List (ByteArray×Int)} {b2:List (ByteArray×(List Dk))} {b0_0:List Ax} {b0_1:List Ah} {b0_2 b0_3:Int} {b0_4:List Ah},OK (Mo k a0 a1 b1 b2 b0_0 b0_1 b0_2 b0_3 b0_4) fun r=>Cd Tryz.prog 286 [(.loc 0 0),C8 a0,Ev a1] [.cells 129 [(.sl 3 (List.map B7 b0_0)),(.sl 3 (Bd b0_1)),(O .i64 b0_2),(O .i64 b0_3),(.sl 3 (Bd b0_4)),(.mp 1),(.mp 2)],.map (Bh (O .i64) b1),.map (Bh (Ar 5 Eb) b2)] ((O .i64) r) [.cells 129 [(.sl 3 (List.map B7 b0_0)),(.sl 3 (Bd b0_1)),(O .i64 b0_2),(O .i64 b0_3),(.sl 3 (Bd b0_4)),(.mp 1),(.mp 2)],.map (Bh (O .i64) b1),.map (Bh (Ar 5 Eb) b2)]
abbrev Ags (k:Nat):Prop:=∀{a0:List Ah} {a1:List A6} {b1:List (ByteArray×Int)} {b2:List (ByteArray×(List Dk))} {b0_0:List Ax} {b0_1:List Ah} {b0_2 b0_3:Int} {b0_4:List Ah},OK (Ol k a0 a1 b1 b2 b0_0 b0_1 b0_2 b0_3 b0_4) fun r=>Cd Tryz.prog 314 [(.loc 0 0),(F0 3 Bd) a0,(F0 2 G4) a1] [.cells 129 [(.sl 3 (List.map B7 b0_0)),(.sl 3 (Bd b0_1)),(O .i64 b0_2),(O .i64 b0_3),(.sl 3 (Bd b0_4)),(.mp 1),(.mp 2)],.map (Bh (O .i64) b1),.map (Bh (Ar 5 Eb) b2)] ((O .i64) r) [.cells 129 [(.sl 3 (List.map B7 b0_0)),(.sl 3 (Bd b0_1)),(O .i64 b0_2),(O .i64 b0_3),(.sl 3 (Bd b0_4)),(.mp 1),(.mp 2)],.map (Bh (O .i64) b1),.map (Bh (Ar 5 Eb) b2)]
theorem Abe (k:Nat):Agq k/\Agr k/\Ags k:=by
 induction k with
 | zero=>exact ⟨okz,okz,okz⟩
 | succ k ih=>
  obtain ⟨i0_,i1_,i2_⟩:=ih
  refine ⟨@fun a0 a1 b1 b2 b0_0 b0_1 b0_2 b0_3 b0_4=>⟨fun {r} h=>?_⟩,@fun a0 a1 b1 b2 b0_0 b0_1 b0_2 b0_3 b0_4=>⟨fun {r} h=>?_⟩,@fun a0 a1 b1 b2 b0_0 b0_1 b0_2 b0_3 b0_4=>⟨fun {r} h=>?_⟩⟩
  .unfold Om at h
   refine aw {T:=Cb,an:=(fun s=>bif Nat.beq s 9 then .own else .ask),nl:=(fun s=>bif Nat.beq s 9 then [(0,3)] else [])} true Tryz.func315 ?_
   refine Z ?_
   refine Ba h (fun _ h=>?_)
   refine Z ?_
   refine Ao h (fun _ h=>?_) (fun _ h=>?_)
   exact Y
   refine Z ?_
   refine Ba h (fun _ h=>?_)
   refine Z ?_
   refine A0 h (fun (v14,o15)=>[(9,(.arr 5 o15.length 0 o15.length)),(38,(O .i64 v14))]) (fun (v14,o15)=>[(5,.rows 25 3 (Bd o15))]) ?_
   rintro ⟨v14,o15⟩ _ _ _ h _ _
   refine Z ?_
   refine Ao h (fun _ h=>?_) (fun _ h=>?_)
   exact Y
   replace h:=Ce h
   refine Fm (Fk rfl (Ay ?_))
   refine D4 [.fz 9] ?_
   refine Z ?_
   refine Bc [0,1,2] h (fun _ h=>?_)
   exact Y
  .unfold Mo at h
   refine aw C0 true Tryz.func286 ?_
   refine Z ?_
   refine Ao h (fun _ h=>?_) (fun _ h=>?_)
   refine Z ?_
   refine Ao h (fun _ h=>?_) (fun _ h=>?_)
   refine Z ?_
   refine Bc [0,1,2] h (fun _ h=>?_)
   exact Y
   exact Y
   refine Z ?_
   refine Ao h (fun _ h=>?_) (fun _ h=>?_)
   exact Y
   refine Z ?_
   refine Ao h (fun _ h=>?_) (fun _ h=>?_)
   refine Z ?_
   refine Ao h (fun _ h=>?_) (fun _ h=>?_)
   exact Y
   refine Z ?_
   refine A0 h (fun (v7,v8)=>[(6,(O .i64 0)),(7,(O .i64 v7)),(50,(O .i64 v8))]) (fun (v7,v8)=>[]) ?_
   rintro ⟨v7,v8⟩ _ _ _ h _ _
   refine Z ?_
   refine Ao h (fun _ h=>?_) (fun _ h=>?_)
   refine Z ?_
   refine Bz h (fun _ _ _ _ h=>?_)
   refine Z ?_
   refine Bc [0,1,2] h (fun _ h=>?_)
   exact Y
   exact Y
   exact Y
  .unfold Ol at h
   refine aw C0 true Tryz.func314 ?_
   refine Z ?_
   refine Ao h (fun _ h=>?_) (fun _ h=>?_)
   exact Y
   refine Z ?_
   refine A0 h (fun (v5,v6)=>[(6,(O .i64 0)),(7,(O .i64 v5)),(18,(O .i64 v6))]) (fun (v5,v6)=>[]) ?_
   rintro ⟨v5,v6⟩ _ _ _ h _ _
   refine Z ?_
   refine Ao h (fun _ h=>?_) (fun _ h=>?_)
   refine Z ?_
   refine Bz h (fun _ _ _ _ h=>?_)
   refine Z ?_
   refine Bz h (fun _ _ _ _ h=>?_)
   refine Z ?_
   refine Bc [0,1,2] h (fun _ h=>?_)
   exact Y
   exact Y
instance {k:Nat}:Agq k:=(Abe k).1
instance {k:Nat}:Agr k:=(Abe k).2.1
instance {k:Nat}:Ags k:=(Abe k).2.2
instance {a0:Int} {b1:List (ByteArray×Int)} {b2:List (ByteArray×(List Dk))} {b0_0:List Ax} {b0_1:List Ah} {b0_2 b0_3:Int} {b0_4:List Ah}:OK (Ma a0 b1 b2 b0_0 b0_1 b0_2 b0_3 b0_4) fun r=>Cd Tryz.prog 68 [(.loc 0 0),(O .i64) a0] [.cells 129 [(.sl 3 (List.map B7 b0_0)),(.sl 3 (Bd b0_1)),(O .i64 b0_2),(O .i64 b0_3),(.sl 3 (Bd b0_4)),(.mp 1),(.mp 2)],.map (Bh (O .i64) b1),.map (Bh (Ar 5 Eb) b2)] (C8 r) [.cells 129 [(.sl 3 (List.map B7 b0_0)),(.sl 3 (Bd b0_1)),(O .i64 b0_2),(O .i64 b0_3),(.sl 3 (Bd b0_4)),(.mp 1),(.mp 2)],.map (Bh (O .i64) b1),.map (Bh (Ar 5 Eb) b2)]:=⟨fun {r} h=>by
 refine aw C0 true Tryz.func68 ?_
 exact Y⟩
instance {a0:Int} {a1:A6} {b1:List (ByteArray×Int)} {b2:List (ByteArray×(List Dk))} {b0_0:List Ax} {b0_1:List Ah} {b0_2 b0_3:Int} {b0_4:List Ah}:OK (Kl a0 a1 b1 b2 b0_0 b0_1 b0_2 b0_3 b0_4) fun r=>Cd Tryz.prog 212 [(.loc 0 0),(O .i64) a0,Ev a1] [.cells 129 [(.sl 3 (List.map B7 b0_0)),(.sl 3 (Bd b0_1)),(O .i64 b0_2),(O .i64 b0_3),(.sl 3 (Bd b0_4)),(.mp 1),(.mp 2)],.map (Bh (O .i64) b1),.map (Bh (Ar 5 Eb) b2)] ((O .i64) r.1) [.cells 129 [(.sl 3 (List.map B7 b0_0)),(.sl 3 (Bd b0_1)),(O .i64 b0_2),(O .i64 b0_3),(.sl 3 (Bd b0_4)),(.mp 1),(.mp 2)],.map (Bh (O .i64) r.2),.map (Bh (Ar 5 Eb) b2)]:=⟨fun {r} h=>by
 refine aw C0 true Tryz.func212 ?_
 refine Z ?_
 refine Ba h (fun _ h=>?_)
 refine ZO ?_
 refine Ay ?_
 refine Bj h (fun (v3,v4)=>[(8,(O .i64 v3)),(9,(Al v4))]) (fun (v3,v4)=>[]) ?_ ?_
 intro _ h _ _ _
 refine Z ?_
 refine Vr (f:=(O .i64)) (l:=b1) rfl (0:Int) h (fun j_ hb h=>?_) (fun hb h=>?_)
 exact Y
 exact Y
 rintro ⟨v3,v4⟩ _ h
 refine Z ?_
 refine Ao h (fun _ h=>?_) (fun _ h=>?_)
 refine Z ?_
 refine Bc [0,1,2] h (fun _ h=>?_)
 refine Z ?_
 refine Bc [0,1,2] h (fun _ h=>?_)
 refine ZS ?_
 refine Bp ?_
 refine ZO ?_
 refine Bj h (fun v7=>[(8,(O .i64 v7))]) (fun v7=>[]) ?_ ?_
 intro _ h _ _ _
 exact Y
 rintro v7 _ h
 refine Z ?_
 refine R4 (f:=(O .i64)) (l:=b1) (x:=v7) rfl rfl ?_
 exact Y
 exact Y⟩
instance {a0:Bb} {b1:List (ByteArray×Int)} {b2:List (ByteArray×(List Dk))} {b0_0:List Ax} {b0_1:List Ah} {b0_2 b0_3:Int} {b0_4:List Ah}:OK (Tc a0 b1 b2 b0_0 b0_1 b0_2 b0_3 b0_4) fun r=>Cd Tryz.prog 211 [(.loc 0 0),E3 a0] [.cells 129 [(.sl 3 (List.map B7 b0_0)),(.sl 3 (Bd b0_1)),(O .i64 b0_2),(O .i64 b0_3),(.sl 3 (Bd b0_4)),(.mp 1),(.mp 2)],.map (Bh (O .i64) b1),.map (Bh (Ar 5 Eb) b2)] ((O .i64) r.1) [.cells 129 [(.sl 3 (List.map B7 b0_0)),(.sl 3 (Bd b0_1)),(O .i64 b0_2),(O .i64 b0_3),(.sl 3 (Bd b0_4)),(.mp 1),(.mp 2)],.map (Bh (O .i64) r.2),.map (Bh (Ar 5 Eb) b2)]:=⟨fun {r} h=>by
 refine aw C0 true Tryz.func211 ?_
 refine Z ?_
 refine A0 h (fun (v5,v6,o7)=>[(5,(O .i64 v5)),(13,(O .i64 v6))]) (fun (v5,v6,o7)=>[(1,.map (Bh (O .i64) o7))]) ?_
 rintro ⟨v5,v6,o7⟩ _ _ _ h _ _
 refine Z ?_
 refine Ao h (fun _ h=>?_) (fun _ h=>?_)
 refine Z ?_
 refine Bz h (fun _ _ _ _ h=>?_)
 refine Z ?_
 refine Ao h (fun _ h=>?_) (fun _ h=>?_)
 refine Z ?_
 refine Bc [0,1,2] h (fun _ h=>?_)
 exact Y
 exact Y
 replace h:=Ce h
 refine Z ?_
 refine A0 h (fun (v15,v16)=>[(5,(O .i64 v15)),(31,(O .i64 v16))]) (fun (v15,v16)=>[]) ?_
 rintro ⟨v15,v16⟩ _ _ _ h _ _
 exact Y⟩
instance {a0:Int} {b1:List (ByteArray×Int)} {b2:List (ByteArray×(List Dk))} {b0_0:List Ax} {b0_1:List Ah} {b0_2 b0_3:Int} {b0_4:List Ah}:OK (N4 a0 b1 b2 b0_0 b0_1 b0_2 b0_3 b0_4) fun r=>Cd Tryz.prog 162 [(.loc 0 0),(O .i64) a0] [.cells 129 [(.sl 3 (List.map B7 b0_0)),(.sl 3 (Bd b0_1)),(O .i64 b0_2),(O .i64 b0_3),(.sl 3 (Bd b0_4)),(.mp 1),(.mp 2)],.map (Bh (O .i64) b1),.map (Bh (Ar 5 Eb) b2)] (Al r) [.cells 129 [(.sl 3 (List.map B7 b0_0)),(.sl 3 (Bd b0_1)),(O .i64 b0_2),(O .i64 b0_3),(.sl 3 (Bd b0_4)),(.mp 1),(.mp 2)],.map (Bh (O .i64) b1),.map (Bh (Ar 5 Eb) b2)]:=⟨fun {r} h=>by
 refine aw C0 true Tryz.func162 ?_
 exact Y⟩
instance {a0:Da} {b2:List (ByteArray×Int)} {b3:List (ByteArray×(List Dk))} {b1_0:List Ax} {b1_1:List Ah} {b1_2 b1_3:Int} {b1_4:List Ah}:OK (P8 a0 b2 b3 b1_0 b1_1 b1_2 b1_3 b1_4) fun r=>Cd Tryz.prog 161 [F1 a0,(.loc 0 0)] [.cells 66 [(.loc 1 0)],.cells 129 [(.sl 3 (List.map B7 b1_0)),(.sl 3 (Bd b1_1)),(O .i64 b1_2),(O .i64 b1_3),(.sl 3 (Bd b1_4)),(.mp 2),(.mp 3)],.map (Bh (O .i64) b2),.map (Bh (Ar 5 Eb) b3)] (Al r) [.cells 66 [(.loc 1 0)],.cells 129 [(.sl 3 (List.map B7 b1_0)),(.sl 3 (Bd b1_1)),(O .i64 b1_2),(O .i64 b1_3),(.sl 3 (Bd b1_4)),(.mp 2),(.mp 3)],.map (Bh (O .i64) b2),.map (Bh (Ar 5 Eb) b3)]:=⟨fun {r} h=>by
 refine aw C0 true Tryz.func161 ?_
 refine Z ?_
 refine Bc [1,2,3] h (fun _ h=>?_)
 refine Z ?_
 refine Fd h (fun _ h=>?_) (fun _ h=>?_)
 exact Y
 refine Z ?_
 refine Bc [1,2,3] h (fun _ h=>?_)
 refine Z ?_
 refine Zb.mk 3 (by kernel_rfl) ?_
 exact Y⟩
instance {a0:List Da} {b2:List (ByteArray×Int)} {b3:List (ByteArray×(List Dk))} {b1_0:List Ax} {b1_1:List Ah} {b1_2 b1_3:Int} {b1_4:List Ah}:OK (Wd a0 b2 b3 b1_0 b1_1 b1_2 b1_3 b1_4) fun r=>Cd Tryz.prog 234 [(Ar 2 F1) a0,(.fn 161 [(.loc 0 0)])] [.cells 66 [(.loc 1 0)],.cells 129 [(.sl 3 (List.map B7 b1_0)),(.sl 3 (Bd b1_1)),(O .i64 b1_2),(O .i64 b1_3),(.sl 3 (Bd b1_4)),(.mp 2),(.mp 3)],.map (Bh (O .i64) b2),.map (Bh (Ar 5 Eb) b3)] ((O .i64) r) [.cells 66 [(.loc 1 0)],.cells 129 [(.sl 3 (List.map B7 b1_0)),(.sl 3 (Bd b1_1)),(O .i64 b1_2),(O .i64 b1_3),(.sl 3 (Bd b1_4)),(.mp 2),(.mp 3)],.map (Bh (O .i64) b2),.map (Bh (Ar 5 Eb) b3)]:=⟨fun {r} h=>by
 refine aw C0 true Tryz.func234 ?_
 refine Z ?_
 refine A0 h (fun v3=>[(4,(O .i64 0)),(8,(O .i64 v3))]) (fun v3=>[]) ?_
 rintro v3 _ _ _ h _ _
 refine Z ?_
 refine Ao h (fun _ h=>?_) (fun _ h=>?_)
 refine Z ?_
 refine Bz h (fun _ _ _ _ h=>?_)
 refine Z ?_
 refine Bc [0,1,2,3] h (fun _ h=>?_)
 exact Y
 exact Y⟩
instance {a0:List Da} {b2:List (ByteArray×Int)} {b3:List (ByteArray×(List Dk))} {b1_0:List Ax} {b1_1:List Ah} {b1_2 b1_3:Int} {b1_4:List Ah}:OK (Wa a0 b2 b3 b1_0 b1_1 b1_2 b1_3 b1_4) fun r=>Cd Tryz.prog 160 [(Ar 2 F1) a0,(.fn 161 [(.loc 0 0)])] [.cells 66 [(.loc 1 0)],.cells 129 [(.sl 3 (List.map B7 b1_0)),(.sl 3 (Bd b1_1)),(O .i64 b1_2),(O .i64 b1_3),(.sl 3 (Bd b1_4)),(.mp 2),(.mp 3)],.map (Bh (O .i64) b2),.map (Bh (Ar 5 Eb) b3)] (Al r) [.cells 66 [(.loc 1 0)],.cells 129 [(.sl 3 (List.map B7 b1_0)),(.sl 3 (Bd b1_1)),(O .i64 b1_2),(O .i64 b1_3),(.sl 3 (Bd b1_4)),(.mp 2),(.mp 3)],.map (Bh (O .i64) b2),.map (Bh (Ar 5 Eb) b3)]:=⟨fun {r} h=>by
 refine aw C0 true Tryz.func160 ?_
 refine Z ?_
 refine Bc [0,1,2,3] h (fun _ h=>?_)
 exact Y⟩
instance {a0:Cu} {b1:List (ByteArray×Int)} {b2:List (ByteArray×(List Dk))} {b0_0:List Ax} {b0_1:List Ah} {b0_2 b0_3:Int} {b0_4:List Ah}:OK (N0 a0 b1 b2 b0_0 b0_1 b0_2 b0_3 b0_4) fun r=>Cd Tryz.prog 90 [(.loc 0 0),Gk a0] [.cells 129 [(.sl 3 (List.map B7 b0_0)),(.sl 3 (Bd b0_1)),(O .i64 b0_2),(O .i64 b0_3),(.sl 3 (Bd b0_4)),(.mp 1),(.mp 2)],.map (Bh (O .i64) b1),.map (Bh (Ar 5 Eb) b2)] (Al r) [.cells 129 [(.sl 3 (List.map B7 b0_0)),(.sl 3 (Bd b0_1)),(O .i64 b0_2),(O .i64 b0_3),(.sl 3 (Bd b0_4)),(.mp 1),(.mp 2)],.map (Bh (O .i64) b1),.map (Bh (Ar 5 Eb) b2)]:=⟨fun {r} h=>by
 refine aw C0 true Tryz.func90 ?_
 refine Z ?_
 refine Bc [3,0,1,2] h (fun _ h=>?_)
 exact Y⟩
instance {a0:Bb} {b1:List (ByteArray×Int)} {b2:List (ByteArray×(List Dk))} {b0_0:List Ax} {b0_1:List Ah} {b0_2 b0_3:Int} {b0_4:List Ah}:OK (Tb a0 b1 b2 b0_0 b0_1 b0_2 b0_3 b0_4) fun r=>Cd Tryz.prog 210 [(.loc 0 0),E3 a0] [.cells 129 [(.sl 3 (List.map B7 b0_0)),(.sl 3 (Bd b0_1)),(O .i64 b0_2),(O .i64 b0_3),(.sl 3 (Bd b0_4)),(.mp 1),(.mp 2)],.map (Bh (O .i64) b1),.map (Bh (Ar 5 Eb) b2)] (Al r.1) [.cells 129 [(.sl 3 (List.map B7 b0_0)),(.sl 3 (Bd b0_1)),(O .i64 b0_2),(O .i64 b0_3),(.sl 3 (Bd b0_4)),(.mp 1),(.mp 2)],.map (Bh (O .i64) r.2),.map (Bh (Ar 5 Eb) b2)]:=⟨fun {r} h=>by
 refine aw C0 true Tryz.func210 ?_
 refine Z ?_
 refine A0 h (fun (v6,o7)=>[(4,(Al false)),(12,(O .i64 v6))]) (fun (v6,o7)=>[(1,.map (Bh (O .i64) o7))]) ?_
 rintro ⟨v6,o7⟩ _ _ _ h _ _
 refine Z ?_
 refine Ao h (fun _ h=>?_) (fun _ h=>?_)
 refine Z ?_
 refine Bz h (fun _ _ _ _ h=>?_)
 refine Z ?_
 refine Bc [0,1,2] h (fun _ h=>?_)
 refine Z ?_
 refine Fd h (fun _ h=>?_) (fun _ h=>?_)
 exact Y
 refine Z ?_
 refine Bc [0,1,2] h (fun _ h=>?_)
 exact Y
 replace h:=Ce h
 refine Z ?_
 refine A0 h (fun v18=>[(4,(Al false)),(34,(O .i64 v18))]) (fun v18=>[]) ?_
 rintro v18 _ _ _ h _ _
 refine Z ?_
 refine Ao h (fun _ h=>?_) (fun _ h=>?_)
 refine Z ?_
 refine Bz h (fun _ _ _ _ h=>?_)
 refine Z ?_
 refine Fd h (fun _ h=>?_) (fun _ h=>?_)
 exact Y
 refine Z ?_
 refine Bc [0,1,2] h (fun _ h=>?_)
 exact Y
 exact Y⟩
instance {a0:Bb} {b1:List (ByteArray×Int)} {b2:List (ByteArray×(List Dk))} {b0_0:List Ax} {b0_1:List Ah} {b0_2 b0_3:Int} {b0_4:List Ah}:OK (P5 a0 b1 b2 b0_0 b0_1 b0_2 b0_3 b0_4) fun r=>Cd Tryz.prog 142 [(.loc 0 0),E3 a0] [.cells 129 [(.sl 3 (List.map B7 b0_0)),(.sl 3 (Bd b0_1)),(O .i64 b0_2),(O .i64 b0_3),(.sl 3 (Bd b0_4)),(.mp 1),(.mp 2)],.map (Bh (O .i64) b1),.map (Bh (Ar 5 Eb) b2)] (Al r.1) [.cells 129 [(.sl 3 (List.map B7 b0_0)),(.sl 3 (Bd b0_1)),(O .i64 b0_2),(O .i64 b0_3),(.sl 3 (Bd b0_4)),(.mp 1),(.mp 2)],.map (Bh (O .i64) r.2),.map (Bh (Ar 5 Eb) b2)]:=⟨fun {r} h=>by
 refine aw C0 true Tryz.func142 ?_
 refine ZS ?_
 refine Bp ?_
 refine ZO ?_
 refine Ay (Ay ?_)
 refine Bj h (fun (v4,o5)=>[(18,(Al v4))]) (fun (v4,o5)=>[(1,.map (Bh (O .i64) o5))]) ?_ ?_
 intro _ h _ _ _
 refine Z ?_
 refine Bc [0,1,2] h (fun _ h=>?_)
 refine Z ?_
 refine Fd h (fun _ h=>?_) (fun _ h=>?_)
 exact Y
 refine Z ?_
 refine Bc [0,1,2] h (fun _ h=>?_)
 exact Y
 rintro ⟨v4,o5⟩ _ h
 refine Ao h (fun _ h=>?_) (fun _ h=>?_)
 exact Y
 refine Z ?_
 refine A0 h (fun (v9,o10)=>[(4,(Al false)),(22,(O .i64 v9))]) (fun (v9,o10)=>[(1,.map (Bh (O .i64) o10))]) ?_
 rintro ⟨v9,o10⟩ _ _ _ h _ _
 refine Z ?_
 refine Ao h (fun _ h=>?_) (fun _ h=>?_)
 refine Z ?_
 refine Bz h (fun _ _ _ _ h=>?_)
 refine Z ?_
 refine Bc [0,1,2] h (fun _ h=>?_)
 exact Y
 replace h:=Ce h
 refine Z ?_
 refine A0 h (fun v22=>[(4,(Al false)),(54,(O .i64 v22))]) (fun v22=>[]) ?_
 rintro v22 _ _ _ h _ _
 refine Z ?_
 refine Ao h (fun _ h=>?_) (fun _ h=>?_)
 refine Z ?_
 refine Bz h (fun _ _ _ _ h=>?_)
 refine ZO ?_
 refine Ay (Ay ?_)
 refine Bj h (fun v26=>[(74,(Al v26))]) (fun v26=>[]) ?_ ?_
 intro _ h _ _ _
 exact Y
 rintro v26 _ h
 exact Y
 exact Y⟩
instance {a0 a1:List Int}:OK (N5 a0 a1) fun r=>Aq Tryz.prog 174 [(Ar 1 (O .u32)) a0,(Ar 1 (O .u32)) a1] ((O .i64) r):=⟨fun {r} h=>by
 refine pw C0 Tryz.func174 ?_
 refine Z ?_
 refine Ao h (fun _ h=>?_) (fun _ h=>?_)
 exact Y
 refine Z ?_
 refine A0 h (fun v5=>[(4,(O .i64 0)),(5,(O .i64 v5))]) (fun v5=>[]) ?_
 rintro v5 _ _ _ h _ _
 exact Y⟩
instance {a0:List Int}:OK (Hx a0) fun r=>Aq Tryz.prog 198 [(Ar 1 (O .u32)) a0] ((Ar 1 (O .u32)) r):=⟨fun {r} h=>by
 refine pw {T:=Cb,an:=(fun _=>.ask),nl:=(fun s=>bif Nat.beq s 2 then [(0,1)] else [])} Tryz.func198 ?_
 refine Z ?_
 refine A0 h (fun v2=>[(3,(O .i64 v2))]) (fun v2=>[]) ?_
 rintro v2 _ _ _ h _ _
 exact Y⟩
instance {a0:List Int} {a1:Int}:OK (Ok a0 a1) fun r=>Aq Tryz.prog 291 [(Ar 1 (O .u32)) a0,(O .u64) a1] (.tup [(Ar 1 (O .u32)) r.1,(O .u64) r.2]):=⟨fun {r} h=>by
 refine pw {T:=Cb,an:=(fun _=>.ask),nl:=(fun s=>bif Nat.beq s 4 then [(0,1)] else [])} Tryz.func291 ?_
 refine Z ?_
 refine F2 h (fun o1 h=>?_)
 refine Z ?_
 refine F9 h (fun (v7,v8,o9)=>[(7,(O .u64 v7)),(8,(O .i64 v8))]) (fun (v7,v8,o9)=>[(0,.rows 133 1 (List.map (O .u32) o9))]) (fun (v7,v8,o9)=>o1.length=o9.length) ?_
 rintro ⟨v7,v8,o9⟩ _ _ _ h _ _ q9
 refine Z ?_
 refine Ao h (fun _ h=>?_) (fun _ h=>?_)
 exact Y
 replace h:=Ce h
 refine Fm (Fk rfl (Ay ?_))
 refine D4 [.fz 6] ?_
 exact Y⟩
instance {a0:Int}:OK (Lh a0) fun r=>Aq Tryz.prog 148 [(O .u64) a0] ((Ar 1 (O .u32)) r):=⟨fun {r} h=>by
 refine pw {T:=Cb,an:=(fun s=>bif Nat.beq s 3 then .own else .ask),nl:=(fun s=>bif Nat.beq s 3 then [(0,1)] else bif Nat.beq s 2 then [(0,1)] else [])} Tryz.func148 ?_
 refine Z ?_
 refine A0 h (fun (v10,o11)=>[(0,(O .u64 v10)),(3,(.arr 0 o11.length 0 o11.length))]) (fun (v10,o11)=>[(0,.rows 133 1 (List.map (O .u32) o11))]) ?_
 rintro ⟨v10,o11⟩ _ _ _ h _ _
 exact Y⟩
instance {a0:List Int} {a1:Int}:OK (Qk a0 a1) fun r=>Cd Tryz.prog 292 [(Ar 1 (O .u32)) a0,(O .u64) a1] [] (.arr 0 r.length 0 r.length) [.rows 133 1 (List.map (O .u32) r)]:=⟨fun {r} h=>by
 refine aw {T:=Cb,an:=(fun _=>.ask),nl:=(fun s=>bif Nat.beq s 4 then [(0,1)] else [])} false Tryz.func292 ?_
 refine Z ?_
 refine F2 h (fun o1 h=>?_)
 refine Z ?_
 refine F9 h (fun (v7,v8,o9)=>[(6,(O .u64 v7)),(15,(O .i64 v8))]) (fun (v7,v8,o9)=>[(0,.rows 133 1 (List.map (O .u32) o9))]) (fun (v7,v8,o9)=>o1.length=o9.length) ?_
 rintro ⟨v7,v8,o9⟩ _ _ _ h _ _ q9
 refine Z ?_
 refine Ao h (fun _ h=>?_) (fun _ h=>?_)
 exact Y
 replace h:=Ce h
 refine Z ?_
 refine Km h (fun _ _ hiv16 _ h=>?_)
 refine Z ?_
 refine K6 (f:=(O .u32)) (x:=(Bq v7)) (j:=(a0.length:Int)) rfl rfl (Nat.zero_add _) hiv16 ?_
 refine Z ?_
 cases h
 exact ⟨congrArg (fun q_=>AV.arr 0 q_ 0 q_) (E2 (l:=o9) q9 (a0.length:Int) (Bq v7)),rfl,trivial⟩⟩
instance {a0:List Int} {a1:Int}:OK (Abd a0 a1) fun r=>Aq Tryz.prog 292 [(Ar 1 (O .u32)) a0,(O .u64) a1] ((Ar 1 (O .u32)) r):=⟨fun {r} h=>by
 refine pw {T:=Cb,an:=(fun _=>.ask),nl:=(fun s=>bif Nat.beq s 4 then [(0,1)] else [])} Tryz.func292 ?_
 refine Z ?_
 refine F2 h (fun o1 h=>?_)
 refine Z ?_
 refine F9 h (fun (v7,v8,o9)=>[(6,(O .u64 v7)),(15,(O .i64 v8))]) (fun (v7,v8,o9)=>[(0,.rows 133 1 (List.map (O .u32) o9))]) (fun (v7,v8,o9)=>o1.length=o9.length) ?_
 rintro ⟨v7,v8,o9⟩ _ _ _ h _ _ q9
 exact Y⟩
instance {a0 a1:Nat} {a2 b0:List Int}:OK (Ti a0 a1 a2 b0) fun r=>Cd Tryz.prog 293 [(.arr 0 b0.length a0 a1),(Ar 1 (O .u32)) a2] [.rows 133 1 (List.map (O .u32) b0)] ((O .u32) r.1) [.rows 133 1 (List.map (O .u32) r.2)]:=⟨fun {r} h=>by
 refine aw C0 true Tryz.func293 ?_
 refine Z ?_
 refine Bz h (fun _ _ _ _ h=>?_)
 refine Z ?_
 refine Bz h (fun _ _ _ _ h=>?_)
 refine Z ?_
 refine Kn h (fun _ _ _ _ h=>?_)
 refine Z ?_
 refine Kn h (fun _ _ _ _ h=>?_)
 refine Z ?_
 refine R5 h (fun _ h=>?_)
 refine Z ?_
 refine Vs h (fun _ h=>?_)
 refine Z ?_
 refine A0 h (fun (v9,v10)=>[(9,(O .u64 v9)),(10,(O .u64 v10))]) (fun (v9,v10)=>[]) ?_
 rintro ⟨v9,v10⟩ _ _ _ h _ _
 refine Ay (Ay ?_)
 refine Bj h (fun v12=>[(71,(Al v12))]) (fun v12=>[]) ?_ ?_
 intro _ h _ _ _
 exact Y
 rintro v12 _ h
 refine Ao h (fun _ h=>?_) (fun _ h=>?_)
 exact Y
 replace h:=Ce h
 refine Z ?_
 refine F9 h (fun (v24,v25,o26)=>[(11,(O .i64 v24)),(78,(O .i64 v25))]) (fun (v24,v25,o26)=>[(0,.rows 133 1 (List.map (O .u32) o26))]) (fun (v24,v25,o26)=>b0.length=o26.length) ?_
 rintro ⟨v24,v25,o26⟩ _ _ _ h _ _ q26
 refine Z ?_
 refine Ao h (fun _ h=>?_) (fun _ h=>?_)
 refine Z ?_
 refine Kn h (fun _ _ _ _ h=>?_)
 refine Z ?_
 refine Bz h (fun _ _ _ _ h=>?_)
 refine Z ?_
 refine Vs h (fun _ h=>?_)
 refine Z ?_
 refine Bz h (fun _ _ _ _ h=>?_)
 refine Z ?_
 refine R5 h (fun _ h=>?_)
 refine Z ?_
 refine A0 h (fun (v32,v33)=>[(11,(O .i64 v32)),(13,(O .i64 v33))]) (fun (v32,v33)=>[]) ?_
 rintro ⟨v32,v33⟩ _ _ _ h _ _
 exact Y
 replace h:=Ce h
 refine Z ?_
 refine Kn h (fun _ _ _ _ h=>?_)
 refine Z ?_
 refine Ao h (fun _ h=>?_) (fun _ h=>?_)
 exact Y
 refine Z ?_
 refine F9 h (fun (v46,v47,o48)=>[(15,(O .u32 v46)),(136,(O .i64 v47))]) (fun (v46,v47,o48)=>[(0,.rows 133 1 (List.map (O .u32) o48))]) (fun (v46,v47,o48)=>b0.length=o48.length) ?_
 rintro ⟨v46,v47,o48⟩ _ _ _ h _ _ q48
 exact Y⟩
instance {a0 a1:List Int}:OK (Ob a0 a1) fun r=>Aq Tryz.prog 220 [(Ar 1 (O .u32)) a0,(Ar 1 (O .u32)) a1] (.tup [(Ar 1 (O .u32)) r.1,(Ar 1 (O .u32)) r.2]):=⟨fun {r} h=>by
 refine pw {T:=Cb,an:=(fun _=>.ask),nl:=(fun s=>bif Nat.beq s 5 then [(0,1)] else bif Nat.beq s 4 then [(0,1)] else [])} Tryz.func220 ?_
 refine Z ?_
 refine Ba h (fun _ h=>?_)
 refine Z ?_
 refine Ao h (fun _ h=>?_) (fun _ h=>?_)
 exact Y
 refine Z ?_
 refine Ao h (fun _ h=>?_) (fun _ h=>?_)
 exact Y
 refine Z ?_
 refine Bz h (fun _ _ _ _ h=>?_)
 refine Z ?_
 refine R5 h (fun _ h=>?_)
 refine Z ?_
 refine Bc [] h (fun v9 h=>?_)
 refine Z ?_
 refine Ba h (fun _ h=>?_)
 refine Z ?_
 refine Oz h (fun v12 h=>?_)
 refine Z ?_
 refine F2 h (fun o13 h=>?_)
 refine Z ?_
 refine F9 h (fun (v19,o20,o21)=>[(13,(O .i64 v19))]) (fun (v19,o20,o21)=>[(0,.rows 133 1 (List.map (O .u32) o20)),(1,.rows 133 1 (List.map (O .u32) o21))]) (fun (v19,o20,o21)=>v9.length=o20.length/\o13.length=o21.length) ?_ (h0:=(⟨rfl,rfl⟩))
 rintro ⟨v19,o20,o21⟩ _ _ _ h _ hn1 ⟨q20,q21⟩
 refine Z ?_
 refine Ao h (fun _ h=>?_) (fun _ h=>?_)
 refine Z ?_
 refine Zy (f:=(O .u32)) rfl q20 h (fun v22 h=>?_)
 refine Z ?_
 refine Dj h (fun v23 hcv23 h=>?_)
 have okv23:=(OK.ok hcv23 :)
 rw [<-q20] at okv23
 refine Fz.act [0] _ _ _ _ okv23 rfl rfl ⟨rfl,trivial⟩ ?_
 refine Dj h (fun v24 hgv24 h=>?_)
 refine Z ?_
 refine Km h (fun _ _ hiv25 _ h=>?_)
 refine Z ?_
 refine K6 (f:=(O .u32)) (x:=v23.1) (j:=v19) rfl rfl (Nat.zero_add _) hiv25 ?_
 refine Z ?_
 exact hn1 _ _ _ _ (Option.some.inj h) ⟨rfl,trivial⟩ ⟨⟨rfl,rfl⟩,⟨rfl,rfl⟩,trivial⟩ (⟨Ii hgv24,E2 (l:=o21) q21 v19 v23.1⟩)
 replace h:=Ce h
 refine Fm (Fk rfl (Ay ?_))
 refine D4 [.fz 10] ?_
 refine Z ?_
 refine Ba h (fun _ h=>?_)
 refine Z ?_
 refine Ba h (fun _ h=>?_)
 refine ZO ?_
 refine Ay ?_
 refine D4 [.fz 12] ?_
 exact Y⟩
instance {a0:List Int}:OK (Qj a0) fun r=>Aq Tryz.prog 290 [(Ar 1 (O .u32)) a0] (.tup [(O .u64) r.1,Al r.2]):=⟨fun {r} h=>by
 refine pw C0 Tryz.func290 ?_
 refine Z ?_
 refine A0 h (fun (v3,v4)=>[(2,(O .u64 0)),(3,(Al false)),(4,(O .u64 v3)),(9,(O .i64 v4))]) (fun (v3,v4)=>[]) ?_
 rintro ⟨v3,v4⟩ _ _ _ h _ _
 exact Y⟩
instance {a0 a1:List Int}:OK (Te a0 a1) fun r=>Aq Tryz.prog 219 [(Ar 1 (O .u32)) a0,(Ar 1 (O .u32)) a1] ((Ar 1 (O .u32)) r):=⟨fun {r} h=>by
 refine pw {T:=Cb,an:=(fun _=>.ask),nl:=(fun s=>bif Nat.beq s 4 then [(0,1)] else [])} Tryz.func219 ?_
 refine Z ?_
 refine A0 h (fun (v12,v13)=>[(0,(.sl 1 (List.map (O .u32) v12))),(1,(.sl 1 (List.map (O .u32) v13))),(4,(.sl 1 (List.map (O .u32) [])))]) (fun (v12,v13)=>[]) ?_
 rintro ⟨v12,v13⟩ _ _ _ h _ _
 refine Z ?_
 refine Ao h (fun _ h=>?_) (fun _ h=>?_)
 refine Ix (Ju (Ay (Ay ?_)))
 refine Bj h (fun v14=>[(21,(Al v14))]) (fun v14=>[]) ?_ ?_
 intro _ h _ _ _
 exact Y
 rintro v14 _ h
 refine Ao h (fun _ h=>?_) (fun _ h=>?_)
 refine Z ?_
 refine Ba h (fun _ h=>?_)
 refine Z ?_
 refine Ba h (fun _ h=>?_)
 refine Z ?_
 refine A0 h (fun (v18,v19)=>[(5,(O .u64 v18)),(7,(O .u64 v19))]) (fun (v18,v19)=>[]) ?_
 rintro ⟨v18,v19⟩ _ _ _ h _ _
 exact Y
 exact Y
 exact Y⟩
instance {a0:List Int}:OK (Oa a0) fun r=>Aq Tryz.prog 218 [(Ar 1 (O .u32)) a0] (Al r):=⟨fun {r} h=>by
 refine pw C0 Tryz.func218 ?_
 exact Y⟩
instance {a0:Fg}:OK (V9 a0) fun r=>Aq Tryz.prog 149 [Mt a0] (Mt r):=⟨fun {r} h=>by
 refine pw {T:=Cb,an:=(fun _=>.ask),nl:=(fun s=>bif Nat.beq s 13 then [(1,1)] else [])} Tryz.func149 ?_
 exact Y⟩
instance {a0:Fg}:OK (La a0) fun r=>Aq Tryz.prog 82 [Mt a0] (C9 r):=⟨fun {r} h=>by
 refine pw C0 Tryz.func82 ?_
 exact Y⟩
instance {a0:List Int}:OK (P9 a0) fun r=>Aq Tryz.prog 172 [(Ar 1 (O .u32)) a0] ((Ar 1 (O .u32)) r):=⟨fun {r} h=>by
 refine pw {T:=Cb,an:=(fun _=>.ask),nl:=(fun s=>bif Nat.beq s 2 then [(0,1)] else [])} Tryz.func172 ?_
 refine Z ?_
 refine F2 h (fun _ h=>?_)
 refine Z ?_
 refine A0 h (fun (v14,v15,o16)=>[(3,(.arr 0 o16.length 0 o16.length)),(4,(O .u64 v14)),(13,(O .i64 v15))]) (fun (v14,v15,o16)=>[(0,.rows 133 1 (List.map (O .u32) o16))]) ?_
 rintro ⟨v14,v15,o16⟩ _ _ _ h _ _
 refine Z ?_
 refine Ao h (fun _ h=>?_) (fun _ h=>?_)
 exact Y
 replace h:=Ce h
 refine Z ?_
 refine Ao h (fun _ h=>?_) (fun _ h=>?_)
 refine Z ?_
 refine Oy h (fun _ h=>?_)
 refine ZO ?_
 refine Ay ?_
 refine D4 [.fz 3] ?_
 exact Y
 refine Ix (Ay ?_)
 refine D4 [.fz 3] ?_
 exact Y⟩
instance {a0:A5}:OK (Kj a0) fun r=>Aq Tryz.prog 106 [C9 a0] (Mt r):=⟨fun {r} h=>by
 refine pw {T:=Cb,an:=(fun _=>.ask),nl:=(fun s=>bif Nat.beq s 20 then [(1,1)] else [])} Tryz.func106 ?_
 refine Z ?_
 refine Ba h (fun _ h=>?_)
 refine Z ?_
 refine Ba h (fun _ h=>?_)
 refine ZO ?_
 refine Ay (Ay ?_)
 refine Bj h (fun v5=>[(18,(Al v5))]) (fun v5=>[]) ?_ ?_
 intro _ h _ _ _
 exact Y
 rintro v5 _ h
 exact Y⟩
instance {a0:A5}:OK (Mi a0) fun r=>Aq Tryz.prog 140 [C9 a0] (C9 r):=⟨fun {r} h=>by
 refine pw C0 Tryz.func140 ?_
 exact Y⟩
instance {a0:Fg}:OK (Su a0) fun r=>Aq Tryz.prog 116 [Mt a0] ((O .i64) r):=⟨fun {r} h=>by
 refine pw C0 Tryz.func116 ?_
 exact Y⟩
instance {a0:A5}:OK (Ik a0) fun r=>Aq Tryz.prog 58 [C9 a0] ((O .i64) r):=⟨fun {r} h=>by
 refine pw C0 Tryz.func58 ?_
 exact Y⟩
instance {a0 a1:List Int}:OK (Kk a0 a1) fun r=>Aq Tryz.prog 141 [(Ar 1 (O .u32)) a0,(Ar 1 (O .u32)) a1] (Al r):=⟨fun {r} h=>by
 refine pw C0 Tryz.func141 ?_
 refine Z ?_
 refine Ao h (fun _ h=>?_) (fun _ h=>?_)
 exact Y
 refine Z ?_
 refine A0 h (fun v3=>[(4,(Al false)),(13,(O .i64 v3))]) (fun v3=>[]) ?_
 rintro v3 _ _ _ h _ _
 exact Y⟩
end Go.Ab
namespace Go.Ab
open Go Go.Proofs
set_option maxRecDepth 10000
set_option maxHeartbeats 4000000
set_option linter.unusedVariables false
instance {a0:List Ak} {b1:List (ByteArray×Int)} {b2:List (ByteArray×(List Dk))} {b0_0:List Ax} {b0_1:List Ah} {b0_2 b0_3:Int} {b0_4:List Ah}:OK (Sm a0 b1 b2 b0_0 b0_1 b0_2 b0_3 b0_4) fun r=>Cd Tryz.prog 79 [(.loc 0 0),(Ar 5 Bl) a0] [.cells 129 [(.sl 3 (List.map B7 b0_0)),(.sl 3 (Bd b0_1)),(O .i64 b0_2),(O .i64 b0_3),(.sl 3 (Bd b0_4)),(.mp 1),(.mp 2)],.map (Bh (O .i64) b1),.map (Bh (Ar 5 Eb) b2)] (Al r.1) [.cells 129 [(.sl 3 (List.map B7 b0_0)),(.sl 3 (Bd b0_1)),(O .i64 b0_2),(O .i64 b0_3),(.sl 3 (Bd b0_4)),(.mp 1),(.mp 2)],.map (Bh (O .i64) r.2),.map (Bh (Ar 5 Eb) b2)]:=⟨fun {r} h=>by
 refine aw C0 true Tryz.func79 ?_
 refine Z ?_
 refine Ao h (fun _ h=>?_) (fun _ h=>?_)
 exact Y
 refine Z ?_
 refine A0 h (fun (v10,o11)=>[(4,(Al false)),(14,(O .i64 v10))]) (fun (v10,o11)=>[(1,.map (Bh (O .i64) o11))]) ?_
 rintro ⟨v10,o11⟩ _ _ _ h _ _
 refine Z ?_
 refine Ao h (fun _ h=>?_) (fun _ h=>?_)
 refine Z ?_
 refine Bz h (fun _ _ _ _ h=>?_)
 refine Z ?_
 refine Ba h (fun _ h=>?_)
 refine ZO ?_
 refine Ay ?_
 refine Bj h (fun v18=>[(8,(Al v18))]) (fun v18=>[]) ?_ ?_
 intro _ h _ _ _
 exact Y
 rintro v18 _ h
 refine Z ?_
 refine Fd h (fun _ h=>?_) (fun _ h=>?_)
 exact Y
 refine Z ?_
 refine Ba h (fun _ h=>?_)
 refine Z ?_
 refine Fd h (fun _ h=>?_) (fun _ h=>?_)
 exact Y
 refine Z ?_
 refine Bc [0,1,2] h (fun _ h=>?_)
 exact Y
 exact Y⟩
theorem Abf {a0:Cm} {a1:List (List Ak)} {r:(Bool×Cm×(List (ByteArray×Int))×(List (ByteArray×(List Dk)))×(List Ax)×(List Ah)×Int×Int×(List Ah))} (h:K8 a0 a1=some (.inl r)):Cd Tryz.prog 36 [Gx a0,(Ar 1 (Ar 5 Bl)) a1] [] (.tup [.loc 3 0,Al r.1]) [.cells 27 [(.sl 3 (List.map B7 r.2.1.Data)),(.sl 3 (Bd r.2.1.Vars)),(O .i64 r.2.1.Res.Kind),(O .i64 r.2.1.Res.Num),(.sl 3 (Bd r.2.1.Res.Args))],.map (Bh (O .i64) r.2.2.1),.map (Bh (Ar 5 Eb) r.2.2.2.1),.cells 129 [(.sl 3 (List.map B7 r.2.2.2.2.1)),(.sl 3 (Bd r.2.2.2.2.2.1)),(O .i64 r.2.2.2.2.2.2.1),(O .i64 r.2.2.2.2.2.2.2.1),(.sl 3 (Bd r.2.2.2.2.2.2.2.2)),(.mp 1),(.mp 2)]]:=by
 refine aw {T:=Cb,an:=(fun _=>.ask),nl:=(fun s=>bif Nat.beq s 18 then [(1,7),(2,3),(3,8)] else [])} true Tryz.func36 ?_
 refine ZS ?_
 refine Bp ?_
 refine ZO ?_
 refine Ay (Ay ?_)
 refine Bj h (fun v4=>[(29,(Al v4))]) (fun v4=>[]) ?_ ?_
 intro _ h _ _ _
 exact Y
 rintro v4 _ h
 refine Ao h (fun _ h=>?_) (fun _ h=>?_)
 exact Y
 refine Z ?_
 refine A0 h (fun v8=>[(4,(.val (.pointer none))),(5,(Al false)),(33,(O .i64 v8))]) (fun v8=>[]) ?_
 rintro v8 _ _ _ h _ _
 refine Z ?_
 refine Ao h (fun _ h=>?_) (fun _ h=>?_)
 exact Y
 replace h:=Ce h
 refine Z ?_
 refine A0 h (fun (v18,o19)=>[(4,(.val (.pointer none))),(5,(Al false)),(50,(O .i64 v18))]) (fun (v18,o19)=>[(1,.map (Bh (O .i64) o19))]) ?_
 rintro ⟨v18,o19⟩ _ _ _ h _ _
 refine Z ?_
 refine Ao h (fun _ h=>?_) (fun _ h=>?_)
 refine Z ?_
 refine Bz h (fun _ _ _ _ h=>?_)
 refine Z ?_
 refine Bc [3,1,2] h (fun _ h=>?_)
 exact Y
 exact Y
theorem Abg {a0:Cm} {a1:List (List Ak)} {r:Bool} (h:K8 a0 a1=some (.inr r)):Cd Tryz.prog 36 [Gx a0,(Ar 1 (Ar 5 Bl)) a1] [] (.tup [.val (.pointer none),Al r]) []:=by
 refine aw {T:=Cb,an:=(fun _=>.ask),nl:=(fun s=>bif Nat.beq s 18 then [(1,7),(2,3),(3,8)] else [])} true Tryz.func36 ?_
 refine ZS ?_
 refine Bp ?_
 refine ZO ?_
 refine Ay (Ay ?_)
 refine Bj h (fun v4=>[(29,(Al v4))]) (fun v4=>[]) ?_ ?_
 intro _ h _ _ _
 exact Y
 rintro v4 _ h
 refine Ao h (fun _ h=>?_) (fun _ h=>?_)
 exact Y
 refine Z ?_
 refine A0 h (fun v8=>[(4,(.val (.pointer none))),(5,(Al false)),(33,(O .i64 v8))]) (fun v8=>[]) ?_
 rintro v8 _ _ _ h _ _
 refine Z ?_
 refine Ao h (fun _ h=>?_) (fun _ h=>?_)
 exact Y
 replace h:=Ce h
 refine Z ?_
 refine A0 h (fun (v18,o19)=>[(4,(.val (.pointer none))),(5,(Al false)),(50,(O .i64 v18))]) (fun (v18,o19)=>[(1,.map (Bh (O .i64) o19))]) ?_
 rintro ⟨v18,o19⟩ _ _ _ h _ _
 refine Z ?_
 refine Ao h (fun _ h=>?_) (fun _ h=>?_)
 refine Z ?_
 refine Bz h (fun _ _ _ _ h=>?_)
 refine Z ?_
 refine Bc [3,1,2] h (fun _ h=>?_)
 exact Y
 exact Y
instance {a0:Int}:OK (Afr a0) fun r=>Aq Tryz.prog 68 [(.val (.pointer none)),(O .i64) a0] (C8 r):=⟨fun {r} h=>by
 refine pw C0 Tryz.func68 ?_
 exact Y⟩
instance {a0:Int}:OK (Afs a0) fun r=>Aq Tryz.prog 162 [(.val (.pointer none)),(O .i64) a0] (Al r):=⟨fun {r} h=>by
 refine pw C0 Tryz.func162 ?_
 exact Y⟩
instance {a0:Da}:OK (Aft a0) fun r=>Cd Tryz.prog 161 [F1 a0,(.loc 0 0)] [.cells 66 [(.val (.pointer none))]] (Al r) [.cells 66 [(.val (.pointer none))]]:=⟨fun {r} h=>by
 refine aw C0 true Tryz.func161 ?_
 refine Z ?_
 refine Ba h (fun _ h=>?_)
 refine Z ?_
 refine Fd h (fun _ h=>?_) (fun _ h=>?_)
 exact Y
 refine Z ?_
 refine Ba h (fun _ h=>?_)
 refine Z ?_
 refine Zb.mk 3 (by kernel_rfl) ?_
 exact Y⟩
instance {a0:List Da}:OK (Afu a0) fun r=>Cd Tryz.prog 234 [(Ar 2 F1) a0,(.fn 161 [(.loc 0 0)])] [.cells 66 [(.val (.pointer none))]] ((O .i64) r) [.cells 66 [(.val (.pointer none))]]:=⟨fun {r} h=>by
 refine aw C0 true Tryz.func234 ?_
 refine Z ?_
 refine A0 h (fun v3=>[(4,(O .i64 0)),(8,(O .i64 v3))]) (fun v3=>[]) ?_
 rintro v3 _ _ _ h _ _
 refine Z ?_
 refine Ao h (fun _ h=>?_) (fun _ h=>?_)
 refine Z ?_
 refine Bz h (fun _ _ _ _ h=>?_)
 refine Z ?_
 refine Bc [0] h (fun _ h=>?_)
 exact Y
 exact Y⟩
instance {a0:List Da}:OK (Afv a0) fun r=>Cd Tryz.prog 160 [(Ar 2 F1) a0,(.fn 161 [(.loc 0 0)])] [.cells 66 [(.val (.pointer none))]] (Al r) [.cells 66 [(.val (.pointer none))]]:=⟨fun {r} h=>by
 refine aw C0 true Tryz.func160 ?_
 refine Z ?_
 refine Bc [0] h (fun _ h=>?_)
 exact Y⟩
instance {a0:Cu}:OK (Afw a0) fun r=>Aq Tryz.prog 90 [(.val (.pointer none)),Gk a0] (Al r):=⟨fun {r} h=>by
 refine pw C0 Tryz.func90 ?_
 refine Z ?_
 refine Bc [0] h (fun _ h=>?_)
 exact Y⟩
instance  : OK (P1) fun r=>Cd Tryz.prog 37 [] [] (.loc 1 0) [.map (Bh (O .i64) r.1),.cells 76 [(.mp 0),(.arr 2 r.2.length 0 r.2.length)],.rows 84 5 (List.map Bl r.2)]:=⟨fun {r} h=>by
 refine aw C0 true Tryz.func37 ?_
 refine ZS ?_
 refine Bp ?_
 refine ZS ?_
 refine Bp ?_
 refine ZO ?_
 refine D4 [.own 3 1 84 5] ?_
 exact Y⟩
instance {a0:Cu} {a1:Int}:OK (Wk a0 a1) fun r=>Aq Tryz.prog 245 [Gk a0,(O .i64) a1] ((Ar 3 Ea) r):=⟨fun {r} h=>by
 refine pw {T:=Cb,an:=(fun _=>.ask),nl:=(fun s=>bif Nat.beq s 4 then [(0,3)] else [])} Tryz.func245 ?_
 exact Y⟩
instance {a0:Int}:OK (Ny a0) fun r=>Aq Tryz.prog 81 [(O .i64) a0] ((Ar 1 (O .u32)) r):=⟨fun {r} h=>by
 refine pw {T:=Cb,an:=(fun _=>.ask),nl:=(fun s=>bif Nat.beq s 2 then [(0,1)] else [])} Tryz.func81 ?_
 exact Y⟩
instance {a0:Int}:OK (Hv a0) fun r=>Aq Tryz.prog 40 [(O .i64) a0] (C9 r):=⟨fun {r} h=>by
 refine pw C0 Tryz.func40 ?_
 exact Y⟩
instance {a0 a1:List Int}:OK (Lf a0 a1) fun r=>Aq Tryz.prog 127 [(Ar 1 (O .u32)) a0,(Ar 1 (O .u32)) a1] ((Ar 1 (O .u32)) r):=⟨fun {r} h=>by
 refine pw {T:=Cb,an:=(fun _=>.ask),nl:=(fun s=>bif Nat.beq s 4 then [(0,1)] else [])} Tryz.func127 ?_
 refine ZS ?_
 refine Bp ?_
 refine ZO ?_
 refine Ay (Ay ?_)
 refine Bj h (fun v1=>[(17,(Al v1))]) (fun v1=>[]) ?_ ?_
 intro _ h _ _ _
 exact Y
 rintro v1 _ h
 refine Ao h (fun _ h=>?_) (fun _ h=>?_)
 exact Y
 refine Z ?_
 refine F2 h (fun o2 h=>?_)
 refine Z ?_
 refine F9 h (fun (v23,o24)=>[(26,(O .i64 v23))]) (fun (v23,o24)=>[(0,.rows 133 1 (List.map (O .u32) o24))]) (fun (v23,o24)=>o2.length=o24.length) ?_
 rintro ⟨v23,o24⟩ _ _ _ h _ _ q24
 refine Z ?_
 refine Ao h (fun _ h=>?_) (fun _ h=>?_)
 refine Z ?_
 refine F9 h (fun (v31,v32,o33)=>[(7,(O .u64 v31)),(31,(O .i64 v32))]) (fun (v31,v32,o33)=>[(0,.rows 133 1 (List.map (O .u32) o33))]) (fun (v31,v32,o33)=>o2.length=o33.length) ?_
 rintro ⟨v31,v32,o33⟩ _ _ _ h _ _ q33
 exact Y
 replace h:=Ce h
 refine Fm (Fk rfl (Ay ?_))
 refine D4 [.fz 5] ?_
 exact Y⟩
instance {a0 a1:A5}:OK (Kh a0 a1) fun r=>Aq Tryz.prog 70 [C9 a0,C9 a1] (C9 r):=⟨fun {r} h=>by
 refine pw C0 Tryz.func70 ?_
 exact Y⟩
instance {a0 a1:Int}:OK (Aaj a0 a1) fun r=>Aq Tryz.prog 129 [(O .i64) a0,(O .i64) a1] (C9 r):=⟨fun {r} h=>by
 refine pw C0 Tryz.func129 ?_
 exact Y⟩
instance {a0 a1:Int}:OK (Aay a0 a1) fun r=>Aq Tryz.prog 270 [(O .i64) a0,(O .i64) a1] (C9 r):=⟨fun {r} h=>by
 refine pw C0 Tryz.func270 ?_
 refine Z ?_
 refine Ba h (fun _ h=>?_)
 refine Z ?_
 refine A0 h (fun (v7,v8,v9,v10)=>[(9,(O .i64 v7))]) (fun (v7,v8,v9,v10)=>[(1,.cells 34 [(Al v8),(.sl 1 (List.map (O .u32) v9)),(.sl 1 (List.map (O .u32) v10))])]) ?_
 rintro ⟨v7,v8,v9,v10⟩ _ _ _ h _ _
 exact Y⟩
instance {a0 a1:Int}:OK (Afx a0 a1) fun r=>Aq Tryz.prog 196 [(O .i64) a0,(O .i64) a1] (.tup [C9 r.1,Al r.2]):=⟨fun {r} h=>by
 refine pw C0 Tryz.func196 ?_
 refine ZS ?_
 refine Bp ?_
 refine ZO ?_
 refine Ay (Ay ?_)
 refine Bj h (fun v2=>[(11,(Al v2))]) (fun v2=>[]) ?_ ?_
 intro _ h _ _ _
 exact Y
 rintro v2 _ h
 exact Y⟩
instance {a0:List B4}:OK (Wj a0) fun r=>Aq Tryz.prog 244 [(Ar 3 Ea) a0] ((Ar 3 C9) r):=⟨fun {r} h=>by
 refine pw {T:=Cb,an:=(fun s=>bif Nat.beq s 10 then .own else .ask),nl:=(fun s=>bif Nat.beq s 2 then [(0,3)] else [])} Tryz.func244 ?_
 refine Z ?_
 refine Ba h (fun _ h=>?_)
 refine Z ?_
 refine F9 h (fun (v14,o15)=>[(3,(.arr 0 1 0 1)),(13,(O .i64 v14))]) (fun (v14,o15)=>[(0,.rows 34 3 (List.map C9 o15))]) (fun (v14,o15)=>1=o15.length) ?_
 rintro ⟨v14,o15⟩ _ _ _ h _ _ q15
 refine Z ?_
 refine Ao h (fun _ h=>?_) (fun _ h=>?_)
 refine Z ?_
 refine Bz h (fun _ _ _ _ h=>?_)
 refine Z ?_
 refine Ao h (fun _ h=>?_) (fun _ h=>?_)
 exact Y
 refine Z ?_
 refine Aok (f:=C9) (z:=((A5.mk false [] []):A5)) (by repeat (first | exact Ia.nil | apply Ia.sl | apply Ia.same)) h (fun o23 h=>?_)
 exact Y
 exact Y⟩
instance {a0:Int}:OK (Aa7 a0) fun r=>Aq Tryz.prog 375 [(.val (.slice none 0 0)),(O .i64) a0] ((Ar 3 Ea) r):=⟨fun {r} h=>by
 refine pw {T:=Cb,an:=(fun _=>.ask),nl:=(fun s=>bif Nat.beq s 4 then [(0,3)] else [])} Tryz.func375 ?_
 exact Y⟩
instance {a0:List (List B4)}:OK (Aa4 a0) fun r=>Aq Tryz.prog 338 [(Ar 1 (Ar 3 Ea)) a0] ((Ar 3 Ea) r):=⟨fun {r} h=>by
 refine pw {T:=Cb,an:=(fun _=>.ask),nl:=(fun s=>bif Nat.beq s 2 then [(0,3)] else [])} Tryz.func338 ?_
 refine Z ?_
 refine A0 h (fun (v2,v3)=>[(3,(O .i64 v2)),(11,(O .i64 v3))]) (fun (v2,v3)=>[]) ?_
 rintro ⟨v2,v3⟩ _ _ _ h _ _
 refine Z ?_
 refine Ao h (fun _ h=>?_) (fun _ h=>?_)
 exact Y
 replace h:=Ce h
 refine Z ?_
 refine Ba h (fun v6 h=>?_)
 refine Z ?_
 refine A0 h (fun v10=>[(6,(.sl 3 (List.map Ea v6))),(27,(O .i64 v10))]) (fun v10=>[]) ?_
 rintro v10 _ _ _ h _ _
 refine Z ?_
 refine Ao h (fun _ h=>?_) (fun _ h=>?_)
 refine Z ?_
 refine Bz h (fun _ v11 _ _ h=>?_)
 refine Z ?_
 refine Afd (f:=Ea) (l:=v11) rfl h (fun h=>?_)
 exact Y
 exact Y⟩
instance {a0:Int}:OK (Aa6 a0) fun r=>Aq Tryz.prog 374 [(.val (.slice none 0 0)),(O .i64) a0] ((Ar 3 Eg) r):=⟨fun {r} h=>by
 refine pw {T:=Cb,an:=(fun _=>.ask),nl:=(fun s=>bif Nat.beq s 4 then [(0,3)] else [])} Tryz.func374 ?_
 exact Y⟩
instance {a0:List (List Ch)}:OK (Aa3 a0) fun r=>Aq Tryz.prog 337 [(Ar 1 (Ar 3 Eg)) a0] ((Ar 3 Eg) r):=⟨fun {r} h=>by
 refine pw {T:=Cb,an:=(fun _=>.ask),nl:=(fun s=>bif Nat.beq s 2 then [(0,3)] else [])} Tryz.func337 ?_
 refine Z ?_
 refine A0 h (fun (v2,v3)=>[(3,(O .i64 v2)),(11,(O .i64 v3))]) (fun (v2,v3)=>[]) ?_
 rintro ⟨v2,v3⟩ _ _ _ h _ _
 refine Z ?_
 refine Ao h (fun _ h=>?_) (fun _ h=>?_)
 exact Y
 replace h:=Ce h
 refine Z ?_
 refine Ba h (fun v6 h=>?_)
 refine Z ?_
 refine A0 h (fun v10=>[(6,(.sl 3 (List.map Eg v6))),(27,(O .i64 v10))]) (fun v10=>[]) ?_
 rintro v10 _ _ _ h _ _
 refine Z ?_
 refine Ao h (fun _ h=>?_) (fun _ h=>?_)
 refine Z ?_
 refine Bz h (fun _ v11 _ _ h=>?_)
 refine Z ?_
 refine Afd (f:=Eg) (l:=v11) rfl h (fun h=>?_)
 exact Y
 exact Y⟩
instance {a0 a1:Bb}:OK (Aa1 a0 a1) fun r=>Aq Tryz.prog 298 [E3 a0,E3 a1] (E3 r):=⟨fun {r} h=>by
 refine pw C0 Tryz.func298 ?_
 exact Y⟩
instance {a0:Ak} {a1:A5} {a2:Bb}:OK (Wg a0 a1 a2) fun r=>Aq Tryz.prog 239 [Bl a0,C9 a1,E3 a2] (Bl r):=⟨fun {r} h=>by
 refine pw C0 Tryz.func239 ?_
 exact Y⟩
instance {a0:List B4}:OK (Wh a0) fun r=>Aq Tryz.prog 241 [(Ar 3 Ea) a0] ((Ar 3 Ea) r):=⟨fun {r} h=>by
 exact Ao4 h⟩
instance {a0:List Ch}:OK (We a0) fun r=>Aq Tryz.prog 235 [(Ar 3 Eg) a0] ((Ar 3 Eg) r):=⟨fun {r} h=>by
 exact Ao3 h⟩
instance {a0 a1:B4}:OK (Qg a0 a1) fun r=>Aq Tryz.prog 243 [Ea a0,Ea a1] ((O .i64) r):=⟨fun {r} h=>by
 refine pw C0 Tryz.func243 ?_
 exact Y⟩
instance {a0:List B4} {a1 a2:Int}:OK (Wq a0 a1 a2) fun r=>Aq Tryz.prog 339 [(Ar 3 Ea) a0,(O .i64) a1,(O .i64) a2,(.fn 243 [])] (.tup []):=⟨fun {r} h=>by
 refine pw C0 Tryz.func339 ?_
 refine Z ?_
 refine A0 h (fun v8=>[(8,(O .i64 v8))]) (fun v8=>[]) ?_
 rintro v8 _ _ _ h _ _
 refine Z ?_
 refine Ao h (fun _ h=>?_) (fun _ h=>?_)
 refine Z ?_
 refine A0 h (fun _=>[(9,(O .i64 v8))]) (fun _=>[]) ?_
 rintro _ _ _ _ h _ _
 refine Ay (Ay ?_)
 refine Bj h (fun v12=>[(34,(Al v12))]) (fun v12=>[]) ?_ ?_
 intro _ h _ _ _
 exact Y
 rintro v12 _ h
 exact Y
 exact Y⟩
instance {a0:List B4} {a1 a2 a3:Int}:OK (Tw a0 a1 a2 a3) fun r=>Aq Tryz.prog 391 [(Ar 3 Ea) a0,(O .i64) a1,(O .i64) a2,(O .i64) a3,(.fn 243 [])] (.tup []):=⟨fun {r} h=>by
 refine pw C0 Tryz.func391 ?_
 refine Z ?_
 refine A0 h (fun _=>[(10,(O .i64 0))]) (fun _=>[]) ?_
 rintro _ _ _ _ h _ _
 exact Y⟩
instance {a0:List B4} {a1 a2 a3:Int}:OK (Aa8 a0 a1 a2 a3) fun r=>Aq Tryz.prog 376 [(Ar 3 Ea) a0,(O .i64) a1,(O .i64) a2,(O .i64) a3,(.fn 243 [])] (.tup []):=⟨fun {r} h=>by
 refine pw C0 Tryz.func376 ?_
 refine Z ?_
 refine A0 h (fun (v3,v4)=>[(10,(O .i64 v3)),(11,(O .i64 v4))]) (fun (v3,v4)=>[]) ?_
 rintro ⟨v3,v4⟩ _ _ _ h _ _
 exact Y⟩
abbrev Agt (k:Nat):Prop:=∀{a0:List B4} {a1 a2 a3:Int},OK (Oo k a0 a1 a2 a3) fun r=>Aq Tryz.prog 340 [(Ar 3 Ea) a0,(O .i64) a1,(O .i64) a2,(O .i64) a3,(.fn 243 [])] (.tup [])
theorem Ao9 (k:Nat):Agt k:=by
 induction k with
 | zero=>exact okz
 | succ k ih=>
  refine @fun a0 a1 a2 a3=>⟨fun {r} h=>?_⟩
  .unfold Oo at h
   refine pw C0 Tryz.func340 ?_
   refine Z ?_
   refine Ao h (fun _ h=>?_) (fun _ h=>?_)
   refine Z ?_
   refine A0 h (fun (v5,v6)=>[(10,(O .i64 v5)),(11,(O .i64 v6))]) (fun (v5,v6)=>[]) ?_
   rintro ⟨v5,v6⟩ _ _ _ h _ _
   refine Z ?_
   refine Ao h (fun _ h=>?_) (fun _ h=>?_)
   exact Y
   replace h:=Ce h
   refine Z ?_
   refine A0 h (fun _=>[(13,(O .i64 a1))]) (fun _=>[]) ?_
   rintro _ _ _ _ h _ _
   exact Y
   refine Z ?_
   refine Ao h (fun _ h=>?_) (fun _ h=>?_)
   refine Z ?_
   refine A0 h (fun (v19,v20)=>[(14,(O .i64 v19)),(15,(O .i64 v20))]) (fun (v19,v20)=>[]) ?_
   rintro ⟨v19,v20⟩ _ _ _ h _ _
   refine Z ?_
   refine Ao h (fun _ h=>?_) (fun _ h=>?_)
   exact Y
   replace h:=Ce h
   refine Z ?_
   refine A0 h (fun _=>[(17,(O .i64 a2))]) (fun _=>[]) ?_
   rintro _ _ _ _ h _ _
   exact Y
   refine Z ?_
   refine Vt h (fun _ h=>?_)
   refine ZS ?_
   refine Bp ?_
   refine ZS ?_
   refine Bp ?_
   refine ZS ?_
   refine Bp ?_
   refine ZO ?_
   refine Bj h (fun (v30,v31)=>[(20,(O .i64 v30)),(21,(O .i64 v31))]) (fun (v30,v31)=>[]) ?_ ?_
   intro _ h _ _ _
   exact Y
   rintro ⟨v30,v31⟩ _ h
   refine Z ?_
   refine A0 h (fun (v36,v37)=>[(20,(O .i64 v36)),(21,(O .i64 v37))]) (fun (v36,v37)=>[]) ?_
   rintro ⟨v36,v37⟩ _ _ _ h _ _
   refine Z ?_
   refine Ao h (fun _ h=>?_) (fun _ h=>?_)
   exact Y
   replace h:=Ce h
   refine ZS ?_
   refine Bp ?_
   refine ZO ?_
   refine Ay (Ay ?_)
   refine Bj h (fun v43=>[(185,(Al v43))]) (fun v43=>[]) ?_ ?_
   intro _ h _ _ _
   exact Y
   rintro v43 _ h
   refine Bj h (fun _=>[]) (fun _=>[]) ?_ ?_
   intro _ h _ _ _
   exact Y
   rintro _ _ h
   refine Ay (Ay ?_)
   refine Bj h (fun v45=>[(199,(Al v45))]) (fun v45=>[]) ?_ ?_
   intro _ h _ _ _
   exact Y
   rintro v45 _ h
   refine Bj h (fun _=>[]) (fun _=>[]) ?_ ?_
   intro _ h _ _ _
   exact Y
   rintro _ _ h
   exact Y
instance {k:Nat}:Agt k:=(Ao9 k)
instance {a0:List B4} {a1:Int}:OK (Aa2 a0 a1) fun r=>Aq Tryz.prog 299 [(Ar 3 Ea) a0,(O .i64) a1,(.fn 243 [])] (.tup []):=⟨fun {r} h=>by
 refine pw C0 Tryz.func299 ?_
 refine Z ?_
 refine A0 h (fun (v2,v3)=>[(7,(O .i64 v2)),(8,(O .i64 v3))]) (fun (v2,v3)=>[]) ?_
 rintro ⟨v2,v3⟩ _ _ _ h _ _
 refine Z ?_
 refine Ao h (fun _ h=>?_) (fun _ h=>?_)
 exact Y
 replace h:=Ce h
 refine Z ?_
 refine Ba h (fun _ h=>?_)
 refine Z ?_
 refine A0 h (fun (v15,v16,v17)=>[(6,(O .i64 v15)),(7,(O .i64 v16)),(8,(O .i64 v17))]) (fun (v15,v16,v17)=>[]) ?_
 rintro ⟨v15,v16,v17⟩ _ _ _ h _ _
 refine Z ?_
 refine Ao h (fun _ h=>?_) (fun _ h=>?_)
 refine Z ?_
 refine A0 h (fun (v19,v20)=>[(7,(O .i64 v19)),(8,(O .i64 v20))]) (fun (v19,v20)=>[]) ?_
 rintro ⟨v19,v20⟩ _ _ _ h _ _
 exact Y
 exact Y⟩
instance {a0:List B4}:OK (Wi a0) fun r=>Aq Tryz.prog 242 [(Ar 3 Ea) a0,(.fn 243 [])] (.tup []):=⟨fun {r} h=>by
 refine pw C0 Tryz.func242 ?_
 exact Y⟩
instance {a0 a1:Ch}:OK (Qf a0 a1) fun r=>Aq Tryz.prog 237 [Eg a0,Eg a1] ((O .i64) r):=⟨fun {r} h=>by
 refine pw C0 Tryz.func237 ?_
 exact Y⟩
instance {a0:List Ch} {a1 a2:Int}:OK (Wp a0 a1 a2) fun r=>Aq Tryz.prog 328 [(Ar 3 Eg) a0,(O .i64) a1,(O .i64) a2,(.fn 237 [])] (.tup []):=⟨fun {r} h=>by
 refine pw C0 Tryz.func328 ?_
 refine Z ?_
 refine A0 h (fun v8=>[(8,(O .i64 v8))]) (fun v8=>[]) ?_
 rintro v8 _ _ _ h _ _
 refine Z ?_
 refine Ao h (fun _ h=>?_) (fun _ h=>?_)
 refine Z ?_
 refine A0 h (fun _=>[(9,(O .i64 v8))]) (fun _=>[]) ?_
 rintro _ _ _ _ h _ _
 refine Ay (Ay ?_)
 refine Bj h (fun v12=>[(34,(Al v12))]) (fun v12=>[]) ?_ ?_
 intro _ h _ _ _
 exact Y
 rintro v12 _ h
 exact Y
 exact Y⟩
instance {a0:List Ch} {a1 a2 a3:Int}:OK (Tv a0 a1 a2 a3) fun r=>Aq Tryz.prog 382 [(Ar 3 Eg) a0,(O .i64) a1,(O .i64) a2,(O .i64) a3,(.fn 237 [])] (.tup []):=⟨fun {r} h=>by
 refine pw C0 Tryz.func382 ?_
 refine Z ?_
 refine A0 h (fun _=>[(10,(O .i64 0))]) (fun _=>[]) ?_
 rintro _ _ _ _ h _ _
 exact Y⟩
instance {a0:List Ch} {a1 a2 a3:Int}:OK (Aa5 a0 a1 a2 a3) fun r=>Aq Tryz.prog 362 [(Ar 3 Eg) a0,(O .i64) a1,(O .i64) a2,(O .i64) a3,(.fn 237 [])] (.tup []):=⟨fun {r} h=>by
 refine pw C0 Tryz.func362 ?_
 refine Z ?_
 refine A0 h (fun (v3,v4)=>[(10,(O .i64 v3)),(11,(O .i64 v4))]) (fun (v3,v4)=>[]) ?_
 rintro ⟨v3,v4⟩ _ _ _ h _ _
 exact Y⟩
abbrev Agu (k:Nat):Prop:=∀{a0:List Ch} {a1 a2 a3:Int},OK (On k a0 a1 a2 a3) fun r=>Aq Tryz.prog 329 [(Ar 3 Eg) a0,(O .i64) a1,(O .i64) a2,(O .i64) a3,(.fn 237 [])] (.tup [])
theorem Apa (k:Nat):Agu k:=by
 induction k with
 | zero=>exact okz
 | succ k ih=>
  refine @fun a0 a1 a2 a3=>⟨fun {r} h=>?_⟩
  .unfold On at h
   refine pw C0 Tryz.func329 ?_
   refine Z ?_
   refine Ao h (fun _ h=>?_) (fun _ h=>?_)
   refine Z ?_
   refine A0 h (fun (v5,v6)=>[(10,(O .i64 v5)),(11,(O .i64 v6))]) (fun (v5,v6)=>[]) ?_
   rintro ⟨v5,v6⟩ _ _ _ h _ _
   refine Z ?_
   refine Ao h (fun _ h=>?_) (fun _ h=>?_)
   exact Y
   replace h:=Ce h
   refine Z ?_
   refine A0 h (fun _=>[(13,(O .i64 a1))]) (fun _=>[]) ?_
   rintro _ _ _ _ h _ _
   exact Y
   refine Z ?_
   refine Ao h (fun _ h=>?_) (fun _ h=>?_)
   refine Z ?_
   refine A0 h (fun (v19,v20)=>[(14,(O .i64 v19)),(15,(O .i64 v20))]) (fun (v19,v20)=>[]) ?_
   rintro ⟨v19,v20⟩ _ _ _ h _ _
   refine Z ?_
   refine Ao h (fun _ h=>?_) (fun _ h=>?_)
   exact Y
   replace h:=Ce h
   refine Z ?_
   refine A0 h (fun _=>[(17,(O .i64 a2))]) (fun _=>[]) ?_
   rintro _ _ _ _ h _ _
   exact Y
   refine Z ?_
   refine Vt h (fun _ h=>?_)
   refine ZS ?_
   refine Bp ?_
   refine ZS ?_
   refine Bp ?_
   refine ZS ?_
   refine Bp ?_
   refine ZO ?_
   refine Bj h (fun (v30,v31)=>[(20,(O .i64 v30)),(21,(O .i64 v31))]) (fun (v30,v31)=>[]) ?_ ?_
   intro _ h _ _ _
   exact Y
   rintro ⟨v30,v31⟩ _ h
   refine Z ?_
   refine A0 h (fun (v36,v37)=>[(20,(O .i64 v36)),(21,(O .i64 v37))]) (fun (v36,v37)=>[]) ?_
   rintro ⟨v36,v37⟩ _ _ _ h _ _
   refine Z ?_
   refine Ao h (fun _ h=>?_) (fun _ h=>?_)
   exact Y
   replace h:=Ce h
   refine ZS ?_
   refine Bp ?_
   refine ZO ?_
   refine Ay (Ay ?_)
   refine Bj h (fun v43=>[(185,(Al v43))]) (fun v43=>[]) ?_ ?_
   intro _ h _ _ _
   exact Y
   rintro v43 _ h
   refine Bj h (fun _=>[]) (fun _=>[]) ?_ ?_
   intro _ h _ _ _
   exact Y
   rintro _ _ h
   refine Ay (Ay ?_)
   refine Bj h (fun v45=>[(199,(Al v45))]) (fun v45=>[]) ?_ ?_
   intro _ h _ _ _
   exact Y
   rintro v45 _ h
   refine Bj h (fun _=>[]) (fun _=>[]) ?_ ?_
   intro _ h _ _ _
   exact Y
   rintro _ _ h
   exact Y
instance {k:Nat}:Agu k:=(Apa k)
instance {a0:List Ch} {a1:Int}:OK (Aa0 a0 a1) fun r=>Aq Tryz.prog 296 [(Ar 3 Eg) a0,(O .i64) a1,(.fn 237 [])] (.tup []):=⟨fun {r} h=>by
 refine pw C0 Tryz.func296 ?_
 refine Z ?_
 refine A0 h (fun (v2,v3)=>[(7,(O .i64 v2)),(8,(O .i64 v3))]) (fun (v2,v3)=>[]) ?_
 rintro ⟨v2,v3⟩ _ _ _ h _ _
 refine Z ?_
 refine Ao h (fun _ h=>?_) (fun _ h=>?_)
 exact Y
 replace h:=Ce h
 refine Z ?_
 refine Ba h (fun _ h=>?_)
 refine Z ?_
 refine A0 h (fun (v15,v16,v17)=>[(6,(O .i64 v15)),(7,(O .i64 v16)),(8,(O .i64 v17))]) (fun (v15,v16,v17)=>[]) ?_
 rintro ⟨v15,v16,v17⟩ _ _ _ h _ _
 refine Z ?_
 refine Ao h (fun _ h=>?_) (fun _ h=>?_)
 refine Z ?_
 refine A0 h (fun (v19,v20)=>[(7,(O .i64 v19)),(8,(O .i64 v20))]) (fun (v19,v20)=>[]) ?_
 rintro ⟨v19,v20⟩ _ _ _ h _ _
 exact Y
 exact Y⟩
instance {a0:List Ch}:OK (Wf a0) fun r=>Aq Tryz.prog 236 [(Ar 3 Eg) a0,(.fn 237 [])] (.tup []):=⟨fun {r} h=>by
 refine pw C0 Tryz.func236 ?_
 exact Y⟩
instance {a0:A5} {a1:Bb} {b1:List (ByteArray×Int)} {b2:List (ByteArray×(List Dk))} {b0_0:List Ax} {b0_1:List Ah} {b0_2 b0_3:Int} {b0_4:List Ah}:OK (Aaq a0 a1 b1 b2 b0_0 b0_1 b0_2 b0_3 b0_4) fun r=>Cd Tryz.prog 163 [(.loc 0 0),C9 a0,E3 a1] [.cells 129 [(.sl 3 (List.map B7 b0_0)),(.sl 3 (Bd b0_1)),(O .i64 b0_2),(O .i64 b0_3),(.sl 3 (Bd b0_4)),(.mp 1),(.mp 2)],.map (Bh (O .i64) b1),.map (Bh (Ar 5 Eb) b2)] (.tup [(Ar 5 Bl) r.1,(O .i64) r.2]) [.cells 129 [(.sl 3 (List.map B7 b0_0)),(.sl 3 (Bd b0_1)),(O .i64 b0_2),(O .i64 b0_3),(.sl 3 (Bd b0_4)),(.mp 1),(.mp 2)],.map (Bh (O .i64) b1),.map (Bh (Ar 5 Eb) b2)]:=⟨fun {r} h=>by
 refine aw {T:=Cb,an:=(fun s=>bif Nat.beq s 22 then .own else .ask),nl:=(fun s=>bif Nat.beq s 155 then [(0,3)] else bif Nat.beq s 31 then [(3,3),(4,3)] else bif Nat.beq s 22 then [(0,5)] else bif Nat.beq s 6 then [(0,5)] else [])} true Tryz.func163 ?_
 refine Z ?_
 refine Ba h (fun _ h=>?_)
 refine Z ?_
 refine Ao h (fun _ h=>?_) (fun _ h=>?_)
 exact Y
 refine Z ?_
 refine Ba h (fun v4 h=>?_)
 refine Z ?_
 refine Ba h (fun _ h=>?_)
 refine Z ?_
 refine A0 h (fun _=>[(6,(.sl 5 (List.map Bl []))),(7,(O .i64 0)),(8,(.sl 5 (List.map Bl [(Ak.mk a0 (Bb.mk [] []))]))),(9,(.sl 3 (List.map Eg v4)))]) (fun _=>[]) ?_
 rintro _ _ _ _ h _ _
 refine Z ?_
 refine Ao h (fun _ h=>?_) (fun _ h=>?_)
 refine Z ?_
 refine Bz h (fun _ _ _ _ h=>?_)
 refine Z ?_
 refine A0 h (fun v8=>[(11,(O .i64 v8))]) (fun v8=>[]) ?_
 rintro v8 _ _ _ h _ _
 exact Y
 replace h:=Ce h
 refine Z ?_
 refine Ba h (fun _ h=>?_)
 refine Z ?_
 refine Ba h (fun _ h=>?_)
 refine Z ?_
 refine A0 h (fun (v104,v105)=>[(8,(.sl 5 (List.map Bl v104))),(19,(.sl 3 (List.map Ea v105)))]) (fun (v104,v105)=>[]) ?_
 rintro ⟨v104,v105⟩ _ _ _ h _ _
 refine Z ?_
 refine Ao h (fun _ h=>?_) (fun _ h=>?_)
 refine Z ?_
 refine Bz h (fun _ _ _ _ h=>?_)
 refine Z ?_
 refine A0 h (fun v110=>[(21,(O .i64 v110))]) (fun v110=>[]) ?_
 rintro v110 _ _ _ h _ _
 refine Z ?_
 refine Fd h (fun _ h=>?_) (fun _ h=>?_)
 refine Z ?_
 refine Bz h (fun _ _ _ _ h=>?_)
 refine Z ?_
 refine Ba h (fun _ h=>?_)
 refine Z ?_
 refine Ao h (fun _ h=>?_) (fun _ h=>?_)
 exact Y
 replace h:=Ce h
 refine Z ?_
 refine Oz h (fun _ h=>?_)
 refine Z ?_
 refine Ba h (fun _ h=>?_)
 refine Z ?_
 refine A0 h (fun (v167,o168)=>[(22,(.arr 6 o168.length 0 o168.length)),(135,(O .i64 v167))]) (fun (v167,o168)=>[(6,.rows 84 5 (List.map Bl o168))]) ?_
 rintro ⟨v167,o168⟩ _ _ _ h _ _
 refine Z ?_
 refine Ao h (fun _ h=>?_) (fun _ h=>?_)
 refine Z ?_
 refine Bz h (fun _ _ _ _ h=>?_)
 refine Z ?_
 refine Ba h (fun _ h=>?_)
 refine Z ?_
 refine Ao h (fun _ h=>?_) (fun _ h=>?_)
 exact Y
 refine Z ?_
 refine A0 h (fun (v184,o185)=>[(22,(.arr 6 o185.length 0 o185.length)),(145,(O .i64 v184))]) (fun (v184,o185)=>[(6,.rows 84 5 (List.map Bl o185))]) ?_
 rintro ⟨v184,o185⟩ _ _ _ h _ _
 exact Y
 replace h:=Ce h
 refine Fm (Fk rfl ?_)
 refine D4 [.fz 22] ?_
 exact Y
 replace h:=Ce h
 refine Z ?_
 refine Oz h (fun _ h=>?_)
 refine Z ?_
 refine Ba h (fun _ h=>?_)
 refine Z ?_
 refine A0 h (fun (v167,o168)=>[(22,(.arr 6 o168.length 0 o168.length)),(135,(O .i64 v167))]) (fun (v167,o168)=>[(6,.rows 84 5 (List.map Bl o168))]) ?_
 rintro ⟨v167,o168⟩ _ _ _ h _ _
 refine Z ?_
 refine Ao h (fun _ h=>?_) (fun _ h=>?_)
 refine Z ?_
 refine Bz h (fun _ _ _ _ h=>?_)
 refine Z ?_
 refine Ba h (fun _ h=>?_)
 refine Z ?_
 refine Ao h (fun _ h=>?_) (fun _ h=>?_)
 exact Y
 refine Z ?_
 refine A0 h (fun (v184,o185)=>[(22,(.arr 6 o185.length 0 o185.length)),(145,(O .i64 v184))]) (fun (v184,o185)=>[(6,.rows 84 5 (List.map Bl o185))]) ?_
 rintro ⟨v184,o185⟩ _ _ _ h _ _
 exact Y
 replace h:=Ce h
 refine Fm (Fk rfl ?_)
 refine D4 [.fz 22] ?_
 exact Y
 exact Y⟩
theorem Agv {a0:Int} {a1:Bool} {b1:List Int} {r:(Int×(List Int))} (h:N9 a0 a1 b1=some (.inl r)):Cd Tryz.prog 216 [(.loc 0 0),(O .i64) a0,Al a1] [.cells 187 [(.val (.pointer none)),(.arr 1 b1.length 0 b1.length)],.rows 5 1 (List.map (O .u8) b1)] ((O .i64) r.1) [.cells 187 [(.loc 0 0),(.arr 1 r.2.length 0 r.2.length)],.rows 5 1 (List.map (O .u8) r.2)]:=by
 refine aw C0 true Tryz.func216 ?_
 refine ZS ?_
 refine Bp ?_
 refine ZO ?_
 refine Ay (Ju (Ay ?_))
 refine Bj h (fun v1=>[(7,(Al v1))]) (fun v1=>[]) ?_ ?_
 intro _ h _ _ _
 exact Y
 rintro v1 _ h
 refine Ao h (fun _ h=>?_) (fun _ h=>?_)
 refine Z ?_
 refine Bc [0,1] h (fun _ h=>?_)
 exact Y
 refine Z ?_
 refine Ao h (fun _ h=>?_) (fun _ h=>?_)
 refine Z ?_
 refine Bc [0,1] h (fun _ h=>?_)
 exact Y
 refine Z ?_
 refine Ao h (fun _ h=>?_) (fun _ h=>?_)
 refine Z ?_
 refine Bc [0,1] h (fun _ h=>?_)
 exact Y
 exact Y
theorem Agw {a0:Int} {a1:Bool} {b1:List Int} {r:(Int×(List Int))} (h:N9 a0 a1 b1=some (.inr r)):Cd Tryz.prog 216 [(.loc 0 0),(O .i64) a0,Al a1] [.cells 187 [(.val (.pointer none)),(.arr 1 b1.length 0 b1.length)],.rows 5 1 (List.map (O .u8) b1)] ((O .i64) r.1) [.cells 187 [(.val (.pointer none)),(.arr 1 r.2.length 0 r.2.length)],.rows 5 1 (List.map (O .u8) r.2)]:=by
 refine aw C0 true Tryz.func216 ?_
 refine ZS ?_
 refine Bp ?_
 refine ZO ?_
 refine Ay (Ju (Ay ?_))
 refine Bj h (fun v1=>[(7,(Al v1))]) (fun v1=>[]) ?_ ?_
 intro _ h _ _ _
 exact Y
 rintro v1 _ h
 refine Ao h (fun _ h=>?_) (fun _ h=>?_)
 refine Z ?_
 refine Bc [0,1] h (fun _ h=>?_)
 exact Y
 refine Z ?_
 refine Ao h (fun _ h=>?_) (fun _ h=>?_)
 refine Z ?_
 refine Bc [0,1] h (fun _ h=>?_)
 exact Y
 refine Z ?_
 refine Ao h (fun _ h=>?_) (fun _ h=>?_)
 refine Z ?_
 refine Bc [0,1] h (fun _ h=>?_)
 exact Y
 exact Y
instance {a0:Int} {a1:Bool} {b1:List Int}:OK (Ty a0 a1 b1) fun r=>Cd Tryz.prog 216 [(.loc 0 0),(O .i64) a0,Al a1] [.cells 187 [(.loc 0 0),(.arr 1 b1.length 0 b1.length)],.rows 5 1 (List.map (O .u8) b1)] ((O .i64) r.1) [.cells 187 [(.loc 0 0),(.arr 1 r.2.length 0 r.2.length)],.rows 5 1 (List.map (O .u8) r.2)]:=⟨fun {r} h=>by
 refine aw C0 true Tryz.func216 ?_
 refine ZS ?_
 refine Bp ?_
 refine ZO ?_
 refine Ay (Ju (Ay ?_))
 refine Bj h (fun v1=>[(7,(Al v1))]) (fun v1=>[]) ?_ ?_
 intro _ h _ _ _
 exact Y
 rintro v1 _ h
 refine Ao h (fun _ h=>?_) (fun _ h=>?_)
 refine Z ?_
 refine Bc [0,1] h (fun _ h=>?_)
 exact Y
 refine Z ?_
 refine Ao h (fun _ h=>?_) (fun _ h=>?_)
 refine Z ?_
 refine Bc [0,1] h (fun _ h=>?_)
 exact Y
 refine Z ?_
 refine Ao h (fun _ h=>?_) (fun _ h=>?_)
 refine Z ?_
 refine Bc [0,1] h (fun _ h=>?_)
 exact Y
 exact Y⟩
instance {a0 a1:Int}:OK (Jy a0 a1) fun r=>Aq Tryz.prog 217 [(O .i64) a0,(O .i64) a1] (C7 r):=⟨fun {r} h=>by
 exact Aox h⟩
instance {b1:List Int}:OK (Wx b1) fun r=>Cd Tryz.prog 147 [(.loc 0 0)] [.cells 187 [(.val (.pointer none)),(.arr 1 b1.length 0 b1.length)],.rows 5 1 (List.map (O .u8) b1)] (C7 r) [.cells 187 [(.val (.pointer none)),(.arr 1 b1.length 0 b1.length)],.dead]:=⟨fun {r} h=>by
 exact Af3 h⟩
end Go.Ab
namespace Go.Ab
open Go Go.Proofs
set_option maxRecDepth 10000
set_option maxHeartbeats 4000000
set_option linter.unusedVariables false
instance {a0:Cu}:OK (Lg a0) fun r=>Aq Tryz.prog 146 [Gk a0] (C7 r):=⟨fun {r} h=>by
 refine pw C0 Tryz.func146 ?_
 refine Z ?_
 refine Ba h (fun _ h=>?_)
 refine Z ?_
 refine Ao h (fun _ h=>?_) (fun _ h=>?_)
 exact Y
 refine ZS ?_
 refine Bp ?_
 refine ZO ?_
 refine Ay (Ay ?_)
 refine D4 [.own 3 1 5 1] ?_
 refine Z ?_
 refine Vx ?_
 refine Z ?_
 refine Ao h (fun _ h=>?_) (fun _ h=>?_)
 refine Ix (Ay ?_)
 refine Bj h (fun (v30,o31)=>[(4,(O .i64 0)),(6,(O .i64 v30))]) (fun (v30,o31)=>[(1,.cells 187 [(.loc 1 0),(.arr 2 o31.length 0 o31.length)]),(2,.rows 5 1 (List.map (O .u8) o31))]) ?_ ?_
 intro _ h _ _ _
 refine Z ?_
 refine Bz h (fun _ v5 _ _ h=>?_)
 refine Z ?_
 refine Dj h (fun v7 hcv7 h=>?_)
 rcases v7 with v8 | v9
 refine Fz.act [1,2] _ _ _ _ (Agv (a0:=v5.Coef) (a1:=true) (b1:=[]) hcv7) rfl rfl ⟨rfl,rfl,trivial⟩ ?_
 refine ZS ?_
 refine Bp ?_
 refine ZO ?_
 refine Bj h (fun o14=>[]) (fun o14=>[(1,.cells 187 [(.loc 1 0),(.arr 2 o14.length 0 o14.length)]),(2,.rows 5 1 (List.map (O .u8) o14))]) ?_ ?_
 intro _ h _ _ _
 refine Ao h (fun _ h=>?_) (fun _ h=>?_)
 refine Z ?_
 refine Ba h (fun _ h=>?_)
 refine Z ?_
 refine Ff h (fun h=>?_)
 refine Z ?_
 refine Bc [1,2] h (fun _ h=>?_)
 exact Y
 exact Y
 rintro o14 _ h
 refine Z ?_
 refine Ao h (fun _ h=>?_) (fun _ h=>?_)
 refine Z ?_
 refine Bc [1,2] h (fun _ h=>?_)
 exact Y
 refine Z ?_
 refine Ba h (fun _ h=>?_)
 refine Z ?_
 refine Ff h (fun h=>?_)
 refine Z ?_
 refine Bc [1,2] h (fun _ h=>?_)
 exact Y
 refine Fz.act [1,2] _ _ _ _ (Agw (a0:=v5.Coef) (a1:=true) (b1:=[]) hcv7) rfl rfl ⟨rfl,rfl,trivial⟩ ?_
 refine Z ?_
 refine Ao h (fun _ h=>?_) (fun _ h=>?_)
 refine Z ?_
 refine Ba h (fun _ h=>?_)
 refine Z ?_
 refine Ff h (fun h=>?_)
 refine Z ?_
 refine Bc [1,2] h (fun _ h=>?_)
 refine Z ?_
 refine Ao h (fun _ h=>?_) (fun _ h=>?_)
 refine Z ?_
 refine Bc [1,2] h (fun _ h=>?_)
 exact Y
 refine Z ?_
 refine Ba h (fun _ h=>?_)
 refine Z ?_
 refine Ff h (fun h=>?_)
 refine Z ?_
 refine Bc [1,2] h (fun _ h=>?_)
 exact Y
 refine Z ?_
 refine Ao h (fun _ h=>?_) (fun _ h=>?_)
 refine Z ?_
 refine Bc [1,2] h (fun _ h=>?_)
 exact Y
 refine Z ?_
 refine Ba h (fun _ h=>?_)
 refine Z ?_
 refine Ff h (fun h=>?_)
 refine Z ?_
 refine Bc [1,2] h (fun _ h=>?_)
 exact Y
 rintro ⟨v30,o31⟩ _ h
 refine Z ?_
 refine A0 h (fun (v43,o44)=>[(13,(O .i64 v43))]) (fun (v43,o44)=>[(1,.cells 187 [(.loc 1 0),(.arr 2 o44.length 0 o44.length)]),(2,.rows 5 1 (List.map (O .u8) o44))]) ?_
 rintro ⟨v43,o44⟩ _ _ _ h _ _
 refine Z ?_
 refine Ao h (fun _ h=>?_) (fun _ h=>?_)
 refine Z ?_
 refine Bz h (fun _ _ _ _ h=>?_)
 refine Z ?_
 refine Bc [1,2] h (fun _ h=>?_)
 refine ZS ?_
 refine Bp ?_
 refine ZO ?_
 refine Bj h (fun o51=>[]) (fun o51=>[(1,.cells 187 [(.loc 1 0),(.arr 2 o51.length 0 o51.length)]),(2,.rows 5 1 (List.map (O .u8) o51))]) ?_ ?_
 intro _ h _ _ _
 refine Ao h (fun _ h=>?_) (fun _ h=>?_)
 refine Z ?_
 refine Ba h (fun _ h=>?_)
 refine Z ?_
 refine Ff h (fun h=>?_)
 refine Z ?_
 refine Bc [1,2] h (fun _ h=>?_)
 exact Y
 exact Y
 rintro o51 _ h
 refine Z ?_
 refine Ao h (fun _ h=>?_) (fun _ h=>?_)
 refine Z ?_
 refine Bc [1,2] h (fun _ h=>?_)
 exact Y
 refine Z ?_
 refine Ba h (fun _ h=>?_)
 refine Z ?_
 refine Ff h (fun h=>?_)
 refine Z ?_
 refine Bc [1,2] h (fun _ h=>?_)
 exact Y
 replace h:=Ce h
 refine Fm (Fk rfl (Ay (Ay ?_)))
 refine Bj h (fun v57=>[(47,(Al v57))]) (fun v57=>[]) ?_ ?_
 intro _ h _ _ _
 exact Y
 rintro v57 _ h
 refine Ao h (fun _ h=>?_) (fun _ h=>?_)
 refine Z ?_
 refine Bc [1,2] h (fun _ h=>?_)
 refine Z ?_
 refine Ba h (fun _ h=>?_)
 refine Z ?_
 refine Bc [1,2] h (fun _ h=>?_)
 refine Z ?_
 refine Bc [1,2] h (fun _ h=>?_)
 exact Y
 refine Z ?_
 refine Bc [1,2] h (fun _ h=>?_)
 exact Y
 refine Fm (Fk rfl (Ay (Ay ?_)))
 refine Bj h (fun v63=>[(47,(Al v63))]) (fun v63=>[]) ?_ ?_
 intro _ h _ _ _
 exact Y
 rintro v63 _ h
 refine Ao h (fun _ h=>?_) (fun _ h=>?_)
 refine Z ?_
 refine Dj h (fun v64 hcv64 h=>?_)
 rcases v64 with v65 | v66
 refine Fz.act [1,2] _ _ _ _ (Agv (a0:=a0.Const) (a1:=((a0.Terms.length:Int)==(0:Int))) (b1:=[]) hcv64) rfl rfl ⟨rfl,rfl,trivial⟩ ?_
 refine Z ?_
 refine Ba h (fun _ h=>?_)
 refine Z ?_
 refine Bc [1,2] h (fun _ h=>?_)
 refine Z ?_
 refine Bc [1,2] h (fun _ h=>?_)
 exact Y
 refine Fz.act [1,2] _ _ _ _ (Agw (a0:=a0.Const) (a1:=((a0.Terms.length:Int)==(0:Int))) (b1:=[]) hcv64) rfl rfl ⟨rfl,rfl,trivial⟩ ?_
 refine Z ?_
 refine Ba h (fun _ h=>?_)
 refine Z ?_
 refine Bc [1,2] h (fun _ h=>?_)
 refine Z ?_
 refine Bc [1,2] h (fun _ h=>?_)
 exact Y
 refine Z ?_
 refine Bc [1,2] h (fun _ h=>?_)
 exact Y⟩
instance {a0:Bb}:OK (Sn a0) fun r=>Aq Tryz.prog 80 [E3 a0] (C7 r):=⟨fun {r} h=>by
 refine pw C0 Tryz.func80 ?_
 refine ZS ?_
 refine Bp ?_
 refine ZS ?_
 refine Bp ?_
 refine ZO ?_
 refine Ay (Ay ?_)
 refine D4 [.own 3 1 5 1] ?_
 refine Z ?_
 refine Vx ?_
 refine Z ?_
 refine Ao h (fun _ h=>?_) (fun _ h=>?_)
 refine Z ?_
 refine Bz h (fun _ _ _ _ h=>?_)
 refine Z ?_
 refine Ba h (fun _ h=>?_)
 refine Z ?_
 refine Bc [1,2] h (fun _ h=>?_)
 refine Z ?_
 refine A0 h (fun (v18,o19)=>[(11,(O .i64 v18))]) (fun (v18,o19)=>[(1,.cells 187 [(.loc 1 0),(.arr 2 o19.length 0 o19.length)]),(2,.rows 5 1 (List.map (O .u8) o19))]) ?_
 rintro ⟨v18,o19⟩ _ _ _ h _ _
 refine Z ?_
 refine Ao h (fun _ h=>?_) (fun _ h=>?_)
 refine Z ?_
 refine Bz h (fun _ _ _ _ h=>?_)
 refine Z ?_
 refine Ba h (fun _ h=>?_)
 refine Z ?_
 refine Bc [1,2] h (fun _ h=>?_)
 exact Y
 replace h:=Ce h
 refine Z ?_
 refine Vx ?_
 refine Z ?_
 refine Ao h (fun _ h=>?_) (fun _ h=>?_)
 refine Z ?_
 refine Bz h (fun _ _ _ _ h=>?_)
 refine Z ?_
 refine Ba h (fun _ h=>?_)
 refine Z ?_
 refine Ff h (fun h=>?_)
 refine Z ?_
 refine Ff h (fun h=>?_)
 refine Z ?_
 refine Ba h (fun _ h=>?_)
 refine Z ?_
 refine Ff h (fun h=>?_)
 refine Z ?_
 refine Bc [1,2] h (fun _ h=>?_)
 refine Z ?_
 refine A0 h (fun (v51,o52)=>[(25,(O .i64 v51))]) (fun (v51,o52)=>[(1,.cells 187 [(.loc 1 0),(.arr 2 o52.length 0 o52.length)]),(2,.rows 5 1 (List.map (O .u8) o52))]) ?_
 rintro ⟨v51,o52⟩ _ _ _ h _ _
 refine Z ?_
 refine Ao h (fun _ h=>?_) (fun _ h=>?_)
 refine Z ?_
 refine Bz h (fun _ _ _ _ h=>?_)
 refine Z ?_
 refine Ba h (fun _ h=>?_)
 refine Z ?_
 refine Ff h (fun h=>?_)
 refine Z ?_
 refine Ff h (fun h=>?_)
 refine Z ?_
 refine Ba h (fun _ h=>?_)
 refine Z ?_
 refine Ff h (fun h=>?_)
 refine Z ?_
 refine Bc [1,2] h (fun _ h=>?_)
 exact Y
 replace h:=Ce h
 refine Z ?_
 refine Bc [1,2] h (fun _ h=>?_)
 exact Y
 refine Z ?_
 refine Bc [1,2] h (fun _ h=>?_)
 exact Y
 refine Z ?_
 refine Vx ?_
 refine Z ?_
 refine Ao h (fun _ h=>?_) (fun _ h=>?_)
 refine Z ?_
 refine Bz h (fun _ _ _ _ h=>?_)
 refine Z ?_
 refine Ba h (fun _ h=>?_)
 refine Z ?_
 refine Ff h (fun h=>?_)
 refine Z ?_
 refine Ff h (fun h=>?_)
 refine Z ?_
 refine Ba h (fun _ h=>?_)
 refine Z ?_
 refine Ff h (fun h=>?_)
 refine Z ?_
 refine Bc [1,2] h (fun _ h=>?_)
 refine Z ?_
 refine A0 h (fun (v90,o91)=>[(25,(O .i64 v90))]) (fun (v90,o91)=>[(1,.cells 187 [(.loc 1 0),(.arr 2 o91.length 0 o91.length)]),(2,.rows 5 1 (List.map (O .u8) o91))]) ?_
 rintro ⟨v90,o91⟩ _ _ _ h _ _
 refine Z ?_
 refine Ao h (fun _ h=>?_) (fun _ h=>?_)
 refine Z ?_
 refine Bz h (fun _ _ _ _ h=>?_)
 refine Z ?_
 refine Ba h (fun _ h=>?_)
 refine Z ?_
 refine Ff h (fun h=>?_)
 refine Z ?_
 refine Ff h (fun h=>?_)
 refine Z ?_
 refine Ba h (fun _ h=>?_)
 refine Z ?_
 refine Ff h (fun h=>?_)
 refine Z ?_
 refine Bc [1,2] h (fun _ h=>?_)
 exact Y
 replace h:=Ce h
 refine Z ?_
 refine Bc [1,2] h (fun _ h=>?_)
 exact Y
 refine Z ?_
 refine Bc [1,2] h (fun _ h=>?_)
 exact Y⟩
instance {a0 a1:List Int}:OK (S8 a0 a1) fun r=>Aq Tryz.prog 173 [(Ar 1 (O .u32)) a0,(Ar 1 (O .u32)) a1] ((Ar 1 (O .u32)) r):=⟨fun {r} h=>by
 refine pw {T:=Cb,an:=(fun _=>.ask),nl:=(fun s=>bif Nat.beq s 4 then [(0,1)] else [])} Tryz.func173 ?_
 refine ZS ?_
 refine Bp ?_
 refine ZS ?_
 refine Bp ?_
 refine ZO ?_
 refine Bj h (fun (v1,v2)=>[(0,(.sl 1 (List.map (O .u32) v1))),(1,(.sl 1 (List.map (O .u32) v2)))]) (fun (v1,v2)=>[]) ?_ ?_
 intro _ h _ _ _
 exact Y
 rintro ⟨v1,v2⟩ _ h
 refine Z ?_
 refine F2 h (fun _ h=>?_)
 refine Z ?_
 refine A0 h (fun (v20,v21,o22)=>[(5,(.arr 0 o22.length 0 o22.length)),(6,(O .u32 v20)),(22,(O .i64 v21))]) (fun (v20,v21,o22)=>[(0,.rows 133 1 (List.map (O .u32) o22))]) ?_
 rintro ⟨v20,v21,o22⟩ _ _ _ h _ _
 refine Z ?_
 refine Ao h (fun _ h=>?_) (fun _ h=>?_)
 refine Z ?_
 refine Bz h (fun _ _ _ _ h=>?_)
 refine ZS ?_
 refine Bp ?_
 refine ZO ?_
 refine Bj h (fun v25=>[(8,(O .u32 v25))]) (fun v25=>[]) ?_ ?_
 intro _ h _ _ _
 exact Y
 rintro v25 _ h
 exact Y
 exact Y⟩
instance {a0 a1:List Int}:OK (Qa a0 a1) fun r=>Aq Tryz.prog 175 [(Ar 1 (O .u32)) a0,(Ar 1 (O .u32)) a1] ((Ar 1 (O .u32)) r):=⟨fun {r} h=>by
 refine pw {T:=Cb,an:=(fun _=>.ask),nl:=(fun s=>bif Nat.beq s 4 then [(0,1)] else [])} Tryz.func175 ?_
 refine Z ?_
 refine F2 h (fun _ h=>?_)
 refine Z ?_
 refine A0 h (fun (v8,v9,o10)=>[(5,(.arr 0 o10.length 0 o10.length)),(6,(O .i64 v8)),(14,(O .i64 v9))]) (fun (v8,v9,o10)=>[(0,.rows 133 1 (List.map (O .u32) o10))]) ?_
 rintro ⟨v8,v9,o10⟩ _ _ _ h _ _
 refine Z ?_
 refine Ao h (fun _ h=>?_) (fun _ h=>?_)
 refine Z ?_
 refine Bz h (fun _ _ _ _ h=>?_)
 refine ZS ?_
 refine Bp ?_
 refine ZO ?_
 refine Bj h (fun v13=>[(8,(O .i64 v13))]) (fun v13=>[]) ?_ ?_
 intro _ h _ _ _
 exact Y
 rintro v13 _ h
 exact Y
 replace h:=Ce h
 refine Fm (Fk rfl (Ay ?_))
 refine D4 [.fz 5] ?_
 exact Y⟩
instance {a0 a1:Fg}:OK (V7 a0 a1) fun r=>Aq Tryz.prog 107 [Mt a0,Mt a1] (Mt r):=⟨fun {r} h=>by
 refine pw C0 Tryz.func107 ?_
 exact Y⟩
instance {a0 a1:A5}:OK (Nw a0 a1) fun r=>Aq Tryz.prog 53 [C9 a0,C9 a1] (C9 r):=⟨fun {r} h=>by
 refine pw C0 Tryz.func53 ?_
 exact Y⟩
instance {a0:List Ak} {b1:List (ByteArray×Int)} {b2:List Ak}:OK (K9 a0 b1 b2) fun r=>Cd Tryz.prog 38 [(.loc 0 0),(Ar 5 Bl) a0] [.cells 76 [(.mp 1),(.arr 2 b2.length 0 b2.length)],.map (Bh (O .i64) b1),.rows 84 5 (List.map Bl b2)] (.tup []) [.cells 76 [(.mp 1),(.arr 2 r.2.length 0 r.2.length)],.map (Bh (O .i64) r.1),.rows 84 5 (List.map Bl r.2)]:=⟨fun {r} h=>by
 refine aw C0 true Tryz.func38 ?_
 refine Z ?_
 refine A0 h (fun (v10,o11,o12)=>[(11,(O .i64 v10))]) (fun (v10,o11,o12)=>[(0,.cells 76 [(.mp 1),(.arr 2 o12.length 0 o12.length)]),(1,.map (Bh (O .i64) o11)),(2,.rows 84 5 (List.map Bl o12))]) ?_
 rintro ⟨v10,o11,o12⟩ _ _ _ h _ hn1
 refine Z ?_
 refine Ao h (fun _ h=>?_) (fun _ h=>?_)
 refine Z ?_
 refine Bz h (fun _ _ _ _ h=>?_)
 refine Z ?_
 refine Ba h (fun _ h=>?_)
 refine ZO ?_
 refine Ay (Ay ?_)
 refine Bj h (fun (v16,v17)=>[(7,(O .i64 v16)),(8,(Al v17))]) (fun (v16,v17)=>[]) ?_ ?_
 intro _ h _ _ _
 refine Z ?_
 refine Vr (f:=(O .i64)) (l:=o11) rfl (0:Int) h (fun j_ hb h=>?_) (fun hb h=>?_)
 exact Y
 exact Y
 rintro ⟨v16,v17⟩ _ h
 refine Z ?_
 refine Ao h (fun _ h=>?_) (fun _ h=>?_)
 refine Z ?_
 refine Km h (fun _ _ _ _ h=>?_)
 refine Z ?_
 refine Ba h (fun v19 h=>?_)
 refine Z ?_
 refine Km h (fun _ v20 hiv20 _ h=>?_)
 refine Z ?_
 refine K6 (f:=Bl) (x:=(Ak.mk v19 v20.Mono)) (j:=v16) rfl rfl (Nat.zero_add _) hiv20 ?_
 refine Z ?_
 exact hn1 _ _ _ _ (Option.some.inj h) ⟨rfl,trivial⟩ ⟨⟨rfl,rfl⟩,⟨rfl,rfl⟩,⟨congrArg (fun q_=>A8.cells 76 [(.mp 1),(.arr 2 q_ 0 q_)]) (E2 (l:=o12) rfl v16 (Ak.mk v19 v20.Mono)),rfl⟩,trivial⟩ trivial
 refine Z ?_
 refine R4 (f:=(O .i64)) (l:=o11) (x:=((o12.length:Nat):Int)) rfl rfl ?_
 exact Y
 exact Y⟩
abbrev Agx (k:Nat):Prop:=∀{a0:A6},OK (Th k a0) fun r=>Aq Tryz.prog 254 [Ev a0] (Ev r)
theorem Apb (k:Nat):Agx k:=by
 induction k with
 | zero=>exact okz
 | succ k ih=>
  refine @fun a0=>⟨fun {r} h=>?_⟩
  .unfold Th at h
   refine pw {T:=Cb,an:=(fun _=>.ask),nl:=(fun s=>bif Nat.beq s 17 then [(0,2)] else [])} Tryz.func254 ?_
   refine ZS ?_
   refine Bp ?_
   refine ZS ?_
   refine Bp ?_
   refine ZO ?_
   refine Ay (Ay ?_)
   refine D4 [.own 3 1 90 2] ?_
   refine Z ?_
   refine A0 h (fun (v15,o16)=>[(12,(O .i64 v15))]) (fun (v15,o16)=>[(2,.cells 90 [(O .i64 a0.Num),(.arr 3 o16.length 0 o16.length)]),(3,.rows 90 2 (G4 o16))]) ?_
   rintro ⟨v15,o16⟩ _ _ _ h _ _
   exact Y
instance {k:Nat}:Agx k:=(Apb k)
instance {a0:List Da}:OK (Aax a0) fun r=>Aq Tryz.prog 255 [(Ar 2 F1) a0] ((Ar 2 F1) r):=⟨fun {r} h=>by
 exact Ao2 h⟩
instance {a0:Bb}:OK (Aas a0) fun r=>Aq Tryz.prog 165 [E3 a0] (E3 r):=⟨fun {r} h=>by
 refine pw {T:=Cb,an:=(fun _=>.ask),nl:=(fun s=>bif Nat.beq s 44 then [(0,3)] else bif Nat.beq s 17 then [(0,3)] else [])} Tryz.func165 ?_
 refine ZS ?_
 refine Bp ?_
 refine ZS ?_
 refine Bp ?_
 refine ZO ?_
 refine Ay (Ay ?_)
 refine D4 [.own 3 0 92 3,.own 3 1 95 3] ?_
 refine Z ?_
 refine A0 h (fun (v16,o17)=>[(12,(O .i64 v16))]) (fun (v16,o17)=>[(2,.cells 45 [(.arr 3 o17.length 0 o17.length),(.arr 4 0 0 0)]),(3,.rows 92 3 (List.map Eg o17))]) ?_
 rintro ⟨v16,o17⟩ _ _ _ h _ _
 refine Z ?_
 refine Ao h (fun _ h=>?_) (fun _ h=>?_)
 exact Y
 replace h:=Ce h
 refine Z ?_
 refine A0 h (fun (v35,o36)=>[(31,(O .i64 v35))]) (fun (v35,o36)=>[(2,.cells 45 [(.arr 3 o17.length 0 o17.length),(.arr 4 o36.length 0 o36.length)]),(4,.rows 95 3 (List.map Ea o36))]) ?_
 rintro ⟨v35,o36⟩ _ _ _ h _ _
 exact Y⟩
instance {a0:List Ak}:OK (Aah a0) fun r=>Aq Tryz.prog 94 [(Ar 5 Bl) a0] ((Ar 5 Bl) r):=⟨fun {r} h=>by
 refine pw {T:=Cb,an:=(fun s=>bif Nat.beq s 3 then .own else .ask),nl:=(fun s=>bif Nat.beq s 3 then [(0,5)] else bif Nat.beq s 2 then [(0,5)] else [])} Tryz.func94 ?_
 refine Z ?_
 refine A0 h (fun (v14,o15)=>[(3,(.arr 0 o15.length 0 o15.length)),(8,(O .i64 v14))]) (fun (v14,o15)=>[(0,.rows 84 5 (List.map Bl o15))]) ?_
 rintro ⟨v14,o15⟩ _ _ _ h _ _
 exact Y⟩
instance {a0:Int}:OK (Aat a0) fun r=>Aq Tryz.prog 189 [(O .u64) a0] ((O .i64) r):=⟨fun {r} h=>by
 refine pw C0 Tryz.func189 ?_
 refine ZS ?_
 refine Bp ?_
 refine ZS ?_
 refine Bp ?_
 refine ZO ?_
 refine Bj h (fun (v2,v3)=>[(0,(O .u64 v2)),(2,(O .i64 v3))]) (fun (v2,v3)=>[]) ?_ ?_
 intro _ h _ _ _
 exact Y
 rintro ⟨v2,v3⟩ _ h
 refine ZS ?_
 refine Bp ?_
 refine ZO ?_
 refine Bj h (fun (v5,v6)=>[(0,(O .u64 v5)),(2,(O .i64 v6))]) (fun (v5,v6)=>[]) ?_ ?_
 intro _ h _ _ _
 exact Y
 rintro ⟨v5,v6⟩ _ h
 refine ZS ?_
 refine Bp ?_
 refine ZO ?_
 refine Bj h (fun (v8,v9)=>[(0,(O .u64 v8)),(2,(O .i64 v9))]) (fun (v8,v9)=>[]) ?_ ?_
 intro _ h _ _ _
 exact Y
 rintro ⟨v8,v9⟩ _ h
 exact Y⟩
instance {a0:Int}:OK (Aai a0) fun r=>Aq Tryz.prog 120 [(O .u64) a0] ((O .i64) r):=⟨fun {r} h=>by
 refine pw C0 Tryz.func120 ?_
 exact Y⟩
instance {a0 a1:Ak}:OK (Aag a0 a1) fun r=>Aq Tryz.prog 93 [Bl a0,Bl a1] ((O .i64) r):=⟨fun {r} h=>by
 refine pw C0 Tryz.func93 ?_
 exact Y⟩
instance {a0 a1:Int} {b0:List Ak}:OK (Aaw a0 a1 b0) fun r=>Cd Tryz.prog 246 [(.arr 0 b0.length 0 b0.length),(O .i64) a0,(O .i64) a1,(.fn 93 [])] [.rows 84 5 (List.map Bl b0)] (.tup []) [.rows 84 5 (List.map Bl r)]:=⟨fun {r} h=>by
 refine aw C0 true Tryz.func246 ?_
 refine Z ?_
 refine F9 h (fun (v21,o22)=>[(8,(O .i64 v21))]) (fun (v21,o22)=>[(0,.rows 84 5 (List.map Bl o22))]) (fun (v21,o22)=>b0.length=o22.length) ?_
 rintro ⟨v21,o22⟩ _ _ _ h _ _ q22
 refine Z ?_
 refine Ao h (fun _ h=>?_) (fun _ h=>?_)
 refine Z ?_
 refine F9 h (fun (v31,o32)=>[(9,(O .i64 v31))]) (fun (v31,o32)=>[(0,.rows 84 5 (List.map Bl o32))]) (fun (v31,o32)=>b0.length=o32.length) ?_
 rintro ⟨v31,o32⟩ _ _ _ h _ _ q32
 refine Ay (Ay ?_)
 refine Bj h (fun v36=>[(34,(Al v36))]) (fun v36=>[]) ?_ ?_
 intro _ h _ _ _
 exact Y
 rintro v36 _ h
 exact Y
 exact Y⟩
instance {a0 a1 a2:Int} {b0:List Ak}:OK (Aar a0 a1 a2 b0) fun r=>Cd Tryz.prog 164 [(.arr 0 b0.length 0 b0.length),(O .i64) a0,(O .i64) a1,(O .i64) a2,(.fn 93 [])] [.rows 84 5 (List.map Bl b0)] (.tup []) [.rows 84 5 (List.map Bl r)]:=⟨fun {r} h=>by
 refine aw C0 true Tryz.func164 ?_
 refine Z ?_
 refine A0 h (fun _=>[(1,(O .i64 a0)),(2,(O .i64 a1)),(3,(O .i64 a2)),(10,(Al true)),(11,(Al true))]) (fun _=>[]) ?_
 rintro _ _ _ _ h _ _
 refine Z ?_
 refine Ao h (fun _ h=>?_) (fun _ h=>?_)
 refine Z ?_
 refine Bc [0] h (fun _ h=>?_)
 refine Dj h (fun v2 hgv2 h=>?_)
 exact Y
 exact Y⟩
instance {b0:List Ak}:OK (Aaf b0) fun r=>Cd Tryz.prog 92 [(.arr 0 b0.length 0 b0.length),(.fn 93 [])] [.rows 84 5 (List.map Bl b0)] (.tup []) [.rows 84 5 (List.map Bl r)]:=⟨fun {r} h=>by
 refine aw C0 true Tryz.func92 ?_
 refine Z ?_
 refine Ba h (fun _ h=>?_)
 refine Z ?_
 refine Bc [0] h (fun _ h=>?_)
 refine Dj h (fun v3 hgv3 h=>?_)
 exact Y⟩
instance {b1:List (ByteArray×Int)} {b2:List Ak}:OK (V1 b1 b2) fun r=>Cd Tryz.prog 46 [(.loc 0 0)] [.cells 76 [(.mp 1),(.arr 2 b2.length 0 b2.length)],.map (Bh (O .i64) b1),.rows 84 5 (List.map Bl b2)] (.tup [(Ar 5 Bl) r.1,(O .i64) r.2]) [.cells 76 [(.mp 1),(.arr 2 b2.length 0 b2.length)],.map (Bh (O .i64) b1),.rows 84 5 (List.map Bl b2)]:=⟨fun {r} h=>by
 refine aw {T:=Cb,an:=(fun s=>bif Nat.beq s 4 then .own else .ask),nl:=(fun s=>bif Nat.beq s 4 then [(0,5)] else bif Nat.beq s 2 then [(0,5)] else [])} true Tryz.func46 ?_
 refine Z ?_
 refine A0 h (fun (v12,o13)=>[(4,(.arr 3 o13.length 0 o13.length)),(12,(O .i64 v12))]) (fun (v12,o13)=>[(3,.rows 84 5 (List.map Bl o13))]) ?_
 rintro ⟨v12,o13⟩ _ _ _ h _ _
 refine Z ?_
 refine Ao h (fun _ h=>?_) (fun _ h=>?_)
 exact Y
 replace h:=Ce h
 refine Z ?_
 refine Ao h (fun _ h=>?_) (fun _ h=>?_)
 exact Y
 refine Z ?_
 refine Bc [3] h (fun _ h=>?_)
 refine Dj h (fun v20 hgv20 h=>?_)
 refine ZO ?_
 refine Ay ?_
 refine D4 [.fz 4] ?_
 exact Y⟩
instance {a0:Bb} {b1:List (ByteArray×Int)} {b2:List (ByteArray×(List Dk))} {b0_0:List Ax} {b0_1:List Ah} {b0_2 b0_3:Int} {b0_4:List Ah}:OK (Aae a0 b1 b2 b0_0 b0_1 b0_2 b0_3 b0_4) fun r=>Cd Tryz.prog 91 [(.loc 0 0),E3 a0] [.cells 129 [(.sl 3 (List.map B7 b0_0)),(.sl 3 (Bd b0_1)),(O .i64 b0_2),(O .i64 b0_3),(.sl 3 (Bd b0_4)),(.mp 1),(.mp 2)],.map (Bh (O .i64) b1),.map (Bh (Ar 5 Eb) b2)] (.tup [(Ar 5 Bl) r.1,(O .i64) r.2]) [.cells 129 [(.sl 3 (List.map B7 b0_0)),(.sl 3 (Bd b0_1)),(O .i64 b0_2),(O .i64 b0_3),(.sl 3 (Bd b0_4)),(.mp 1),(.mp 2)],.map (Bh (O .i64) b1),.map (Bh (Ar 5 Eb) b2)]:=⟨fun {r} h=>by
 refine aw {T:=Cb,an:=(fun _=>.ask),nl:=(fun s=>bif Nat.beq s 4 then [(0,5)] else [])} true Tryz.func91 ?_
 refine Z ?_
 refine Ba h (fun _ h=>?_)
 refine Z ?_
 refine Bc [0,1,2] h (fun _ h=>?_)
 refine Z ?_
 refine Ao h (fun _ h=>?_) (fun _ h=>?_)
 exact Y
 refine Z ?_
 refine Bc [] h (fun _ h=>?_)
 refine Z ?_
 refine Bc [5,4,6] h (fun _ h=>?_)
 refine Z ?_
 refine Bc [5,4,6] h (fun _ h=>?_)
 exact Y⟩
instance {a0:A5} {a1:Bb}:OK (Afy a0 a1) fun r=>Aq Tryz.prog 163 [(.val (.pointer none)),C9 a0,E3 a1] (.tup [(Ar 5 Bl) r.1,(O .i64) r.2]):=⟨fun {r} h=>by
 refine pw {T:=Cb,an:=(fun s=>bif Nat.beq s 22 then .own else .ask),nl:=(fun s=>bif Nat.beq s 155 then [(0,3)] else bif Nat.beq s 31 then [(3,3),(4,3)] else bif Nat.beq s 22 then [(0,5)] else bif Nat.beq s 6 then [(0,5)] else [])} Tryz.func163 ?_
 refine Z ?_
 refine Ba h (fun _ h=>?_)
 refine Z ?_
 refine Ao h (fun _ h=>?_) (fun _ h=>?_)
 exact Y
 refine Z ?_
 refine Ba h (fun v4 h=>?_)
 refine Z ?_
 refine Ba h (fun _ h=>?_)
 refine Z ?_
 refine A0 h (fun _=>[(6,(.sl 5 (List.map Bl []))),(7,(O .i64 0)),(8,(.sl 5 (List.map Bl [(Ak.mk a0 (Bb.mk [] []))]))),(9,(.sl 3 (List.map Eg v4)))]) (fun _=>[]) ?_
 rintro _ _ _ _ h _ _
 refine Z ?_
 refine Ao h (fun _ h=>?_) (fun _ h=>?_)
 refine Z ?_
 refine Bz h (fun _ _ _ _ h=>?_)
 refine Z ?_
 refine A0 h (fun v8=>[(11,(O .i64 v8))]) (fun v8=>[]) ?_
 rintro v8 _ _ _ h _ _
 exact Y
 replace h:=Ce h
 refine Z ?_
 refine Ba h (fun _ h=>?_)
 refine Z ?_
 refine Ba h (fun _ h=>?_)
 refine Z ?_
 refine A0 h (fun (v104,v105)=>[(8,(.sl 5 (List.map Bl v104))),(19,(.sl 3 (List.map Ea v105)))]) (fun (v104,v105)=>[]) ?_
 rintro ⟨v104,v105⟩ _ _ _ h _ _
 refine Z ?_
 refine Ao h (fun _ h=>?_) (fun _ h=>?_)
 refine Z ?_
 refine Bz h (fun _ _ _ _ h=>?_)
 refine Z ?_
 refine A0 h (fun v110=>[(21,(O .i64 v110))]) (fun v110=>[]) ?_
 rintro v110 _ _ _ h _ _
 refine Z ?_
 refine Fd h (fun _ h=>?_) (fun _ h=>?_)
 refine Z ?_
 refine Bz h (fun _ _ _ _ h=>?_)
 refine Z ?_
 refine Ba h (fun _ h=>?_)
 refine Z ?_
 refine Ao h (fun _ h=>?_) (fun _ h=>?_)
 exact Y
 replace h:=Ce h
 refine Z ?_
 refine Oz h (fun _ h=>?_)
 refine Z ?_
 refine Ba h (fun _ h=>?_)
 refine Z ?_
 refine A0 h (fun (v167,o168)=>[(22,(.arr 3 o168.length 0 o168.length)),(135,(O .i64 v167))]) (fun (v167,o168)=>[(3,.rows 84 5 (List.map Bl o168))]) ?_
 rintro ⟨v167,o168⟩ _ _ _ h _ _
 refine Z ?_
 refine Ao h (fun _ h=>?_) (fun _ h=>?_)
 refine Z ?_
 refine Bz h (fun _ _ _ _ h=>?_)
 refine Z ?_
 refine Ba h (fun _ h=>?_)
 refine Z ?_
 refine Ao h (fun _ h=>?_) (fun _ h=>?_)
 exact Y
 refine Z ?_
 refine A0 h (fun (v184,o185)=>[(22,(.arr 3 o185.length 0 o185.length)),(145,(O .i64 v184))]) (fun (v184,o185)=>[(3,.rows 84 5 (List.map Bl o185))]) ?_
 rintro ⟨v184,o185⟩ _ _ _ h _ _
 exact Y
 replace h:=Ce h
 refine Fm (Fk rfl ?_)
 refine D4 [.fz 22] ?_
 exact Y
 replace h:=Ce h
 refine Z ?_
 refine Oz h (fun _ h=>?_)
 refine Z ?_
 refine Ba h (fun _ h=>?_)
 refine Z ?_
 refine A0 h (fun (v167,o168)=>[(22,(.arr 3 o168.length 0 o168.length)),(135,(O .i64 v167))]) (fun (v167,o168)=>[(3,.rows 84 5 (List.map Bl o168))]) ?_
 rintro ⟨v167,o168⟩ _ _ _ h _ _
 refine Z ?_
 refine Ao h (fun _ h=>?_) (fun _ h=>?_)
 refine Z ?_
 refine Bz h (fun _ _ _ _ h=>?_)
 refine Z ?_
 refine Ba h (fun _ h=>?_)
 refine Z ?_
 refine Ao h (fun _ h=>?_) (fun _ h=>?_)
 exact Y
 refine Z ?_
 refine A0 h (fun (v184,o185)=>[(22,(.arr 3 o185.length 0 o185.length)),(145,(O .i64 v184))]) (fun (v184,o185)=>[(3,.rows 84 5 (List.map Bl o185))]) ?_
 rintro ⟨v184,o185⟩ _ _ _ h _ _
 exact Y
 replace h:=Ce h
 refine Fm (Fk rfl ?_)
 refine D4 [.fz 22] ?_
 exact Y
 exact Y⟩
instance {a0:Bb}:OK (Afz a0) fun r=>Aq Tryz.prog 91 [(.val (.pointer none)),E3 a0] (.tup [(Ar 5 Bl) r.1,(O .i64) r.2]):=⟨fun {r} h=>by
 refine pw {T:=Cb,an:=(fun _=>.ask),nl:=(fun s=>bif Nat.beq s 4 then [(0,5)] else [])} Tryz.func91 ?_
 refine Z ?_
 refine Ba h (fun _ h=>?_)
 refine Z ?_
 refine Ba h (fun _ h=>?_)
 refine Z ?_
 refine Ao h (fun _ h=>?_) (fun _ h=>?_)
 exact Y
 refine Z ?_
 refine Bc [] h (fun _ h=>?_)
 refine Z ?_
 refine Bc [2,1,3] h (fun _ h=>?_)
 refine Z ?_
 refine Bc [2,1,3] h (fun _ h=>?_)
 exact Y⟩
instance {a0:Cm} {a1:Cu} {a2:Int}:OK (Aac a0 a1 a2) fun r=>Aq Tryz.prog 44 [Gx a0,Gk a1,(O .i64) a2] (.tup [(Ar 5 Bl) r.1,(O .i64) r.2]):=⟨fun {r} h=>by
 refine pw {T:=Cb,an:=(fun _=>.ask),nl:=(fun s=>bif Nat.beq s 37 then [(0,3)] else bif Nat.beq s 6 then [(0,5)] else [])} Tryz.func44 ?_
 refine Z ?_
 refine Dj h (fun v3 hcv3 h=>?_)
 rcases v3 with v4 | v9
 refine Fz.act [] _ _ _ _ (Cd.sub (args:=[_,.val (.slice none 0 0)]) (Abf (a0:=a0) (a1:=[]) hcv3) ⟨Sub.refl _,Sub.nil _,trivial⟩) rfl rfl trivial ?_
 refine Z ?_
 refine Ao h (fun _ h=>?_) (fun _ h=>?_)
 exact Y
 refine Ix (Ay (Ay ?_))
 refine Bj h (fun v11=>[(27,(Al v11))]) (fun v11=>[]) ?_ ?_
 intro _ h _ _ _
 exact Y
 rintro v11 _ h
 refine Ao h (fun _ h=>?_) (fun _ h=>?_)
 exact Y
 refine Z ?_
 refine Bc [5,3,4] h (fun _ h=>?_)
 refine Z ?_
 refine Ao h (fun _ h=>?_) (fun _ h=>?_)
 exact Y
 refine Z ?_
 refine Bc [5,3,4] h (fun _ h=>?_)
 exact Y
 refine Fz.act [] _ _ _ _ (Cd.sub (args:=[_,.val (.slice none 0 0)]) (Abg (a0:=a0) (a1:=[]) hcv3) ⟨Sub.refl _,Sub.nil _,trivial⟩) rfl rfl trivial ?_
 refine Z ?_
 refine Ao h (fun _ h=>?_) (fun _ h=>?_)
 exact Y
 refine Ix (Ay (Ay ?_))
 refine Bj h (fun v15=>[(27,(Al v15))]) (fun v15=>[]) ?_ ?_
 intro _ h _ _ _
 exact Y
 rintro v15 _ h
 exact Y⟩
instance {a0:Cm} {a1:List Ak}:OK (Aad a0 a1) fun r=>Aq Tryz.prog 45 [Gx a0,(Ar 5 Bl) a1] (Al r):=⟨fun {r} h=>by
 refine pw C0 Tryz.func45 ?_
 refine Z ?_
 refine Dj h (fun v2 hcv2 h=>?_)
 rcases v2 with v3 | v8
 refine Fz.act [] _ _ _ _ (Abf (a0:=a0) (a1:=[a1]) hcv2) rfl rfl trivial ?_
 exact Y
 refine Fz.act [] _ _ _ _ (Abg (a0:=a0) (a1:=[a1]) hcv2) rfl rfl trivial ?_
 exact Y⟩
instance {a0:List Int}:OK (Hw a0) fun r=>Aq Tryz.prog 179 [(Ar 1 (O .u32)) a0] ((Ar 1 (O .u32)) r):=⟨fun {r} h=>by
 refine pw {T:=Cb,an:=(fun _=>.ask),nl:=(fun s=>bif Nat.beq s 2 then [(0,1)] else [])} Tryz.func179 ?_
 refine Z ?_
 refine A0 h (fun v2=>[(3,(O .i64 v2))]) (fun v2=>[]) ?_
 rintro v2 _ _ _ h _ _
 exact Y⟩
instance {a0:List Int}:OK (P6 a0) fun r=>Aq Tryz.prog 155 [(Ar 1 (O .u32)) a0] ((Ar 1 (O .u32)) r):=⟨fun {r} h=>by
 refine pw {T:=Cb,an:=(fun s=>bif Nat.beq s 3 then .own else .ask),nl:=(fun s=>bif Nat.beq s 3 then [(0,1)] else bif Nat.beq s 2 then [(0,1)] else [])} Tryz.func155 ?_
 refine Z ?_
 refine A0 h (fun (v13,v14,o15)=>[(3,(.arr 0 o15.length 0 o15.length)),(4,(O .u64 v13)),(5,(O .i64 v14))]) (fun (v13,v14,o15)=>[(0,.rows 133 1 (List.map (O .u32) o15))]) ?_
 rintro ⟨v13,v14,o15⟩ _ _ _ h _ _
 refine Z ?_
 refine Ao h (fun _ h=>?_) (fun _ h=>?_)
 exact Y
 replace h:=Ce h
 refine Z ?_
 refine Ao h (fun _ h=>?_) (fun _ h=>?_)
 refine Z ?_
 refine Oy h (fun _ h=>?_)
 refine ZO ?_
 refine Ay ?_
 refine D4 [.fz 3] ?_
 exact Y
 refine Ix (Ay ?_)
 refine D4 [.fz 3] ?_
 exact Y⟩
instance {a0 a1:List Int}:OK (Tg a0 a1) fun r=>Aq Tryz.prog 233 [(Ar 1 (O .u32)) a0,(Ar 1 (O .u32)) a1] ((O .u64) r):=⟨fun {r} h=>by
 refine pw C0 Tryz.func233 ?_
 exact Y⟩
instance {a0:Int}:OK (Lb a0) fun r=>Aq Tryz.prog 88 [(O .u64) a0] ((Ar 1 (O .u32)) r):=⟨fun {r} h=>by
 refine pw {T:=Cb,an:=(fun s=>bif Nat.beq s 3 then .own else .ask),nl:=(fun s=>bif Nat.beq s 3 then [(0,1)] else bif Nat.beq s 2 then [(0,1)] else [])} Tryz.func88 ?_
 refine Z ?_
 refine A0 h (fun (v10,o11)=>[(0,(O .u64 v10)),(3,(.arr 0 o11.length 0 o11.length))]) (fun (v10,o11)=>[(0,.rows 133 1 (List.map (O .u32) o11))]) ?_
 rintro ⟨v10,o11⟩ _ _ _ h _ _
 exact Y⟩
instance {a0 a1:List Int}:OK (Me a0 a1) fun r=>Aq Tryz.prog 113 [(Ar 1 (O .u32)) a0,(Ar 1 (O .u32)) a1] ((O .i64) r):=⟨fun {r} h=>by
 refine pw C0 Tryz.func113 ?_
 refine Z ?_
 refine Ao h (fun _ h=>?_) (fun _ h=>?_)
 exact Y
 refine Z ?_
 refine A0 h (fun v5=>[(4,(O .i64 0)),(5,(O .i64 v5))]) (fun v5=>[]) ?_
 rintro v5 _ _ _ h _ _
 exact Y⟩
instance {a0 a1:List Int}:OK (I1 a0 a1) fun r=>Aq Tryz.prog 111 [(Ar 1 (O .u32)) a0,(Ar 1 (O .u32)) a1] ((Ar 1 (O .u32)) r):=⟨fun {r} h=>by
 refine pw {T:=Cb,an:=(fun _=>.ask),nl:=(fun s=>bif Nat.beq s 4 then [(0,1)] else [])} Tryz.func111 ?_
 refine Z ?_
 refine F2 h (fun o1 h=>?_)
 refine Z ?_
 refine F9 h (fun (v25,o26)=>[(6,(O .i64 v25))]) (fun (v25,o26)=>[(0,.rows 133 1 (List.map (O .u32) o26))]) (fun (v25,o26)=>o1.length=o26.length) ?_
 rintro ⟨v25,o26⟩ _ _ _ h _ _ q26
 refine Z ?_
 refine Ao h (fun _ h=>?_) (fun _ h=>?_)
 refine Z ?_
 refine F9 h (fun (v35,v36,o37)=>[(7,(O .u64 v35)),(8,(O .i64 v36))]) (fun (v35,v36,o37)=>[(0,.rows 133 1 (List.map (O .u32) o37))]) (fun (v35,v36,o37)=>o1.length=o37.length) ?_
 rintro ⟨v35,v36,o37⟩ _ _ _ h _ _ q37
 refine Ay (Ay ?_)
 refine Bj h (fun v38=>[(29,(Al v38))]) (fun v38=>[]) ?_ ?_
 intro _ h _ _ _
 exact Y
 rintro v38 _ h
 refine Ao h (fun _ h=>?_) (fun _ h=>?_)
 refine Z ?_
 refine Km h (fun _ _ _ _ h=>?_)
 refine ZS ?_
 refine Bp ?_
 refine ZO ?_
 refine Bj h (fun v42=>[(7,(O .u64 v42))]) (fun v42=>[]) ?_ ?_
 intro _ h _ _ _
 exact Y
 rintro v42 _ h
 exact Y
 exact Y
 replace h:=Ce h
 refine Fm (Fk rfl (Ay ?_))
 refine D4 [.fz 5] ?_
 exact Y⟩
instance {a0:List Int} {a1:Int}:OK (Tf a0 a1) fun r=>Aq Tryz.prog 232 [(Ar 1 (O .u32)) a0,(O .u64) a1] (.tup [(Ar 1 (O .u32)) r.1,(O .u64) r.2]):=⟨fun {r} h=>by
 refine pw {T:=Cb,an:=(fun _=>.ask),nl:=(fun s=>bif Nat.beq s 4 then [(0,1)] else [])} Tryz.func232 ?_
 refine Z ?_
 refine F2 h (fun o1 h=>?_)
 refine Z ?_
 refine F9 h (fun (v7,v8,o9)=>[(7,(O .u64 v7)),(8,(O .i64 v8))]) (fun (v7,v8,o9)=>[(0,.rows 133 1 (List.map (O .u32) o9))]) (fun (v7,v8,o9)=>o1.length=o9.length) ?_
 rintro ⟨v7,v8,o9⟩ _ _ _ h _ _ q9
 refine Z ?_
 refine Ao h (fun _ h=>?_) (fun _ h=>?_)
 exact Y
 replace h:=Ce h
 refine Fm (Fk rfl (Ay ?_))
 refine D4 [.fz 6] ?_
 exact Y⟩
instance {a0 a1:List Int}:OK (Mf a0 a1) fun r=>Aq Tryz.prog 114 [(Ar 1 (O .u32)) a0,(Ar 1 (O .u32)) a1] ((Ar 1 (O .u32)) r):=⟨fun {r} h=>by
 refine pw {T:=Cb,an:=(fun _=>.ask),nl:=(fun s=>bif Nat.beq s 4 then [(0,1)] else [])} Tryz.func114 ?_
 refine Z ?_
 refine F2 h (fun o1 h=>?_)
 refine Z ?_
 refine F9 h (fun (v10,v11,o12)=>[(6,(O .u32 v10)),(7,(O .i64 v11))]) (fun (v10,v11,o12)=>[(0,.rows 133 1 (List.map (O .u32) o12))]) (fun (v10,v11,o12)=>o1.length=o12.length) ?_
 rintro ⟨v10,v11,o12⟩ _ _ _ h _ _ q12
 refine Z ?_
 refine Ao h (fun _ h=>?_) (fun _ h=>?_)
 refine ZS ?_
 refine Bp ?_
 refine ZS ?_
 refine Bp ?_
 refine ZO ?_
 refine Bj h (fun v14=>[(8,(O .u32 v14))]) (fun v14=>[]) ?_ ?_
 intro _ h _ _ _
 exact Y
 rintro v14 _ h
 exact Y
 replace h:=Ce h
 refine Fm (Fk rfl (Ay ?_))
 refine D4 [.fz 5] ?_
 exact Y⟩
end Go.Ab
