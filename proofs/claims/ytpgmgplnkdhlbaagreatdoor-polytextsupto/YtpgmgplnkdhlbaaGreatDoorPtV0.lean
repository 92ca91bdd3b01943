/- The contracts of the functions, each by its walk (made by a program). -/
import Derived.Test.YtpgmgplnkdhlbaaGreatDoorPtHand
import Derived.Test.YtpgmgplnkdhlbaaGreatDoorPtDef
namespace Go.Ab
open Go Go.Proofs
set_option maxRecDepth 10000
set_option maxHeartbeats 4000000
set_option linter.unusedVariables false
instance {a0 a1:List Int}:OK (Wn a0 a1) fun r=>Aq Tryz.prog 62 [(Av 1 (O .u32)) a0,(Av 1 (O .u32)) a1] (Am r):=⟨fun {r} h=>by
 refine pw C0 Tryz.func62 ?_
 refine Z ?_
 refine Ai h (fun _ h=>?_) (fun _ h=>?_)
 exact Y
 refine Z ?_
 refine A2 h (fun v3=>[(4,(Am false)),(13,(O .i64 v3))]) (fun v3=>[]) ?_
 rintro v3 _ _ _ h _ _
 exact Y⟩
instance {a0 a1:A4}:OK (Aa0 a0 a1) fun r=>Aq Tryz.prog 25 [Cb a0,Cb a1] (Am r):=⟨fun {r} h=>by
 refine pw C0 Tryz.func25 ?_
 exact Y⟩
instance {a0:Int}:OK (Qu a0) fun r=>Aq Tryz.prog 106 [(O .i64) a0] (Am r):=⟨fun {r} h=>by
 refine pw C0 Tryz.func106 ?_
 exact Y⟩
instance {a0:Int}:OK (S8 a0) fun r=>Aq Tryz.prog 107 [(O .i64) a0] (Am r):=⟨fun {r} h=>by
 refine pw C0 Tryz.func107 ?_
 exact Y⟩
instance {a0:C2}:OK (Ll a0) fun r=>Aq Tryz.prog 59 [G9 a0] (Am r):=⟨fun {r} h=>by
 refine pw C0 Tryz.func59 ?_
 refine ZS ?_
 refine Bn ?_
 refine ZO ?_
 refine As (As ?_)
 refine Bg h (fun v3=>[(14,(Am v3))]) (fun v3=>[]) ?_ ?_
 intro _ h _ _ _
 exact Y
 rintro v3 _ h
 refine Ai h (fun _ h=>?_) (fun _ h=>?_)
 exact Y
 refine Z ?_
 refine A2 h (fun v8=>[(2,(Am false)),(18,(O .i64 v8))]) (fun v8=>[]) ?_
 rintro v8 _ _ _ h _ _
 exact Y⟩
instance {a0:List Ao}:OK (Aa7 a0) fun r=>Aq Tryz.prog 71 [O6 (H6.mk a0 [] [] [])] (Am r):=⟨fun {r} h=>by
 refine pw C0 Tryz.func71 ?_
 refine Z ?_
 refine Gg h (fun _ h=>?_)
 refine Z ?_
 refine A2 h (fun _=>[(2,(Am false)),(20,(O .i64 0))]) (fun _=>[]) ?_
 rintro _ _ _ _ h _ _
 replace h:=B9 h
 refine Z ?_
 refine A2 h (fun _=>[(2,(Am false)),(40,(O .i64 0))]) (fun _=>[]) ?_
 rintro _ _ _ _ h _ _
 exact Y⟩
instance {a0:List Ao}:OK (Aa5 a0) fun r=>Aq Tryz.prog 69 [O6 (H6.mk a0 [] [] [])] (Am r):=⟨fun {r} h=>by
 refine pw C0 Tryz.func69 ?_
 refine Z ?_
 refine A2 h (fun _=>[(2,(Am false)),(4,(Am false)),(21,(O .i64 0))]) (fun _=>[]) ?_
 rintro _ _ _ _ h _ _
 exact Y⟩
instance {a0:Int}:OK (Ts a0) fun r=>Aq Tryz.prog 241 [(O .u8) a0] (Am r):=⟨fun {r} h=>by
 refine pw C0 Tryz.func241 ?_
 exact Y⟩
instance {a0:ByteArray}:OK (T1 a0) fun r=>Aq Tryz.prog 305 [Bk a0] (Am r):=⟨fun {r} h=>by
 refine pw C0 Tryz.func305 ?_
 exact Y⟩
instance {a0:Int}:OK (M1 a0) fun r=>Aq Tryz.prog 306 [(O .u8) a0] (Am r):=⟨fun {r} h=>by
 refine pw C0 Tryz.func306 ?_
 exact Y⟩
instance {a0:Int}:OK (Q9 a0) fun r=>Aq Tryz.prog 301 [(O .u8) a0] (Am r):=⟨fun {r} h=>by
 refine pw C0 Tryz.func301 ?_
 exact Y⟩
instance {a0:Int}:OK (O3 a0) fun r=>Aq Tryz.prog 302 [(O .u8) a0] (Am r):=⟨fun {r} h=>by
 refine pw C0 Tryz.func302 ?_
 exact Y⟩
instance {a0:Int}:OK (Ra a0) fun r=>Aq Tryz.prog 304 [(O .u8) a0] (Am r):=⟨fun {r} h=>by
 refine pw C0 Tryz.func304 ?_
 exact Y⟩
instance {a0:ByteArray}:OK (T0 a0) fun r=>Aq Tryz.prog 303 [Bk a0,(.fn 304 [])] (Bk r):=⟨fun {r} h=>by
 refine pw C0 Tryz.func303 ?_
 refine Z ?_
 refine A2 h (fun v3=>[(5,(O .i64 v3))]) (fun v3=>[]) ?_
 rintro v3 _ _ _ h _ _
 exact Y⟩
instance {a0:ByteArray}:OK (Xj a0) fun r=>Aq Tryz.prog 303 [Bk a0,(.fn 306 [])] (Bk r):=⟨fun {r} h=>by
 refine pw C0 Tryz.func303 ?_
 refine Z ?_
 refine A2 h (fun v3=>[(5,(O .i64 v3))]) (fun v3=>[]) ?_
 rintro v3 _ _ _ h _ _
 exact Y⟩
instance {a0:ByteArray}:OK (T3 a0) fun r=>Aq Tryz.prog 308 [Bk a0] (Bk r):=⟨fun {r} h=>by
 refine pw C0 Tryz.func308 ?_
 refine ZS ?_
 refine Bn ?_
 refine ZS ?_
 refine Bn ?_
 refine ZO ?_
 refine Ua (fun (x:Unit)=>(.inr x)) h (fun _=>[(2,(Bk (ByteArray.mk #[])))]) (fun _=>[]) ?_ ?_
 intro _ h _ _ _
 exact Y
 rintro _ _ h
 exact Y⟩
instance {a0:ByteArray}:OK (T2 a0) fun r=>Aq Tryz.prog 307 [Bk a0] (Am r):=⟨fun {r} h=>by
 refine pw C0 Tryz.func307 ?_
 refine Z ?_
 refine A2 h (fun (v2,v3)=>[(2,(Am false)),(3,(O .i64 v2)),(7,(O .i64 v3))]) (fun (v2,v3)=>[]) ?_
 rintro ⟨v2,v3⟩ _ _ _ h _ _
 exact Y⟩
instance {a0:ByteArray} {a1:Int}:OK (Tt a0 a1) fun r=>Aq Tryz.prog 242 [Bk a0,(O .i64) a1] (.tup [Xi r.1,(O .i64) r.2]):=⟨fun {r} h=>by
 refine pw C0 Tryz.func242 ?_
 refine Z ?_
 refine J2 h (fun _ h=>?_)
 refine ZO ?_
 refine G6 (As ?_)
 refine Bg h (fun v6=>[(23,(Am v6))]) (fun v6=>[]) ?_ ?_
 intro _ h _ _ _
 exact Y
 rintro v6 _ h
 refine Ai h (fun _ h=>?_) (fun _ h=>?_)
 exact Y
 refine Z ?_
 refine A7 h (fun _ h=>?_)
 refine Z ?_
 refine Ai h (fun _ h=>?_) (fun _ h=>?_)
 refine Z ?_
 refine Aar h (fun _ _ _ _ h=>?_)
 refine Z ?_
 refine A7 h (fun _ h=>?_)
 refine ZO ?_
 refine As (As ?_)
 refine Bg h (fun v14=>[(67,(Am v14))]) (fun v14=>[]) ?_ ?_
 intro _ h _ _ _
 exact Y
 rintro v14 _ h
 exact Y
 exact Y⟩
instance {a0:ByteArray}:OK (W6 a0) fun r=>Aq Tryz.prog 186 [Bk a0] (.tup [(Av 3 Xi) r.1,(O .i64) r.2.1,(O .i64) r.2.2]):=⟨fun {r} h=>by
 refine pw {T:=Ci,an:=(fun s=>bif Nat.beq s 5 then .own else .ask),nl:=(fun s=>bif Nat.beq s 5 then [(0,3)] else bif Nat.beq s 2 then [(0,3)] else [])} Tryz.func186 ?_
 refine Z ?_
 refine Ai h (fun _ h=>?_) (fun _ h=>?_)
 exact Y
 refine Z ?_
 refine A2 h (fun (v26,o27)=>[(2,(.sl 3 (List.map Xi []))),(3,(O .i64 0)),(4,(O .i64 0)),(5,(.arr 0 o27.length 0 o27.length)),(6,(O .i64 v26))]) (fun (v26,o27)=>[(0,.rows 238 3 (List.map Xi o27))]) ?_
 rintro ⟨v26,o27⟩ _ _ _ h _ _
 refine Z ?_
 refine Ai h (fun _ h=>?_) (fun _ h=>?_)
 refine Z ?_
 refine J2 h (fun _ h=>?_)
 refine Z ?_
 refine A7 h (fun _ h=>?_)
 refine Z ?_
 refine Ai h (fun _ h=>?_) (fun _ h=>?_)
 exact Y
 refine Z ?_
 refine J2 h (fun _ h=>?_)
 refine Z ?_
 refine Ai h (fun _ h=>?_) (fun _ h=>?_)
 refine Z ?_
 refine A2 h (fun v32=>[(6,(O .i64 v32))]) (fun v32=>[]) ?_
 rintro v32 _ _ _ h _ _
 exact Y
 exact Y
 exact Y⟩
instance {a0:ByteArray}:OK (Oh a0) fun r=>Aq Tryz.prog 116 [Bk a0] (Am r):=⟨fun {r} h=>by
 refine pw C0 Tryz.func116 ?_
 exact Y⟩
abbrev Ahr (k:Nat):Prop:=∀{a0:Af} {a1:Int},OK (Ot k a0 a1) fun r=>Aq Tryz.prog 188 [Cv a0,(O .i64) a1] (Am r)
abbrev Ahs (k:Nat):Prop:=∀{a0:Af} {b0:Int},OK (Tu k a0 b0) fun r=>Bq Tryz.prog 243 [Cv a0,(.loc 0 0)] [.cells 3 [(O .i64 b0)]] (Am r) [.cells 3 [(O .i64 b0)]]
abbrev Aht (k:Nat):Prop:=∀{a0:List Af} {b0:Int},OK (Rc k a0 b0) fun r=>Bq Tryz.prog 118 [(Ep 3 Bd) a0,(.fn 243 [(.loc 0 0)])] [.cells 3 [(O .i64 b0)]] (Am r) [.cells 3 [(O .i64 b0)]]
abbrev Ahu (k:Nat):Prop:=∀{a0:List Af} {b0:Int},OK (Xk k a0 b0) fun r=>Bq Tryz.prog 189 [(Ep 3 Bd) a0,(.fn 243 [(.loc 0 0)])] [.cells 3 [(O .i64 b0)]] ((O .i64) r) [.cells 3 [(O .i64 b0)]]
theorem Xn (k:Nat):Ahr k/\Ahs k/\Aht k/\Ahu k:=by
 induction k with
 | zero=>exact ⟨okz,okz,okz,okz⟩
 | succ k ih=>
  obtain ⟨i0_,i1_,i2_,i3_⟩:=ih
  refine ⟨@fun a0 a1=>⟨fun {r} h=>?_⟩,@fun a0 b0=>⟨fun {r} h=>?_⟩,@fun a0 b0=>⟨fun {r} h=>?_⟩,@fun a0 b0=>⟨fun {r} h=>?_⟩⟩
  .unfold Ot at h
   refine pw C0 Tryz.func188 ?_
   refine Z ?_
   refine Er h (fun _ h=>?_) (fun _ h=>?_)
   refine Z ?_
   refine Er h (fun _ h=>?_) (fun _ h=>?_)
   exact Y
   refine Z ?_
   refine A1 [1] h (fun _ h=>?_)
   exact Y
   refine Z ?_
   refine A1 [1] h (fun _ h=>?_)
   exact Y
  .unfold Tu at h
   refine aw C0 true Tryz.func243 ?_
   exact Y
  .unfold Rc at h
   refine aw C0 true Tryz.func118 ?_
   refine Z ?_
   refine A1 [0] h (fun _ h=>?_)
   exact Y
  .unfold Xk at h
   refine aw C0 true Tryz.func189 ?_
   refine Z ?_
   refine A2 h (fun v3=>[(4,(O .i64 0)),(8,(O .i64 v3))]) (fun v3=>[]) ?_
   rintro v3 _ _ _ h _ _
   refine Z ?_
   refine Ai h (fun _ h=>?_) (fun _ h=>?_)
   refine Z ?_
   refine Bm h (fun _ _ _ _ h=>?_)
   refine Z ?_
   refine A1 [0] h (fun _ h=>?_)
   exact Y
   exact Y
instance {k:Nat}:Ahr k:=(Xn k).1
instance {k:Nat}:Ahs k:=(Xn k).2.1
instance {k:Nat}:Aht k:=(Xn k).2.2.1
instance {k:Nat}:Ahu k:=(Xn k).2.2.2
instance {a0:List Ao} {a1 a2:Int}:OK (Oq a0 a1 a2) fun r=>Aq Tryz.prog 187 [(Av 3 Bt) a0,(O .i64) a1,(O .i64) a2] ((Av 1 Am) r):=⟨fun {r} h=>by
 refine pw {T:=Ci,an:=(fun _=>.ask),nl:=(fun s=>bif Nat.beq s 6 then [(0,1)] else [])} Tryz.func187 ?_
 refine ZS ?_
 refine Bn ?_
 refine ZO ?_
 refine As (As ?_)
 refine Bg h (fun v2=>[(34,(Am v2))]) (fun v2=>[]) ?_ ?_
 intro _ h _ _ _
 exact Y
 rintro v2 _ h
 refine Ai h (fun _ h=>?_) (fun _ h=>?_)
 exact Y
 refine Z ?_
 refine Bm h (fun _ _ _ _ h=>?_)
 refine Z ?_
 refine Bm h (fun _ _ _ _ h=>?_)
 refine Z ?_
 refine Gg h (fun o5 h=>?_)
 refine Z ?_
 refine En h (fun (v28,o29)=>[(49,(O .i64 v28))]) (fun (v28,o29)=>[(0,.rows 4 1 (List.map Am o29))]) (fun (v28,o29)=>o5.length=o29.length) ?_
 rintro ⟨v28,o29⟩ _ _ _ h _ _ q29
 refine Z ?_
 refine Ai h (fun _ h=>?_) (fun _ h=>?_)
 refine Z ?_
 refine Bm h (fun _ v30 _ _ h=>?_)
 refine ZO ?_
 refine As ?_
 refine Agm h (fun o3_ h hj3=>?_)
 refine Si (fun (o36:(List Bool))=>o36=o3_/\o5.length=o36.length) (fun o36=>[]) (fun o36=>[(0,.rows 4 1 (List.map Am o36))]) (fun _=>rfl) ?_ ?_
 intro K3 hK3
 refine Z ?_
 refine Er h (fun _ h=>?_) (fun _ h=>?_)
 refine Z ?_
 refine Er h (fun _ h=>?_) (fun _ h=>?_)
 refine Z ?_
 refine Bm h (fun _ v32 _ _ h=>?_)
 refine Z ?_
 refine H8 h (fun _ _ hiv33 _ h=>?_)
 refine Z ?_
 refine Mg (f:=Am) (x:=((v30.Args.length:Int)==v32.Vars)) (j:=v28) rfl rfl (Nat.zero_add _) hiv33 ?_
 refine Z ?_
 exact hK3 (Cu o29 v28 ((v30.Args.length:Int)==v32.Vars)) _ _ _ ⟨(Option.some.inj h),Gq (l:=o29) q29 v28 ((v30.Args.length:Int)==v32.Vars)⟩ trivial ⟨⟨rfl,rfl⟩,⟨rfl,rfl⟩,trivial⟩
 refine Z ?_
 refine H8 h (fun _ _ hiv34 _ h=>?_)
 refine Z ?_
 refine Mg (f:=Am) (x:=false) (j:=v28) rfl rfl (Nat.zero_add _) hiv34 ?_
 refine Z ?_
 exact hK3 (Cu o29 v28 false) _ _ _ ⟨(Option.some.inj h),Gq (l:=o29) q29 v28 false⟩ trivial ⟨⟨rfl,rfl⟩,⟨rfl,rfl⟩,trivial⟩
 refine Z ?_
 refine H8 h (fun _ _ hiv35 _ h=>?_)
 refine Z ?_
 refine Mg (f:=Am) (x:=false) (j:=v28) rfl rfl (Nat.zero_add _) hiv35 ?_
 refine Z ?_
 exact hK3 (Cu o29 v28 false) _ _ _ ⟨(Option.some.inj h),Gq (l:=o29) q29 v28 false⟩ trivial ⟨⟨rfl,rfl⟩,⟨rfl,rfl⟩,trivial⟩
 rintro o36 u3 ⟨hJ3,q36⟩
 have h:=hj3 _ hJ3
 refine Z ?_
 refine En h (fun (v42,o43)=>[(80,(O .i64 v42))]) (fun (v42,o43)=>[(0,.rows 4 1 (List.map Am o43))]) (fun (v42,o43)=>o5.length=o43.length) ?_
 rintro ⟨v42,o43⟩ _ _ _ h _ _ q43
 exact Y
 exact Y⟩
abbrev Ahv (k:Nat):Prop:=∀{a0:List Af} {b1:E7},OK (Re k a0 b1) fun r=>Bq Tryz.prog 118 [(Ep 3 Bd) a0,(.fn 126 [(.loc 0 0)])] [.cells 128 [(.loc 1 0)],.cells 130 [(.sl 3 (List.map Bt b1.data)),(O .i64 b1.vars),(O .i64 b1.left)]] (Am r.1) [.cells 128 [(.loc 1 0)],.cells 130 [(.sl 3 (List.map Bt r.2.data)),(O .i64 r.2.vars),(O .i64 r.2.left)]]
abbrev Ahw (k:Nat):Prop:=∀{a0:List Af} {b1:E7},OK (T5 k a0 b1) fun r=>Bq Tryz.prog 189 [(Ep 3 Bd) a0,(.fn 126 [(.loc 0 0)])] [.cells 128 [(.loc 1 0)],.cells 130 [(.sl 3 (List.map Bt b1.data)),(O .i64 b1.vars),(O .i64 b1.left)]] ((O .i64) r.1) [.cells 128 [(.loc 1 0)],.cells 130 [(.sl 3 (List.map Bt r.2.data)),(O .i64 r.2.vars),(O .i64 r.2.left)]]
abbrev Ahx (k:Nat):Prop:=∀{a0:Af} {b0:E7},OK (J4 k a0 b0) fun r=>Bq Tryz.prog 74 [(.loc 0 0),Cv a0] [.cells 130 [(.sl 3 (List.map Bt b0.data)),(O .i64 b0.vars),(O .i64 b0.left)]] (Am r.1) [.cells 130 [(.sl 3 (List.map Bt r.2.data)),(O .i64 r.2.vars),(O .i64 r.2.left)]]
abbrev Ahy (k:Nat):Prop:=∀{a0:Af} {b1:E7},OK (S9 k a0 b1) fun r=>Bq Tryz.prog 126 [Cv a0,(.loc 0 0)] [.cells 128 [(.loc 1 0)],.cells 130 [(.sl 3 (List.map Bt b1.data)),(O .i64 b1.vars),(O .i64 b1.left)]] (Am r.1) [.cells 128 [(.loc 1 0)],.cells 130 [(.sl 3 (List.map Bt r.2.data)),(O .i64 r.2.vars),(O .i64 r.2.left)]]
theorem Xo (k:Nat):Ahv k/\Ahw k/\Ahx k/\Ahy k:=by
 induction k with
 | zero=>exact ⟨okz,okz,okz,okz⟩
 | succ k ih=>
  obtain ⟨i0_,i1_,i2_,i3_⟩:=ih
  refine ⟨@fun a0 b1=>⟨fun {r} h=>?_⟩,@fun a0 b1=>⟨fun {r} h=>?_⟩,@fun a0 b0=>⟨fun {r} h=>?_⟩,@fun a0 b1=>⟨fun {r} h=>?_⟩⟩
  .unfold Re at h
   refine aw C0 true Tryz.func118 ?_
   refine Z ?_
   refine A1 [0,1] h (fun _ h=>?_)
   exact Y
  .unfold T5 at h
   refine aw C0 true Tryz.func189 ?_
   refine Z ?_
   refine A2 h (fun (v3,v4,v5,v6)=>[(4,(O .i64 0)),(8,(O .i64 v3))]) (fun (v3,v4,v5,v6)=>[(1,.cells 130 [(.sl 3 (List.map Bt v4)),(O .i64 v5),(O .i64 v6)])]) ?_
   rintro ⟨v3,v4,v5,v6⟩ _ _ _ h _ _
   refine Z ?_
   refine Ai h (fun _ h=>?_) (fun _ h=>?_)
   refine Z ?_
   refine Bm h (fun _ _ _ _ h=>?_)
   refine Z ?_
   refine A1 [0,1] h (fun _ h=>?_)
   exact Y
   exact Y
  .unfold J4 at h
   refine aw C0 true Tryz.func74 ?_
   refine Z ?_
   refine Ai h (fun _ h=>?_) (fun _ h=>?_)
   exact Y
   refine ZS ?_
   refine Bn ?_
   refine ZS ?_
   refine Bn ?_
   refine ZO ?_
   refine Ua (fun (x:(Int×Int))=>(.inl x)) h (fun (v8,v9)=>[(4,(Am false)),(5,(O .i64 v8)),(6,(O .i64 v9))]) (fun (v8,v9)=>[]) ?_ ?_
   intro _ h _ _ _
   refine ZS ?_
   refine Bn ?_
   refine ZO ?_
   refine Bg h (fun v3=>[(21,(Am v3))]) (fun v3=>[]) ?_ ?_
   intro _ h _ _ _
   exact Y
   rintro v3 _ h
   refine Ai h (fun _ h=>?_) (fun _ h=>?_)
   exact Y
   refine Z ?_
   refine Ai h (fun _ h=>?_) (fun _ h=>?_)
   exact Y
   refine Z ?_
   refine Ai h (fun _ h=>?_) (fun _ h=>?_)
   refine As (As ?_)
   refine Bg h (fun v4=>[(53,(Am v4))]) (fun v4=>[]) ?_ ?_
   intro _ h _ _ _
   exact Y
   rintro v4 _ h
   exact Y
   refine Z ?_
   refine Ai h (fun _ h=>?_) (fun _ h=>?_)
   exact Y
   refine ZS ?_
   refine Bn ?_
   refine ZO ?_
   refine Bg h (fun v7=>[(74,(Am v7))]) (fun v7=>[]) ?_ ?_
   intro _ h _ _ _
   exact Y
   rintro v7 _ h
   exact Y
   rintro ⟨v8,v9⟩ _ h
   refine As (As ?_)
   refine Bg h (fun v10=>[(91,(Am v10))]) (fun v10=>[]) ?_ ?_
   intro _ h _ _ _
   exact Y
   rintro v10 _ h
   refine Ai h (fun _ h=>?_) (fun _ h=>?_)
   exact Y
   refine Hk (As (As ?_))
   refine Bg h (fun v11=>[(103,(Am v11))]) (fun v11=>[]) ?_ ?_
   intro _ h _ _ _
   exact Y
   rintro v11 _ h
   refine Ai h (fun _ h=>?_) (fun _ h=>?_)
   exact Y
   refine Z ?_
   refine A1 [1,0] h (fun _ h=>?_)
   exact Y
  .unfold S9 at h
   refine aw C0 true Tryz.func126 ?_
   refine Z ?_
   refine A1 [1] h (fun _ h=>?_)
   exact Y
instance {k:Nat}:Ahv k:=(Xo k).1
instance {k:Nat}:Ahw k:=(Xo k).2.1
instance {k:Nat}:Ahx k:=(Xo k).2.2.1
instance {k:Nat}:Ahy k:=(Xo k).2.2.2
instance {a0:List Ao} {a1:Af} {a2:Int}:OK (Lh a0 a1 a2) fun r=>Aq Tryz.prog 34 [(Av 3 Bt) a0,Cv a1,(O .i64) a2] (Am r):=⟨fun {r} h=>by
 refine pw C0 Tryz.func34 ?_
 refine Z ?_
 refine A1 [1] h (fun _ h=>?_)
 exact Y⟩
instance {a0:List Ao} {a1 a2:Int}:OK (Mq a0 a1 a2) fun r=>Aq Tryz.prog 117 [(Av 3 Bt) a0,(O .i64) a1,(O .i64) a2] (Am r):=⟨fun {r} h=>by
 refine pw C0 Tryz.func117 ?_
 refine Z ?_
 refine Bm h (fun _ _ _ _ h=>?_)
 refine Z ?_
 refine Bm h (fun _ _ _ _ h=>?_)
 refine Z ?_
 refine Ai h (fun _ h=>?_) (fun _ h=>?_)
 exact Y
 refine Z ?_
 refine A7 h (fun _ h=>?_)
 refine Z ?_
 refine A2 h (fun v11=>[(6,(Am false)),(29,(O .i64 v11))]) (fun v11=>[]) ?_
 rintro v11 _ _ _ h _ _
 exact Y⟩
instance {a0:List Ao}:OK (Sz a0) fun r=>Aq Tryz.prog 67 [(Av 3 Bt) a0] (Am r):=⟨fun {r} h=>by
 refine pw C0 Tryz.func67 ?_
 refine Z ?_
 refine Ai h (fun _ h=>?_) (fun _ h=>?_)
 exact Y
 refine Z ?_
 refine A2 h (fun (v31,o32,o33)=>[(2,(Am false)),(15,(O .i64 v31))]) (fun (v31,o32,o33)=>[(0,.map (Bh Am o32)),(1,.map (Bh Am o33))]) ?_
 rintro ⟨v31,o32,o33⟩ _ _ _ h _ _
 refine Z ?_
 refine Ai h (fun _ h=>?_) (fun _ h=>?_)
 refine ZS ?_
 refine Bn ?_
 refine ZO ?_
 refine As (As ?_)
 refine Bg h (fun v41=>[(49,(Am v41))]) (fun v41=>[]) ?_ ?_
 intro _ h _ _ _
 refine Z ?_
 refine Bm h (fun _ _ _ _ h=>?_)
 refine Z ?_
 refine A7 h (fun _ h=>?_)
 refine Z ?_
 refine Er h (fun _ h=>?_) (fun _ h=>?_)
 exact Y
 refine Z ?_
 refine Bm h (fun _ _ _ _ h=>?_)
 refine Z ?_
 refine Wd (f:=Am) (l:=o32) rfl (false:Bool) h (fun j_ hb h=>?_) (fun hb h=>?_)
 exact Y
 exact Y
 rintro v41 _ h
 refine Ai h (fun _ h=>?_) (fun _ h=>?_)
 exact Y
 refine Z ?_
 refine Bm h (fun _ _ _ _ h=>?_)
 refine Z ?_
 refine Sh (f:=Am) (l:=o32) (x:=true) rfl rfl ?_
 refine ZO ?_
 refine As (As ?_)
 refine Bg h (fun v45=>[(71,(Am v45))]) (fun v45=>[]) ?_ ?_
 intro _ h _ _ _
 exact Y
 rintro v45 _ h
 refine Ai h (fun _ h=>?_) (fun _ h=>?_)
 exact Y
 refine Z ?_
 refine Bm h (fun _ _ _ _ h=>?_)
 refine Z ?_
 refine A2 h (fun (v52,o53)=>[(2,(Am false)),(78,(O .i64 v52))]) (fun (v52,o53)=>[(1,.map (Bh Am o53))]) ?_
 rintro ⟨v52,o53⟩ _ _ _ h _ _
 refine Z ?_
 refine Ai h (fun _ h=>?_) (fun _ h=>?_)
 refine Z ?_
 refine Bm h (fun _ _ _ _ h=>?_)
 refine Z ?_
 refine A7 h (fun _ h=>?_)
 refine Z ?_
 refine Er h (fun _ h=>?_) (fun _ h=>?_)
 exact Y
 refine Z ?_
 refine Wd (f:=Am) (l:=o53) rfl (false:Bool) h (fun j_ hb h=>?_) (fun hb h=>?_)
 refine Z ?_
 refine Er h (fun _ h=>?_) (fun _ h=>?_)
 exact Y
 refine Z ?_
 refine A7 h (fun _ h=>?_)
 refine Z ?_
 refine Ai h (fun _ h=>?_) (fun _ h=>?_)
 exact Y
 refine Z ?_
 refine Sh (f:=Am) (l:=o53) (x:=true) rfl rfl ?_
 exact Y
 refine Z ?_
 refine A7 h (fun _ h=>?_)
 refine Z ?_
 refine Ai h (fun _ h=>?_) (fun _ h=>?_)
 exact Y
 refine Z ?_
 refine Sh (f:=Am) (l:=o53) (x:=true) rfl rfl ?_
 exact Y
 exact Y
 exact Y⟩
instance {a0:List Ao}:OK (Aa9 a0) fun r=>Aq Tryz.prog 73 [O6 (H6.mk a0 [] [] [])] (Am r):=⟨fun {r} h=>by
 refine pw C0 Tryz.func73 ?_
 refine Z ?_
 refine Gg h (fun _ h=>?_)
 refine Z ?_
 refine A2 h (fun _=>[(2,(Am false)),(18,(O .i64 0))]) (fun _=>[]) ?_
 rintro _ _ _ _ h _ _
 replace h:=B9 h
 refine Z ?_
 refine A2 h (fun _=>[(2,(Am false)),(30,(O .i64 0))]) (fun _=>[]) ?_
 rintro _ _ _ _ h _ _
 exact Y⟩
instance {a0:List Ao}:OK (Aa8 a0) fun r=>Aq Tryz.prog 72 [O6 (H6.mk a0 [] [] [])] (Am r):=⟨fun {r} h=>by
 refine pw C0 Tryz.func72 ?_
 refine Z ?_
 refine Gg h (fun _ h=>?_)
 refine Z ?_
 refine A2 h (fun _=>[(2,(Am false)),(17,(O .i64 0))]) (fun _=>[]) ?_
 rintro _ _ _ _ h _ _
 exact Y⟩
instance {a0:List Ao}:OK (Aa6 a0) fun r=>Aq Tryz.prog 70 [O6 (H6.mk a0 [] [] [])] (Am r):=⟨fun {r} h=>by
 refine pw C0 Tryz.func70 ?_
 refine Z ?_
 refine Gg h (fun _ h=>?_)
 refine Z ?_
 refine A2 h (fun _=>[(2,(Am false)),(20,(O .i64 0))]) (fun _=>[]) ?_
 rintro _ _ _ _ h _ _
 replace h:=B9 h
 refine Z ?_
 refine A2 h (fun _=>[(2,(Am false)),(33,(O .i64 0))]) (fun _=>[]) ?_
 rintro _ _ _ _ h _ _
 exact Y⟩
instance {a0:Af} {b0:H6}:OK (Abc a0 b0) fun r=>Bq Tryz.prog 119 [Cv a0,(.loc 0 0)] [.cells 91 [(.sl 3 (List.map Bt b0.Data)),(.sl 7 (List.map O4 b0.Codes)),(.sl 3 (Bd b0.Vars)),(.sl 8 (List.map O5 b0.Exprs))]] (Am r) [.cells 91 [(.sl 3 (List.map Bt b0.Data)),(.sl 7 (List.map O4 b0.Codes)),(.sl 3 (Bd b0.Vars)),(.sl 8 (List.map O5 b0.Exprs))]]:=⟨fun {r} h=>by
 refine aw C0 true Tryz.func119 ?_
 exact Y⟩
instance {a0:List Af} {b0:H6}:OK (Abj a0 b0) fun r=>Bq Tryz.prog 189 [(Ep 3 Bd) a0,(.fn 119 [(.loc 0 0)])] [.cells 91 [(.sl 3 (List.map Bt b0.Data)),(.sl 7 (List.map O4 b0.Codes)),(.sl 3 (Bd b0.Vars)),(.sl 8 (List.map O5 b0.Exprs))]] ((O .i64) r) [.cells 91 [(.sl 3 (List.map Bt b0.Data)),(.sl 7 (List.map O4 b0.Codes)),(.sl 3 (Bd b0.Vars)),(.sl 8 (List.map O5 b0.Exprs))]]:=⟨fun {r} h=>by
 refine aw C0 true Tryz.func189 ?_
 refine Z ?_
 refine A2 h (fun v3=>[(4,(O .i64 0)),(8,(O .i64 v3))]) (fun v3=>[]) ?_
 rintro v3 _ _ _ h _ _
 refine Z ?_
 refine Ai h (fun _ h=>?_) (fun _ h=>?_)
 refine Z ?_
 refine Bm h (fun _ _ _ _ h=>?_)
 refine Z ?_
 refine A1 [0] h (fun _ h=>?_)
 exact Y
 exact Y⟩
instance {a0:List Af} {b0:H6}:OK (Abb a0 b0) fun r=>Bq Tryz.prog 118 [(Ep 3 Bd) a0,(.fn 119 [(.loc 0 0)])] [.cells 91 [(.sl 3 (List.map Bt b0.Data)),(.sl 7 (List.map O4 b0.Codes)),(.sl 3 (Bd b0.Vars)),(.sl 8 (List.map O5 b0.Exprs))]] (Am r) [.cells 91 [(.sl 3 (List.map Bt b0.Data)),(.sl 7 (List.map O4 b0.Codes)),(.sl 3 (Bd b0.Vars)),(.sl 8 (List.map O5 b0.Exprs))]]:=⟨fun {r} h=>by
 refine aw C0 true Tryz.func118 ?_
 refine Z ?_
 refine A1 [0] h (fun _ h=>?_)
 exact Y⟩
instance {a0:List Ao}:OK (Aa4 a0) fun r=>Aq Tryz.prog 68 [O6 (H6.mk a0 [] [] [])] (Am r):=⟨fun {r} h=>by
 refine pw C0 Tryz.func68 ?_
 refine Z ?_
 refine A1 [0] h (fun _ h=>?_)
 exact Y⟩
instance {a0:List Ao}:OK (Qf a0) fun r=>Aq Tryz.prog 33 [O6 (H6.mk a0 [] [] [])] (Am r):=⟨fun {r} h=>by
 refine pw C0 Tryz.func33 ?_
 exact Y⟩
instance {a0:Int}:OK (Tn a0) fun r=>Aq Tryz.prog 205 [(O .i64) a0] (Am r):=⟨fun {r} h=>by
 refine pw C0 Tryz.func205 ?_
 exact Y⟩
instance {a0 a1:Int}:OK (Jc a0 a1) fun r=>Aq Tryz.prog 131 [(O .i64) a0,(O .i64) a1] ((O .i64) r):=⟨fun {r} h=>by
 refine pw C0 Tryz.func131 ?_
 exact Y⟩
instance {a0:List Int}:OK (Kw a0) fun r=>Aq Tryz.prog 134 [(Av 1 (O .i64)) a0] ((O .i64) r):=⟨fun {r} h=>by
 refine pw C0 Tryz.func134 ?_
 refine Z ?_
 refine A2 h (fun v2=>[(2,(O .i64 0)),(8,(O .i64 v2))]) (fun v2=>[]) ?_
 rintro v2 _ _ _ h _ _
 exact Y⟩
instance {a0:Int}:OK (Xb a0) fun r=>Aq Tryz.prog 250 [(O .i64) a0] (Am r):=⟨fun {r} h=>by
 refine pw C0 Tryz.func250 ?_
 exact Y⟩
instance {a0 a1:Int}:OK (Tm a0 a1) fun r=>Aq Tryz.prog 204 [(O .i64) a0,(O .i64) a1] ((O .i64) r):=⟨fun {r} h=>by
 refine pw C0 Tryz.func204 ?_
 exact Y⟩
instance {a0 a1:Dd}:OK (Tl a0 a1) fun r=>Aq Tryz.prog 203 [Gf a0,Gf a1] ((O .i64) r):=⟨fun {r} h=>by
 refine pw C0 Tryz.func203 ?_
 exact Y⟩
instance {a0 a1:List Dd}:OK (W7 a0 a1) fun r=>Aq Tryz.prog 202 [(Av 2 Gf) a0,(Av 2 Gf) a1,(.fn 203 [])] ((O .i64) r):=⟨fun {r} h=>by
 refine pw C0 Tryz.func202 ?_
 refine Z ?_
 refine A2 h (fun v6=>[(6,(O .i64 0)),(13,(O .i64 v6))]) (fun v6=>[]) ?_
 rintro v6 _ _ _ h _ _
 exact Y⟩
instance {a0 a1:C2}:OK (J8 a0 a1) fun r=>Aq Tryz.prog 130 [G9 a0,G9 a1] ((O .i64) r):=⟨fun {r} h=>by
 refine pw C0 Tryz.func130 ?_
 exact Y⟩
instance {a0 a1:B1}:OK (Td a0 a1) fun r=>Aq Tryz.prog 137 [Dw a0,Dw a1] ((O .i64) r):=⟨fun {r} h=>by
 refine pw C0 Tryz.func137 ?_
 exact Y⟩
instance {a0 a1:List B1}:OK (Wv a0 a1) fun r=>Aq Tryz.prog 136 [(Av 3 Dw) a0,(Av 3 Dw) a1,(.fn 137 [])] ((O .i64) r):=⟨fun {r} h=>by
 refine pw C0 Tryz.func136 ?_
 refine Z ?_
 refine A2 h (fun v6=>[(6,(O .i64 0)),(13,(O .i64 v6))]) (fun v6=>[]) ?_
 rintro v6 _ _ _ h _ _
 exact Y⟩
abbrev Ahz (k:Nat):Prop:=∀{a0 a1:Az},OK (Mr k a0 a1) fun r=>Aq Tryz.prog 135 [D7 a0,D7 a1] ((O .i64) r)
abbrev Ah0 (k:Nat):Prop:=∀{a0 a1:List Az},OK (To k a0 a1) fun r=>Aq Tryz.prog 206 [(Ep 2 Gr) a0,(Ep 2 Gr) a1,(.fn 135 [])] ((O .i64) r)
theorem Ah1 (k:Nat):Ahz k/\Ah0 k:=by
 induction k with
 | zero=>exact ⟨okz,okz⟩
 | succ k ih=>
  obtain ⟨i0_,i1_⟩:=ih
  refine ⟨@fun a0 a1=>⟨fun {r} h=>?_⟩,@fun a0 a1=>⟨fun {r} h=>?_⟩⟩
  .unfold Mr at h
   refine pw C0 Tryz.func135 ?_
   exact Y
  .unfold To at h
   refine pw C0 Tryz.func206 ?_
   refine Z ?_
   refine A2 h (fun v6=>[(6,(O .i64 0)),(13,(O .i64 v6))]) (fun v6=>[]) ?_
   rintro v6 _ _ _ h _ _
   exact Y
instance {k:Nat}:Ahz k:=(Ah1 k).1
instance {k:Nat}:Ah0 k:=(Ah1 k).2
instance {a0 a1:Cd}:OK (Tc a0 a1) fun r=>Aq Tryz.prog 133 [Ei a0,Ei a1] ((O .i64) r):=⟨fun {r} h=>by
 refine pw C0 Tryz.func133 ?_
 exact Y⟩
instance {a0 a1:List Cd}:OK (Wu a0 a1) fun r=>Aq Tryz.prog 132 [(Av 3 Ei) a0,(Av 3 Ei) a1,(.fn 133 [])] ((O .i64) r):=⟨fun {r} h=>by
 refine pw C0 Tryz.func132 ?_
 refine Z ?_
 refine A2 h (fun v6=>[(6,(O .i64 0)),(13,(O .i64 v6))]) (fun v6=>[]) ?_
 rintro v6 _ _ _ h _ _
 exact Y⟩
instance {a0 a1:B8}:OK (Mm a0 a1) fun r=>Aq Tryz.prog 78 [F0 a0,F0 a1] ((O .i64) r):=⟨fun {r} h=>by
 refine pw C0 Tryz.func78 ?_
 exact Y⟩
instance {a0:Int}:OK (Fg a0) fun r=>Aq Tryz.prog 43 [(O .i64) a0] (Bk r):=⟨fun {r} h=>by
 exact Aq1 h⟩
instance {b1:List Int}:OK (Rf b1) fun r=>Bq Tryz.prog 38 [(.loc 0 0)] [.cells 42 [(.loc 0 0),(.arr 1 b1.length 0 b1.length)],.rows 5 1 (List.map (O .u8) b1)] (.tup []) [.cells 42 [(.loc 0 0),(.arr 1 b1.length 0 b1.length)],.rows 5 1 (List.map (O .u8) b1)]:=⟨fun {r} h=>by
 cases h
 exact Aq4 _ _⟩
instance {a0:Int} {b1:List Int}:OK (Rb a0 b1) fun r=>Bq Tryz.prog 311 [(.loc 0 0),(O .u8) a0] [.cells 42 [(.loc 0 0),(.arr 1 b1.length 0 b1.length)],.rows 5 1 (List.map (O .u8) b1)] (.val .nilIface) [.cells 42 [(.loc 0 0),(.arr 1 r.length 0 r.length)],.rows 5 1 (List.map (O .u8) r)]:=⟨fun {r} h=>by
 refine aw C0 true Tryz.func311 ?_
 refine Z ?_
 refine A1 [0,1] h (fun _ h=>?_)
 exact Y⟩
instance {a0:ByteArray} {b1:List Int}:OK (Cl a0 b1) fun r=>Bq Tryz.prog 12 [(.loc 0 0),Bk a0] [.cells 42 [(.loc 0 0),(.arr 1 b1.length 0 b1.length)],.rows 5 1 (List.map (O .u8) b1)] (.tup [(O .i64) r.1,.val .nilIface]) [.cells 42 [(.loc 0 0),(.arr 1 r.2.length 0 r.2.length)],.rows 5 1 (List.map (O .u8) r.2)]:=⟨fun {r} h=>by
 refine aw C0 true Tryz.func12 ?_
 refine Z ?_
 refine A1 [0,1] h (fun _ h=>?_)
 exact Y⟩
abbrev Ah2 (k:Nat):Prop:=∀{a0:Az} {b1:List Int},OK (Ox k a0 b1) fun r=>Bq Tryz.prog 247 [(.loc 0 0),D7 a0] [.cells 42 [(.loc 0 0),(.arr 1 b1.length 0 b1.length)],.rows 5 1 (List.map (O .u8) b1)] (.tup []) [.cells 42 [(.loc 0 0),(.arr 1 r.length 0 r.length)],.rows 5 1 (List.map (O .u8) r)]
theorem Arm (k:Nat):Ah2 k:=by
 induction k with
 | zero=>exact okz
 | succ k ih=>
  refine @fun a0 b1=>⟨fun {r} h=>?_⟩
  .unfold Ox at h
   refine aw C0 true Tryz.func247 ?_
   refine Z ?_
   refine A7 h (fun _ h=>?_)
   refine Z ?_
   refine A1 [0,1] h (fun _ h=>?_)
   refine Z ?_
   refine Ai h (fun _ h=>?_) (fun _ h=>?_)
   refine Z ?_
   refine A1 [0,1] h (fun _ h=>?_)
   refine Z ?_
   refine A2 h (fun (v15,o16)=>[(20,(O .i64 v15))]) (fun (v15,o16)=>[(0,.cells 42 [(.loc 0 0),(.arr 1 o16.length 0 o16.length)]),(1,.rows 5 1 (List.map (O .u8) o16))]) ?_
   rintro ⟨v15,o16⟩ _ _ _ h _ _
   refine Z ?_
   refine Ai h (fun _ h=>?_) (fun _ h=>?_)
   refine Z ?_
   refine Bm h (fun _ _ _ _ h=>?_)
   refine Z ?_
   refine A1 [0,1] h (fun _ h=>?_)
   refine Z ?_
   refine A1 [0,1] h (fun _ h=>?_)
   exact Y
   replace h:=B9 h
   refine Z ?_
   refine A1 [0,1] h (fun _ h=>?_)
   exact Y
   exact Y
instance {k:Nat}:Ah2 k:=(Arm k)
instance {b1:List Int}:OK (Hm b1) fun r=>Bq Tryz.prog 14 [(.loc 0 0)] [.cells 42 [(.loc 0 0),(.arr 1 b1.length 0 b1.length)],.rows 5 1 (List.map (O .u8) b1)] (Bk r) [.cells 42 [(.loc 0 0),(.fb r)],.dead]:=⟨fun {r} h=>by
 exact Ahh h⟩
instance {b1:List Int}:OK (Ss b1) fun r=>Bq Tryz.prog 38 [(.loc 0 0)] [.cells 42 [(.val (.pointer none)),(.arr 1 b1.length 0 b1.length)],.rows 5 1 (List.map (O .u8) b1)] (.tup []) [.cells 42 [(.loc 0 0),(.arr 1 b1.length 0 b1.length)],.rows 5 1 (List.map (O .u8) b1)]:=⟨fun {r} h=>by
 cases h
 exact Aq5 _ _⟩
instance {a0:ByteArray} {b1:List Int}:OK (Fu a0 b1) fun r=>Bq Tryz.prog 12 [(.loc 0 0),Bk a0] [.cells 42 [(.val (.pointer none)),(.arr 1 b1.length 0 b1.length)],.rows 5 1 (List.map (O .u8) b1)] (.tup [(O .i64) r.1,(.val .nilIface)]) [.cells 42 [(.loc 0 0),(.arr 1 r.2.length 0 r.2.length)],.rows 5 1 (List.map (O .u8) r.2)]:=⟨fun {r} h=>by
 refine aw C0 true Tryz.func12 ?_
 refine Z ?_
 refine A1 [0,1] h (fun _ h=>?_)
 exact Y⟩
instance {a0:Int} {a1:Az}:OK (Ou a0 a1) fun r=>Aq Tryz.prog 200 [(O .i64) a0,D7 a1] (Bk r):=⟨fun {r} h=>by
 refine pw C0 Tryz.func200 ?_
 refine ZS ?_
 refine Bn ?_
 refine ZS ?_
 refine Bn ?_
 refine ZO ?_
 refine As ?_
 refine C6 [.own 5 1 5 1] ?_
 refine Z ?_
 refine A7 h (fun _ h=>?_)
 refine Z ?_
 refine Ft h (fun h=>?_)
 refine Z ?_
 refine Ft h (fun h=>?_)
 refine Z ?_
 refine A1 [1,2] h (fun _ h=>?_)
 refine Z ?_
 refine A1 [1,2] h (fun _ h=>?_)
 refine Z ?_
 refine A1 [1,2] h (fun _ h=>?_)
 exact Y⟩
abbrev Ah3 (k:Nat):Prop:=∀{a0:Af},OK (O0 k a0) fun r=>Aq Tryz.prog 252 [Cv a0] ((O .i64) r)
theorem Arn (k:Nat):Ah3 k:=by
 induction k with
 | zero=>exact okz
 | succ k ih=>
  refine @fun a0=>⟨fun {r} h=>?_⟩
  .unfold O0 at h
   refine pw C0 Tryz.func252 ?_
   refine Z ?_
   refine A2 h (fun (v5,v6)=>[(3,(O .i64 v5)),(9,(O .i64 v6))]) (fun (v5,v6)=>[]) ?_
   rintro ⟨v5,v6⟩ _ _ _ h _ _
   exact Y
instance {k:Nat}:Ah3 k:=(Arn k)
end Go.Ab
namespace Go.Ab
open Go Go.Proofs
set_option maxRecDepth 10000
set_option maxHeartbeats 4000000
set_option linter.unusedVariables false
abbrev Ah4 (k:Nat):Prop:=∀{a0:Af} {a1:List Af},OK (M0 k a0 a1) fun r=>Aq Tryz.prog 254 [Cv a0,(Ep 3 Bd) a1] (Cv r)
theorem Aro (k:Nat):Ah4 k:=by
 induction k with
 | zero=>exact okz
 | succ k ih=>
  refine @fun a0 a1=>⟨fun {r} h=>?_⟩
  .unfold M0 at h
   refine pw {T:=Ci,an:=(fun _=>.ask),nl:=(fun s=>bif Nat.beq s 42 then [(0,3)] else [])} Tryz.func254 ?_
   refine ZS ?_
   refine Bn ?_
   refine ZO ?_
   refine As (As ?_)
   refine Bg h (fun v3=>[(22,(Am v3))]) (fun v3=>[]) ?_ ?_
   intro _ h _ _ _
   exact Y
   rintro v3 _ h
   refine Ai h (fun _ h=>?_) (fun _ h=>?_)
   exact Y
   refine ZS ?_
   refine Bn ?_
   refine ZO ?_
   refine As (As ?_)
   refine C6 [.own 5 2 25 3] ?_
   refine Z ?_
   refine A2 h (fun (v18,o19)=>[(37,(O .i64 v18))]) (fun (v18,o19)=>[(2,.cells 25 [(O .i64 a0.Kind),(O .i64 a0.Num),(.arr 3 o19.length 0 o19.length)]),(3,.rows 25 3 (Bd o19))]) ?_
   rintro ⟨v18,o19⟩ _ _ _ h _ _
   exact Y
instance {k:Nat}:Ah4 k:=(Aro k)
abbrev Ah5 (k:Nat):Prop:=∀{a0:Af} {a1:List Int},OK (O1 k a0 a1) fun r=>Aq Tryz.prog 253 [Cv a0,(Av 1 (O .i64)) a1] ((O .i64) r)
theorem Arp (k:Nat):Ah5 k:=by
 induction k with
 | zero=>exact okz
 | succ k ih=>
  refine @fun a0 a1=>⟨fun {r} h=>?_⟩
  .unfold O1 at h
   refine pw C0 Tryz.func253 ?_
   refine ZS ?_
   refine Bn ?_
   refine ZO ?_
   refine As (As ?_)
   refine Bg h (fun v2=>[(22,(Am v2))]) (fun v2=>[]) ?_ ?_
   intro _ h _ _ _
   exact Y
   rintro v2 _ h
   refine Ai h (fun _ h=>?_) (fun _ h=>?_)
   exact Y
   refine Z ?_
   refine A2 h (fun (v7,v8)=>[(5,(O .i64 v7)),(31,(O .i64 v8))]) (fun (v7,v8)=>[]) ?_
   rintro ⟨v7,v8⟩ _ _ _ h _ _
   exact Y
instance {k:Nat}:Ah5 k:=(Arp k)
instance {a0:List Ao} {a1:Af} {a2:Int}:OK (Q2 a0 a1 a2) fun r=>Aq Tryz.prog 209 [(Av 3 Bt) a0,Cv a1,(O .i64) a2] (.tup [(Ep 3 Bd) r.1,Am r.2]):=⟨fun {r} h=>by
 refine pw {T:=Ci,an:=(fun s=>bif Nat.beq s 14 then .own else .ask),nl:=(fun s=>bif Nat.beq s 14 then [(0,3)] else bif Nat.beq s 6 then [(0,3)] else [])} Tryz.func209 ?_
 refine ZS ?_
 refine Bn ?_
 refine ZO ?_
 refine As (As ?_)
 refine Bg h (fun v2=>[(31,(Am v2))]) (fun v2=>[]) ?_ ?_
 intro _ h _ _ _
 exact Y
 rintro v2 _ h
 refine Ai h (fun _ h=>?_) (fun _ h=>?_)
 exact Y
 refine Z ?_
 refine Bm h (fun _ _ _ _ h=>?_)
 refine ZO ?_
 refine As (As ?_)
 refine Bg h (fun v5=>[(53,(Am v5))]) (fun v5=>[]) ?_ ?_
 intro _ h _ _ _
 exact Y
 rintro v5 _ h
 refine Ai h (fun _ h=>?_) (fun _ h=>?_)
 exact Y
 refine Z ?_
 refine Gg h (fun o6 h=>?_)
 refine Z ?_
 refine En h (fun (v12,o13)=>[(61,(O .i64 v12))]) (fun (v12,o13)=>[(2,.rows 3 1 (List.map (O .i64) o13))]) (fun (v12,o13)=>o6.length=o13.length) ?_
 rintro ⟨v12,o13⟩ _ _ _ h _ _ q13
 refine Z ?_
 refine Ai h (fun _ h=>?_) (fun _ h=>?_)
 exact Y
 replace h:=B9 h
 refine Z ?_
 refine Bm h (fun _ _ _ _ h=>?_)
 refine ZO ?_
 refine G6 ?_
 refine C6 [.fz 9] ?_
 refine Z ?_
 refine A2 h (fun v23=>[(6,(.sl 3 (Bd []))),(7,(Am false)),(79,(O .i64 v23))]) (fun v23=>[]) ?_
 rintro v23 _ _ _ h _ _
 refine Z ?_
 refine Ai h (fun _ h=>?_) (fun _ h=>?_)
 exact Y
 replace h:=B9 h
 refine Z ?_
 refine Bm h (fun _ _ _ _ h=>?_)
 refine Z ?_
 refine A2 h (fun (v41,o42)=>[(14,(.arr 3 o42.length 0 o42.length)),(95,(O .i64 v41))]) (fun (v41,o42)=>[(3,.rows 25 3 (Bd o42))]) ?_
 rintro ⟨v41,o42⟩ _ _ _ h _ _
 exact Y⟩
abbrev Ah6 (k:Nat):Prop:=∀{a0:Af} {a1:Az} {b1:List (ByteArray×Int)} {b2:List (ByteArray×(List Dh))} {b0_0:List Ao} {b0_1:List Af} {b0_2 b0_3:Int} {b0_4:List Af},OK (Oz k a0 a1 b1 b2 b0_0 b0_1 b0_2 b0_3 b0_4) fun r=>Bq Tryz.prog 249 [(.loc 0 0),Cv a0,D7 a1] [.cells 96 [(.sl 3 (List.map Bt b0_0)),(.sl 3 (Bd b0_1)),(O .i64 b0_2),(O .i64 b0_3),(.sl 3 (Bd b0_4)),(.mp 1),(.mp 2)],.map (Bh (O .i64) b1),.map (Bh (Av 5 D8) b2)] ((O .i64) r) [.cells 96 [(.sl 3 (List.map Bt b0_0)),(.sl 3 (Bd b0_1)),(O .i64 b0_2),(O .i64 b0_3),(.sl 3 (Bd b0_4)),(.mp 1),(.mp 2)],.map (Bh (O .i64) b1),.map (Bh (Av 5 D8) b2)]
abbrev Ah7 (k:Nat):Prop:=∀{a0:Af} {a1:Az} {b1:List (ByteArray×Int)} {b2:List (ByteArray×(List Dh))} {b0_0:List Ao} {b0_1:List Af} {b0_2 b0_3:Int} {b0_4:List Af},OK (Mv k a0 a1 b1 b2 b0_0 b0_1 b0_2 b0_3 b0_4) fun r=>Bq Tryz.prog 201 [(.loc 0 0),Cv a0,D7 a1] [.cells 96 [(.sl 3 (List.map Bt b0_0)),(.sl 3 (Bd b0_1)),(O .i64 b0_2),(O .i64 b0_3),(.sl 3 (Bd b0_4)),(.mp 1),(.mp 2)],.map (Bh (O .i64) b1),.map (Bh (Av 5 D8) b2)] ((O .i64) r) [.cells 96 [(.sl 3 (List.map Bt b0_0)),(.sl 3 (Bd b0_1)),(O .i64 b0_2),(O .i64 b0_3),(.sl 3 (Bd b0_4)),(.mp 1),(.mp 2)],.map (Bh (O .i64) b1),.map (Bh (Av 5 D8) b2)]
abbrev Ah8 (k:Nat):Prop:=∀{a0:List Af} {a1:List Az} {b1:List (ByteArray×Int)} {b2:List (ByteArray×(List Dh))} {b0_0:List Ao} {b0_1:List Af} {b0_2 b0_3:Int} {b0_4:List Af},OK (Oy k a0 a1 b1 b2 b0_0 b0_1 b0_2 b0_3 b0_4) fun r=>Bq Tryz.prog 248 [(.loc 0 0),(Ep 3 Bd) a0,(Ep 2 Gr) a1] [.cells 96 [(.sl 3 (List.map Bt b0_0)),(.sl 3 (Bd b0_1)),(O .i64 b0_2),(O .i64 b0_3),(.sl 3 (Bd b0_4)),(.mp 1),(.mp 2)],.map (Bh (O .i64) b1),.map (Bh (Av 5 D8) b2)] ((O .i64) r) [.cells 96 [(.sl 3 (List.map Bt b0_0)),(.sl 3 (Bd b0_1)),(O .i64 b0_2),(O .i64 b0_3),(.sl 3 (Bd b0_4)),(.mp 1),(.mp 2)],.map (Bh (O .i64) b1),.map (Bh (Av 5 D8) b2)]
theorem Acf (k:Nat):Ah6 k/\Ah7 k/\Ah8 k:=by
 induction k with
 | zero=>exact ⟨okz,okz,okz⟩
 | succ k ih=>
  obtain ⟨i0_,i1_,i2_⟩:=ih
  refine ⟨@fun a0 a1 b1 b2 b0_0 b0_1 b0_2 b0_3 b0_4=>⟨fun {r} h=>?_⟩,@fun a0 a1 b1 b2 b0_0 b0_1 b0_2 b0_3 b0_4=>⟨fun {r} h=>?_⟩,@fun a0 a1 b1 b2 b0_0 b0_1 b0_2 b0_3 b0_4=>⟨fun {r} h=>?_⟩⟩
  .unfold Oz at h
   refine aw {T:=Ci,an:=(fun s=>bif Nat.beq s 9 then .own else .ask),nl:=(fun s=>bif Nat.beq s 9 then [(0,3)] else [])} true Tryz.func249 ?_
   refine Z ?_
   refine A7 h (fun _ h=>?_)
   refine Z ?_
   refine Ai h (fun _ h=>?_) (fun _ h=>?_)
   exact Y
   refine Z ?_
   refine A7 h (fun _ h=>?_)
   refine Z ?_
   refine A2 h (fun (v14,o15)=>[(9,(.arr 5 o15.length 0 o15.length)),(38,(O .i64 v14))]) (fun (v14,o15)=>[(5,.rows 25 3 (Bd o15))]) ?_
   rintro ⟨v14,o15⟩ _ _ _ h _ _
   refine Z ?_
   refine Ai h (fun _ h=>?_) (fun _ h=>?_)
   exact Y
   replace h:=B9 h
   refine Ff (Fd rfl (As ?_))
   refine C6 [.fz 9] ?_
   refine Z ?_
   refine A1 [0,1,2] h (fun _ h=>?_)
   exact Y
  .unfold Mv at h
   refine aw C0 true Tryz.func201 ?_
   refine Z ?_
   refine Ai h (fun _ h=>?_) (fun _ h=>?_)
   refine Z ?_
   refine Ai h (fun _ h=>?_) (fun _ h=>?_)
   refine Z ?_
   refine A1 [0,1,2] h (fun _ h=>?_)
   exact Y
   exact Y
   refine Z ?_
   refine Ai h (fun _ h=>?_) (fun _ h=>?_)
   exact Y
   refine Z ?_
   refine Ai h (fun _ h=>?_) (fun _ h=>?_)
   refine Z ?_
   refine Ai h (fun _ h=>?_) (fun _ h=>?_)
   exact Y
   refine Z ?_
   refine A2 h (fun (v7,v8)=>[(6,(O .i64 0)),(7,(O .i64 v7)),(50,(O .i64 v8))]) (fun (v7,v8)=>[]) ?_
   rintro ⟨v7,v8⟩ _ _ _ h _ _
   refine Z ?_
   refine Ai h (fun _ h=>?_) (fun _ h=>?_)
   refine Z ?_
   refine Bm h (fun _ _ _ _ h=>?_)
   refine Z ?_
   refine A1 [0,1,2] h (fun _ h=>?_)
   exact Y
   exact Y
   exact Y
  .unfold Oy at h
   refine aw C0 true Tryz.func248 ?_
   refine Z ?_
   refine Ai h (fun _ h=>?_) (fun _ h=>?_)
   exact Y
   refine Z ?_
   refine A2 h (fun (v5,v6)=>[(6,(O .i64 0)),(7,(O .i64 v5)),(18,(O .i64 v6))]) (fun (v5,v6)=>[]) ?_
   rintro ⟨v5,v6⟩ _ _ _ h _ _
   refine Z ?_
   refine Ai h (fun _ h=>?_) (fun _ h=>?_)
   refine Z ?_
   refine Bm h (fun _ _ _ _ h=>?_)
   refine Z ?_
   refine Bm h (fun _ _ _ _ h=>?_)
   refine Z ?_
   refine A1 [0,1,2] h (fun _ h=>?_)
   exact Y
   exact Y
instance {k:Nat}:Ah6 k:=(Acf k).1
instance {k:Nat}:Ah7 k:=(Acf k).2.1
instance {k:Nat}:Ah8 k:=(Acf k).2.2
instance {a0:Int} {b1:List (ByteArray×Int)} {b2:List (ByteArray×(List Dh))} {b0_0:List Ao} {b0_1:List Af} {b0_2 b0_3:Int} {b0_4:List Af}:OK (Li a0 b1 b2 b0_0 b0_1 b0_2 b0_3 b0_4) fun r=>Bq Tryz.prog 41 [(.loc 0 0),(O .i64) a0] [.cells 96 [(.sl 3 (List.map Bt b0_0)),(.sl 3 (Bd b0_1)),(O .i64 b0_2),(O .i64 b0_3),(.sl 3 (Bd b0_4)),(.mp 1),(.mp 2)],.map (Bh (O .i64) b1),.map (Bh (Av 5 D8) b2)] (Cv r) [.cells 96 [(.sl 3 (List.map Bt b0_0)),(.sl 3 (Bd b0_1)),(O .i64 b0_2),(O .i64 b0_3),(.sl 3 (Bd b0_4)),(.mp 1),(.mp 2)],.map (Bh (O .i64) b1),.map (Bh (Av 5 D8) b2)]:=⟨fun {r} h=>by
 refine aw C0 true Tryz.func41 ?_
 exact Y⟩
instance {a0:Int} {a1:Az} {b1:List (ByteArray×Int)} {b2:List (ByteArray×(List Dh))} {b0_0:List Ao} {b0_1:List Af} {b0_2 b0_3:Int} {b0_4:List Af}:OK (Kv a0 a1 b1 b2 b0_0 b0_1 b0_2 b0_3 b0_4) fun r=>Bq Tryz.prog 129 [(.loc 0 0),(O .i64) a0,D7 a1] [.cells 96 [(.sl 3 (List.map Bt b0_0)),(.sl 3 (Bd b0_1)),(O .i64 b0_2),(O .i64 b0_3),(.sl 3 (Bd b0_4)),(.mp 1),(.mp 2)],.map (Bh (O .i64) b1),.map (Bh (Av 5 D8) b2)] ((O .i64) r.1) [.cells 96 [(.sl 3 (List.map Bt b0_0)),(.sl 3 (Bd b0_1)),(O .i64 b0_2),(O .i64 b0_3),(.sl 3 (Bd b0_4)),(.mp 1),(.mp 2)],.map (Bh (O .i64) r.2),.map (Bh (Av 5 D8) b2)]:=⟨fun {r} h=>by
 refine aw C0 true Tryz.func129 ?_
 refine Z ?_
 refine A7 h (fun _ h=>?_)
 refine ZO ?_
 refine As ?_
 refine Bg h (fun (v3,v4)=>[(8,(O .i64 v3)),(9,(Am v4))]) (fun (v3,v4)=>[]) ?_ ?_
 intro _ h _ _ _
 refine Z ?_
 refine Wd (f:=(O .i64)) (l:=b1) rfl (0:Int) h (fun j_ hb h=>?_) (fun hb h=>?_)
 exact Y
 exact Y
 rintro ⟨v3,v4⟩ _ h
 refine Z ?_
 refine Ai h (fun _ h=>?_) (fun _ h=>?_)
 refine Z ?_
 refine A1 [0,1,2] h (fun _ h=>?_)
 refine Z ?_
 refine A1 [0,1,2] h (fun _ h=>?_)
 refine ZS ?_
 refine Bn ?_
 refine ZO ?_
 refine Bg h (fun v7=>[(8,(O .i64 v7))]) (fun v7=>[]) ?_ ?_
 intro _ h _ _ _
 exact Y
 rintro v7 _ h
 refine Z ?_
 refine Sh (f:=(O .i64)) (l:=b1) (x:=v7) rfl rfl ?_
 exact Y
 exact Y⟩
instance {a0:B8} {b1:List (ByteArray×Int)} {b2:List (ByteArray×(List Dh))} {b0_0:List Ao} {b0_1:List Af} {b0_2 b0_3:Int} {b0_4:List Af}:OK (Tb a0 b1 b2 b0_0 b0_1 b0_2 b0_3 b0_4) fun r=>Bq Tryz.prog 128 [(.loc 0 0),F0 a0] [.cells 96 [(.sl 3 (List.map Bt b0_0)),(.sl 3 (Bd b0_1)),(O .i64 b0_2),(O .i64 b0_3),(.sl 3 (Bd b0_4)),(.mp 1),(.mp 2)],.map (Bh (O .i64) b1),.map (Bh (Av 5 D8) b2)] ((O .i64) r.1) [.cells 96 [(.sl 3 (List.map Bt b0_0)),(.sl 3 (Bd b0_1)),(O .i64 b0_2),(O .i64 b0_3),(.sl 3 (Bd b0_4)),(.mp 1),(.mp 2)],.map (Bh (O .i64) r.2),.map (Bh (Av 5 D8) b2)]:=⟨fun {r} h=>by
 refine aw C0 true Tryz.func128 ?_
 refine Z ?_
 refine A2 h (fun (v5,v6,o7)=>[(5,(O .i64 v5)),(13,(O .i64 v6))]) (fun (v5,v6,o7)=>[(1,.map (Bh (O .i64) o7))]) ?_
 rintro ⟨v5,v6,o7⟩ _ _ _ h _ _
 refine Z ?_
 refine Ai h (fun _ h=>?_) (fun _ h=>?_)
 refine Z ?_
 refine Bm h (fun _ _ _ _ h=>?_)
 refine Z ?_
 refine Ai h (fun _ h=>?_) (fun _ h=>?_)
 refine Z ?_
 refine A1 [0,1,2] h (fun _ h=>?_)
 exact Y
 exact Y
 replace h:=B9 h
 refine Z ?_
 refine A2 h (fun (v15,v16)=>[(5,(O .i64 v15)),(31,(O .i64 v16))]) (fun (v15,v16)=>[]) ?_
 rintro ⟨v15,v16⟩ _ _ _ h _ _
 exact Y⟩
instance {a0:Int} {b1:List (ByteArray×Int)} {b2:List (ByteArray×(List Dh))} {b0_0:List Ao} {b0_1:List Af} {b0_2 b0_3:Int} {b0_4:List Af}:OK (Of a0 b1 b2 b0_0 b0_1 b0_2 b0_3 b0_4) fun r=>Bq Tryz.prog 110 [(.loc 0 0),(O .i64) a0] [.cells 96 [(.sl 3 (List.map Bt b0_0)),(.sl 3 (Bd b0_1)),(O .i64 b0_2),(O .i64 b0_3),(.sl 3 (Bd b0_4)),(.mp 1),(.mp 2)],.map (Bh (O .i64) b1),.map (Bh (Av 5 D8) b2)] (Am r) [.cells 96 [(.sl 3 (List.map Bt b0_0)),(.sl 3 (Bd b0_1)),(O .i64 b0_2),(O .i64 b0_3),(.sl 3 (Bd b0_4)),(.mp 1),(.mp 2)],.map (Bh (O .i64) b1),.map (Bh (Av 5 D8) b2)]:=⟨fun {r} h=>by
 refine aw C0 true Tryz.func110 ?_
 exact Y⟩
instance {a0:Dd} {b2:List (ByteArray×Int)} {b3:List (ByteArray×(List Dh))} {b1_0:List Ao} {b1_1:List Af} {b1_2 b1_3:Int} {b1_4:List Af}:OK (Qv a0 b2 b3 b1_0 b1_1 b1_2 b1_3 b1_4) fun r=>Bq Tryz.prog 109 [Gf a0,(.loc 0 0)] [.cells 36 [(.loc 1 0)],.cells 96 [(.sl 3 (List.map Bt b1_0)),(.sl 3 (Bd b1_1)),(O .i64 b1_2),(O .i64 b1_3),(.sl 3 (Bd b1_4)),(.mp 2),(.mp 3)],.map (Bh (O .i64) b2),.map (Bh (Av 5 D8) b3)] (Am r) [.cells 36 [(.loc 1 0)],.cells 96 [(.sl 3 (List.map Bt b1_0)),(.sl 3 (Bd b1_1)),(O .i64 b1_2),(O .i64 b1_3),(.sl 3 (Bd b1_4)),(.mp 2),(.mp 3)],.map (Bh (O .i64) b2),.map (Bh (Av 5 D8) b3)]:=⟨fun {r} h=>by
 refine aw C0 true Tryz.func109 ?_
 refine Z ?_
 refine A1 [1,2,3] h (fun _ h=>?_)
 refine Z ?_
 refine Er h (fun _ h=>?_) (fun _ h=>?_)
 exact Y
 refine Z ?_
 refine A1 [1,2,3] h (fun _ h=>?_)
 refine Z ?_
 refine Z4.mk 3 (by kernel_rfl) ?_
 exact Y⟩
instance {a0:List Dd} {b2:List (ByteArray×Int)} {b3:List (ByteArray×(List Dh))} {b1_0:List Ao} {b1_1:List Af} {b1_2 b1_3:Int} {b1_4:List Af}:OK (Wy a0 b2 b3 b1_0 b1_1 b1_2 b1_3 b1_4) fun r=>Bq Tryz.prog 169 [(Av 2 Gf) a0,(.fn 109 [(.loc 0 0)])] [.cells 36 [(.loc 1 0)],.cells 96 [(.sl 3 (List.map Bt b1_0)),(.sl 3 (Bd b1_1)),(O .i64 b1_2),(O .i64 b1_3),(.sl 3 (Bd b1_4)),(.mp 2),(.mp 3)],.map (Bh (O .i64) b2),.map (Bh (Av 5 D8) b3)] ((O .i64) r) [.cells 36 [(.loc 1 0)],.cells 96 [(.sl 3 (List.map Bt b1_0)),(.sl 3 (Bd b1_1)),(O .i64 b1_2),(O .i64 b1_3),(.sl 3 (Bd b1_4)),(.mp 2),(.mp 3)],.map (Bh (O .i64) b2),.map (Bh (Av 5 D8) b3)]:=⟨fun {r} h=>by
 refine aw C0 true Tryz.func169 ?_
 refine Z ?_
 refine A2 h (fun v3=>[(4,(O .i64 0)),(8,(O .i64 v3))]) (fun v3=>[]) ?_
 rintro v3 _ _ _ h _ _
 refine Z ?_
 refine Ai h (fun _ h=>?_) (fun _ h=>?_)
 refine Z ?_
 refine Bm h (fun _ _ _ _ h=>?_)
 refine Z ?_
 refine A1 [0,1,2,3] h (fun _ h=>?_)
 exact Y
 exact Y⟩
instance {a0:List Dd} {b2:List (ByteArray×Int)} {b3:List (ByteArray×(List Dh))} {b1_0:List Ao} {b1_1:List Af} {b1_2 b1_3:Int} {b1_4:List Af}:OK (Wq a0 b2 b3 b1_0 b1_1 b1_2 b1_3 b1_4) fun r=>Bq Tryz.prog 108 [(Av 2 Gf) a0,(.fn 109 [(.loc 0 0)])] [.cells 36 [(.loc 1 0)],.cells 96 [(.sl 3 (List.map Bt b1_0)),(.sl 3 (Bd b1_1)),(O .i64 b1_2),(O .i64 b1_3),(.sl 3 (Bd b1_4)),(.mp 2),(.mp 3)],.map (Bh (O .i64) b2),.map (Bh (Av 5 D8) b3)] (Am r) [.cells 36 [(.loc 1 0)],.cells 96 [(.sl 3 (List.map Bt b1_0)),(.sl 3 (Bd b1_1)),(O .i64 b1_2),(O .i64 b1_3),(.sl 3 (Bd b1_4)),(.mp 2),(.mp 3)],.map (Bh (O .i64) b2),.map (Bh (Av 5 D8) b3)]:=⟨fun {r} h=>by
 refine aw C0 true Tryz.func108 ?_
 refine Z ?_
 refine A1 [0,1,2,3] h (fun _ h=>?_)
 exact Y⟩
instance {a0:C2} {b1:List (ByteArray×Int)} {b2:List (ByteArray×(List Dh))} {b0_0:List Ao} {b0_1:List Af} {b0_2 b0_3:Int} {b0_4:List Af}:OK (Ob a0 b1 b2 b0_0 b0_1 b0_2 b0_3 b0_4) fun r=>Bq Tryz.prog 60 [(.loc 0 0),G9 a0] [.cells 96 [(.sl 3 (List.map Bt b0_0)),(.sl 3 (Bd b0_1)),(O .i64 b0_2),(O .i64 b0_3),(.sl 3 (Bd b0_4)),(.mp 1),(.mp 2)],.map (Bh (O .i64) b1),.map (Bh (Av 5 D8) b2)] (Am r) [.cells 96 [(.sl 3 (List.map Bt b0_0)),(.sl 3 (Bd b0_1)),(O .i64 b0_2),(O .i64 b0_3),(.sl 3 (Bd b0_4)),(.mp 1),(.mp 2)],.map (Bh (O .i64) b1),.map (Bh (Av 5 D8) b2)]:=⟨fun {r} h=>by
 refine aw C0 true Tryz.func60 ?_
 refine Z ?_
 refine A1 [3,0,1,2] h (fun _ h=>?_)
 exact Y⟩
instance {a0:B8} {b1:List (ByteArray×Int)} {b2:List (ByteArray×(List Dh))} {b0_0:List Ao} {b0_1:List Af} {b0_2 b0_3:Int} {b0_4:List Af}:OK (Ta a0 b1 b2 b0_0 b0_1 b0_2 b0_3 b0_4) fun r=>Bq Tryz.prog 127 [(.loc 0 0),F0 a0] [.cells 96 [(.sl 3 (List.map Bt b0_0)),(.sl 3 (Bd b0_1)),(O .i64 b0_2),(O .i64 b0_3),(.sl 3 (Bd b0_4)),(.mp 1),(.mp 2)],.map (Bh (O .i64) b1),.map (Bh (Av 5 D8) b2)] (Am r.1) [.cells 96 [(.sl 3 (List.map Bt b0_0)),(.sl 3 (Bd b0_1)),(O .i64 b0_2),(O .i64 b0_3),(.sl 3 (Bd b0_4)),(.mp 1),(.mp 2)],.map (Bh (O .i64) r.2),.map (Bh (Av 5 D8) b2)]:=⟨fun {r} h=>by
 refine aw C0 true Tryz.func127 ?_
 refine Z ?_
 refine A2 h (fun (v6,o7)=>[(4,(Am false)),(12,(O .i64 v6))]) (fun (v6,o7)=>[(1,.map (Bh (O .i64) o7))]) ?_
 rintro ⟨v6,o7⟩ _ _ _ h _ _
 refine Z ?_
 refine Ai h (fun _ h=>?_) (fun _ h=>?_)
 refine Z ?_
 refine Bm h (fun _ _ _ _ h=>?_)
 refine Z ?_
 refine A1 [0,1,2] h (fun _ h=>?_)
 refine Z ?_
 refine Er h (fun _ h=>?_) (fun _ h=>?_)
 exact Y
 refine Z ?_
 refine A1 [0,1,2] h (fun _ h=>?_)
 exact Y
 replace h:=B9 h
 refine Z ?_
 refine A2 h (fun v18=>[(4,(Am false)),(34,(O .i64 v18))]) (fun v18=>[]) ?_
 rintro v18 _ _ _ h _ _
 refine Z ?_
 refine Ai h (fun _ h=>?_) (fun _ h=>?_)
 refine Z ?_
 refine Bm h (fun _ _ _ _ h=>?_)
 refine Z ?_
 refine Er h (fun _ h=>?_) (fun _ h=>?_)
 exact Y
 refine Z ?_
 refine A1 [0,1,2] h (fun _ h=>?_)
 exact Y
 exact Y⟩
instance {a0:B8} {b1:List (ByteArray×Int)} {b2:List (ByteArray×(List Dh))} {b0_0:List Ao} {b0_1:List Af} {b0_2 b0_3:Int} {b0_4:List Af}:OK (Ql a0 b1 b2 b0_0 b0_1 b0_2 b0_3 b0_4) fun r=>Bq Tryz.prog 77 [(.loc 0 0),F0 a0] [.cells 96 [(.sl 3 (List.map Bt b0_0)),(.sl 3 (Bd b0_1)),(O .i64 b0_2),(O .i64 b0_3),(.sl 3 (Bd b0_4)),(.mp 1),(.mp 2)],.map (Bh (O .i64) b1),.map (Bh (Av 5 D8) b2)] (Am r.1) [.cells 96 [(.sl 3 (List.map Bt b0_0)),(.sl 3 (Bd b0_1)),(O .i64 b0_2),(O .i64 b0_3),(.sl 3 (Bd b0_4)),(.mp 1),(.mp 2)],.map (Bh (O .i64) r.2),.map (Bh (Av 5 D8) b2)]:=⟨fun {r} h=>by
 refine aw C0 true Tryz.func77 ?_
 refine ZS ?_
 refine Bn ?_
 refine ZO ?_
 refine As (As ?_)
 refine Bg h (fun (v4,o5)=>[(18,(Am v4))]) (fun (v4,o5)=>[(1,.map (Bh (O .i64) o5))]) ?_ ?_
 intro _ h _ _ _
 refine Z ?_
 refine A1 [0,1,2] h (fun _ h=>?_)
 refine Z ?_
 refine Er h (fun _ h=>?_) (fun _ h=>?_)
 exact Y
 refine Z ?_
 refine A1 [0,1,2] h (fun _ h=>?_)
 exact Y
 rintro ⟨v4,o5⟩ _ h
 refine Ai h (fun _ h=>?_) (fun _ h=>?_)
 exact Y
 refine Z ?_
 refine A2 h (fun (v9,o10)=>[(4,(Am false)),(22,(O .i64 v9))]) (fun (v9,o10)=>[(1,.map (Bh (O .i64) o10))]) ?_
 rintro ⟨v9,o10⟩ _ _ _ h _ _
 refine Z ?_
 refine Ai h (fun _ h=>?_) (fun _ h=>?_)
 refine Z ?_
 refine Bm h (fun _ _ _ _ h=>?_)
 refine Z ?_
 refine A1 [0,1,2] h (fun _ h=>?_)
 exact Y
 replace h:=B9 h
 refine Z ?_
 refine A2 h (fun v22=>[(4,(Am false)),(54,(O .i64 v22))]) (fun v22=>[]) ?_
 rintro v22 _ _ _ h _ _
 refine Z ?_
 refine Ai h (fun _ h=>?_) (fun _ h=>?_)
 refine Z ?_
 refine Bm h (fun _ _ _ _ h=>?_)
 refine ZO ?_
 refine As (As ?_)
 refine Bg h (fun v26=>[(74,(Am v26))]) (fun v26=>[]) ?_ ?_
 intro _ h _ _ _
 exact Y
 rintro v26 _ h
 exact Y
 exact Y⟩
instance {a0 a1:List Int}:OK (Mn a0 a1) fun r=>Aq Tryz.prog 87 [(Av 1 (O .u32)) a0,(Av 1 (O .u32)) a1] ((O .i64) r):=⟨fun {r} h=>by
 refine pw C0 Tryz.func87 ?_
 refine Z ?_
 refine Ai h (fun _ h=>?_) (fun _ h=>?_)
 exact Y
 refine Z ?_
 refine A2 h (fun v5=>[(4,(O .i64 0)),(5,(O .i64 v5))]) (fun v5=>[]) ?_
 rintro v5 _ _ _ h _ _
 exact Y⟩
instance {a0:List Int}:OK (Ij a0) fun r=>Aq Tryz.prog 138 [(Av 1 (O .u32)) a0] ((Av 1 (O .u32)) r):=⟨fun {r} h=>by
 refine pw {T:=Ci,an:=(fun _=>.ask),nl:=(fun s=>bif Nat.beq s 2 then [(0,1)] else [])} Tryz.func138 ?_
 refine Z ?_
 refine A2 h (fun v2=>[(3,(O .i64 v2))]) (fun v2=>[]) ?_
 rintro v2 _ _ _ h _ _
 exact Y⟩
instance {a0:List Int} {a1:Int}:OK (Ov a0 a1) fun r=>Aq Tryz.prog 215 [(Av 1 (O .u32)) a0,(O .u64) a1] (.tup [(Av 1 (O .u32)) r.1,(O .u64) r.2]):=⟨fun {r} h=>by
 refine pw {T:=Ci,an:=(fun _=>.ask),nl:=(fun s=>bif Nat.beq s 4 then [(0,1)] else [])} Tryz.func215 ?_
 refine Z ?_
 refine Gg h (fun o1 h=>?_)
 refine Z ?_
 refine En h (fun (v7,v8,o9)=>[(7,(O .u64 v7)),(8,(O .i64 v8))]) (fun (v7,v8,o9)=>[(0,.rows 119 1 (List.map (O .u32) o9))]) (fun (v7,v8,o9)=>o1.length=o9.length) ?_
 rintro ⟨v7,v8,o9⟩ _ _ _ h _ _ q9
 refine Z ?_
 refine Ai h (fun _ h=>?_) (fun _ h=>?_)
 exact Y
 replace h:=B9 h
 refine Ff (Fd rfl (As ?_))
 refine C6 [.fz 6] ?_
 exact Y⟩
instance {a0:Int}:OK (Lo a0) fun r=>Aq Tryz.prog 143 [(O .u64) a0] ((Av 1 (O .u32)) r):=⟨fun {r} h=>by
 refine pw {T:=Ci,an:=(fun s=>bif Nat.beq s 3 then .own else .ask),nl:=(fun s=>bif Nat.beq s 3 then [(0,1)] else bif Nat.beq s 2 then [(0,1)] else [])} Tryz.func143 ?_
 refine Z ?_
 refine A2 h (fun (v10,o11)=>[(0,(O .u64 v10)),(3,(.arr 0 o11.length 0 o11.length))]) (fun (v10,o11)=>[(0,.rows 119 1 (List.map (O .u32) o11))]) ?_
 rintro ⟨v10,o11⟩ _ _ _ h _ _
 exact Y⟩
instance {a0:List Int} {a1:Int}:OK (Q4 a0 a1) fun r=>Bq Tryz.prog 216 [(Av 1 (O .u32)) a0,(O .u64) a1] [] (.arr 0 r.length 0 r.length) [.rows 119 1 (List.map (O .u32) r)]:=⟨fun {r} h=>by
 refine aw {T:=Ci,an:=(fun _=>.ask),nl:=(fun s=>bif Nat.beq s 4 then [(0,1)] else [])} false Tryz.func216 ?_
 refine Z ?_
 refine Gg h (fun o1 h=>?_)
 refine Z ?_
 refine En h (fun (v7,v8,o9)=>[(6,(O .u64 v7)),(15,(O .i64 v8))]) (fun (v7,v8,o9)=>[(0,.rows 119 1 (List.map (O .u32) o9))]) (fun (v7,v8,o9)=>o1.length=o9.length) ?_
 rintro ⟨v7,v8,o9⟩ _ _ _ h _ _ q9
 refine Z ?_
 refine Ai h (fun _ h=>?_) (fun _ h=>?_)
 exact Y
 replace h:=B9 h
 refine Z ?_
 refine H8 h (fun _ _ hiv16 _ h=>?_)
 refine Z ?_
 refine Mg (f:=(O .u32)) (x:=(Cj v7)) (j:=(a0.length:Int)) rfl rfl (Nat.zero_add _) hiv16 ?_
 refine Z ?_
 cases h
 exact ⟨congrArg (fun q_=>AV.arr 0 q_ 0 q_) (Gq (l:=o9) q9 (a0.length:Int) (Cj v7)),rfl,trivial⟩⟩
instance {a0:List Int} {a1:Int}:OK (Ab9 a0 a1) fun r=>Aq Tryz.prog 216 [(Av 1 (O .u32)) a0,(O .u64) a1] ((Av 1 (O .u32)) r):=⟨fun {r} h=>by
 refine pw {T:=Ci,an:=(fun _=>.ask),nl:=(fun s=>bif Nat.beq s 4 then [(0,1)] else [])} Tryz.func216 ?_
 refine Z ?_
 refine Gg h (fun o1 h=>?_)
 refine Z ?_
 refine En h (fun (v7,v8,o9)=>[(6,(O .u64 v7)),(15,(O .i64 v8))]) (fun (v7,v8,o9)=>[(0,.rows 119 1 (List.map (O .u32) o9))]) (fun (v7,v8,o9)=>o1.length=o9.length) ?_
 rintro ⟨v7,v8,o9⟩ _ _ _ h _ _ q9
 exact Y⟩
instance {a0 a1:Nat} {a2 b0:List Int}:OK (Tp a0 a1 a2 b0) fun r=>Bq Tryz.prog 217 [(.arr 0 b0.length a0 a1),(Av 1 (O .u32)) a2] [.rows 119 1 (List.map (O .u32) b0)] ((O .u32) r.1) [.rows 119 1 (List.map (O .u32) r.2)]:=⟨fun {r} h=>by
 refine aw C0 true Tryz.func217 ?_
 refine Z ?_
 refine Bm h (fun _ _ _ _ h=>?_)
 refine Z ?_
 refine Bm h (fun _ _ _ _ h=>?_)
 refine Z ?_
 refine Ri h (fun _ _ _ _ h=>?_)
 refine Z ?_
 refine Ri h (fun _ _ _ _ h=>?_)
 refine Z ?_
 refine Lc h (fun _ h=>?_)
 refine Z ?_
 refine Iy h (fun _ h=>?_)
 refine Z ?_
 refine A2 h (fun (v9,v10)=>[(9,(O .u64 v9)),(10,(O .u64 v10))]) (fun (v9,v10)=>[]) ?_
 rintro ⟨v9,v10⟩ _ _ _ h _ _
 refine As (As ?_)
 refine Bg h (fun v12=>[(71,(Am v12))]) (fun v12=>[]) ?_ ?_
 intro _ h _ _ _
 exact Y
 rintro v12 _ h
 refine Ai h (fun _ h=>?_) (fun _ h=>?_)
 exact Y
 replace h:=B9 h
 refine Z ?_
 refine En h (fun (v24,v25,o26)=>[(11,(O .i64 v24)),(78,(O .i64 v25))]) (fun (v24,v25,o26)=>[(0,.rows 119 1 (List.map (O .u32) o26))]) (fun (v24,v25,o26)=>b0.length=o26.length) ?_
 rintro ⟨v24,v25,o26⟩ _ _ _ h _ _ q26
 refine Z ?_
 refine Ai h (fun _ h=>?_) (fun _ h=>?_)
 refine Z ?_
 refine Ri h (fun _ _ _ _ h=>?_)
 refine Z ?_
 refine Bm h (fun _ _ _ _ h=>?_)
 refine Z ?_
 refine Iy h (fun _ h=>?_)
 refine Z ?_
 refine Bm h (fun _ _ _ _ h=>?_)
 refine Z ?_
 refine Lc h (fun _ h=>?_)
 refine Z ?_
 refine A2 h (fun (v32,v33)=>[(11,(O .i64 v32)),(13,(O .i64 v33))]) (fun (v32,v33)=>[]) ?_
 rintro ⟨v32,v33⟩ _ _ _ h _ _
 exact Y
 replace h:=B9 h
 refine Z ?_
 refine Ri h (fun _ _ _ _ h=>?_)
 refine Z ?_
 refine Ai h (fun _ h=>?_) (fun _ h=>?_)
 exact Y
 refine Z ?_
 refine En h (fun (v46,v47,o48)=>[(15,(O .u32 v46)),(136,(O .i64 v47))]) (fun (v46,v47,o48)=>[(0,.rows 119 1 (List.map (O .u32) o48))]) (fun (v46,v47,o48)=>b0.length=o48.length) ?_
 rintro ⟨v46,v47,o48⟩ _ _ _ h _ _ q48
 exact Y⟩
instance {a0 a1:List Int}:OK (Oi a0 a1) fun r=>Aq Tryz.prog 145 [(Av 1 (O .u32)) a0,(Av 1 (O .u32)) a1] (.tup [(Av 1 (O .u32)) r.1,(Av 1 (O .u32)) r.2]):=⟨fun {r} h=>by
 refine pw {T:=Ci,an:=(fun _=>.ask),nl:=(fun s=>bif Nat.beq s 5 then [(0,1)] else bif Nat.beq s 4 then [(0,1)] else [])} Tryz.func145 ?_
 refine Z ?_
 refine A7 h (fun _ h=>?_)
 refine Z ?_
 refine Ai h (fun _ h=>?_) (fun _ h=>?_)
 exact Y
 refine Z ?_
 refine Ai h (fun _ h=>?_) (fun _ h=>?_)
 exact Y
 refine Z ?_
 refine Bm h (fun _ _ _ _ h=>?_)
 refine Z ?_
 refine Lc h (fun _ h=>?_)
 refine Z ?_
 refine A1 [] h (fun v9 h=>?_)
 refine Z ?_
 refine A7 h (fun _ h=>?_)
 refine Z ?_
 refine O8 h (fun v12 h=>?_)
 refine Z ?_
 refine Gg h (fun o13 h=>?_)
 refine Z ?_
 refine En h (fun (v19,o20,o21)=>[(13,(O .i64 v19))]) (fun (v19,o20,o21)=>[(0,.rows 119 1 (List.map (O .u32) o20)),(1,.rows 119 1 (List.map (O .u32) o21))]) (fun (v19,o20,o21)=>v9.length=o20.length/\o13.length=o21.length) ?_ (h0:=(⟨rfl,rfl⟩))
 rintro ⟨v19,o20,o21⟩ _ _ _ h _ hn1 ⟨q20,q21⟩
 refine Z ?_
 refine Ai h (fun _ h=>?_) (fun _ h=>?_)
 refine Z ?_
 refine Aqm (f:=(O .u32)) rfl q20 h (fun v22 h=>?_)
 refine Z ?_
 refine C5 h (fun v23 hcv23 h=>?_)
 have okv23:=(OK.ok hcv23 :)
 rw [<-q20] at okv23
 refine Fc.act [0] _ _ _ _ okv23 rfl rfl ⟨rfl,trivial⟩ ?_
 refine C5 h (fun v24 hgv24 h=>?_)
 refine Z ?_
 refine H8 h (fun _ _ hiv25 _ h=>?_)
 refine Z ?_
 refine Mg (f:=(O .u32)) (x:=v23.1) (j:=v19) rfl rfl (Nat.zero_add _) hiv25 ?_
 refine Z ?_
 exact hn1 _ _ _ _ (Option.some.inj h) ⟨rfl,trivial⟩ ⟨⟨rfl,rfl⟩,⟨rfl,rfl⟩,trivial⟩ (⟨H4 hgv24,Gq (l:=o21) q21 v19 v23.1⟩)
 replace h:=B9 h
 refine Ff (Fd rfl (As ?_))
 refine C6 [.fz 10] ?_
 refine Z ?_
 refine A7 h (fun _ h=>?_)
 refine Z ?_
 refine A7 h (fun _ h=>?_)
 refine ZO ?_
 refine As ?_
 refine C6 [.fz 12] ?_
 exact Y⟩
instance {a0:List Int}:OK (Q3 a0) fun r=>Aq Tryz.prog 214 [(Av 1 (O .u32)) a0] (.tup [(O .u64) r.1,Am r.2]):=⟨fun {r} h=>by
 refine pw C0 Tryz.func214 ?_
 refine Z ?_
 refine A2 h (fun (v3,v4)=>[(2,(O .u64 0)),(3,(Am false)),(4,(O .u64 v3)),(9,(O .i64 v4))]) (fun (v3,v4)=>[]) ?_
 rintro ⟨v3,v4⟩ _ _ _ h _ _
 exact Y⟩
instance {a0 a1:List Int}:OK (Tf a0 a1) fun r=>Aq Tryz.prog 144 [(Av 1 (O .u32)) a0,(Av 1 (O .u32)) a1] ((Av 1 (O .u32)) r):=⟨fun {r} h=>by
 refine pw {T:=Ci,an:=(fun _=>.ask),nl:=(fun s=>bif Nat.beq s 4 then [(0,1)] else [])} Tryz.func144 ?_
 refine Z ?_
 refine A2 h (fun (v12,v13)=>[(0,(.sl 1 (List.map (O .u32) v12))),(1,(.sl 1 (List.map (O .u32) v13))),(4,(.sl 1 (List.map (O .u32) [])))]) (fun (v12,v13)=>[]) ?_
 rintro ⟨v12,v13⟩ _ _ _ h _ _
 refine Z ?_
 refine Ai h (fun _ h=>?_) (fun _ h=>?_)
 refine Hk (G6 (As (As ?_)))
 refine Bg h (fun v14=>[(21,(Am v14))]) (fun v14=>[]) ?_ ?_
 intro _ h _ _ _
 exact Y
 rintro v14 _ h
 refine Ai h (fun _ h=>?_) (fun _ h=>?_)
 refine Z ?_
 refine A7 h (fun _ h=>?_)
 refine Z ?_
 refine A7 h (fun _ h=>?_)
 refine Z ?_
 refine A2 h (fun (v18,v19)=>[(5,(O .u64 v18)),(7,(O .u64 v19))]) (fun (v18,v19)=>[]) ?_
 rintro ⟨v18,v19⟩ _ _ _ h _ _
 exact Y
 exact Y
 exact Y⟩
instance {a0:List Int}:OK (Ln a0) fun r=>Aq Tryz.prog 92 [(Av 1 (O .u32)) a0] (Am r):=⟨fun {r} h=>by
 refine pw C0 Tryz.func92 ?_
 exact Y⟩
instance {a0:Fv}:OK (Qo a0) fun r=>Aq Tryz.prog 90 [M2 a0] (M2 r):=⟨fun {r} h=>by
 refine pw {T:=Ci,an:=(fun _=>.ask),nl:=(fun s=>bif Nat.beq s 13 then [(1,1)] else [])} Tryz.func90 ?_
 exact Y⟩
instance {a0:Fv}:OK (J6 a0) fun r=>Aq Tryz.prog 86 [M2 a0] (Cb r):=⟨fun {r} h=>by
 refine pw C0 Tryz.func86 ?_
 exact Y⟩
instance {a0:List Int}:OK (Qm a0) fun r=>Aq Tryz.prog 79 [(Av 1 (O .u32)) a0] ((Av 1 (O .u32)) r):=⟨fun {r} h=>by
 refine pw {T:=Ci,an:=(fun _=>.ask),nl:=(fun s=>bif Nat.beq s 2 then [(0,1)] else [])} Tryz.func79 ?_
 refine Z ?_
 refine Gg h (fun _ h=>?_)
 refine Z ?_
 refine A2 h (fun (v14,v15,o16)=>[(3,(.arr 0 o16.length 0 o16.length)),(4,(O .u64 v14)),(13,(O .i64 v15))]) (fun (v14,v15,o16)=>[(0,.rows 119 1 (List.map (O .u32) o16))]) ?_
 rintro ⟨v14,v15,o16⟩ _ _ _ h _ _
 refine Z ?_
 refine Ai h (fun _ h=>?_) (fun _ h=>?_)
 exact Y
 replace h:=B9 h
 refine Z ?_
 refine Ai h (fun _ h=>?_) (fun _ h=>?_)
 refine Z ?_
 refine Kb h (fun _ h=>?_)
 refine ZO ?_
 refine As ?_
 refine C6 [.fz 3] ?_
 exact Y
 refine Hk (As ?_)
 refine C6 [.fz 3] ?_
 exact Y⟩
instance {a0:A4}:OK (Ii a0) fun r=>Aq Tryz.prog 36 [Cb a0] (M2 r):=⟨fun {r} h=>by
 refine pw {T:=Ci,an:=(fun _=>.ask),nl:=(fun s=>bif Nat.beq s 20 then [(1,1)] else [])} Tryz.func36 ?_
 refine Z ?_
 refine A7 h (fun _ h=>?_)
 refine Z ?_
 refine A7 h (fun _ h=>?_)
 refine ZO ?_
 refine As (As ?_)
 refine Bg h (fun v5=>[(18,(Am v5))]) (fun v5=>[]) ?_ ?_
 intro _ h _ _ _
 exact Y
 rintro v5 _ h
 exact Y⟩
instance {a0:A4}:OK (Ml a0) fun r=>Aq Tryz.prog 75 [Cb a0] (Cb r):=⟨fun {r} h=>by
 refine pw C0 Tryz.func75 ?_
 exact Y⟩
instance {a0:Fv}:OK (N8 a0) fun r=>Aq Tryz.prog 37 [M2 a0] ((O .i64) r):=⟨fun {r} h=>by
 refine pw C0 Tryz.func37 ?_
 exact Y⟩
instance {a0:A4}:OK (G7 a0) fun r=>Aq Tryz.prog 11 [Cb a0] ((O .i64) r):=⟨fun {r} h=>by
 refine pw C0 Tryz.func11 ?_
 exact Y⟩
instance {a0 a1:List Int}:OK (Kt a0 a1) fun r=>Aq Tryz.prog 76 [(Av 1 (O .u32)) a0,(Av 1 (O .u32)) a1] (Am r):=⟨fun {r} h=>by
 refine pw C0 Tryz.func76 ?_
 refine Z ?_
 refine Ai h (fun _ h=>?_) (fun _ h=>?_)
 exact Y
 refine Z ?_
 refine A2 h (fun v3=>[(4,(Am false)),(13,(O .i64 v3))]) (fun v3=>[]) ?_
 rintro v3 _ _ _ h _ _
 exact Y⟩
end Go.Ab
namespace Go.Ab
open Go Go.Proofs
set_option maxRecDepth 10000
set_option maxHeartbeats 4000000
set_option linter.unusedVariables false
instance {a0:List A6} {b1:List (ByteArray×Int)} {b2:List (ByteArray×(List Dh))} {b0_0:List Ao} {b0_1:List Af} {b0_2 b0_3:Int} {b0_4:List Af}:OK (Sr a0 b1 b2 b0_0 b0_1 b0_2 b0_3 b0_4) fun r=>Bq Tryz.prog 35 [(.loc 0 0),(Av 5 Cq) a0] [.cells 96 [(.sl 3 (List.map Bt b0_0)),(.sl 3 (Bd b0_1)),(O .i64 b0_2),(O .i64 b0_3),(.sl 3 (Bd b0_4)),(.mp 1),(.mp 2)],.map (Bh (O .i64) b1),.map (Bh (Av 5 D8) b2)] (Am r.1) [.cells 96 [(.sl 3 (List.map Bt b0_0)),(.sl 3 (Bd b0_1)),(O .i64 b0_2),(O .i64 b0_3),(.sl 3 (Bd b0_4)),(.mp 1),(.mp 2)],.map (Bh (O .i64) r.2),.map (Bh (Av 5 D8) b2)]:=⟨fun {r} h=>by
 refine aw C0 true Tryz.func35 ?_
 refine Z ?_
 refine Ai h (fun _ h=>?_) (fun _ h=>?_)
 exact Y
 refine Z ?_
 refine A2 h (fun (v10,o11)=>[(4,(Am false)),(14,(O .i64 v10))]) (fun (v10,o11)=>[(1,.map (Bh (O .i64) o11))]) ?_
 rintro ⟨v10,o11⟩ _ _ _ h _ _
 refine Z ?_
 refine Ai h (fun _ h=>?_) (fun _ h=>?_)
 refine Z ?_
 refine Bm h (fun _ _ _ _ h=>?_)
 refine Z ?_
 refine A7 h (fun _ h=>?_)
 refine ZO ?_
 refine As ?_
 refine Bg h (fun v18=>[(8,(Am v18))]) (fun v18=>[]) ?_ ?_
 intro _ h _ _ _
 exact Y
 rintro v18 _ h
 refine Z ?_
 refine Er h (fun _ h=>?_) (fun _ h=>?_)
 exact Y
 refine Z ?_
 refine A7 h (fun _ h=>?_)
 refine Z ?_
 refine Er h (fun _ h=>?_) (fun _ h=>?_)
 exact Y
 refine Z ?_
 refine A1 [0,1,2] h (fun _ h=>?_)
 exact Y
 exact Y⟩
theorem Acg {a0:Ck} {a1:List (List A6)} {r:(Bool×Ck×(List (ByteArray×Int))×(List (ByteArray×(List Dh)))×(List Ao)×(List Af)×Int×Int×(List Af))} (h:Mh a0 a1=some (.inl r)):Bq Tryz.prog 10 [G8 a0,(Av 1 (Av 5 Cq)) a1] [] (.tup [.loc 3 0,Am r.1]) [.cells 27 [(.sl 3 (List.map Bt r.2.1.Data)),(.sl 3 (Bd r.2.1.Vars)),(O .i64 r.2.1.Res.Kind),(O .i64 r.2.1.Res.Num),(.sl 3 (Bd r.2.1.Res.Args))],.map (Bh (O .i64) r.2.2.1),.map (Bh (Av 5 D8) r.2.2.2.1),.cells 96 [(.sl 3 (List.map Bt r.2.2.2.2.1)),(.sl 3 (Bd r.2.2.2.2.2.1)),(O .i64 r.2.2.2.2.2.2.1),(O .i64 r.2.2.2.2.2.2.2.1),(.sl 3 (Bd r.2.2.2.2.2.2.2.2)),(.mp 1),(.mp 2)]]:=by
 refine aw {T:=Ci,an:=(fun _=>.ask),nl:=(fun s=>bif Nat.beq s 18 then [(1,7),(2,3),(3,8)] else [])} true Tryz.func10 ?_
 refine ZS ?_
 refine Bn ?_
 refine ZO ?_
 refine As (As ?_)
 refine Bg h (fun v4=>[(29,(Am v4))]) (fun v4=>[]) ?_ ?_
 intro _ h _ _ _
 exact Y
 rintro v4 _ h
 refine Ai h (fun _ h=>?_) (fun _ h=>?_)
 exact Y
 refine Z ?_
 refine A2 h (fun v8=>[(4,(.val (.pointer none))),(5,(Am false)),(33,(O .i64 v8))]) (fun v8=>[]) ?_
 rintro v8 _ _ _ h _ _
 refine Z ?_
 refine Ai h (fun _ h=>?_) (fun _ h=>?_)
 exact Y
 replace h:=B9 h
 refine Z ?_
 refine A2 h (fun (v18,o19)=>[(4,(.val (.pointer none))),(5,(Am false)),(50,(O .i64 v18))]) (fun (v18,o19)=>[(1,.map (Bh (O .i64) o19))]) ?_
 rintro ⟨v18,o19⟩ _ _ _ h _ _
 refine Z ?_
 refine Ai h (fun _ h=>?_) (fun _ h=>?_)
 refine Z ?_
 refine Bm h (fun _ _ _ _ h=>?_)
 refine Z ?_
 refine A1 [3,1,2] h (fun _ h=>?_)
 exact Y
 exact Y
theorem Ach {a0:Ck} {a1:List (List A6)} {r:Bool} (h:Mh a0 a1=some (.inr r)):Bq Tryz.prog 10 [G8 a0,(Av 1 (Av 5 Cq)) a1] [] (.tup [.val (.pointer none),Am r]) []:=by
 refine aw {T:=Ci,an:=(fun _=>.ask),nl:=(fun s=>bif Nat.beq s 18 then [(1,7),(2,3),(3,8)] else [])} true Tryz.func10 ?_
 refine ZS ?_
 refine Bn ?_
 refine ZO ?_
 refine As (As ?_)
 refine Bg h (fun v4=>[(29,(Am v4))]) (fun v4=>[]) ?_ ?_
 intro _ h _ _ _
 exact Y
 rintro v4 _ h
 refine Ai h (fun _ h=>?_) (fun _ h=>?_)
 exact Y
 refine Z ?_
 refine A2 h (fun v8=>[(4,(.val (.pointer none))),(5,(Am false)),(33,(O .i64 v8))]) (fun v8=>[]) ?_
 rintro v8 _ _ _ h _ _
 refine Z ?_
 refine Ai h (fun _ h=>?_) (fun _ h=>?_)
 exact Y
 replace h:=B9 h
 refine Z ?_
 refine A2 h (fun (v18,o19)=>[(4,(.val (.pointer none))),(5,(Am false)),(50,(O .i64 v18))]) (fun (v18,o19)=>[(1,.map (Bh (O .i64) o19))]) ?_
 rintro ⟨v18,o19⟩ _ _ _ h _ _
 refine Z ?_
 refine Ai h (fun _ h=>?_) (fun _ h=>?_)
 refine Z ?_
 refine Bm h (fun _ _ _ _ h=>?_)
 refine Z ?_
 refine A1 [3,1,2] h (fun _ h=>?_)
 exact Y
 exact Y
instance {a0:Int}:OK (Ag5 a0) fun r=>Aq Tryz.prog 41 [(.val (.pointer none)),(O .i64) a0] (Cv r):=⟨fun {r} h=>by
 refine pw C0 Tryz.func41 ?_
 exact Y⟩
instance {a0:Int}:OK (Ag6 a0) fun r=>Aq Tryz.prog 110 [(.val (.pointer none)),(O .i64) a0] (Am r):=⟨fun {r} h=>by
 refine pw C0 Tryz.func110 ?_
 exact Y⟩
instance {a0:Dd}:OK (Ag7 a0) fun r=>Bq Tryz.prog 109 [Gf a0,(.loc 0 0)] [.cells 36 [(.val (.pointer none))]] (Am r) [.cells 36 [(.val (.pointer none))]]:=⟨fun {r} h=>by
 refine aw C0 true Tryz.func109 ?_
 refine Z ?_
 refine A7 h (fun _ h=>?_)
 refine Z ?_
 refine Er h (fun _ h=>?_) (fun _ h=>?_)
 exact Y
 refine Z ?_
 refine A7 h (fun _ h=>?_)
 refine Z ?_
 refine Z4.mk 3 (by kernel_rfl) ?_
 exact Y⟩
instance {a0:List Dd}:OK (Ag8 a0) fun r=>Bq Tryz.prog 169 [(Av 2 Gf) a0,(.fn 109 [(.loc 0 0)])] [.cells 36 [(.val (.pointer none))]] ((O .i64) r) [.cells 36 [(.val (.pointer none))]]:=⟨fun {r} h=>by
 refine aw C0 true Tryz.func169 ?_
 refine Z ?_
 refine A2 h (fun v3=>[(4,(O .i64 0)),(8,(O .i64 v3))]) (fun v3=>[]) ?_
 rintro v3 _ _ _ h _ _
 refine Z ?_
 refine Ai h (fun _ h=>?_) (fun _ h=>?_)
 refine Z ?_
 refine Bm h (fun _ _ _ _ h=>?_)
 refine Z ?_
 refine A1 [0] h (fun _ h=>?_)
 exact Y
 exact Y⟩
instance {a0:List Dd}:OK (Ag9 a0) fun r=>Bq Tryz.prog 108 [(Av 2 Gf) a0,(.fn 109 [(.loc 0 0)])] [.cells 36 [(.val (.pointer none))]] (Am r) [.cells 36 [(.val (.pointer none))]]:=⟨fun {r} h=>by
 refine aw C0 true Tryz.func108 ?_
 refine Z ?_
 refine A1 [0] h (fun _ h=>?_)
 exact Y⟩
instance {a0:C2}:OK (Aha a0) fun r=>Aq Tryz.prog 60 [(.val (.pointer none)),G9 a0] (Am r):=⟨fun {r} h=>by
 refine pw C0 Tryz.func60 ?_
 refine Z ?_
 refine A1 [0] h (fun _ h=>?_)
 exact Y⟩
instance  : OK (Wr) fun r=>Bq Tryz.prog 112 [] [] (.loc 1 0) [.map (Bh (O .i64) r.1),.cells 227 [(.mp 0),(.arr 2 r.2.length 0 r.2.length)],.rows 51 5 (List.map Cq r.2)]:=⟨fun {r} h=>by
 refine aw C0 true Tryz.func112 ?_
 refine ZS ?_
 refine Bn ?_
 refine ZS ?_
 refine Bn ?_
 refine ZO ?_
 refine C6 [.own 3 1 51 5] ?_
 exact Y⟩
instance {a0:C2} {a1:Int}:OK (W4 a0 a1) fun r=>Aq Tryz.prog 180 [G9 a0,(O .i64) a1] ((Av 3 Dw) r):=⟨fun {r} h=>by
 refine pw {T:=Ci,an:=(fun _=>.ask),nl:=(fun s=>bif Nat.beq s 4 then [(0,3)] else [])} Tryz.func180 ?_
 exact Y⟩
instance {a0:Int}:OK (Od a0) fun r=>Aq Tryz.prog 89 [(O .i64) a0] ((Av 1 (O .u32)) r):=⟨fun {r} h=>by
 refine pw {T:=Ci,an:=(fun _=>.ask),nl:=(fun s=>bif Nat.beq s 2 then [(0,1)] else [])} Tryz.func89 ?_
 exact Y⟩
instance {a0:Int}:OK (Gb a0) fun r=>Aq Tryz.prog 46 [(O .i64) a0] (Cb r):=⟨fun {r} h=>by
 refine pw C0 Tryz.func46 ?_
 exact Y⟩
instance {a0 a1:List Int}:OK (J7 a0 a1) fun r=>Aq Tryz.prog 88 [(Av 1 (O .u32)) a0,(Av 1 (O .u32)) a1] ((Av 1 (O .u32)) r):=⟨fun {r} h=>by
 refine pw {T:=Ci,an:=(fun _=>.ask),nl:=(fun s=>bif Nat.beq s 4 then [(0,1)] else [])} Tryz.func88 ?_
 refine ZS ?_
 refine Bn ?_
 refine ZO ?_
 refine As (As ?_)
 refine Bg h (fun v1=>[(17,(Am v1))]) (fun v1=>[]) ?_ ?_
 intro _ h _ _ _
 exact Y
 rintro v1 _ h
 refine Ai h (fun _ h=>?_) (fun _ h=>?_)
 exact Y
 refine Z ?_
 refine Gg h (fun o2 h=>?_)
 refine Z ?_
 refine En h (fun (v23,o24)=>[(26,(O .i64 v23))]) (fun (v23,o24)=>[(0,.rows 119 1 (List.map (O .u32) o24))]) (fun (v23,o24)=>o2.length=o24.length) ?_
 rintro ⟨v23,o24⟩ _ _ _ h _ _ q24
 refine Z ?_
 refine Ai h (fun _ h=>?_) (fun _ h=>?_)
 refine Z ?_
 refine En h (fun (v31,v32,o33)=>[(7,(O .u64 v31)),(31,(O .i64 v32))]) (fun (v31,v32,o33)=>[(0,.rows 119 1 (List.map (O .u32) o33))]) (fun (v31,v32,o33)=>o2.length=o33.length) ?_
 rintro ⟨v31,v32,o33⟩ _ _ _ h _ _ q33
 exact Y
 replace h:=B9 h
 refine Ff (Fd rfl (As ?_))
 refine C6 [.fz 5] ?_
 exact Y⟩
instance {a0 a1:A4}:OK (Ls a0 a1) fun r=>Aq Tryz.prog 232 [Cb a0,Cb a1] (Cb r):=⟨fun {r} h=>by
 refine pw C0 Tryz.func232 ?_
 exact Y⟩
instance {a0 a1:Int}:OK (Xg a0 a1) fun r=>Aq Tryz.prog 329 [(O .i64) a0,(O .i64) a1] (Cb r):=⟨fun {r} h=>by
 refine pw C0 Tryz.func329 ?_
 exact Y⟩
instance {a0 a1:Int}:OK (Abw a0 a1) fun r=>Aq Tryz.prog 283 [(O .i64) a0,(O .i64) a1] (Cb r):=⟨fun {r} h=>by
 refine pw C0 Tryz.func283 ?_
 refine Z ?_
 refine A7 h (fun _ h=>?_)
 refine Z ?_
 refine A2 h (fun (v7,v8,v9,v10)=>[(9,(O .i64 v7))]) (fun (v7,v8,v9,v10)=>[(1,.cells 45 [(Am v8),(.sl 1 (List.map (O .u32) v9)),(.sl 1 (List.map (O .u32) v10))])]) ?_
 rintro ⟨v7,v8,v9,v10⟩ _ _ _ h _ _
 exact Y⟩
instance {a0 a1:Int}:OK (Abn a0 a1) fun r=>Aq Tryz.prog 235 [(O .i64) a0,(O .i64) a1] (.tup [Cb r.1,Am r.2]):=⟨fun {r} h=>by
 refine pw C0 Tryz.func235 ?_
 refine ZS ?_
 refine Bn ?_
 refine ZO ?_
 refine As (As ?_)
 refine Bg h (fun v2=>[(11,(Am v2))]) (fun v2=>[]) ?_ ?_
 intro _ h _ _ _
 exact Y
 rintro v2 _ h
 exact Y⟩
instance {a0:List A4}:OK (Ty a0) fun r=>Aq Tryz.prog 284 [(Av 3 Cb) a0] ((Av 3 Cb) r):=⟨fun {r} h=>by
 refine pw {T:=Ci,an:=(fun _=>.ask),nl:=(fun s=>bif Nat.beq s 2 then [(0,3)] else [])} Tryz.func284 ?_
 refine Z ?_
 refine A2 h (fun v3=>[(3,(O .i64 v3))]) (fun v3=>[]) ?_
 rintro v3 _ _ _ h _ _
 refine Z ?_
 refine Er h (fun _ h=>?_) (fun _ h=>?_)
 refine Z ?_
 refine Bm h (fun _ _ _ _ h=>?_)
 refine Z ?_
 refine A7 h (fun _ h=>?_)
 refine Z ?_
 refine Ai h (fun _ h=>?_) (fun _ h=>?_)
 exact Y
 replace h:=B9 h
 refine Z ?_
 refine P8 (f:=Cb) (z:=((A4.mk false [] []):A4)) (by repeat (first | exact Ev.nil | apply Ev.sl | apply Ev.same)) h (fun o7 h=>?_)
 refine Z ?_
 refine En h (fun (v12,o13)=>[(25,(O .i64 v12))]) (fun (v12,o13)=>[(0,.rows 45 3 (List.map Cb o13))]) (fun (v12,o13)=>o7.length=o13.length) ?_
 rintro ⟨v12,o13⟩ _ _ _ h _ _ q13
 exact Y
 replace h:=B9 h
 refine Z ?_
 refine P8 (f:=Cb) (z:=((A4.mk false [] []):A4)) (by repeat (first | exact Ev.nil | apply Ev.sl | apply Ev.same)) h (fun o7 h=>?_)
 refine Z ?_
 refine En h (fun (v12,o13)=>[(25,(O .i64 v12))]) (fun (v12,o13)=>[(0,.rows 45 3 (List.map Cb o13))]) (fun (v12,o13)=>o7.length=o13.length) ?_
 rintro ⟨v12,o13⟩ _ _ _ h _ _ q13
 exact Y⟩
instance {a0 a1:List Int}:OK (Ab0 a0 a1) fun r=>Aq Tryz.prog 288 [(Av 1 (O .u32)) a0,(Av 1 (O .u32)) a1] ((Av 1 (O .u32)) r):=⟨fun {r} h=>by
 refine pw {T:=Ci,an:=(fun _=>.ask),nl:=(fun s=>bif Nat.beq s 4 then [(0,1)] else [])} Tryz.func288 ?_
 refine ZS ?_
 refine Bn ?_
 refine ZS ?_
 refine Bn ?_
 refine ZO ?_
 refine Bg h (fun (v1,v2)=>[(0,(.sl 1 (List.map (O .u32) v1))),(1,(.sl 1 (List.map (O .u32) v2)))]) (fun (v1,v2)=>[]) ?_ ?_
 intro _ h _ _ _
 exact Y
 rintro ⟨v1,v2⟩ _ h
 refine Z ?_
 refine Gg h (fun _ h=>?_)
 refine Z ?_
 refine A2 h (fun (v20,v21,o22)=>[(5,(.arr 0 o22.length 0 o22.length)),(6,(O .u32 v20)),(22,(O .i64 v21))]) (fun (v20,v21,o22)=>[(0,.rows 119 1 (List.map (O .u32) o22))]) ?_
 rintro ⟨v20,v21,o22⟩ _ _ _ h _ _
 refine Z ?_
 refine Ai h (fun _ h=>?_) (fun _ h=>?_)
 refine Z ?_
 refine Bm h (fun _ _ _ _ h=>?_)
 refine ZS ?_
 refine Bn ?_
 refine ZO ?_
 refine Bg h (fun v25=>[(8,(O .u32 v25))]) (fun v25=>[]) ?_ ?_
 intro _ h _ _ _
 exact Y
 rintro v25 _ h
 exact Y
 exact Y⟩
instance {a0 a1:List Int}:OK (Xf a0 a1) fun r=>Aq Tryz.prog 289 [(Av 1 (O .u32)) a0,(Av 1 (O .u32)) a1] ((Av 1 (O .u32)) r):=⟨fun {r} h=>by
 refine pw {T:=Ci,an:=(fun _=>.ask),nl:=(fun s=>bif Nat.beq s 4 then [(0,1)] else [])} Tryz.func289 ?_
 refine Z ?_
 refine Gg h (fun _ h=>?_)
 refine Z ?_
 refine A2 h (fun (v8,v9,o10)=>[(5,(.arr 0 o10.length 0 o10.length)),(6,(O .i64 v8)),(14,(O .i64 v9))]) (fun (v8,v9,o10)=>[(0,.rows 119 1 (List.map (O .u32) o10))]) ?_
 rintro ⟨v8,v9,o10⟩ _ _ _ h _ _
 refine Z ?_
 refine Ai h (fun _ h=>?_) (fun _ h=>?_)
 refine Z ?_
 refine Bm h (fun _ _ _ _ h=>?_)
 refine ZS ?_
 refine Bn ?_
 refine ZO ?_
 refine Bg h (fun v13=>[(8,(O .i64 v13))]) (fun v13=>[]) ?_ ?_
 intro _ h _ _ _
 exact Y
 rintro v13 _ h
 exact Y
 replace h:=B9 h
 refine Ff (Fd rfl (As ?_))
 refine C6 [.fz 5] ?_
 exact Y⟩
instance {a0 a1:Fv}:OK (Abp a0 a1) fun r=>Aq Tryz.prog 237 [M2 a0,M2 a1] (M2 r):=⟨fun {r} h=>by
 refine pw C0 Tryz.func237 ?_
 exact Y⟩
instance {a0 a1:A4}:OK (W5 a0 a1) fun r=>Aq Tryz.prog 182 [Cb a0,Cb a1] (Cb r):=⟨fun {r} h=>by
 refine pw C0 Tryz.func182 ?_
 exact Y⟩
instance {a0 a1 b0:A4}:OK (Abz a0 a1 b0) fun r=>Bq Tryz.prog 287 [Cb a0,Cb a1,(.loc 0 0)] [.cells 45 [(Am b0.Neg),(.sl 1 (List.map (O .u32) b0.Num)),(.sl 1 (List.map (O .u32) b0.Den))]] (Cb r) [.cells 45 [(Am b0.Neg),(.sl 1 (List.map (O .u32) b0.Num)),(.sl 1 (List.map (O .u32) b0.Den))]]:=⟨fun {r} h=>by
 refine aw C0 true Tryz.func287 ?_
 exact Y⟩
instance {a0 a1:List A4} {b0:A4}:OK (Abx a0 a1 b0) fun r=>Bq Tryz.prog 285 [(Av 3 Cb) a0,(Av 3 Cb) a1,(.fn 287 [(.loc 0 0)])] [.cells 45 [(Am b0.Neg),(.sl 1 (List.map (O .u32) b0.Num)),(.sl 1 (List.map (O .u32) b0.Den))]] ((Av 3 Cb) r) [.cells 45 [(Am b0.Neg),(.sl 1 (List.map (O .u32) b0.Num)),(.sl 1 (List.map (O .u32) b0.Den))]]:=⟨fun {r} h=>by
 refine aw {T:=Ci,an:=(fun _=>.ask),nl:=(fun s=>bif Nat.beq s 6 then [(0,3)] else [])} true Tryz.func285 ?_
 refine Z ?_
 refine P8 (f:=Cb) (z:=((A4.mk false [] []):A4)) (by repeat (first | exact Ev.nil | apply Ev.sl | apply Ev.same)) h (fun o1 h=>?_)
 refine Z ?_
 refine En h (fun (v15,o16)=>[(19,(O .i64 v15))]) (fun (v15,o16)=>[(1,.rows 45 3 (List.map Cb o16))]) (fun (v15,o16)=>o1.length=o16.length) ?_
 rintro ⟨v15,o16⟩ _ _ _ h _ _ q16
 refine Z ?_
 refine Ai h (fun _ h=>?_) (fun _ h=>?_)
 refine ZS ?_
 refine Bn ?_
 refine ZS ?_
 refine Bn ?_
 refine ZO ?_
 refine As (As ?_)
 refine C6 [.nil 9 1 1,.nil 9 2 1,.nil 10 1 1,.nil 10 2 1] ?_
 refine ZS ?_
 refine Bn ?_
 refine ZO ?_
 refine Bg h (fun (v20,v21,v22)=>[]) (fun (v20,v21,v22)=>[(2,.cells 45 [(Am v20),(.sl 1 (List.map (O .u32) v21)),(.sl 1 (List.map (O .u32) v22))])]) ?_ ?_
 intro _ h _ _ _
 exact Y
 rintro ⟨v20,v21,v22⟩ _ h
 refine ZS ?_
 refine Bn ?_
 refine ZO ?_
 refine Bg h (fun (v24,v25,v26)=>[]) (fun (v24,v25,v26)=>[(3,.cells 45 [(Am v24),(.sl 1 (List.map (O .u32) v25)),(.sl 1 (List.map (O .u32) v26))])]) ?_ ?_
 intro _ h _ _ _
 exact Y
 rintro ⟨v24,v25,v26⟩ _ h
 refine Z ?_
 refine A1 [0] h (fun _ h=>?_)
 exact Y
 exact Y⟩
instance {a0 a1:Int}:OK (Aca a0 a1) fun r=>Aq Tryz.prog 283 [(O .i64) a0,(O .i64) a1] (Cb r):=⟨fun {r} h=>by
 refine pw C0 Tryz.func283 ?_
 refine Z ?_
 refine A7 h (fun _ h=>?_)
 refine Z ?_
 refine A2 h (fun (v7,v8,v9,v10)=>[(9,(O .i64 v7))]) (fun (v7,v8,v9,v10)=>[(1,.cells 45 [(Am v8),(.sl 1 (List.map (O .u32) v9)),(.sl 1 (List.map (O .u32) v10))])]) ?_
 rintro ⟨v7,v8,v9,v10⟩ _ _ _ h _ _
 exact Y⟩
instance {a0:Int}:OK (Ab5 a0) fun r=>Bq Tryz.prog 330 [(O .i64) a0] [] (.arr 0 r.length 0 r.length) [.rows 45 3 (List.map Cb r)]:=⟨fun {r} h=>by
 refine aw {T:=Ci,an:=(fun _=>.ask),nl:=(fun s=>bif Nat.beq s 2 then [(0,3)] else [])} false Tryz.func330 ?_
 refine Z ?_
 refine P8 (f:=Cb) (z:=((A4.mk false [] []):A4)) (by repeat (first | exact Ev.nil | apply Ev.sl | apply Ev.same)) h (fun o1 h=>?_)
 refine Z ?_
 refine En h (fun (v5,o6)=>[(9,(O .i64 v5))]) (fun (v5,o6)=>[(0,.rows 45 3 (List.map Cb o6))]) (fun (v5,o6)=>o1.length=o6.length) ?_
 rintro ⟨v5,o6⟩ _ _ _ h _ _ q6
 refine Z ?_
 refine Ai h (fun _ h=>?_) (fun _ h=>?_)
 exact Y
 replace h:=B9 h
 refine Z ?_
 cases h
 exact ⟨congrArg (fun q_=>AV.arr 0 q_ 0 q_) q6,rfl,trivial⟩⟩
instance {a0 a1:Int}:OK (Aby a0 a1) fun r=>Aq Tryz.prog 286 [(O .i64) a0,(O .i64) a1] ((Av 3 Cb) r):=⟨fun {r} h=>by
 refine pw {T:=Ci,an:=(fun _=>.ask),nl:=(fun s=>bif Nat.beq s 4 then [(0,3)] else [])} Tryz.func286 ?_
 refine Z ?_
 refine A1 [] h (fun v1 h=>?_)
 refine Z ?_
 refine En h (fun (v7,o8)=>[(6,(O .i64 v7))]) (fun (v7,o8)=>[(0,.rows 45 3 (List.map Cb o8))]) (fun (v7,o8)=>v1.length=o8.length) ?_
 rintro ⟨v7,o8⟩ _ _ _ h _ _ q8
 exact Y⟩
instance {a0 a1:List A4}:OK (Abo a0 a1) fun r=>Aq Tryz.prog 236 [(Av 3 Cb) a0,(Av 3 Cb) a1] (.tup [(Av 3 Cb) r.1,Am r.2]):=⟨fun {r} h=>by
 refine pw {T:=Ci,an:=(fun _=>.ask),nl:=(fun s=>bif Nat.beq s 6 then [(0,3)] else bif Nat.beq s 4 then [(0,3)] else [])} Tryz.func236 ?_
 refine ZS ?_
 refine Bn ?_
 refine ZO ?_
 refine As (As ?_)
 refine Bg h (fun v1=>[(19,(Am v1))]) (fun v1=>[]) ?_ ?_
 intro _ h _ _ _
 exact Y
 rintro v1 _ h
 refine Ai h (fun _ h=>?_) (fun _ h=>?_)
 exact Y
 refine Z ?_
 refine A7 h (fun _ h=>?_)
 refine Z ?_
 refine A7 h (fun _ h=>?_)
 refine ZO ?_
 refine As (As ?_)
 refine Bg h (fun v4=>[(31,(Am v4))]) (fun v4=>[]) ?_ ?_
 intro _ h _ _ _
 exact Y
 rintro v4 _ h
 refine Ai h (fun _ h=>?_) (fun _ h=>?_)
 exact Y
 refine Z ?_
 refine Ai h (fun _ h=>?_) (fun _ h=>?_)
 exact Y
 refine Z ?_
 refine A2 h (fun (v25,v26)=>[(6,(.sl 3 (List.map Cb v25))),(40,(O .i64 v26))]) (fun (v25,v26)=>[]) ?_
 rintro ⟨v25,v26⟩ _ _ _ h _ _
 refine Z ?_
 refine Ai h (fun _ h=>?_) (fun _ h=>?_)
 refine Z ?_
 refine Bm h (fun _ _ _ _ h=>?_)
 refine Z ?_
 refine A2 h (fun (v36,v37)=>[(6,(.sl 3 (List.map Cb v36))),(47,(O .i64 v37))]) (fun (v36,v37)=>[]) ?_
 rintro ⟨v36,v37⟩ _ _ _ h _ _
 refine Z ?_
 refine Ai h (fun _ h=>?_) (fun _ h=>?_)
 refine Z ?_
 refine Bm h (fun _ _ _ _ h=>?_)
 refine Z ?_
 refine A7 h (fun _ h=>?_)
 refine Z ?_
 refine A7 h (fun _ h=>?_)
 refine Z ?_
 refine Ai h (fun _ h=>?_) (fun _ h=>?_)
 exact Y
 refine Z ?_
 refine A7 h (fun _ h=>?_)
 refine Z ?_
 refine A1 [2] h (fun _ h=>?_)
 exact Y
 exact Y
 exact Y⟩
theorem Arq {a0:List B1} {r:(List A4)} (h:Ahb a0=some r):Aq Tryz.prog 179 [(Av 3 Dw) a0] ((Av 3 Cb) r):=by
 refine pw {T:=Ci,an:=(fun s=>bif Nat.beq s 10 then .own else .ask),nl:=(fun s=>bif Nat.beq s 2 then [(0,3)] else [])} Tryz.func179 ?_
 refine Z ?_
 refine A7 h (fun _ h=>?_)
 refine Z ?_
 refine En h (fun (v14,o15)=>[(3,(.arr 0 1 0 1)),(13,(O .i64 v14))]) (fun (v14,o15)=>[(0,.rows 45 3 (List.map Cb o15))]) (fun (v14,o15)=>1=o15.length) ?_
 rintro ⟨v14,o15⟩ _ _ _ h _ _ q15
 refine Z ?_
 refine Ai h (fun _ h=>?_) (fun _ h=>?_)
 refine Z ?_
 refine Bm h (fun _ _ _ _ h=>?_)
 refine Z ?_
 refine Ai h (fun _ h=>?_) (fun _ h=>?_)
 exact Y
 refine Z ?_
 refine P8 (f:=Cb) (z:=((A4.mk false [] []):A4)) (by repeat (first | exact Ev.nil | apply Ev.sl | apply Ev.same)) h (fun o23 h=>?_)
 exact Y
 exact Y
theorem Arr {a0:List B1} {r:(List A4)} (h:Ahc a0=some r):Aq Tryz.prog 179 [(Av 3 Dw) a0] ((Av 3 Cb) r):=by
 refine pw {T:=Ci,an:=(fun _=>.ask),nl:=(fun s=>bif Nat.beq s 2 then [(0,3)] else [])} Tryz.func179 ?_
 refine Z ?_
 refine A7 h (fun _ h=>?_)
 refine Z ?_
 refine A2 h (fun (v9,v10)=>[(3,(.sl 3 (List.map Cb v9))),(13,(O .i64 v10))]) (fun (v9,v10)=>[]) ?_
 rintro ⟨v9,v10⟩ _ _ _ h _ _
 refine Z ?_
 refine Ai h (fun _ h=>?_) (fun _ h=>?_)
 refine Z ?_
 refine Bm h (fun _ v11 _ _ h=>?_)
 refine Z ?_
 refine Ai h (fun _ h=>?_) (fun _ h=>?_)
 exact Y
 refine Z ?_
 refine P8 (f:=Cb) (z:=((A4.mk false [] []):A4)) (by repeat (first | exact Ev.nil | apply Ev.sl | apply Ev.same)) h (fun o13 h=>?_)
 refine Z ?_
 refine A7 h (fun v15 h=>?_)
 refine Z ?_
 refine H8 h (fun _ _ hiv16 _ h=>?_)
 refine Z ?_
 refine Mg (f:=Cb) (x:=v15) (j:=v11.Deg) rfl rfl (Nat.zero_add _) hiv16 ?_
 refine ZO ?_
 refine C6 [.fz 8] ?_
 exact Y
 exact Y
instance {a0:List B1}:OK (Tk a0) fun r=>Aq Tryz.prog 179 [(Av 3 Dw) a0] ((Av 3 Cb) r):=⟨fun {r} h=>by
 unfold Tk at h
 cases hv:Ahd a0 with
 | true=>rw [hv] at h; exact Arq h
 | false=>rw [hv] at h; exact Arr h⟩
instance {a0:Int}:OK (Ab4 a0) fun r=>Bq Tryz.prog 327 [(.val (.slice none 0 0)),(O .i64) a0] [] (.arr 0 r.length 0 r.length) [.rows 75 3 (List.map Dw r)]:=⟨fun {r} h=>by
 exact Arh h⟩
instance {a0:List (List B1)}:OK (Abv a0) fun r=>Aq Tryz.prog 280 [(Av 1 (Av 3 Dw)) a0] ((Av 3 Dw) r):=⟨fun {r} h=>by
 refine pw {T:=Ci,an:=(fun _=>.ask),nl:=(fun s=>bif Nat.beq s 2 then [(0,3)] else [])} Tryz.func280 ?_
 refine Z ?_
 refine A2 h (fun (v2,v3)=>[(3,(O .i64 v2)),(11,(O .i64 v3))]) (fun (v2,v3)=>[]) ?_
 rintro ⟨v2,v3⟩ _ _ _ h _ _
 refine Z ?_
 refine Ai h (fun _ h=>?_) (fun _ h=>?_)
 exact Y
 replace h:=B9 h
 refine Z ?_
 refine A1 [] h (fun _ h=>?_)
 refine Z ?_
 refine A2 h (fun (v14,o15)=>[(6,(.arr 0 o15.length 0 o15.length)),(27,(O .i64 v14))]) (fun (v14,o15)=>[(0,.rows 75 3 (List.map Dw o15))]) ?_
 rintro ⟨v14,o15⟩ _ _ _ h _ _
 exact Y⟩
instance {a0:Int}:OK (Ab3 a0) fun r=>Bq Tryz.prog 326 [(.val (.slice none 0 0)),(O .i64) a0] [] (.arr 0 r.length 0 r.length) [.rows 65 3 (List.map Ei r)]:=⟨fun {r} h=>by
 exact Are h⟩
instance {a0:List (List Cd)}:OK (Abu a0) fun r=>Aq Tryz.prog 279 [(Av 1 (Av 3 Ei)) a0] ((Av 3 Ei) r):=⟨fun {r} h=>by
 refine pw {T:=Ci,an:=(fun _=>.ask),nl:=(fun s=>bif Nat.beq s 2 then [(0,3)] else [])} Tryz.func279 ?_
 refine Z ?_
 refine A2 h (fun (v2,v3)=>[(3,(O .i64 v2)),(11,(O .i64 v3))]) (fun (v2,v3)=>[]) ?_
 rintro ⟨v2,v3⟩ _ _ _ h _ _
 refine Z ?_
 refine Ai h (fun _ h=>?_) (fun _ h=>?_)
 exact Y
 replace h:=B9 h
 refine Z ?_
 refine A1 [] h (fun _ h=>?_)
 refine Z ?_
 refine A2 h (fun (v14,o15)=>[(6,(.arr 0 o15.length 0 o15.length)),(27,(O .i64 v14))]) (fun (v14,o15)=>[(0,.rows 65 3 (List.map Ei o15))]) ?_
 rintro ⟨v14,o15⟩ _ _ _ h _ _
 exact Y⟩
instance {a0 a1:B8}:OK (Abl a0 a1) fun r=>Aq Tryz.prog 233 [F0 a0,F0 a1] (F0 r):=⟨fun {r} h=>by
 refine pw C0 Tryz.func233 ?_
 exact Y⟩
instance {a0:A6} {a1:A4} {a2:B8}:OK (W1 a0 a1 a2) fun r=>Aq Tryz.prog 174 [Cq a0,Cb a1,F0 a2] (Cq r):=⟨fun {r} h=>by
 refine pw C0 Tryz.func174 ?_
 exact Y⟩
instance {a0:List B1}:OK (W2 a0) fun r=>Bq Tryz.prog 176 [(Av 3 Dw) a0] [] (.arr 1 r.2.length 0 r.2.length) [.rows 75 3 (List.map Dw r.1),.rows 75 3 (List.map Dw r.2)]:=⟨fun {r} h=>by
 exact Arb h⟩
instance {a0:List Cd}:OK (Wz a0) fun r=>Bq Tryz.prog 170 [(Av 3 Ei) a0] [] (.arr 1 r.2.length 0 r.2.length) [.rows 65 3 (List.map Ei r.1),.rows 65 3 (List.map Ei r.2)]:=⟨fun {r} h=>by
 exact Ara h⟩
instance {a0 a1:B1}:OK (Abe a0 a1) fun r=>Aq Tryz.prog 178 [Dw a0,Dw a1] ((O .i64) r):=⟨fun {r} h=>by
 refine pw C0 Tryz.func178 ?_
 exact Y⟩
instance {a0 a1:Int} {b0:List B1}:OK (Xe a0 a1 b0) fun r=>Bq Tryz.prog 281 [(.arr 0 b0.length 0 b0.length),(O .i64) a0,(O .i64) a1,(.fn 178 [])] [.rows 75 3 (List.map Dw b0)] (.tup []) [.rows 75 3 (List.map Dw r)]:=⟨fun {r} h=>by
 refine aw C0 true Tryz.func281 ?_
 refine Z ?_
 refine En h (fun (v21,o22)=>[(8,(O .i64 v21))]) (fun (v21,o22)=>[(0,.rows 75 3 (List.map Dw o22))]) (fun (v21,o22)=>b0.length=o22.length) ?_
 rintro ⟨v21,o22⟩ _ _ _ h _ _ q22
 refine Z ?_
 refine Ai h (fun _ h=>?_) (fun _ h=>?_)
 refine Z ?_
 refine En h (fun (v31,o32)=>[(9,(O .i64 v31))]) (fun (v31,o32)=>[(0,.rows 75 3 (List.map Dw o32))]) (fun (v31,o32)=>b0.length=o32.length) ?_
 rintro ⟨v31,o32⟩ _ _ _ h _ _ q32
 refine As (As ?_)
 refine Bg h (fun v36=>[(34,(Am v36))]) (fun v36=>[]) ?_ ?_
 intro _ h _ _ _
 exact Y
 rintro v36 _ h
 exact Y
 exact Y⟩
instance {a0:Int} {b0:List B1}:OK (Abm a0 b0) fun r=>Bq Tryz.prog 234 [(.arr 0 b0.length 0 b0.length),(O .i64) a0,(.fn 178 [])] [.rows 75 3 (List.map Dw b0)] (.tup []) [.rows 75 3 (List.map Dw r)]:=⟨fun {r} h=>by
 refine aw C0 true Tryz.func234 ?_
 refine Z ?_
 refine En h (fun (v3,v4,o5)=>[(7,(O .i64 v3)),(8,(O .i64 v4))]) (fun (v3,v4,o5)=>[(0,.rows 75 3 (List.map Dw o5))]) (fun (v3,v4,o5)=>b0.length=o5.length) ?_
 rintro ⟨v3,v4,o5⟩ _ _ _ h _ hn1 q5
 refine Z ?_
 refine Ai h (fun _ h=>?_) (fun _ h=>?_)
 refine Z ?_
 refine C5 h (fun v6 hcv6 h=>?_)
 have okv6:=(OK.ok hcv6 :)
 rw [<-q5] at okv6
 refine Fc.act [0] _ _ _ _ okv6 rfl rfl ⟨rfl,trivial⟩ ?_
 refine C5 h (fun v7 hgv7 h=>?_)
 refine Z ?_
 exact hn1 _ _ _ _ (Option.some.inj h) ⟨rfl,rfl,trivial⟩ ⟨⟨rfl,rfl⟩,trivial⟩ (H4 hgv7)
 replace h:=B9 h
 refine Z ?_
 refine C5 h (fun v11 hcv11 h=>?_)
 have okv11:=(OK.ok hcv11 :)
 rw [<-q5] at okv11
 refine Fc.act [0] _ _ _ _ okv11 rfl rfl ⟨rfl,trivial⟩ ?_
 refine C5 h (fun v12 hgv12 h=>?_)
 refine Z ?_
 refine A2 h (fun (v13,v14,v15)=>[(6,(O .i64 v13)),(7,(O .i64 v14)),(8,(O .i64 v15))]) (fun (v13,v14,v15)=>[]) ?_
 rintro ⟨v13,v14,v15⟩ _ _ _ h _ _
 refine Z ?_
 refine Ai h (fun _ h=>?_) (fun _ h=>?_)
 refine Z ?_
 refine A2 h (fun _=>[(7,(O .i64 0)),(8,(O .i64 (Ac (2*v13))))]) (fun _=>[]) ?_
 rintro _ _ _ _ h _ _
 exact Y
 exact Y⟩
instance {b0:List B1}:OK (W3 b0) fun r=>Bq Tryz.prog 177 [(.arr 0 b0.length 0 b0.length),(.fn 178 [])] [.rows 75 3 (List.map Dw b0)] (.tup []) [.rows 75 3 (List.map Dw r)]:=⟨fun {r} h=>by
 refine aw C0 true Tryz.func177 ?_
 refine Z ?_
 refine A1 [0] h (fun _ h=>?_)
 refine C5 h (fun v2 hgv2 h=>?_)
 exact Y⟩
instance {a0 a1:Cd}:OK (Abd a0 a1) fun r=>Aq Tryz.prog 172 [Ei a0,Ei a1] ((O .i64) r):=⟨fun {r} h=>by
 refine pw C0 Tryz.func172 ?_
 exact Y⟩
instance {a0 a1:Int} {b0:List Cd}:OK (Xd a0 a1 b0) fun r=>Bq Tryz.prog 270 [(.arr 0 b0.length 0 b0.length),(O .i64) a0,(O .i64) a1,(.fn 172 [])] [.rows 65 3 (List.map Ei b0)] (.tup []) [.rows 65 3 (List.map Ei r)]:=⟨fun {r} h=>by
 refine aw C0 true Tryz.func270 ?_
 refine Z ?_
 refine En h (fun (v21,o22)=>[(8,(O .i64 v21))]) (fun (v21,o22)=>[(0,.rows 65 3 (List.map Ei o22))]) (fun (v21,o22)=>b0.length=o22.length) ?_
 rintro ⟨v21,o22⟩ _ _ _ h _ _ q22
 refine Z ?_
 refine Ai h (fun _ h=>?_) (fun _ h=>?_)
 refine Z ?_
 refine En h (fun (v31,o32)=>[(9,(O .i64 v31))]) (fun (v31,o32)=>[(0,.rows 65 3 (List.map Ei o32))]) (fun (v31,o32)=>b0.length=o32.length) ?_
 rintro ⟨v31,o32⟩ _ _ _ h _ _ q32
 refine As (As ?_)
 refine Bg h (fun v36=>[(34,(Am v36))]) (fun v36=>[]) ?_ ?_
 intro _ h _ _ _
 exact Y
 rintro v36 _ h
 exact Y
 exact Y⟩
instance {a0:Int} {b0:List Cd}:OK (Abk a0 b0) fun r=>Bq Tryz.prog 230 [(.arr 0 b0.length 0 b0.length),(O .i64) a0,(.fn 172 [])] [.rows 65 3 (List.map Ei b0)] (.tup []) [.rows 65 3 (List.map Ei r)]:=⟨fun {r} h=>by
 refine aw C0 true Tryz.func230 ?_
 refine Z ?_
 refine En h (fun (v3,v4,o5)=>[(7,(O .i64 v3)),(8,(O .i64 v4))]) (fun (v3,v4,o5)=>[(0,.rows 65 3 (List.map Ei o5))]) (fun (v3,v4,o5)=>b0.length=o5.length) ?_
 rintro ⟨v3,v4,o5⟩ _ _ _ h _ hn1 q5
 refine Z ?_
 refine Ai h (fun _ h=>?_) (fun _ h=>?_)
 refine Z ?_
 refine C5 h (fun v6 hcv6 h=>?_)
 have okv6:=(OK.ok hcv6 :)
 rw [<-q5] at okv6
 refine Fc.act [0] _ _ _ _ okv6 rfl rfl ⟨rfl,trivial⟩ ?_
 refine C5 h (fun v7 hgv7 h=>?_)
 refine Z ?_
 exact hn1 _ _ _ _ (Option.some.inj h) ⟨rfl,rfl,trivial⟩ ⟨⟨rfl,rfl⟩,trivial⟩ (H4 hgv7)
 replace h:=B9 h
 refine Z ?_
 refine C5 h (fun v11 hcv11 h=>?_)
 have okv11:=(OK.ok hcv11 :)
 rw [<-q5] at okv11
 refine Fc.act [0] _ _ _ _ okv11 rfl rfl ⟨rfl,trivial⟩ ?_
 refine C5 h (fun v12 hgv12 h=>?_)
 refine Z ?_
 refine A2 h (fun (v13,v14,v15)=>[(6,(O .i64 v13)),(7,(O .i64 v14)),(8,(O .i64 v15))]) (fun (v13,v14,v15)=>[]) ?_
 rintro ⟨v13,v14,v15⟩ _ _ _ h _ _
 refine Z ?_
 refine Ai h (fun _ h=>?_) (fun _ h=>?_)
 refine Z ?_
 refine A2 h (fun _=>[(7,(O .i64 0)),(8,(O .i64 (Ac (2*v13))))]) (fun _=>[]) ?_
 rintro _ _ _ _ h _ _
 exact Y
 exact Y⟩
instance {b0:List Cd}:OK (W0 b0) fun r=>Bq Tryz.prog 171 [(.arr 0 b0.length 0 b0.length),(.fn 172 [])] [.rows 65 3 (List.map Ei b0)] (.tup []) [.rows 65 3 (List.map Ei r)]:=⟨fun {r} h=>by
 refine aw C0 true Tryz.func171 ?_
 refine Z ?_
 refine A1 [0] h (fun _ h=>?_)
 refine C5 h (fun v2 hgv2 h=>?_)
 exact Y⟩
end Go.Ab
namespace Go.Ab
open Go Go.Proofs
set_option maxRecDepth 10000
set_option maxHeartbeats 4000000
set_option linter.unusedVariables false
instance {a0:A4} {a1:B8} {b1:List (ByteArray×Int)} {b2:List (ByteArray×(List Dh))} {b0_0:List Ao} {b0_1:List Af} {b0_2 b0_3:Int} {b0_4:List Af}:OK (Aba a0 a1 b1 b2 b0_0 b0_1 b0_2 b0_3 b0_4) fun r=>Bq Tryz.prog 111 [(.loc 0 0),Cb a0,F0 a1] [.cells 96 [(.sl 3 (List.map Bt b0_0)),(.sl 3 (Bd b0_1)),(O .i64 b0_2),(O .i64 b0_3),(.sl 3 (Bd b0_4)),(.mp 1),(.mp 2)],.map (Bh (O .i64) b1),.map (Bh (Av 5 D8) b2)] (.tup [(Av 5 Cq) r.1,(O .i64) r.2]) [.cells 96 [(.sl 3 (List.map Bt b0_0)),(.sl 3 (Bd b0_1)),(O .i64 b0_2),(O .i64 b0_3),(.sl 3 (Bd b0_4)),(.mp 1),(.mp 2)],.map (Bh (O .i64) b1),.map (Bh (Av 5 D8) b2)]:=⟨fun {r} h=>by
 refine aw {T:=Ci,an:=(fun s=>bif Nat.beq s 22 then .own else .ask),nl:=(fun s=>bif Nat.beq s 155 then [(0,3)] else bif Nat.beq s 31 then [(3,3),(4,3)] else bif Nat.beq s 22 then [(0,5)] else bif Nat.beq s 6 then [(0,5)] else [])} true Tryz.func111 ?_
 refine Z ?_
 refine A7 h (fun _ h=>?_)
 refine Z ?_
 refine Ai h (fun _ h=>?_) (fun _ h=>?_)
 exact Y
 refine Z ?_
 refine A1 [] h (fun v4 h=>?_)
 refine Z ?_
 refine A1 [6] h (fun _ h=>?_)
 refine C5 h (fun v8 hgv8 h=>?_)
 refine Z ?_
 refine A2 h (fun _=>[(6,(.sl 5 (List.map Cq []))),(7,(O .i64 0)),(8,(.sl 5 (List.map Cq [(A6.mk a0 (B8.mk [] []))]))),(9,(.arr 6 v4.2.length 0 v4.2.length))]) (fun _=>[]) ?_
 rintro _ _ _ _ h _ _
 refine Z ?_
 refine Ai h (fun _ h=>?_) (fun _ h=>?_)
 refine Z ?_
 refine H8 h (fun _ _ _ _ h=>?_)
 refine Z ?_
 refine A2 h (fun v11=>[(11,(O .i64 v11))]) (fun v11=>[]) ?_
 rintro v11 _ _ _ h _ _
 refine Z ?_
 refine Er h (fun _ h=>?_) (fun _ h=>?_)
 refine Z ?_
 refine H8 h (fun _ _ _ _ h=>?_)
 refine Z ?_
 refine Ai h (fun _ h=>?_) (fun _ h=>?_)
 exact Y
 replace h:=B9 h
 refine Ff (Fd rfl (As ?_))
 refine C6 [.fz 9] ?_
 exact Y
 replace h:=B9 h
 refine ZO ?_
 refine N3 (Ff (Fd rfl (As ?_)))
 refine C6 [.fz 9] ?_
 exact Y
 replace h:=B9 h
 refine Z ?_
 refine A1 [] h (fun _ h=>?_)
 refine Z ?_
 refine A1 [8] h (fun _ h=>?_)
 refine C5 h (fun v19 hgv19 h=>?_)
 refine ZO ?_
 refine As (G6 ?_)
 refine C6 [.fz 19] ?_
 refine Z ?_
 refine A2 h (fun (v110,v111)=>[(8,(.sl 5 (List.map Cq v110))),(19,(.sl 3 (List.map Dw v111)))]) (fun (v110,v111)=>[]) ?_
 rintro ⟨v110,v111⟩ _ _ _ h _ _
 refine Z ?_
 refine Ai h (fun _ h=>?_) (fun _ h=>?_)
 refine Z ?_
 refine Bm h (fun _ _ _ _ h=>?_)
 refine Z ?_
 refine A2 h (fun v116=>[(21,(O .i64 v116))]) (fun v116=>[]) ?_
 rintro v116 _ _ _ h _ _
 refine Z ?_
 refine Er h (fun _ h=>?_) (fun _ h=>?_)
 refine Z ?_
 refine Bm h (fun _ _ _ _ h=>?_)
 refine Z ?_
 refine A7 h (fun _ h=>?_)
 refine Z ?_
 refine Ai h (fun _ h=>?_) (fun _ h=>?_)
 exact Y
 replace h:=B9 h
 refine Z ?_
 refine O8 h (fun _ h=>?_)
 refine Z ?_
 refine A7 h (fun _ h=>?_)
 refine Z ?_
 refine A2 h (fun (v173,o174)=>[(22,(.arr 10 o174.length 0 o174.length)),(135,(O .i64 v173))]) (fun (v173,o174)=>[(10,.rows 51 5 (List.map Cq o174))]) ?_
 rintro ⟨v173,o174⟩ _ _ _ h _ _
 refine Z ?_
 refine Ai h (fun _ h=>?_) (fun _ h=>?_)
 refine Z ?_
 refine Bm h (fun _ _ _ _ h=>?_)
 refine Z ?_
 refine A7 h (fun _ h=>?_)
 refine Z ?_
 refine Ai h (fun _ h=>?_) (fun _ h=>?_)
 exact Y
 refine Z ?_
 refine A2 h (fun (v190,o191)=>[(22,(.arr 10 o191.length 0 o191.length)),(145,(O .i64 v190))]) (fun (v190,o191)=>[(10,.rows 51 5 (List.map Cq o191))]) ?_
 rintro ⟨v190,o191⟩ _ _ _ h _ _
 exact Y
 replace h:=B9 h
 refine Ff (Fd rfl ?_)
 refine C6 [.fz 22] ?_
 exact Y
 replace h:=B9 h
 refine Z ?_
 refine O8 h (fun _ h=>?_)
 refine Z ?_
 refine A7 h (fun _ h=>?_)
 refine Z ?_
 refine A2 h (fun (v173,o174)=>[(22,(.arr 10 o174.length 0 o174.length)),(135,(O .i64 v173))]) (fun (v173,o174)=>[(10,.rows 51 5 (List.map Cq o174))]) ?_
 rintro ⟨v173,o174⟩ _ _ _ h _ _
 refine Z ?_
 refine Ai h (fun _ h=>?_) (fun _ h=>?_)
 refine Z ?_
 refine Bm h (fun _ _ _ _ h=>?_)
 refine Z ?_
 refine A7 h (fun _ h=>?_)
 refine Z ?_
 refine Ai h (fun _ h=>?_) (fun _ h=>?_)
 exact Y
 refine Z ?_
 refine A2 h (fun (v190,o191)=>[(22,(.arr 10 o191.length 0 o191.length)),(145,(O .i64 v190))]) (fun (v190,o191)=>[(10,.rows 51 5 (List.map Cq o191))]) ?_
 rintro ⟨v190,o191⟩ _ _ _ h _ _
 exact Y
 replace h:=B9 h
 refine Ff (Fd rfl ?_)
 refine C6 [.fz 22] ?_
 exact Y
 exact Y⟩
theorem Ah9 {a0:Int} {a1:Bool} {b1:List Int} {r:(Int×(List Int))} (h:Oc a0 a1 b1=some (.inl r)):Bq Tryz.prog 83 [(.loc 0 0),(O .i64) a0,Am a1] [.cells 42 [(.val (.pointer none)),(.arr 1 b1.length 0 b1.length)],.rows 5 1 (List.map (O .u8) b1)] ((O .i64) r.1) [.cells 42 [(.loc 0 0),(.arr 1 r.2.length 0 r.2.length)],.rows 5 1 (List.map (O .u8) r.2)]:=by
 refine aw C0 true Tryz.func83 ?_
 refine ZS ?_
 refine Bn ?_
 refine ZO ?_
 refine As (G6 (As ?_))
 refine Bg h (fun v1=>[(7,(Am v1))]) (fun v1=>[]) ?_ ?_
 intro _ h _ _ _
 exact Y
 rintro v1 _ h
 refine Ai h (fun _ h=>?_) (fun _ h=>?_)
 refine Z ?_
 refine A1 [0,1] h (fun _ h=>?_)
 exact Y
 refine Z ?_
 refine Ai h (fun _ h=>?_) (fun _ h=>?_)
 refine Z ?_
 refine A1 [0,1] h (fun _ h=>?_)
 exact Y
 refine Z ?_
 refine Ai h (fun _ h=>?_) (fun _ h=>?_)
 refine Z ?_
 refine A1 [0,1] h (fun _ h=>?_)
 exact Y
 exact Y
theorem Aia {a0:Int} {a1:Bool} {b1:List Int} {r:(Int×(List Int))} (h:Oc a0 a1 b1=some (.inr r)):Bq Tryz.prog 83 [(.loc 0 0),(O .i64) a0,Am a1] [.cells 42 [(.val (.pointer none)),(.arr 1 b1.length 0 b1.length)],.rows 5 1 (List.map (O .u8) b1)] ((O .i64) r.1) [.cells 42 [(.val (.pointer none)),(.arr 1 r.2.length 0 r.2.length)],.rows 5 1 (List.map (O .u8) r.2)]:=by
 refine aw C0 true Tryz.func83 ?_
 refine ZS ?_
 refine Bn ?_
 refine ZO ?_
 refine As (G6 (As ?_))
 refine Bg h (fun v1=>[(7,(Am v1))]) (fun v1=>[]) ?_ ?_
 intro _ h _ _ _
 exact Y
 rintro v1 _ h
 refine Ai h (fun _ h=>?_) (fun _ h=>?_)
 refine Z ?_
 refine A1 [0,1] h (fun _ h=>?_)
 exact Y
 refine Z ?_
 refine Ai h (fun _ h=>?_) (fun _ h=>?_)
 refine Z ?_
 refine A1 [0,1] h (fun _ h=>?_)
 exact Y
 refine Z ?_
 refine Ai h (fun _ h=>?_) (fun _ h=>?_)
 refine Z ?_
 refine A1 [0,1] h (fun _ h=>?_)
 exact Y
 exact Y
instance {a0:Int} {a1:Bool} {b1:List Int}:OK (T6 a0 a1 b1) fun r=>Bq Tryz.prog 83 [(.loc 0 0),(O .i64) a0,Am a1] [.cells 42 [(.loc 0 0),(.arr 1 b1.length 0 b1.length)],.rows 5 1 (List.map (O .u8) b1)] ((O .i64) r.1) [.cells 42 [(.loc 0 0),(.arr 1 r.2.length 0 r.2.length)],.rows 5 1 (List.map (O .u8) r.2)]:=⟨fun {r} h=>by
 refine aw C0 true Tryz.func83 ?_
 refine ZS ?_
 refine Bn ?_
 refine ZO ?_
 refine As (G6 (As ?_))
 refine Bg h (fun v1=>[(7,(Am v1))]) (fun v1=>[]) ?_ ?_
 intro _ h _ _ _
 exact Y
 rintro v1 _ h
 refine Ai h (fun _ h=>?_) (fun _ h=>?_)
 refine Z ?_
 refine A1 [0,1] h (fun _ h=>?_)
 exact Y
 refine Z ?_
 refine Ai h (fun _ h=>?_) (fun _ h=>?_)
 refine Z ?_
 refine A1 [0,1] h (fun _ h=>?_)
 exact Y
 refine Z ?_
 refine Ai h (fun _ h=>?_) (fun _ h=>?_)
 refine Z ?_
 refine A1 [0,1] h (fun _ h=>?_)
 exact Y
 exact Y⟩
instance {a0 a1:Int}:OK (J5 a0 a1) fun r=>Aq Tryz.prog 84 [(O .i64) a0,(O .i64) a1] (Bk r):=⟨fun {r} h=>by
 exact Aq3 h⟩
instance {b1:List Int}:OK (Rg b1) fun r=>Bq Tryz.prog 14 [(.loc 0 0)] [.cells 42 [(.val (.pointer none)),(.arr 1 b1.length 0 b1.length)],.rows 5 1 (List.map (O .u8) b1)] (Bk r) [.cells 42 [(.val (.pointer none)),(.fb r)],.dead]:=⟨fun {r} h=>by
 exact Ahh h⟩
instance {a0:C2}:OK (Iz a0) fun r=>Aq Tryz.prog 42 [G9 a0] (Bk r):=⟨fun {r} h=>by
 refine pw C0 Tryz.func42 ?_
 refine Z ?_
 refine A7 h (fun _ h=>?_)
 refine Z ?_
 refine Ai h (fun _ h=>?_) (fun _ h=>?_)
 exact Y
 refine ZS ?_
 refine Bn ?_
 refine ZO ?_
 refine As (As ?_)
 refine C6 [.own 3 1 5 1] ?_
 refine Z ?_
 refine N4 ?_
 refine Z ?_
 refine Ai h (fun _ h=>?_) (fun _ h=>?_)
 refine Hk (As ?_)
 refine Bg h (fun (v30,o31)=>[(4,(O .i64 0)),(6,(O .i64 v30))]) (fun (v30,o31)=>[(1,.cells 42 [(.loc 1 0),(.arr 2 o31.length 0 o31.length)]),(2,.rows 5 1 (List.map (O .u8) o31))]) ?_ ?_
 intro _ h _ _ _
 refine Z ?_
 refine Bm h (fun _ v5 _ _ h=>?_)
 refine Z ?_
 refine C5 h (fun v7 hcv7 h=>?_)
 rcases v7 with v8 | v9
 refine Fc.act [1,2] _ _ _ _ (Ah9 (a0:=v5.Coef) (a1:=true) (b1:=[]) hcv7) rfl rfl ⟨rfl,rfl,trivial⟩ ?_
 refine ZS ?_
 refine Bn ?_
 refine ZO ?_
 refine Bg h (fun o14=>[]) (fun o14=>[(1,.cells 42 [(.loc 1 0),(.arr 2 o14.length 0 o14.length)]),(2,.rows 5 1 (List.map (O .u8) o14))]) ?_ ?_
 intro _ h _ _ _
 refine Ai h (fun _ h=>?_) (fun _ h=>?_)
 refine Z ?_
 refine A7 h (fun _ h=>?_)
 refine Z ?_
 refine Ft h (fun h=>?_)
 refine Z ?_
 refine A1 [1,2] h (fun _ h=>?_)
 exact Y
 exact Y
 rintro o14 _ h
 refine Z ?_
 refine Ai h (fun _ h=>?_) (fun _ h=>?_)
 refine Z ?_
 refine A1 [1,2] h (fun _ h=>?_)
 exact Y
 refine Z ?_
 refine A7 h (fun _ h=>?_)
 refine Z ?_
 refine Ft h (fun h=>?_)
 refine Z ?_
 refine A1 [1,2] h (fun _ h=>?_)
 exact Y
 refine Fc.act [1,2] _ _ _ _ (Aia (a0:=v5.Coef) (a1:=true) (b1:=[]) hcv7) rfl rfl ⟨rfl,rfl,trivial⟩ ?_
 refine Z ?_
 refine Ai h (fun _ h=>?_) (fun _ h=>?_)
 refine Z ?_
 refine A7 h (fun _ h=>?_)
 refine Z ?_
 refine Ft h (fun h=>?_)
 refine Z ?_
 refine A1 [1,2] h (fun _ h=>?_)
 refine Z ?_
 refine Ai h (fun _ h=>?_) (fun _ h=>?_)
 refine Z ?_
 refine A1 [1,2] h (fun _ h=>?_)
 exact Y
 refine Z ?_
 refine A7 h (fun _ h=>?_)
 refine Z ?_
 refine Ft h (fun h=>?_)
 refine Z ?_
 refine A1 [1,2] h (fun _ h=>?_)
 exact Y
 refine Z ?_
 refine Ai h (fun _ h=>?_) (fun _ h=>?_)
 refine Z ?_
 refine A1 [1,2] h (fun _ h=>?_)
 exact Y
 refine Z ?_
 refine A7 h (fun _ h=>?_)
 refine Z ?_
 refine Ft h (fun h=>?_)
 refine Z ?_
 refine A1 [1,2] h (fun _ h=>?_)
 exact Y
 rintro ⟨v30,o31⟩ _ h
 refine Z ?_
 refine A2 h (fun (v43,o44)=>[(13,(O .i64 v43))]) (fun (v43,o44)=>[(1,.cells 42 [(.loc 1 0),(.arr 2 o44.length 0 o44.length)]),(2,.rows 5 1 (List.map (O .u8) o44))]) ?_
 rintro ⟨v43,o44⟩ _ _ _ h _ _
 refine Z ?_
 refine Ai h (fun _ h=>?_) (fun _ h=>?_)
 refine Z ?_
 refine Bm h (fun _ _ _ _ h=>?_)
 refine Z ?_
 refine A1 [1,2] h (fun _ h=>?_)
 refine ZS ?_
 refine Bn ?_
 refine ZO ?_
 refine Bg h (fun o51=>[]) (fun o51=>[(1,.cells 42 [(.loc 1 0),(.arr 2 o51.length 0 o51.length)]),(2,.rows 5 1 (List.map (O .u8) o51))]) ?_ ?_
 intro _ h _ _ _
 refine Ai h (fun _ h=>?_) (fun _ h=>?_)
 refine Z ?_
 refine A7 h (fun _ h=>?_)
 refine Z ?_
 refine Ft h (fun h=>?_)
 refine Z ?_
 refine A1 [1,2] h (fun _ h=>?_)
 exact Y
 exact Y
 rintro o51 _ h
 refine Z ?_
 refine Ai h (fun _ h=>?_) (fun _ h=>?_)
 refine Z ?_
 refine A1 [1,2] h (fun _ h=>?_)
 exact Y
 refine Z ?_
 refine A7 h (fun _ h=>?_)
 refine Z ?_
 refine Ft h (fun h=>?_)
 refine Z ?_
 refine A1 [1,2] h (fun _ h=>?_)
 exact Y
 replace h:=B9 h
 refine Ff (Fd rfl (As (As ?_)))
 refine Bg h (fun v57=>[(47,(Am v57))]) (fun v57=>[]) ?_ ?_
 intro _ h _ _ _
 exact Y
 rintro v57 _ h
 refine Ai h (fun _ h=>?_) (fun _ h=>?_)
 refine Z ?_
 refine A1 [1,2] h (fun _ h=>?_)
 refine Z ?_
 refine A7 h (fun _ h=>?_)
 refine Z ?_
 refine A1 [1,2] h (fun _ h=>?_)
 refine Z ?_
 refine A1 [1,2] h (fun _ h=>?_)
 exact Y
 refine Z ?_
 refine A1 [1,2] h (fun _ h=>?_)
 exact Y
 refine Ff (Fd rfl (As (As ?_)))
 refine Bg h (fun v63=>[(47,(Am v63))]) (fun v63=>[]) ?_ ?_
 intro _ h _ _ _
 exact Y
 rintro v63 _ h
 refine Ai h (fun _ h=>?_) (fun _ h=>?_)
 refine Z ?_
 refine C5 h (fun v64 hcv64 h=>?_)
 rcases v64 with v65 | v66
 refine Fc.act [1,2] _ _ _ _ (Ah9 (a0:=a0.Const) (a1:=((a0.Terms.length:Int)==(0:Int))) (b1:=[]) hcv64) rfl rfl ⟨rfl,rfl,trivial⟩ ?_
 refine Z ?_
 refine A7 h (fun _ h=>?_)
 refine Z ?_
 refine A1 [1,2] h (fun _ h=>?_)
 refine Z ?_
 refine A1 [1,2] h (fun _ h=>?_)
 exact Y
 refine Fc.act [1,2] _ _ _ _ (Aia (a0:=a0.Const) (a1:=((a0.Terms.length:Int)==(0:Int))) (b1:=[]) hcv64) rfl rfl ⟨rfl,rfl,trivial⟩ ?_
 refine Z ?_
 refine A7 h (fun _ h=>?_)
 refine Z ?_
 refine A1 [1,2] h (fun _ h=>?_)
 refine Z ?_
 refine A1 [1,2] h (fun _ h=>?_)
 exact Y
 refine Z ?_
 refine A1 [1,2] h (fun _ h=>?_)
 exact Y⟩
instance {a0:B8}:OK (Abf a0) fun r=>Aq Tryz.prog 181 [F0 a0] (Bk r):=⟨fun {r} h=>by
 refine pw C0 Tryz.func181 ?_
 refine ZS ?_
 refine Bn ?_
 refine ZS ?_
 refine Bn ?_
 refine ZO ?_
 refine As (As ?_)
 refine C6 [.own 3 1 5 1] ?_
 refine Z ?_
 refine N4 ?_
 refine Z ?_
 refine Ai h (fun _ h=>?_) (fun _ h=>?_)
 refine Z ?_
 refine Bm h (fun _ _ _ _ h=>?_)
 refine Z ?_
 refine A7 h (fun _ h=>?_)
 refine Z ?_
 refine A1 [1,2] h (fun _ h=>?_)
 refine Z ?_
 refine A2 h (fun (v18,o19)=>[(11,(O .i64 v18))]) (fun (v18,o19)=>[(1,.cells 42 [(.loc 1 0),(.arr 2 o19.length 0 o19.length)]),(2,.rows 5 1 (List.map (O .u8) o19))]) ?_
 rintro ⟨v18,o19⟩ _ _ _ h _ _
 refine Z ?_
 refine Ai h (fun _ h=>?_) (fun _ h=>?_)
 refine Z ?_
 refine Bm h (fun _ _ _ _ h=>?_)
 refine Z ?_
 refine A7 h (fun _ h=>?_)
 refine Z ?_
 refine A1 [1,2] h (fun _ h=>?_)
 exact Y
 replace h:=B9 h
 refine Z ?_
 refine N4 ?_
 refine Z ?_
 refine Ai h (fun _ h=>?_) (fun _ h=>?_)
 refine Z ?_
 refine Bm h (fun _ _ _ _ h=>?_)
 refine Z ?_
 refine A7 h (fun _ h=>?_)
 refine Z ?_
 refine Ft h (fun h=>?_)
 refine Z ?_
 refine Ft h (fun h=>?_)
 refine Z ?_
 refine A7 h (fun _ h=>?_)
 refine Z ?_
 refine Ft h (fun h=>?_)
 refine Z ?_
 refine A1 [1,2] h (fun _ h=>?_)
 refine Z ?_
 refine A2 h (fun (v51,o52)=>[(25,(O .i64 v51))]) (fun (v51,o52)=>[(1,.cells 42 [(.loc 1 0),(.arr 2 o52.length 0 o52.length)]),(2,.rows 5 1 (List.map (O .u8) o52))]) ?_
 rintro ⟨v51,o52⟩ _ _ _ h _ _
 refine Z ?_
 refine Ai h (fun _ h=>?_) (fun _ h=>?_)
 refine Z ?_
 refine Bm h (fun _ _ _ _ h=>?_)
 refine Z ?_
 refine A7 h (fun _ h=>?_)
 refine Z ?_
 refine Ft h (fun h=>?_)
 refine Z ?_
 refine Ft h (fun h=>?_)
 refine Z ?_
 refine A7 h (fun _ h=>?_)
 refine Z ?_
 refine Ft h (fun h=>?_)
 refine Z ?_
 refine A1 [1,2] h (fun _ h=>?_)
 exact Y
 replace h:=B9 h
 refine Z ?_
 refine A1 [1,2] h (fun _ h=>?_)
 exact Y
 refine Z ?_
 refine A1 [1,2] h (fun _ h=>?_)
 exact Y
 refine Z ?_
 refine N4 ?_
 refine Z ?_
 refine Ai h (fun _ h=>?_) (fun _ h=>?_)
 refine Z ?_
 refine Bm h (fun _ _ _ _ h=>?_)
 refine Z ?_
 refine A7 h (fun _ h=>?_)
 refine Z ?_
 refine Ft h (fun h=>?_)
 refine Z ?_
 refine Ft h (fun h=>?_)
 refine Z ?_
 refine A7 h (fun _ h=>?_)
 refine Z ?_
 refine Ft h (fun h=>?_)
 refine Z ?_
 refine A1 [1,2] h (fun _ h=>?_)
 refine Z ?_
 refine A2 h (fun (v90,o91)=>[(25,(O .i64 v90))]) (fun (v90,o91)=>[(1,.cells 42 [(.loc 1 0),(.arr 2 o91.length 0 o91.length)]),(2,.rows 5 1 (List.map (O .u8) o91))]) ?_
 rintro ⟨v90,o91⟩ _ _ _ h _ _
 refine Z ?_
 refine Ai h (fun _ h=>?_) (fun _ h=>?_)
 refine Z ?_
 refine Bm h (fun _ _ _ _ h=>?_)
 refine Z ?_
 refine A7 h (fun _ h=>?_)
 refine Z ?_
 refine Ft h (fun h=>?_)
 refine Z ?_
 refine Ft h (fun h=>?_)
 refine Z ?_
 refine A7 h (fun _ h=>?_)
 refine Z ?_
 refine Ft h (fun h=>?_)
 refine Z ?_
 refine A1 [1,2] h (fun _ h=>?_)
 exact Y
 replace h:=B9 h
 refine Z ?_
 refine A1 [1,2] h (fun _ h=>?_)
 exact Y
 refine Z ?_
 refine A1 [1,2] h (fun _ h=>?_)
 exact Y⟩
instance {a0:List A6} {b1:List (ByteArray×Int)} {b2:List A6}:OK (Ws a0 b1 b2) fun r=>Bq Tryz.prog 113 [(.loc 0 0),(Av 5 Cq) a0] [.cells 227 [(.mp 1),(.arr 2 b2.length 0 b2.length)],.map (Bh (O .i64) b1),.rows 51 5 (List.map Cq b2)] (.tup []) [.cells 227 [(.mp 1),(.arr 2 r.2.length 0 r.2.length)],.map (Bh (O .i64) r.1),.rows 51 5 (List.map Cq r.2)]:=⟨fun {r} h=>by
 refine aw C0 true Tryz.func113 ?_
 refine Z ?_
 refine A2 h (fun (v10,o11,o12)=>[(11,(O .i64 v10))]) (fun (v10,o11,o12)=>[(0,.cells 227 [(.mp 1),(.arr 2 o12.length 0 o12.length)]),(1,.map (Bh (O .i64) o11)),(2,.rows 51 5 (List.map Cq o12))]) ?_
 rintro ⟨v10,o11,o12⟩ _ _ _ h _ hn1
 refine Z ?_
 refine Ai h (fun _ h=>?_) (fun _ h=>?_)
 refine Z ?_
 refine Bm h (fun _ _ _ _ h=>?_)
 refine Z ?_
 refine A7 h (fun _ h=>?_)
 refine ZO ?_
 refine As (As ?_)
 refine Bg h (fun (v16,v17)=>[(7,(O .i64 v16)),(8,(Am v17))]) (fun (v16,v17)=>[]) ?_ ?_
 intro _ h _ _ _
 refine Z ?_
 refine Wd (f:=(O .i64)) (l:=o11) rfl (0:Int) h (fun j_ hb h=>?_) (fun hb h=>?_)
 exact Y
 exact Y
 rintro ⟨v16,v17⟩ _ h
 refine Z ?_
 refine Ai h (fun _ h=>?_) (fun _ h=>?_)
 refine Z ?_
 refine H8 h (fun _ _ _ _ h=>?_)
 refine Z ?_
 refine A7 h (fun v19 h=>?_)
 refine Z ?_
 refine H8 h (fun _ v20 hiv20 _ h=>?_)
 refine Z ?_
 refine Mg (f:=Cq) (x:=(A6.mk v19 v20.Mono)) (j:=v16) rfl rfl (Nat.zero_add _) hiv20 ?_
 refine Z ?_
 exact hn1 _ _ _ _ (Option.some.inj h) ⟨rfl,trivial⟩ ⟨⟨rfl,rfl⟩,⟨rfl,rfl⟩,⟨congrArg (fun q_=>Bc.cells 227 [(.mp 1),(.arr 2 q_ 0 q_)]) (Gq (l:=o12) rfl v16 (A6.mk v19 v20.Mono)),rfl⟩,trivial⟩ trivial
 refine Z ?_
 refine Sh (f:=(O .i64)) (l:=o11) (x:=((o12.length:Nat):Int)) rfl rfl ?_
 exact Y
 exact Y⟩
abbrev Aib (k:Nat):Prop:=∀{a0:Az},OK (Tz k a0) fun r=>Aq Tryz.prog 299 [D7 a0] (D7 r)
theorem Ars (k:Nat):Aib k:=by
 induction k with
 | zero=>exact okz
 | succ k ih=>
  refine @fun a0=>⟨fun {r} h=>?_⟩
  .unfold Tz at h
   refine pw {T:=Ci,an:=(fun _=>.ask),nl:=(fun s=>bif Nat.beq s 17 then [(0,2)] else [])} Tryz.func299 ?_
   refine ZS ?_
   refine Bn ?_
   refine ZS ?_
   refine Bn ?_
   refine ZO ?_
   refine As (As ?_)
   refine C6 [.own 3 1 63 2] ?_
   refine Z ?_
   refine A2 h (fun (v15,o16)=>[(12,(O .i64 v15))]) (fun (v15,o16)=>[(2,.cells 63 [(O .i64 a0.Num),(.arr 3 o16.length 0 o16.length)]),(3,.rows 63 2 (Gr o16))]) ?_
   rintro ⟨v15,o16⟩ _ _ _ h _ _
   exact Y
instance {k:Nat}:Aib k:=(Ars k)
instance {a0:List Dd}:OK (Ab2 a0) fun r=>Aq Tryz.prog 300 [(Av 2 Gf) a0] ((Av 2 Gf) r):=⟨fun {r} h=>by
 exact Aq9 h⟩
instance {a0:B8}:OK (Abs a0) fun r=>Aq Tryz.prog 240 [F0 a0] (F0 r):=⟨fun {r} h=>by
 refine pw {T:=Ci,an:=(fun _=>.ask),nl:=(fun s=>bif Nat.beq s 44 then [(0,3)] else bif Nat.beq s 17 then [(0,3)] else [])} Tryz.func240 ?_
 refine ZS ?_
 refine Bn ?_
 refine ZS ?_
 refine Bn ?_
 refine ZO ?_
 refine As (As ?_)
 refine C6 [.own 3 0 65 3,.own 3 1 75 3] ?_
 refine Z ?_
 refine A2 h (fun (v16,o17)=>[(12,(O .i64 v16))]) (fun (v16,o17)=>[(2,.cells 49 [(.arr 3 o17.length 0 o17.length),(.arr 4 0 0 0)]),(3,.rows 65 3 (List.map Ei o17))]) ?_
 rintro ⟨v16,o17⟩ _ _ _ h _ _
 refine Z ?_
 refine Ai h (fun _ h=>?_) (fun _ h=>?_)
 exact Y
 replace h:=B9 h
 refine Z ?_
 refine A2 h (fun (v35,o36)=>[(31,(O .i64 v35))]) (fun (v35,o36)=>[(2,.cells 49 [(.arr 3 o17.length 0 o17.length),(.arr 4 o36.length 0 o36.length)]),(4,.rows 75 3 (List.map Dw o36))]) ?_
 rintro ⟨v35,o36⟩ _ _ _ h _ _
 exact Y⟩
instance {a0:List A6}:OK (Abi a0) fun r=>Aq Tryz.prog 185 [(Av 5 Cq) a0] ((Av 5 Cq) r):=⟨fun {r} h=>by
 refine pw {T:=Ci,an:=(fun s=>bif Nat.beq s 3 then .own else .ask),nl:=(fun s=>bif Nat.beq s 3 then [(0,5)] else bif Nat.beq s 2 then [(0,5)] else [])} Tryz.func185 ?_
 refine Z ?_
 refine A2 h (fun (v14,o15)=>[(3,(.arr 0 o15.length 0 o15.length)),(8,(O .i64 v14))]) (fun (v14,o15)=>[(0,.rows 51 5 (List.map Cq o15))]) ?_
 rintro ⟨v14,o15⟩ _ _ _ h _ _
 exact Y⟩
instance {a0:Int}:OK (Abt a0) fun r=>Aq Tryz.prog 256 [(O .u64) a0] ((O .i64) r):=⟨fun {r} h=>by
 refine pw C0 Tryz.func256 ?_
 refine ZS ?_
 refine Bn ?_
 refine ZS ?_
 refine Bn ?_
 refine ZO ?_
 refine Bg h (fun (v2,v3)=>[(0,(O .u64 v2)),(2,(O .i64 v3))]) (fun (v2,v3)=>[]) ?_ ?_
 intro _ h _ _ _
 exact Y
 rintro ⟨v2,v3⟩ _ h
 refine ZS ?_
 refine Bn ?_
 refine ZO ?_
 refine Bg h (fun (v5,v6)=>[(0,(O .u64 v5)),(2,(O .i64 v6))]) (fun (v5,v6)=>[]) ?_ ?_
 intro _ h _ _ _
 exact Y
 rintro ⟨v5,v6⟩ _ h
 refine ZS ?_
 refine Bn ?_
 refine ZO ?_
 refine Bg h (fun (v8,v9)=>[(0,(O .u64 v8)),(2,(O .i64 v9))]) (fun (v8,v9)=>[]) ?_ ?_
 intro _ h _ _ _
 exact Y
 rintro ⟨v8,v9⟩ _ h
 exact Y⟩
instance {a0:Int}:OK (Abr a0) fun r=>Aq Tryz.prog 239 [(O .u64) a0] ((O .i64) r):=⟨fun {r} h=>by
 refine pw C0 Tryz.func239 ?_
 exact Y⟩
instance {a0 a1:A6}:OK (Abh a0 a1) fun r=>Aq Tryz.prog 184 [Cq a0,Cq a1] ((O .i64) r):=⟨fun {r} h=>by
 refine pw C0 Tryz.func184 ?_
 exact Y⟩
instance {a0 a1:Int} {b0:List A6}:OK (Ab1 a0 a1 b0) fun r=>Bq Tryz.prog 290 [(.arr 0 b0.length 0 b0.length),(O .i64) a0,(O .i64) a1,(.fn 184 [])] [.rows 51 5 (List.map Cq b0)] (.tup []) [.rows 51 5 (List.map Cq r)]:=⟨fun {r} h=>by
 refine aw C0 true Tryz.func290 ?_
 refine Z ?_
 refine En h (fun (v21,o22)=>[(8,(O .i64 v21))]) (fun (v21,o22)=>[(0,.rows 51 5 (List.map Cq o22))]) (fun (v21,o22)=>b0.length=o22.length) ?_
 rintro ⟨v21,o22⟩ _ _ _ h _ _ q22
 refine Z ?_
 refine Ai h (fun _ h=>?_) (fun _ h=>?_)
 refine Z ?_
 refine En h (fun (v31,o32)=>[(9,(O .i64 v31))]) (fun (v31,o32)=>[(0,.rows 51 5 (List.map Cq o32))]) (fun (v31,o32)=>b0.length=o32.length) ?_
 rintro ⟨v31,o32⟩ _ _ _ h _ _ q32
 refine As (As ?_)
 refine Bg h (fun v36=>[(34,(Am v36))]) (fun v36=>[]) ?_ ?_
 intro _ h _ _ _
 exact Y
 rintro v36 _ h
 exact Y
 exact Y⟩
instance {a0 a1 a2:Int} {b0:List A6}:OK (Abq a0 a1 a2 b0) fun r=>Bq Tryz.prog 238 [(.arr 0 b0.length 0 b0.length),(O .i64) a0,(O .i64) a1,(O .i64) a2,(.fn 184 [])] [.rows 51 5 (List.map Cq b0)] (.tup []) [.rows 51 5 (List.map Cq r)]:=⟨fun {r} h=>by
 refine aw C0 true Tryz.func238 ?_
 refine Z ?_
 refine A2 h (fun _=>[(1,(O .i64 a0)),(2,(O .i64 a1)),(3,(O .i64 a2)),(10,(Am true)),(11,(Am true))]) (fun _=>[]) ?_
 rintro _ _ _ _ h _ _
 refine Z ?_
 refine Ai h (fun _ h=>?_) (fun _ h=>?_)
 refine Z ?_
 refine A1 [0] h (fun _ h=>?_)
 refine C5 h (fun v2 hgv2 h=>?_)
 exact Y
 exact Y⟩
instance {b0:List A6}:OK (Abg b0) fun r=>Bq Tryz.prog 183 [(.arr 0 b0.length 0 b0.length),(.fn 184 [])] [.rows 51 5 (List.map Cq b0)] (.tup []) [.rows 51 5 (List.map Cq r)]:=⟨fun {r} h=>by
 refine aw C0 true Tryz.func183 ?_
 refine Z ?_
 refine A7 h (fun _ h=>?_)
 refine Z ?_
 refine A1 [0] h (fun _ h=>?_)
 refine C5 h (fun v3 hgv3 h=>?_)
 exact Y⟩
instance {b1:List (ByteArray×Int)} {b2:List A6}:OK (Wt b1 b2) fun r=>Bq Tryz.prog 114 [(.loc 0 0)] [.cells 227 [(.mp 1),(.arr 2 b2.length 0 b2.length)],.map (Bh (O .i64) b1),.rows 51 5 (List.map Cq b2)] (.tup [(Av 5 Cq) r.1,(O .i64) r.2]) [.cells 227 [(.mp 1),(.arr 2 b2.length 0 b2.length)],.map (Bh (O .i64) b1),.rows 51 5 (List.map Cq b2)]:=⟨fun {r} h=>by
 refine aw {T:=Ci,an:=(fun s=>bif Nat.beq s 4 then .own else .ask),nl:=(fun s=>bif Nat.beq s 4 then [(0,5)] else bif Nat.beq s 2 then [(0,5)] else [])} true Tryz.func114 ?_
 refine Z ?_
 refine A2 h (fun (v12,o13)=>[(4,(.arr 3 o13.length 0 o13.length)),(12,(O .i64 v12))]) (fun (v12,o13)=>[(3,.rows 51 5 (List.map Cq o13))]) ?_
 rintro ⟨v12,o13⟩ _ _ _ h _ _
 refine Z ?_
 refine Ai h (fun _ h=>?_) (fun _ h=>?_)
 exact Y
 replace h:=B9 h
 refine Z ?_
 refine Ai h (fun _ h=>?_) (fun _ h=>?_)
 exact Y
 refine Z ?_
 refine A1 [3] h (fun _ h=>?_)
 refine C5 h (fun v20 hgv20 h=>?_)
 refine ZO ?_
 refine As ?_
 refine C6 [.fz 4] ?_
 exact Y⟩
instance {a0:B8} {b1:List (ByteArray×Int)} {b2:List (ByteArray×(List Dh))} {b0_0:List Ao} {b0_1:List Af} {b0_2 b0_3:Int} {b0_4:List Af}:OK (Aa3 a0 b1 b2 b0_0 b0_1 b0_2 b0_3 b0_4) fun r=>Bq Tryz.prog 61 [(.loc 0 0),F0 a0] [.cells 96 [(.sl 3 (List.map Bt b0_0)),(.sl 3 (Bd b0_1)),(O .i64 b0_2),(O .i64 b0_3),(.sl 3 (Bd b0_4)),(.mp 1),(.mp 2)],.map (Bh (O .i64) b1),.map (Bh (Av 5 D8) b2)] (.tup [(Av 5 Cq) r.1,(O .i64) r.2]) [.cells 96 [(.sl 3 (List.map Bt b0_0)),(.sl 3 (Bd b0_1)),(O .i64 b0_2),(O .i64 b0_3),(.sl 3 (Bd b0_4)),(.mp 1),(.mp 2)],.map (Bh (O .i64) b1),.map (Bh (Av 5 D8) b2)]:=⟨fun {r} h=>by
 refine aw {T:=Ci,an:=(fun _=>.ask),nl:=(fun s=>bif Nat.beq s 4 then [(0,5)] else [])} true Tryz.func61 ?_
 refine Z ?_
 refine A7 h (fun _ h=>?_)
 refine Z ?_
 refine A1 [0,1,2] h (fun _ h=>?_)
 refine Z ?_
 refine Ai h (fun _ h=>?_) (fun _ h=>?_)
 exact Y
 refine Z ?_
 refine A1 [] h (fun _ h=>?_)
 refine Z ?_
 refine A1 [5,4,6] h (fun _ h=>?_)
 refine Z ?_
 refine A1 [5,4,6] h (fun _ h=>?_)
 exact Y⟩
instance {a0:A4} {a1:B8}:OK (Ahe a0 a1) fun r=>Aq Tryz.prog 111 [(.val (.pointer none)),Cb a0,F0 a1] (.tup [(Av 5 Cq) r.1,(O .i64) r.2]):=⟨fun {r} h=>by
 refine pw {T:=Ci,an:=(fun s=>bif Nat.beq s 22 then .own else .ask),nl:=(fun s=>bif Nat.beq s 155 then [(0,3)] else bif Nat.beq s 31 then [(3,3),(4,3)] else bif Nat.beq s 22 then [(0,5)] else bif Nat.beq s 6 then [(0,5)] else [])} Tryz.func111 ?_
 refine Z ?_
 refine A7 h (fun _ h=>?_)
 refine Z ?_
 refine Ai h (fun _ h=>?_) (fun _ h=>?_)
 exact Y
 refine Z ?_
 refine A1 [] h (fun v4 h=>?_)
 refine Z ?_
 refine A1 [3] h (fun _ h=>?_)
 refine C5 h (fun v8 hgv8 h=>?_)
 refine Z ?_
 refine A2 h (fun _=>[(6,(.sl 5 (List.map Cq []))),(7,(O .i64 0)),(8,(.sl 5 (List.map Cq [(A6.mk a0 (B8.mk [] []))]))),(9,(.arr 3 v4.2.length 0 v4.2.length))]) (fun _=>[]) ?_
 rintro _ _ _ _ h _ _
 refine Z ?_
 refine Ai h (fun _ h=>?_) (fun _ h=>?_)
 refine Z ?_
 refine H8 h (fun _ _ _ _ h=>?_)
 refine Z ?_
 refine A2 h (fun v11=>[(11,(O .i64 v11))]) (fun v11=>[]) ?_
 rintro v11 _ _ _ h _ _
 refine Z ?_
 refine Er h (fun _ h=>?_) (fun _ h=>?_)
 refine Z ?_
 refine H8 h (fun _ _ _ _ h=>?_)
 refine Z ?_
 refine Ai h (fun _ h=>?_) (fun _ h=>?_)
 exact Y
 replace h:=B9 h
 refine Ff (Fd rfl (As ?_))
 refine C6 [.fz 9] ?_
 exact Y
 replace h:=B9 h
 refine ZO ?_
 refine N3 (Ff (Fd rfl (As ?_)))
 refine C6 [.fz 9] ?_
 exact Y
 replace h:=B9 h
 refine Z ?_
 refine A1 [] h (fun _ h=>?_)
 refine Z ?_
 refine A1 [5] h (fun _ h=>?_)
 refine C5 h (fun v19 hgv19 h=>?_)
 refine ZO ?_
 refine As (G6 ?_)
 refine C6 [.fz 19] ?_
 refine Z ?_
 refine A2 h (fun (v110,v111)=>[(8,(.sl 5 (List.map Cq v110))),(19,(.sl 3 (List.map Dw v111)))]) (fun (v110,v111)=>[]) ?_
 rintro ⟨v110,v111⟩ _ _ _ h _ _
 refine Z ?_
 refine Ai h (fun _ h=>?_) (fun _ h=>?_)
 refine Z ?_
 refine Bm h (fun _ _ _ _ h=>?_)
 refine Z ?_
 refine A2 h (fun v116=>[(21,(O .i64 v116))]) (fun v116=>[]) ?_
 rintro v116 _ _ _ h _ _
 refine Z ?_
 refine Er h (fun _ h=>?_) (fun _ h=>?_)
 refine Z ?_
 refine Bm h (fun _ _ _ _ h=>?_)
 refine Z ?_
 refine A7 h (fun _ h=>?_)
 refine Z ?_
 refine Ai h (fun _ h=>?_) (fun _ h=>?_)
 exact Y
 replace h:=B9 h
 refine Z ?_
 refine O8 h (fun _ h=>?_)
 refine Z ?_
 refine A7 h (fun _ h=>?_)
 refine Z ?_
 refine A2 h (fun (v173,o174)=>[(22,(.arr 7 o174.length 0 o174.length)),(135,(O .i64 v173))]) (fun (v173,o174)=>[(7,.rows 51 5 (List.map Cq o174))]) ?_
 rintro ⟨v173,o174⟩ _ _ _ h _ _
 refine Z ?_
 refine Ai h (fun _ h=>?_) (fun _ h=>?_)
 refine Z ?_
 refine Bm h (fun _ _ _ _ h=>?_)
 refine Z ?_
 refine A7 h (fun _ h=>?_)
 refine Z ?_
 refine Ai h (fun _ h=>?_) (fun _ h=>?_)
 exact Y
 refine Z ?_
 refine A2 h (fun (v190,o191)=>[(22,(.arr 7 o191.length 0 o191.length)),(145,(O .i64 v190))]) (fun (v190,o191)=>[(7,.rows 51 5 (List.map Cq o191))]) ?_
 rintro ⟨v190,o191⟩ _ _ _ h _ _
 exact Y
 replace h:=B9 h
 refine Ff (Fd rfl ?_)
 refine C6 [.fz 22] ?_
 exact Y
 replace h:=B9 h
 refine Z ?_
 refine O8 h (fun _ h=>?_)
 refine Z ?_
 refine A7 h (fun _ h=>?_)
 refine Z ?_
 refine A2 h (fun (v173,o174)=>[(22,(.arr 7 o174.length 0 o174.length)),(135,(O .i64 v173))]) (fun (v173,o174)=>[(7,.rows 51 5 (List.map Cq o174))]) ?_
 rintro ⟨v173,o174⟩ _ _ _ h _ _
 refine Z ?_
 refine Ai h (fun _ h=>?_) (fun _ h=>?_)
 refine Z ?_
 refine Bm h (fun _ _ _ _ h=>?_)
 refine Z ?_
 refine A7 h (fun _ h=>?_)
 refine Z ?_
 refine Ai h (fun _ h=>?_) (fun _ h=>?_)
 exact Y
 refine Z ?_
 refine A2 h (fun (v190,o191)=>[(22,(.arr 7 o191.length 0 o191.length)),(145,(O .i64 v190))]) (fun (v190,o191)=>[(7,.rows 51 5 (List.map Cq o191))]) ?_
 rintro ⟨v190,o191⟩ _ _ _ h _ _
 exact Y
 replace h:=B9 h
 refine Ff (Fd rfl ?_)
 refine C6 [.fz 22] ?_
 exact Y
 exact Y⟩
instance {a0:B8}:OK (Ahf a0) fun r=>Aq Tryz.prog 61 [(.val (.pointer none)),F0 a0] (.tup [(Av 5 Cq) r.1,(O .i64) r.2]):=⟨fun {r} h=>by
 refine pw {T:=Ci,an:=(fun _=>.ask),nl:=(fun s=>bif Nat.beq s 4 then [(0,5)] else [])} Tryz.func61 ?_
 refine Z ?_
 refine A7 h (fun _ h=>?_)
 refine Z ?_
 refine A7 h (fun _ h=>?_)
 refine Z ?_
 refine Ai h (fun _ h=>?_) (fun _ h=>?_)
 exact Y
 refine Z ?_
 refine A1 [] h (fun _ h=>?_)
 refine Z ?_
 refine A1 [2,1,3] h (fun _ h=>?_)
 refine Z ?_
 refine A1 [2,1,3] h (fun _ h=>?_)
 exact Y⟩
instance {a0:Ck} {a1:C2} {a2:Int}:OK (Aaz a0 a1 a2) fun r=>Aq Tryz.prog 24 [G8 a0,G9 a1,(O .i64) a2] (.tup [(Av 5 Cq) r.1,(O .i64) r.2]):=⟨fun {r} h=>by
 refine pw {T:=Ci,an:=(fun _=>.ask),nl:=(fun s=>bif Nat.beq s 37 then [(0,3)] else bif Nat.beq s 6 then [(0,5)] else [])} Tryz.func24 ?_
 refine Z ?_
 refine C5 h (fun v3 hcv3 h=>?_)
 rcases v3 with v4 | v9
 refine Fc.act [] _ _ _ _ (Bq.sub (args:=[_,.val (.slice none 0 0)]) (Acg (a0:=a0) (a1:=[]) hcv3) ⟨Sub.refl _,Sub.nil _,trivial⟩) rfl rfl trivial ?_
 refine Z ?_
 refine Ai h (fun _ h=>?_) (fun _ h=>?_)
 exact Y
 refine Hk (As (As ?_))
 refine Bg h (fun v11=>[(27,(Am v11))]) (fun v11=>[]) ?_ ?_
 intro _ h _ _ _
 exact Y
 rintro v11 _ h
 refine Ai h (fun _ h=>?_) (fun _ h=>?_)
 exact Y
 refine Z ?_
 refine A1 [5,3,4] h (fun _ h=>?_)
 refine Z ?_
 refine Ai h (fun _ h=>?_) (fun _ h=>?_)
 exact Y
 refine Z ?_
 refine A1 [5,3,4] h (fun _ h=>?_)
 exact Y
 refine Fc.act [] _ _ _ _ (Bq.sub (args:=[_,.val (.slice none 0 0)]) (Ach (a0:=a0) (a1:=[]) hcv3) ⟨Sub.refl _,Sub.nil _,trivial⟩) rfl rfl trivial ?_
 refine Z ?_
 refine Ai h (fun _ h=>?_) (fun _ h=>?_)
 exact Y
 refine Hk (As (As ?_))
 refine Bg h (fun v15=>[(27,(Am v15))]) (fun v15=>[]) ?_ ?_
 intro _ h _ _ _
 exact Y
 rintro v15 _ h
 exact Y⟩
instance {a0:Ck} {a1:List A6}:OK (Aa2 a0 a1) fun r=>Aq Tryz.prog 27 [G8 a0,(Av 5 Cq) a1] (Am r):=⟨fun {r} h=>by
 refine pw C0 Tryz.func27 ?_
 refine Z ?_
 refine C5 h (fun v2 hcv2 h=>?_)
 rcases v2 with v3 | v8
 refine Fc.act [] _ _ _ _ (Acg (a0:=a0) (a1:=[a1]) hcv2) rfl rfl trivial ?_
 exact Y
 refine Fc.act [] _ _ _ _ (Ach (a0:=a0) (a1:=[a1]) hcv2) rfl rfl trivial ?_
 exact Y⟩
instance {a0:List Int}:OK (Ik a0) fun r=>Aq Tryz.prog 159 [(Av 1 (O .u32)) a0] ((Av 1 (O .u32)) r):=⟨fun {r} h=>by
 refine pw {T:=Ci,an:=(fun _=>.ask),nl:=(fun s=>bif Nat.beq s 2 then [(0,1)] else [])} Tryz.func159 ?_
 refine Z ?_
 refine A2 h (fun v2=>[(3,(O .i64 v2))]) (fun v2=>[]) ?_
 rintro v2 _ _ _ h _ _
 exact Y⟩
end Go.Ab
