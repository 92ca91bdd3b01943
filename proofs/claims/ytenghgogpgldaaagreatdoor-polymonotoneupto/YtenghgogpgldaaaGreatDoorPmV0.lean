/- The contracts of the functions, each by its walk (made by a program). -/
import Derived.Test.YtenghgogpgldaaaGreatDoorPmHand
import Derived.Test.YtenghgogpgldaaaGreatDoorPmDef
namespace Go.Ab
open Go Go.Proofs
set_option maxRecDepth 10000
set_option maxHeartbeats 4000000
set_option linter.unusedVariables false
instance {a0 a1:List Int}:OK (Qv a0 a1) fun r=>As Tryz.prog 51 [(Av 1 (O .u32)) a0,(Av 1 (O .u32)) a1] (An r):=⟨fun {r} h=>by
 refine pw C0 Tryz.func51 ?_
 refine Z ?_
 refine Am h (fun _ h=>?_) (fun _ h=>?_)
 exact Y
 refine Z ?_
 refine A2 h (fun v3=>[(4,(An false)),(13,(O .i64 v3))]) (fun v3=>[]) ?_
 rintro v3 _ _ _ h _ _
 exact Y⟩
instance {a0 a1:Ao}:OK (Qq a0 a1) fun r=>As Tryz.prog 21 [Cq a0,Cq a1] (An r):=⟨fun {r} h=>by
 refine pw C0 Tryz.func21 ?_
 exact Y⟩
instance {a0:Int}:OK (Q3 a0) fun r=>As Tryz.prog 158 [(O .i64) a0] (An r):=⟨fun {r} h=>by
 refine pw C0 Tryz.func158 ?_
 exact Y⟩
instance {a0:Int}:OK (T1 a0) fun r=>As Tryz.prog 159 [(O .i64) a0] (An r):=⟨fun {r} h=>by
 refine pw C0 Tryz.func159 ?_
 exact Y⟩
instance {a0:Da}:OK (Lv a0) fun r=>As Tryz.prog 89 [J0 a0] (An r):=⟨fun {r} h=>by
 refine pw C0 Tryz.func89 ?_
 refine ZS ?_
 refine B7 ?_
 refine ZO ?_
 refine A4 (A4 ?_)
 refine Bz h (fun v3=>[(14,(An v3))]) (fun v3=>[]) ?_ ?_
 intro _ h _ _ _
 exact Y
 rintro v3 _ h
 refine Am h (fun _ h=>?_) (fun _ h=>?_)
 exact Y
 refine Z ?_
 refine A2 h (fun v8=>[(2,(An false)),(18,(O .i64 v8))]) (fun v8=>[]) ?_
 rintro v8 _ _ _ h _ _
 exact Y⟩
instance {a0:List Al}:OK (Ab9 a0) fun r=>As Tryz.prog 136 [Pg (Ib.mk a0 [] [] [])] (An r):=⟨fun {r} h=>by
 refine pw C0 Tryz.func136 ?_
 refine Z ?_
 refine Ga h (fun _ h=>?_)
 refine Z ?_
 refine A2 h (fun _=>[(2,(An false)),(20,(O .i64 0))]) (fun _=>[]) ?_
 rintro _ _ _ _ h _ _
 replace h:=Ca h
 refine Z ?_
 refine A2 h (fun _=>[(2,(An false)),(40,(O .i64 0))]) (fun _=>[]) ?_
 rintro _ _ _ _ h _ _
 exact Y⟩
instance {a0:List Al}:OK (Ab7 a0) fun r=>As Tryz.prog 134 [Pg (Ib.mk a0 [] [] [])] (An r):=⟨fun {r} h=>by
 refine pw C0 Tryz.func134 ?_
 refine Z ?_
 refine A2 h (fun _=>[(2,(An false)),(4,(An false)),(21,(O .i64 0))]) (fun _=>[]) ?_
 rintro _ _ _ _ h _ _
 exact Y⟩
instance {a0:Int}:OK (Um a0) fun r=>As Tryz.prog 308 [(O .u8) a0] (An r):=⟨fun {r} h=>by
 refine pw C0 Tryz.func308 ?_
 exact Y⟩
instance {a0:ByteArray}:OK (Uq a0) fun r=>As Tryz.prog 350 [Ei a0] (An r):=⟨fun {r} h=>by
 refine pw C0 Tryz.func350 ?_
 exact Y⟩
instance {a0:Int}:OK (Nd a0) fun r=>As Tryz.prog 351 [(O .u8) a0] (An r):=⟨fun {r} h=>by
 refine pw C0 Tryz.func351 ?_
 exact Y⟩
instance {a0:Int}:OK (Rj a0) fun r=>As Tryz.prog 346 [(O .u8) a0] (An r):=⟨fun {r} h=>by
 refine pw C0 Tryz.func346 ?_
 exact Y⟩
instance {a0:Int}:OK (Pd a0) fun r=>As Tryz.prog 347 [(O .u8) a0] (An r):=⟨fun {r} h=>by
 refine pw C0 Tryz.func347 ?_
 exact Y⟩
instance {a0:Int}:OK (Rk a0) fun r=>As Tryz.prog 349 [(O .u8) a0] (An r):=⟨fun {r} h=>by
 refine pw C0 Tryz.func349 ?_
 exact Y⟩
instance {a0:ByteArray}:OK (Up a0) fun r=>As Tryz.prog 348 [Ei a0,(.fn 349 [])] (Ei r):=⟨fun {r} h=>by
 refine pw C0 Tryz.func348 ?_
 refine Z ?_
 refine A2 h (fun v3=>[(5,(O .i64 v3))]) (fun v3=>[]) ?_
 rintro v3 _ _ _ h _ _
 exact Y⟩
instance {a0:ByteArray}:OK (Yh a0) fun r=>As Tryz.prog 348 [Ei a0,(.fn 351 [])] (Ei r):=⟨fun {r} h=>by
 refine pw C0 Tryz.func348 ?_
 refine Z ?_
 refine A2 h (fun v3=>[(5,(O .i64 v3))]) (fun v3=>[]) ?_
 rintro v3 _ _ _ h _ _
 exact Y⟩
instance {a0:ByteArray}:OK (Us a0) fun r=>As Tryz.prog 353 [Ei a0] (Ei r):=⟨fun {r} h=>by
 refine pw C0 Tryz.func353 ?_
 refine ZS ?_
 refine B7 ?_
 refine ZS ?_
 refine B7 ?_
 refine ZO ?_
 refine Ac3 (fun (x:Unit)=>(.inr x)) h (fun _=>[(2,(Ei (ByteArray.mk #[])))]) (fun _=>[]) ?_ ?_
 intro _ h _ _ _
 exact Y
 rintro _ _ h
 exact Y⟩
instance {a0:ByteArray}:OK (Ur a0) fun r=>As Tryz.prog 352 [Ei a0] (An r):=⟨fun {r} h=>by
 refine pw C0 Tryz.func352 ?_
 refine Z ?_
 refine A2 h (fun (v2,v3)=>[(2,(An false)),(3,(O .i64 v2)),(7,(O .i64 v3))]) (fun (v2,v3)=>[]) ?_
 rintro ⟨v2,v3⟩ _ _ _ h _ _
 exact Y⟩
instance {a0:ByteArray} {a1:Int}:OK (Un a0 a1) fun r=>As Tryz.prog 309 [Ei a0,(O .i64) a1] (.tup [Yg r.1,(O .i64) r.2]):=⟨fun {r} h=>by
 refine pw C0 Tryz.func309 ?_
 refine Z ?_
 refine S4 h (fun _ h=>?_)
 refine ZO ?_
 refine K5 (A4 ?_)
 refine Bz h (fun v6=>[(23,(An v6))]) (fun v6=>[]) ?_ ?_
 intro _ h _ _ _
 exact Y
 rintro v6 _ h
 refine Am h (fun _ h=>?_) (fun _ h=>?_)
 exact Y
 refine Z ?_
 refine Bc h (fun _ h=>?_)
 refine Z ?_
 refine Am h (fun _ h=>?_) (fun _ h=>?_)
 refine Z ?_
 refine Abs h (fun _ _ _ _ h=>?_)
 refine Z ?_
 refine Bc h (fun _ h=>?_)
 refine ZO ?_
 refine A4 (A4 ?_)
 refine Bz h (fun v14=>[(67,(An v14))]) (fun v14=>[]) ?_ ?_
 intro _ h _ _ _
 exact Y
 rintro v14 _ h
 exact Y
 exact Y⟩
instance {a0:ByteArray}:OK (Yc a0) fun r=>As Tryz.prog 273 [Ei a0] (.tup [(Av 3 Yg) r.1,(O .i64) r.2.1,(O .i64) r.2.2]):=⟨fun {r} h=>by
 refine pw {T:=Cg,an:=(fun s=>bif Nat.beq s 5 then .own else .ask),nl:=(fun s=>bif Nat.beq s 5 then [(0,3)] else bif Nat.beq s 2 then [(0,3)] else [])} Tryz.func273 ?_
 refine Z ?_
 refine Am h (fun _ h=>?_) (fun _ h=>?_)
 exact Y
 refine Z ?_
 refine A2 h (fun (v26,o27)=>[(2,(.sl 3 (List.map Yg []))),(3,(O .i64 0)),(4,(O .i64 0)),(5,(.arr 0 o27.length 0 o27.length)),(6,(O .i64 v26))]) (fun (v26,o27)=>[(0,.rows 313 3 (List.map Yg o27))]) ?_
 rintro ⟨v26,o27⟩ _ _ _ h _ _
 refine Z ?_
 refine Am h (fun _ h=>?_) (fun _ h=>?_)
 refine Z ?_
 refine S4 h (fun _ h=>?_)
 refine Z ?_
 refine Bc h (fun _ h=>?_)
 refine Z ?_
 refine Am h (fun _ h=>?_) (fun _ h=>?_)
 exact Y
 refine Z ?_
 refine S4 h (fun _ h=>?_)
 refine Z ?_
 refine Am h (fun _ h=>?_) (fun _ h=>?_)
 refine Z ?_
 refine A2 h (fun v32=>[(6,(O .i64 v32))]) (fun v32=>[]) ?_
 rintro v32 _ _ _ h _ _
 exact Y
 exact Y
 exact Y⟩
instance {a0:ByteArray}:OK (O1 a0) fun r=>As Tryz.prog 199 [Ei a0] (An r):=⟨fun {r} h=>by
 refine pw C0 Tryz.func199 ?_
 exact Y⟩
abbrev Aih (k:Nat):Prop:=∀{a0:Ag} {a1:Int},OK (O6 k a0 a1) fun r=>As Tryz.prog 274 [C6 a0,(O .i64) a1] (An r)
abbrev Aii (k:Nat):Prop:=∀{a0:Ag} {b0:Int},OK (Uo k a0 b0) fun r=>Br Tryz.prog 310 [C6 a0,(.loc 0 0)] [.cells 3 [(O .i64 b0)]] (An r) [.cells 3 [(O .i64 b0)]]
abbrev Aij (k:Nat):Prop:=∀{a0:List Ag} {b0:Int},OK (Rl k a0 b0) fun r=>Br Tryz.prog 201 [(Ej 3 Bd) a0,(.fn 310 [(.loc 0 0)])] [.cells 3 [(O .i64 b0)]] (An r) [.cells 3 [(O .i64 b0)]]
abbrev Aik (k:Nat):Prop:=∀{a0:List Ag} {b0:Int},OK (Yi k a0 b0) fun r=>Br Tryz.prog 275 [(Ej 3 Bd) a0,(.fn 310 [(.loc 0 0)])] [.cells 3 [(O .i64 b0)]] ((O .i64) r) [.cells 3 [(O .i64 b0)]]
theorem Yn (k:Nat):Aih k/\Aii k/\Aij k/\Aik k:=by
 induction k with
 | zero=>exact ⟨Dl,Dl,Dl,Dl⟩
 | succ k ih=>
  obtain ⟨i0_,i1_,i2_,i3_⟩:=ih
  refine ⟨@fun a0 a1=>⟨fun {r} h=>?_⟩,@fun a0 b0=>⟨fun {r} h=>?_⟩,@fun a0 b0=>⟨fun {r} h=>?_⟩,@fun a0 b0=>⟨fun {r} h=>?_⟩⟩
  .unfold O6 at h
   refine pw C0 Tryz.func274 ?_
   refine Z ?_
   refine Fx h (fun _ h=>?_) (fun _ h=>?_)
   refine Z ?_
   refine Fx h (fun _ h=>?_) (fun _ h=>?_)
   exact Y
   refine Z ?_
   refine A7 [1] h (fun _ h=>?_)
   exact Y
   refine Z ?_
   refine A7 [1] h (fun _ h=>?_)
   exact Y
  .unfold Uo at h
   refine aw C0 true Tryz.func310 ?_
   exact Y
  .unfold Rl at h
   refine aw C0 true Tryz.func201 ?_
   refine Z ?_
   refine A7 [0] h (fun _ h=>?_)
   exact Y
  .unfold Yi at h
   refine aw C0 true Tryz.func275 ?_
   refine Z ?_
   refine A2 h (fun v3=>[(4,(O .i64 0)),(8,(O .i64 v3))]) (fun v3=>[]) ?_
   rintro v3 _ _ _ h _ _
   refine Z ?_
   refine Am h (fun _ h=>?_) (fun _ h=>?_)
   refine Z ?_
   refine Bn h (fun _ _ _ _ h=>?_)
   refine Z ?_
   refine A7 [0] h (fun _ h=>?_)
   exact Y
   exact Y
instance {k:Nat}:Aih k:=(Yn k).1
instance {k:Nat}:Aii k:=(Yn k).2.1
instance {k:Nat}:Aij k:=(Yn k).2.2.1
instance {k:Nat}:Aik k:=(Yn k).2.2.2
instance {a0:List Al} {a1 a2:Int}:OK (L0 a0 a1 a2) fun r=>As Tryz.prog 271 [(Av 3 Bv) a0,(O .i64) a1,(O .i64) a2] ((Av 1 An) r):=⟨fun {r} h=>by
 refine pw {T:=Cg,an:=(fun _=>.ask),nl:=(fun s=>bif Nat.beq s 6 then [(0,1)] else [])} Tryz.func271 ?_
 refine ZS ?_
 refine B7 ?_
 refine ZO ?_
 refine A4 (A4 ?_)
 refine Bz h (fun v2=>[(34,(An v2))]) (fun v2=>[]) ?_ ?_
 intro _ h _ _ _
 exact Y
 rintro v2 _ h
 refine Am h (fun _ h=>?_) (fun _ h=>?_)
 exact Y
 refine Z ?_
 refine Bn h (fun _ _ _ _ h=>?_)
 refine Z ?_
 refine Bn h (fun _ _ _ _ h=>?_)
 refine Z ?_
 refine Ga h (fun o5 h=>?_)
 refine Z ?_
 refine Fc h (fun (v28,o29)=>[(49,(O .i64 v28))]) (fun (v28,o29)=>[(0,.rows 4 1 (List.map An o29))]) (fun (v28,o29)=>o5.length=o29.length) ?_
 rintro ⟨v28,o29⟩ _ _ _ h _ _ q29
 refine Z ?_
 refine Am h (fun _ h=>?_) (fun _ h=>?_)
 refine Z ?_
 refine Bn h (fun _ v30 _ _ h=>?_)
 refine ZO ?_
 refine A4 ?_
 refine Ag8 h (fun o3_ h hj3=>?_)
 refine S5 (fun (o36:(List Bool))=>o36=o3_/\o5.length=o36.length) (fun o36=>[]) (fun o36=>[(0,.rows 4 1 (List.map An o36))]) (fun _=>rfl) ?_ ?_
 intro K3 hK3
 refine Z ?_
 refine Fx h (fun _ h=>?_) (fun _ h=>?_)
 refine Z ?_
 refine Fx h (fun _ h=>?_) (fun _ h=>?_)
 refine Z ?_
 refine Bn h (fun _ v32 _ _ h=>?_)
 refine Z ?_
 refine Ic h (fun _ _ hiv33 _ h=>?_)
 refine Z ?_
 refine K2 (f:=An) (x:=((v30.Args.length:Int)==v32.Vars)) (j:=v28) rfl rfl (Nat.zero_add _) hiv33 ?_
 refine Z ?_
 exact hK3 (Cp o29 v28 ((v30.Args.length:Int)==v32.Vars)) _ _ _ ⟨(Option.some.inj h),Gi (l:=o29) q29 v28 ((v30.Args.length:Int)==v32.Vars)⟩ trivial ⟨⟨rfl,rfl⟩,⟨rfl,rfl⟩,trivial⟩
 refine Z ?_
 refine Ic h (fun _ _ hiv34 _ h=>?_)
 refine Z ?_
 refine K2 (f:=An) (x:=false) (j:=v28) rfl rfl (Nat.zero_add _) hiv34 ?_
 refine Z ?_
 exact hK3 (Cp o29 v28 false) _ _ _ ⟨(Option.some.inj h),Gi (l:=o29) q29 v28 false⟩ trivial ⟨⟨rfl,rfl⟩,⟨rfl,rfl⟩,trivial⟩
 refine Z ?_
 refine Ic h (fun _ _ hiv35 _ h=>?_)
 refine Z ?_
 refine K2 (f:=An) (x:=false) (j:=v28) rfl rfl (Nat.zero_add _) hiv35 ?_
 refine Z ?_
 exact hK3 (Cp o29 v28 false) _ _ _ ⟨(Option.some.inj h),Gi (l:=o29) q29 v28 false⟩ trivial ⟨⟨rfl,rfl⟩,⟨rfl,rfl⟩,trivial⟩
 rintro o36 u3 ⟨hJ3,q36⟩
 have h:=hj3 _ hJ3
 refine Z ?_
 refine Fc h (fun (v42,o43)=>[(80,(O .i64 v42))]) (fun (v42,o43)=>[(0,.rows 4 1 (List.map An o43))]) (fun (v42,o43)=>o5.length=o43.length) ?_
 rintro ⟨v42,o43⟩ _ _ _ h _ _ q43
 exact Y
 exact Y⟩
abbrev Ail (k:Nat):Prop:=∀{a0:List Ag} {b1:E5},OK (Rm k a0 b1) fun r=>Br Tryz.prog 201 [(Ej 3 Bd) a0,(.fn 209 [(.loc 0 0)])] [.cells 181 [(.loc 1 0)],.cells 183 [(.sl 3 (List.map Bv b1.data)),(O .i64 b1.vars),(O .i64 b1.left)]] (An r.1) [.cells 181 [(.loc 1 0)],.cells 183 [(.sl 3 (List.map Bv r.2.data)),(O .i64 r.2.vars),(O .i64 r.2.left)]]
abbrev Aim (k:Nat):Prop:=∀{a0:List Ag} {b1:E5},OK (Uw k a0 b1) fun r=>Br Tryz.prog 275 [(Ej 3 Bd) a0,(.fn 209 [(.loc 0 0)])] [.cells 181 [(.loc 1 0)],.cells 183 [(.sl 3 (List.map Bv b1.data)),(O .i64 b1.vars),(O .i64 b1.left)]] ((O .i64) r.1) [.cells 181 [(.loc 1 0)],.cells 183 [(.sl 3 (List.map Bv r.2.data)),(O .i64 r.2.vars),(O .i64 r.2.left)]]
abbrev Ain (k:Nat):Prop:=∀{a0:Ag} {b0:E5},OK (Km k a0 b0) fun r=>Br Tryz.prog 139 [(.loc 0 0),C6 a0] [.cells 183 [(.sl 3 (List.map Bv b0.data)),(O .i64 b0.vars),(O .i64 b0.left)]] (An r.1) [.cells 183 [(.sl 3 (List.map Bv r.2.data)),(O .i64 r.2.vars),(O .i64 r.2.left)]]
abbrev Aio (k:Nat):Prop:=∀{a0:Ag} {b1:E5},OK (Ub k a0 b1) fun r=>Br Tryz.prog 209 [C6 a0,(.loc 0 0)] [.cells 181 [(.loc 1 0)],.cells 183 [(.sl 3 (List.map Bv b1.data)),(O .i64 b1.vars),(O .i64 b1.left)]] (An r.1) [.cells 181 [(.loc 1 0)],.cells 183 [(.sl 3 (List.map Bv r.2.data)),(O .i64 r.2.vars),(O .i64 r.2.left)]]
theorem Yo (k:Nat):Ail k/\Aim k/\Ain k/\Aio k:=by
 induction k with
 | zero=>exact ⟨Dl,Dl,Dl,Dl⟩
 | succ k ih=>
  obtain ⟨i0_,i1_,i2_,i3_⟩:=ih
  refine ⟨@fun a0 b1=>⟨fun {r} h=>?_⟩,@fun a0 b1=>⟨fun {r} h=>?_⟩,@fun a0 b0=>⟨fun {r} h=>?_⟩,@fun a0 b1=>⟨fun {r} h=>?_⟩⟩
  .unfold Rm at h
   refine aw C0 true Tryz.func201 ?_
   refine Z ?_
   refine A7 [0,1] h (fun _ h=>?_)
   exact Y
  .unfold Uw at h
   refine aw C0 true Tryz.func275 ?_
   refine Z ?_
   refine A2 h (fun (v3,v4,v5,v6)=>[(4,(O .i64 0)),(8,(O .i64 v3))]) (fun (v3,v4,v5,v6)=>[(1,.cells 183 [(.sl 3 (List.map Bv v4)),(O .i64 v5),(O .i64 v6)])]) ?_
   rintro ⟨v3,v4,v5,v6⟩ _ _ _ h _ _
   refine Z ?_
   refine Am h (fun _ h=>?_) (fun _ h=>?_)
   refine Z ?_
   refine Bn h (fun _ _ _ _ h=>?_)
   refine Z ?_
   refine A7 [0,1] h (fun _ h=>?_)
   exact Y
   exact Y
  .unfold Km at h
   refine aw C0 true Tryz.func139 ?_
   refine Z ?_
   refine Am h (fun _ h=>?_) (fun _ h=>?_)
   exact Y
   refine ZS ?_
   refine B7 ?_
   refine ZS ?_
   refine B7 ?_
   refine ZO ?_
   refine Ac3 (fun (x:(Int×Int))=>(.inl x)) h (fun (v8,v9)=>[(4,(An false)),(5,(O .i64 v8)),(6,(O .i64 v9))]) (fun (v8,v9)=>[]) ?_ ?_
   intro _ h _ _ _
   refine ZS ?_
   refine B7 ?_
   refine ZO ?_
   refine Bz h (fun v3=>[(21,(An v3))]) (fun v3=>[]) ?_ ?_
   intro _ h _ _ _
   exact Y
   rintro v3 _ h
   refine Am h (fun _ h=>?_) (fun _ h=>?_)
   exact Y
   refine Z ?_
   refine Am h (fun _ h=>?_) (fun _ h=>?_)
   exact Y
   refine Z ?_
   refine Am h (fun _ h=>?_) (fun _ h=>?_)
   refine A4 (A4 ?_)
   refine Bz h (fun v4=>[(53,(An v4))]) (fun v4=>[]) ?_ ?_
   intro _ h _ _ _
   exact Y
   rintro v4 _ h
   exact Y
   refine Z ?_
   refine Am h (fun _ h=>?_) (fun _ h=>?_)
   exact Y
   refine ZS ?_
   refine B7 ?_
   refine ZO ?_
   refine Bz h (fun v7=>[(74,(An v7))]) (fun v7=>[]) ?_ ?_
   intro _ h _ _ _
   exact Y
   rintro v7 _ h
   exact Y
   rintro ⟨v8,v9⟩ _ h
   refine A4 (A4 ?_)
   refine Bz h (fun v10=>[(91,(An v10))]) (fun v10=>[]) ?_ ?_
   intro _ h _ _ _
   exact Y
   rintro v10 _ h
   refine Am h (fun _ h=>?_) (fun _ h=>?_)
   exact Y
   refine K4 (A4 (A4 ?_))
   refine Bz h (fun v11=>[(103,(An v11))]) (fun v11=>[]) ?_ ?_
   intro _ h _ _ _
   exact Y
   rintro v11 _ h
   refine Am h (fun _ h=>?_) (fun _ h=>?_)
   exact Y
   refine Z ?_
   refine A7 [1,0] h (fun _ h=>?_)
   exact Y
  .unfold Ub at h
   refine aw C0 true Tryz.func209 ?_
   refine Z ?_
   refine A7 [1] h (fun _ h=>?_)
   exact Y
instance {k:Nat}:Ail k:=(Yo k).1
instance {k:Nat}:Aim k:=(Yo k).2.1
instance {k:Nat}:Ain k:=(Yo k).2.2.1
instance {k:Nat}:Aio k:=(Yo k).2.2.2
instance {a0:List Al} {a1:Ag} {a2:Int}:OK (K6 a0 a1 a2) fun r=>As Tryz.prog 78 [(Av 3 Bv) a0,C6 a1,(O .i64) a2] (An r):=⟨fun {r} h=>by
 refine pw C0 Tryz.func78 ?_
 refine Z ?_
 refine A7 [1] h (fun _ h=>?_)
 exact Y⟩
instance {a0:List Al} {a1 a2:Int}:OK (M7 a0 a1 a2) fun r=>As Tryz.prog 200 [(Av 3 Bv) a0,(O .i64) a1,(O .i64) a2] (An r):=⟨fun {r} h=>by
 refine pw C0 Tryz.func200 ?_
 refine Z ?_
 refine Bn h (fun _ _ _ _ h=>?_)
 refine Z ?_
 refine Bn h (fun _ _ _ _ h=>?_)
 refine Z ?_
 refine Am h (fun _ h=>?_) (fun _ h=>?_)
 exact Y
 refine Z ?_
 refine Bc h (fun _ h=>?_)
 refine Z ?_
 refine A2 h (fun v11=>[(6,(An false)),(29,(O .i64 v11))]) (fun v11=>[]) ?_
 rintro v11 _ _ _ h _ _
 exact Y⟩
instance {a0:List Al}:OK (Tz a0) fun r=>As Tryz.prog 132 [(Av 3 Bv) a0] (An r):=⟨fun {r} h=>by
 refine pw C0 Tryz.func132 ?_
 refine Z ?_
 refine Am h (fun _ h=>?_) (fun _ h=>?_)
 exact Y
 refine Z ?_
 refine A2 h (fun (v31,o32,o33)=>[(2,(An false)),(15,(O .i64 v31))]) (fun (v31,o32,o33)=>[(0,.map (Bk An o32)),(1,.map (Bk An o33))]) ?_
 rintro ⟨v31,o32,o33⟩ _ _ _ h _ _
 refine Z ?_
 refine Am h (fun _ h=>?_) (fun _ h=>?_)
 refine ZS ?_
 refine B7 ?_
 refine ZO ?_
 refine A4 (A4 ?_)
 refine Bz h (fun v41=>[(49,(An v41))]) (fun v41=>[]) ?_ ?_
 intro _ h _ _ _
 refine Z ?_
 refine Bn h (fun _ _ _ _ h=>?_)
 refine Z ?_
 refine Bc h (fun _ h=>?_)
 refine Z ?_
 refine Fx h (fun _ h=>?_) (fun _ h=>?_)
 exact Y
 refine Z ?_
 refine Bn h (fun _ _ _ _ h=>?_)
 refine Z ?_
 refine Xc (f:=An) (l:=o32) rfl (false:Bool) h (fun j_ hb h=>?_) (fun hb h=>?_)
 exact Y
 exact Y
 rintro v41 _ h
 refine Am h (fun _ h=>?_) (fun _ h=>?_)
 exact Y
 refine Z ?_
 refine Bn h (fun _ _ _ _ h=>?_)
 refine Z ?_
 refine S0 (f:=An) (l:=o32) (x:=true) rfl rfl ?_
 refine ZO ?_
 refine A4 (A4 ?_)
 refine Bz h (fun v45=>[(71,(An v45))]) (fun v45=>[]) ?_ ?_
 intro _ h _ _ _
 exact Y
 rintro v45 _ h
 refine Am h (fun _ h=>?_) (fun _ h=>?_)
 exact Y
 refine Z ?_
 refine Bn h (fun _ _ _ _ h=>?_)
 refine Z ?_
 refine A2 h (fun (v52,o53)=>[(2,(An false)),(78,(O .i64 v52))]) (fun (v52,o53)=>[(1,.map (Bk An o53))]) ?_
 rintro ⟨v52,o53⟩ _ _ _ h _ _
 refine Z ?_
 refine Am h (fun _ h=>?_) (fun _ h=>?_)
 refine Z ?_
 refine Bn h (fun _ _ _ _ h=>?_)
 refine Z ?_
 refine Bc h (fun _ h=>?_)
 refine Z ?_
 refine Fx h (fun _ h=>?_) (fun _ h=>?_)
 exact Y
 refine Z ?_
 refine Xc (f:=An) (l:=o53) rfl (false:Bool) h (fun j_ hb h=>?_) (fun hb h=>?_)
 refine Z ?_
 refine Fx h (fun _ h=>?_) (fun _ h=>?_)
 exact Y
 refine Z ?_
 refine Bc h (fun _ h=>?_)
 refine Z ?_
 refine Am h (fun _ h=>?_) (fun _ h=>?_)
 exact Y
 refine Z ?_
 refine S0 (f:=An) (l:=o53) (x:=true) rfl rfl ?_
 exact Y
 refine Z ?_
 refine Bc h (fun _ h=>?_)
 refine Z ?_
 refine Am h (fun _ h=>?_) (fun _ h=>?_)
 exact Y
 refine Z ?_
 refine S0 (f:=An) (l:=o53) (x:=true) rfl rfl ?_
 exact Y
 exact Y
 exact Y⟩
instance {a0:List Al}:OK (Acb a0) fun r=>As Tryz.prog 138 [Pg (Ib.mk a0 [] [] [])] (An r):=⟨fun {r} h=>by
 refine pw C0 Tryz.func138 ?_
 refine Z ?_
 refine Ga h (fun _ h=>?_)
 refine Z ?_
 refine A2 h (fun _=>[(2,(An false)),(18,(O .i64 0))]) (fun _=>[]) ?_
 rintro _ _ _ _ h _ _
 replace h:=Ca h
 refine Z ?_
 refine A2 h (fun _=>[(2,(An false)),(30,(O .i64 0))]) (fun _=>[]) ?_
 rintro _ _ _ _ h _ _
 exact Y⟩
instance {a0:List Al}:OK (Aca a0) fun r=>As Tryz.prog 137 [Pg (Ib.mk a0 [] [] [])] (An r):=⟨fun {r} h=>by
 refine pw C0 Tryz.func137 ?_
 refine Z ?_
 refine Ga h (fun _ h=>?_)
 refine Z ?_
 refine A2 h (fun _=>[(2,(An false)),(17,(O .i64 0))]) (fun _=>[]) ?_
 rintro _ _ _ _ h _ _
 exact Y⟩
instance {a0:List Al}:OK (Ab8 a0) fun r=>As Tryz.prog 135 [Pg (Ib.mk a0 [] [] [])] (An r):=⟨fun {r} h=>by
 refine pw C0 Tryz.func135 ?_
 refine Z ?_
 refine Ga h (fun _ h=>?_)
 refine Z ?_
 refine A2 h (fun _=>[(2,(An false)),(20,(O .i64 0))]) (fun _=>[]) ?_
 rintro _ _ _ _ h _ _
 replace h:=Ca h
 refine Z ?_
 refine A2 h (fun _=>[(2,(An false)),(33,(O .i64 0))]) (fun _=>[]) ?_
 rintro _ _ _ _ h _ _
 exact Y⟩
instance {a0:Ag} {b0:Ib}:OK (Acj a0 b0) fun r=>Br Tryz.prog 202 [C6 a0,(.loc 0 0)] [.cells 125 [(.sl 3 (List.map Bv b0.Data)),(.sl 7 (List.map Pe b0.Codes)),(.sl 3 (Bd b0.Vars)),(.sl 8 (List.map Pf b0.Exprs))]] (An r) [.cells 125 [(.sl 3 (List.map Bv b0.Data)),(.sl 7 (List.map Pe b0.Codes)),(.sl 3 (Bd b0.Vars)),(.sl 8 (List.map Pf b0.Exprs))]]:=⟨fun {r} h=>by
 refine aw C0 true Tryz.func202 ?_
 exact Y⟩
instance {a0:List Ag} {b0:Ib}:OK (Acm a0 b0) fun r=>Br Tryz.prog 275 [(Ej 3 Bd) a0,(.fn 202 [(.loc 0 0)])] [.cells 125 [(.sl 3 (List.map Bv b0.Data)),(.sl 7 (List.map Pe b0.Codes)),(.sl 3 (Bd b0.Vars)),(.sl 8 (List.map Pf b0.Exprs))]] ((O .i64) r) [.cells 125 [(.sl 3 (List.map Bv b0.Data)),(.sl 7 (List.map Pe b0.Codes)),(.sl 3 (Bd b0.Vars)),(.sl 8 (List.map Pf b0.Exprs))]]:=⟨fun {r} h=>by
 refine aw C0 true Tryz.func275 ?_
 refine Z ?_
 refine A2 h (fun v3=>[(4,(O .i64 0)),(8,(O .i64 v3))]) (fun v3=>[]) ?_
 rintro v3 _ _ _ h _ _
 refine Z ?_
 refine Am h (fun _ h=>?_) (fun _ h=>?_)
 refine Z ?_
 refine Bn h (fun _ _ _ _ h=>?_)
 refine Z ?_
 refine A7 [0] h (fun _ h=>?_)
 exact Y
 exact Y⟩
instance {a0:List Ag} {b0:Ib}:OK (Aci a0 b0) fun r=>Br Tryz.prog 201 [(Ej 3 Bd) a0,(.fn 202 [(.loc 0 0)])] [.cells 125 [(.sl 3 (List.map Bv b0.Data)),(.sl 7 (List.map Pe b0.Codes)),(.sl 3 (Bd b0.Vars)),(.sl 8 (List.map Pf b0.Exprs))]] (An r) [.cells 125 [(.sl 3 (List.map Bv b0.Data)),(.sl 7 (List.map Pe b0.Codes)),(.sl 3 (Bd b0.Vars)),(.sl 8 (List.map Pf b0.Exprs))]]:=⟨fun {r} h=>by
 refine aw C0 true Tryz.func201 ?_
 refine Z ?_
 refine A7 [0] h (fun _ h=>?_)
 exact Y⟩
instance {a0:List Al}:OK (Ab6 a0) fun r=>As Tryz.prog 133 [Pg (Ib.mk a0 [] [] [])] (An r):=⟨fun {r} h=>by
 refine pw C0 Tryz.func133 ?_
 refine Z ?_
 refine A7 [0] h (fun _ h=>?_)
 exact Y⟩
instance {a0:List Al}:OK (Oo a0) fun r=>As Tryz.prog 77 [Pg (Ib.mk a0 [] [] [])] (An r):=⟨fun {r} h=>by
 refine pw C0 Tryz.func77 ?_
 exact Y⟩
instance {a0:Int}:OK (Oz a0) fun r=>As Tryz.prog 167 [(O .i64) a0] (An r):=⟨fun {r} h=>by
 refine pw C0 Tryz.func167 ?_
 exact Y⟩
instance {a0 a1:Int}:OK (Jv a0 a1) fun r=>As Tryz.prog 98 [(O .i64) a0,(O .i64) a1] ((O .i64) r):=⟨fun {r} h=>by
 refine pw C0 Tryz.func98 ?_
 exact Y⟩
instance {a0:List Int}:OK (K8 a0) fun r=>As Tryz.prog 101 [(Av 1 (O .i64)) a0] ((O .i64) r):=⟨fun {r} h=>by
 refine pw C0 Tryz.func101 ?_
 refine Z ?_
 refine A2 h (fun v2=>[(2,(O .i64 0)),(8,(O .i64 v2))]) (fun v2=>[]) ?_
 rintro v2 _ _ _ h _ _
 exact Y⟩
instance {a0:Int}:OK (Ya a0) fun r=>As Tryz.prog 256 [(O .i64) a0] (An r):=⟨fun {r} h=>by
 refine pw C0 Tryz.func256 ?_
 exact Y⟩
instance {a0 a1:Int}:OK (T5 a0 a1) fun r=>As Tryz.prog 171 [(O .i64) a0,(O .i64) a1] ((O .i64) r):=⟨fun {r} h=>by
 refine pw C0 Tryz.func171 ?_
 exact Y⟩
instance {a0 a1:C1}:OK (T3 a0 a1) fun r=>As Tryz.prog 170 [Gj a0,Gj a1] ((O .i64) r):=⟨fun {r} h=>by
 refine pw C0 Tryz.func170 ?_
 exact Y⟩
instance {a0 a1:List C1}:OK (X0 a0 a1) fun r=>As Tryz.prog 169 [(Av 2 Gj) a0,(Av 2 Gj) a1,(.fn 170 [])] ((O .i64) r):=⟨fun {r} h=>by
 refine pw C0 Tryz.func169 ?_
 refine Z ?_
 refine A2 h (fun v6=>[(6,(O .i64 0)),(13,(O .i64 v6))]) (fun v6=>[]) ?_
 rintro v6 _ _ _ h _ _
 exact Y⟩
instance {a0 a1:Da}:OK (Kk a0 a1) fun r=>As Tryz.prog 105 [J0 a0,J0 a1] ((O .i64) r):=⟨fun {r} h=>by
 refine pw C0 Tryz.func105 ?_
 exact Y⟩
instance {a0 a1:B8}:OK (Tv a0 a1) fun r=>As Tryz.prog 104 [Ee a0,Ee a1] ((O .i64) r):=⟨fun {r} h=>by
 refine pw C0 Tryz.func104 ?_
 exact Y⟩
instance {a0 a1:List B8}:OK (Xs a0 a1) fun r=>As Tryz.prog 103 [(Av 3 Ee) a0,(Av 3 Ee) a1,(.fn 104 [])] ((O .i64) r):=⟨fun {r} h=>by
 refine pw C0 Tryz.func103 ?_
 refine Z ?_
 refine A2 h (fun v6=>[(6,(O .i64 0)),(13,(O .i64 v6))]) (fun v6=>[]) ?_
 rintro v6 _ _ _ h _ _
 exact Y⟩
abbrev Aip (k:Nat):Prop:=∀{a0 a1:A5},OK (My k a0 a1) fun r=>As Tryz.prog 102 [Fb a0,Fb a1] ((O .i64) r)
abbrev Aiq (k:Nat):Prop:=∀{a0 a1:List A5},OK (T2 k a0 a1) fun r=>As Tryz.prog 168 [(Ej 2 Ht) a0,(Ej 2 Ht) a1,(.fn 102 [])] ((O .i64) r)
theorem Air (k:Nat):Aip k/\Aiq k:=by
 induction k with
 | zero=>exact ⟨Dl,Dl⟩
 | succ k ih=>
  obtain ⟨i0_,i1_⟩:=ih
  refine ⟨@fun a0 a1=>⟨fun {r} h=>?_⟩,@fun a0 a1=>⟨fun {r} h=>?_⟩⟩
  .unfold My at h
   refine pw C0 Tryz.func102 ?_
   exact Y
  .unfold T2 at h
   refine pw C0 Tryz.func168 ?_
   refine Z ?_
   refine A2 h (fun v6=>[(6,(O .i64 0)),(13,(O .i64 v6))]) (fun v6=>[]) ?_
   rintro v6 _ _ _ h _ _
   exact Y
instance {k:Nat}:Aip k:=(Air k).1
instance {k:Nat}:Aiq k:=(Air k).2
instance {a0 a1:Cj}:OK (Tu a0 a1) fun r=>As Tryz.prog 100 [Er a0,Er a1] ((O .i64) r):=⟨fun {r} h=>by
 refine pw C0 Tryz.func100 ?_
 exact Y⟩
instance {a0 a1:List Cj}:OK (Xr a0 a1) fun r=>As Tryz.prog 99 [(Av 3 Er) a0,(Av 3 Er) a1,(.fn 100 [])] ((O .i64) r):=⟨fun {r} h=>by
 refine pw C0 Tryz.func99 ?_
 refine Z ?_
 refine A2 h (fun v6=>[(6,(O .i64 0)),(13,(O .i64 v6))]) (fun v6=>[]) ?_
 rintro v6 _ _ _ h _ _
 exact Y⟩
instance {a0 a1:Ba}:OK (Mw a0 a1) fun r=>As Tryz.prog 52 [Gk a0,Gk a1] ((O .i64) r):=⟨fun {r} h=>by
 refine pw C0 Tryz.func52 ?_
 exact Y⟩
instance {a0:Int}:OK (Gs a0) fun r=>As Tryz.prog 145 [(O .i64) a0] (Ei r):=⟨fun {r} h=>by
 exact Ar2 h⟩
instance {b1:List Int}:OK (Rn b1) fun r=>Br Tryz.prog 213 [(.loc 0 0)] [.cells 187 [(.loc 0 0),(.arr 1 b1.length 0 b1.length)],.rows 5 1 (List.map (O .u8) b1)] (.tup []) [.cells 187 [(.loc 0 0),(.arr 1 b1.length 0 b1.length)],.rows 5 1 (List.map (O .u8) b1)]:=⟨fun {r} h=>by
 cases h
 exact Ar5 _ _⟩
instance {a0:Int} {b1:List Int}:OK (Rf a0 b1) fun r=>Br Tryz.prog 288 [(.loc 0 0),(O .u8) a0] [.cells 187 [(.loc 0 0),(.arr 1 b1.length 0 b1.length)],.rows 5 1 (List.map (O .u8) b1)] (.val .nilIface) [.cells 187 [(.loc 0 0),(.arr 1 r.length 0 r.length)],.rows 5 1 (List.map (O .u8) r)]:=⟨fun {r} h=>by
 refine aw C0 true Tryz.func288 ?_
 refine Z ?_
 refine A7 [0,1] h (fun _ h=>?_)
 exact Y⟩
instance {a0:ByteArray} {b1:List Int}:OK (Fi a0 b1) fun r=>Br Tryz.prog 143 [(.loc 0 0),Ei a0] [.cells 187 [(.loc 0 0),(.arr 1 b1.length 0 b1.length)],.rows 5 1 (List.map (O .u8) b1)] (.tup [(O .i64) r.1,.val .nilIface]) [.cells 187 [(.loc 0 0),(.arr 1 r.2.length 0 r.2.length)],.rows 5 1 (List.map (O .u8) r.2)]:=⟨fun {r} h=>by
 refine aw C0 true Tryz.func143 ?_
 refine Z ?_
 refine A7 [0,1] h (fun _ h=>?_)
 exact Y⟩
abbrev Ais (k:Nat):Prop:=∀{a0:A5} {b1:List Int},OK (O2 k a0 b1) fun r=>Br Tryz.prog 214 [(.loc 0 0),Fb a0] [.cells 187 [(.loc 0 0),(.arr 1 b1.length 0 b1.length)],.rows 5 1 (List.map (O .u8) b1)] (.tup []) [.cells 187 [(.loc 0 0),(.arr 1 r.length 0 r.length)],.rows 5 1 (List.map (O .u8) r)]
theorem Asn (k:Nat):Ais k:=by
 induction k with
 | zero=>exact Dl
 | succ k ih=>
  refine @fun a0 b1=>⟨fun {r} h=>?_⟩
  .unfold O2 at h
   refine aw C0 true Tryz.func214 ?_
   refine Z ?_
   refine Bc h (fun _ h=>?_)
   refine Z ?_
   refine A7 [0,1] h (fun _ h=>?_)
   refine Z ?_
   refine Am h (fun _ h=>?_) (fun _ h=>?_)
   refine Z ?_
   refine A7 [0,1] h (fun _ h=>?_)
   refine Z ?_
   refine A2 h (fun (v15,o16)=>[(20,(O .i64 v15))]) (fun (v15,o16)=>[(0,.cells 187 [(.loc 0 0),(.arr 1 o16.length 0 o16.length)]),(1,.rows 5 1 (List.map (O .u8) o16))]) ?_
   rintro ⟨v15,o16⟩ _ _ _ h _ _
   refine Z ?_
   refine Am h (fun _ h=>?_) (fun _ h=>?_)
   refine Z ?_
   refine Bn h (fun _ _ _ _ h=>?_)
   refine Z ?_
   refine A7 [0,1] h (fun _ h=>?_)
   refine Z ?_
   refine A7 [0,1] h (fun _ h=>?_)
   exact Y
   replace h:=Ca h
   refine Z ?_
   refine A7 [0,1] h (fun _ h=>?_)
   exact Y
   exact Y
instance {k:Nat}:Ais k:=(Asn k)
instance {b1:List Int}:OK (Jy b1) fun r=>Br Tryz.prog 147 [(.loc 0 0)] [.cells 187 [(.loc 0 0),(.arr 1 b1.length 0 b1.length)],.rows 5 1 (List.map (O .u8) b1)] (Ei r) [.cells 187 [(.loc 0 0),(.arr 1 b1.length 0 b1.length)],.dead]:=⟨fun {r} h=>by
 exact Ah8 h⟩
instance {b1:List Int}:OK (Ue b1) fun r=>Br Tryz.prog 213 [(.loc 0 0)] [.cells 187 [(.val (.pointer none)),(.arr 1 b1.length 0 b1.length)],.rows 5 1 (List.map (O .u8) b1)] (.tup []) [.cells 187 [(.loc 0 0),(.arr 1 b1.length 0 b1.length)],.rows 5 1 (List.map (O .u8) b1)]:=⟨fun {r} h=>by
 cases h
 exact Ar6 _ _⟩
instance {a0:ByteArray} {b1:List Int}:OK (H9 a0 b1) fun r=>Br Tryz.prog 143 [(.loc 0 0),Ei a0] [.cells 187 [(.val (.pointer none)),(.arr 1 b1.length 0 b1.length)],.rows 5 1 (List.map (O .u8) b1)] (.tup [(O .i64) r.1,(.val .nilIface)]) [.cells 187 [(.loc 0 0),(.arr 1 r.2.length 0 r.2.length)],.rows 5 1 (List.map (O .u8) r.2)]:=⟨fun {r} h=>by
 refine aw C0 true Tryz.func143 ?_
 refine Z ?_
 refine A7 [0,1] h (fun _ h=>?_)
 exact Y⟩
instance {a0:Int} {a1:A5}:OK (M5 a0 a1) fun r=>As Tryz.prog 144 [(O .i64) a0,Fb a1] (Ei r):=⟨fun {r} h=>by
 refine pw C0 Tryz.func144 ?_
 refine ZS ?_
 refine B7 ?_
 refine ZS ?_
 refine B7 ?_
 refine ZO ?_
 refine A4 ?_
 refine D5 [.own 5 1 5 1] ?_
 refine Z ?_
 refine Bc h (fun _ h=>?_)
 refine Z ?_
 refine Fw h (fun h=>?_)
 refine Z ?_
 refine Fw h (fun h=>?_)
 refine Z ?_
 refine A7 [1,2] h (fun _ h=>?_)
 refine Z ?_
 refine A7 [1,2] h (fun _ h=>?_)
 refine Z ?_
 refine A7 [1,2] h (fun _ h=>?_)
 exact Y⟩
abbrev Ait (k:Nat):Prop:=∀{a0:Ag},OK (M8 k a0) fun r=>As Tryz.prog 265 [C6 a0] ((O .i64) r)
theorem Aso (k:Nat):Ait k:=by
 induction k with
 | zero=>exact Dl
 | succ k ih=>
  refine @fun a0=>⟨fun {r} h=>?_⟩
  .unfold M8 at h
   refine pw C0 Tryz.func265 ?_
   refine Z ?_
   refine A2 h (fun (v5,v6)=>[(3,(O .i64 v5)),(9,(O .i64 v6))]) (fun (v5,v6)=>[]) ?_
   rintro ⟨v5,v6⟩ _ _ _ h _ _
   exact Y
instance {k:Nat}:Ait k:=(Aso k)
end Go.Ab
namespace Go.Ab
open Go Go.Proofs
set_option maxRecDepth 10000
set_option maxHeartbeats 4000000
set_option linter.unusedVariables false
abbrev Aiu (k:Nat):Prop:=∀{a0:Ag} {a1:List Ag},OK (Lz k a0 a1) fun r=>As Tryz.prog 267 [C6 a0,(Ej 3 Bd) a1] (C6 r)
theorem Asp (k:Nat):Aiu k:=by
 induction k with
 | zero=>exact Dl
 | succ k ih=>
  refine @fun a0 a1=>⟨fun {r} h=>?_⟩
  .unfold Lz at h
   refine pw {T:=Cg,an:=(fun _=>.ask),nl:=(fun s=>bif Nat.beq s 42 then [(0,3)] else [])} Tryz.func267 ?_
   refine ZS ?_
   refine B7 ?_
   refine ZO ?_
   refine A4 (A4 ?_)
   refine Bz h (fun v3=>[(22,(An v3))]) (fun v3=>[]) ?_ ?_
   intro _ h _ _ _
   exact Y
   rintro v3 _ h
   refine Am h (fun _ h=>?_) (fun _ h=>?_)
   exact Y
   refine ZS ?_
   refine B7 ?_
   refine ZO ?_
   refine A4 (A4 ?_)
   refine D5 [.own 5 2 25 3] ?_
   refine Z ?_
   refine A2 h (fun (v18,o19)=>[(37,(O .i64 v18))]) (fun (v18,o19)=>[(2,.cells 25 [(O .i64 a0.Kind),(O .i64 a0.Num),(.arr 3 o19.length 0 o19.length)]),(3,.rows 25 3 (Bd o19))]) ?_
   rintro ⟨v18,o19⟩ _ _ _ h _ _
   exact Y
instance {k:Nat}:Aiu k:=(Asp k)
abbrev Aiv (k:Nat):Prop:=∀{a0:Ag} {a1:List Int},OK (M9 k a0 a1) fun r=>As Tryz.prog 266 [C6 a0,(Av 1 (O .i64)) a1] ((O .i64) r)
theorem Asq (k:Nat):Aiv k:=by
 induction k with
 | zero=>exact Dl
 | succ k ih=>
  refine @fun a0 a1=>⟨fun {r} h=>?_⟩
  .unfold M9 at h
   refine pw C0 Tryz.func266 ?_
   refine ZS ?_
   refine B7 ?_
   refine ZO ?_
   refine A4 (A4 ?_)
   refine Bz h (fun v2=>[(22,(An v2))]) (fun v2=>[]) ?_ ?_
   intro _ h _ _ _
   exact Y
   rintro v2 _ h
   refine Am h (fun _ h=>?_) (fun _ h=>?_)
   exact Y
   refine Z ?_
   refine A2 h (fun (v7,v8)=>[(5,(O .i64 v7)),(31,(O .i64 v8))]) (fun (v7,v8)=>[]) ?_
   rintro ⟨v7,v8⟩ _ _ _ h _ _
   exact Y
instance {k:Nat}:Aiv k:=(Asq k)
instance {a0:List Al} {a1:Ag} {a2:Int}:OK (Ro a0 a1 a2) fun r=>As Tryz.prog 193 [(Av 3 Bv) a0,C6 a1,(O .i64) a2] (.tup [(Ej 3 Bd) r.1,An r.2]):=⟨fun {r} h=>by
 refine pw {T:=Cg,an:=(fun s=>bif Nat.beq s 14 then .own else .ask),nl:=(fun s=>bif Nat.beq s 14 then [(0,3)] else bif Nat.beq s 6 then [(0,3)] else [])} Tryz.func193 ?_
 refine ZS ?_
 refine B7 ?_
 refine ZO ?_
 refine A4 (A4 ?_)
 refine Bz h (fun v2=>[(31,(An v2))]) (fun v2=>[]) ?_ ?_
 intro _ h _ _ _
 exact Y
 rintro v2 _ h
 refine Am h (fun _ h=>?_) (fun _ h=>?_)
 exact Y
 refine Z ?_
 refine Bn h (fun _ _ _ _ h=>?_)
 refine ZO ?_
 refine A4 (A4 ?_)
 refine Bz h (fun v5=>[(53,(An v5))]) (fun v5=>[]) ?_ ?_
 intro _ h _ _ _
 exact Y
 rintro v5 _ h
 refine Am h (fun _ h=>?_) (fun _ h=>?_)
 exact Y
 refine Z ?_
 refine Ga h (fun o6 h=>?_)
 refine Z ?_
 refine Fc h (fun (v12,o13)=>[(61,(O .i64 v12))]) (fun (v12,o13)=>[(2,.rows 3 1 (List.map (O .i64) o13))]) (fun (v12,o13)=>o6.length=o13.length) ?_
 rintro ⟨v12,o13⟩ _ _ _ h _ _ q13
 refine Z ?_
 refine Am h (fun _ h=>?_) (fun _ h=>?_)
 exact Y
 replace h:=Ca h
 refine Z ?_
 refine Bn h (fun _ _ _ _ h=>?_)
 refine ZO ?_
 refine K5 ?_
 refine D5 [.fz 9] ?_
 refine Z ?_
 refine A2 h (fun v23=>[(6,(.sl 3 (Bd []))),(7,(An false)),(79,(O .i64 v23))]) (fun v23=>[]) ?_
 rintro v23 _ _ _ h _ _
 refine Z ?_
 refine Am h (fun _ h=>?_) (fun _ h=>?_)
 exact Y
 replace h:=Ca h
 refine Z ?_
 refine Bn h (fun _ _ _ _ h=>?_)
 refine Z ?_
 refine A2 h (fun (v41,o42)=>[(14,(.arr 3 o42.length 0 o42.length)),(95,(O .i64 v41))]) (fun (v41,o42)=>[(3,.rows 25 3 (Bd o42))]) ?_
 rintro ⟨v41,o42⟩ _ _ _ h _ _
 exact Y⟩
abbrev Aiw (k:Nat):Prop:=∀{a0:Ag} {a1:A5} {b1:List (ByteArray×Int)} {b2:List (ByteArray×(List Df))} {b0_0:List Al} {b0_1:List Ag} {b0_2 b0_3:Int} {b0_4:List Ag},OK (Pa k a0 a1 b1 b2 b0_0 b0_1 b0_2 b0_3 b0_4) fun r=>Br Tryz.prog 315 [(.loc 0 0),C6 a0,Fb a1] [.cells 129 [(.sl 3 (List.map Bv b0_0)),(.sl 3 (Bd b0_1)),(O .i64 b0_2),(O .i64 b0_3),(.sl 3 (Bd b0_4)),(.mp 1),(.mp 2)],.map (Bk (O .i64) b1),.map (Bk (Av 5 Eb) b2)] ((O .i64) r) [.cells 129 [(.sl 3 (List.map Bv b0_0)),(.sl 3 (Bd b0_1)),(O .i64 b0_2),(O .i64 b0_3),(.sl 3 (Bd b0_4)),(.mp 1),(.mp 2)],.map (Bk (O .i64) b1),.map (Bk (Av 5 Eb) b2)]
abbrev Aix (k:Nat):Prop:=∀{a0:Ag} {a1:A5} {b1:List (ByteArray×Int)} {b2:List (ByteArray×(List Df))} {b0_0:List Al} {b0_1:List Ag} {b0_2 b0_3:Int} {b0_4:List Ag},OK (Nb k a0 a1 b1 b2 b0_0 b0_1 b0_2 b0_3 b0_4) fun r=>Br Tryz.prog 286 [(.loc 0 0),C6 a0,Fb a1] [.cells 129 [(.sl 3 (List.map Bv b0_0)),(.sl 3 (Bd b0_1)),(O .i64 b0_2),(O .i64 b0_3),(.sl 3 (Bd b0_4)),(.mp 1),(.mp 2)],.map (Bk (O .i64) b1),.map (Bk (Av 5 Eb) b2)] ((O .i64) r) [.cells 129 [(.sl 3 (List.map Bv b0_0)),(.sl 3 (Bd b0_1)),(O .i64 b0_2),(O .i64 b0_3),(.sl 3 (Bd b0_4)),(.mp 1),(.mp 2)],.map (Bk (O .i64) b1),.map (Bk (Av 5 Eb) b2)]
abbrev Aiy (k:Nat):Prop:=∀{a0:List Ag} {a1:List A5} {b1:List (ByteArray×Int)} {b2:List (ByteArray×(List Df))} {b0_0:List Al} {b0_1:List Ag} {b0_2 b0_3:Int} {b0_4:List Ag},OK (O9 k a0 a1 b1 b2 b0_0 b0_1 b0_2 b0_3 b0_4) fun r=>Br Tryz.prog 314 [(.loc 0 0),(Ej 3 Bd) a0,(Ej 2 Ht) a1] [.cells 129 [(.sl 3 (List.map Bv b0_0)),(.sl 3 (Bd b0_1)),(O .i64 b0_2),(O .i64 b0_3),(.sl 3 (Bd b0_4)),(.mp 1),(.mp 2)],.map (Bk (O .i64) b1),.map (Bk (Av 5 Eb) b2)] ((O .i64) r) [.cells 129 [(.sl 3 (List.map Bv b0_0)),(.sl 3 (Bd b0_1)),(O .i64 b0_2),(O .i64 b0_3),(.sl 3 (Bd b0_4)),(.mp 1),(.mp 2)],.map (Bk (O .i64) b1),.map (Bk (Av 5 Eb) b2)]
theorem Ac4 (k:Nat):Aiw k/\Aix k/\Aiy k:=by
 induction k with
 | zero=>exact ⟨Dl,Dl,Dl⟩
 | succ k ih=>
  obtain ⟨i0_,i1_,i2_⟩:=ih
  refine ⟨@fun a0 a1 b1 b2 b0_0 b0_1 b0_2 b0_3 b0_4=>⟨fun {r} h=>?_⟩,@fun a0 a1 b1 b2 b0_0 b0_1 b0_2 b0_3 b0_4=>⟨fun {r} h=>?_⟩,@fun a0 a1 b1 b2 b0_0 b0_1 b0_2 b0_3 b0_4=>⟨fun {r} h=>?_⟩⟩
  .unfold Pa at h
   refine aw {T:=Cg,an:=(fun s=>bif Nat.beq s 9 then .own else .ask),nl:=(fun s=>bif Nat.beq s 9 then [(0,3)] else [])} true Tryz.func315 ?_
   refine Z ?_
   refine Bc h (fun _ h=>?_)
   refine Z ?_
   refine Am h (fun _ h=>?_) (fun _ h=>?_)
   exact Y
   refine Z ?_
   refine Bc h (fun _ h=>?_)
   refine Z ?_
   refine A2 h (fun (v14,o15)=>[(9,(.arr 5 o15.length 0 o15.length)),(38,(O .i64 v14))]) (fun (v14,o15)=>[(5,.rows 25 3 (Bd o15))]) ?_
   rintro ⟨v14,o15⟩ _ _ _ h _ _
   refine Z ?_
   refine Am h (fun _ h=>?_) (fun _ h=>?_)
   exact Y
   replace h:=Ca h
   refine Gq (Gn rfl (A4 ?_))
   refine D5 [.fz 9] ?_
   refine Z ?_
   refine A7 [0,1,2] h (fun _ h=>?_)
   exact Y
  .unfold Nb at h
   refine aw C0 true Tryz.func286 ?_
   refine Z ?_
   refine Am h (fun _ h=>?_) (fun _ h=>?_)
   refine Z ?_
   refine Am h (fun _ h=>?_) (fun _ h=>?_)
   refine Z ?_
   refine A7 [0,1,2] h (fun _ h=>?_)
   exact Y
   exact Y
   refine Z ?_
   refine Am h (fun _ h=>?_) (fun _ h=>?_)
   exact Y
   refine Z ?_
   refine Am h (fun _ h=>?_) (fun _ h=>?_)
   refine Z ?_
   refine Am h (fun _ h=>?_) (fun _ h=>?_)
   exact Y
   refine Z ?_
   refine A2 h (fun (v7,v8)=>[(6,(O .i64 0)),(7,(O .i64 v7)),(50,(O .i64 v8))]) (fun (v7,v8)=>[]) ?_
   rintro ⟨v7,v8⟩ _ _ _ h _ _
   refine Z ?_
   refine Am h (fun _ h=>?_) (fun _ h=>?_)
   refine Z ?_
   refine Bn h (fun _ _ _ _ h=>?_)
   refine Z ?_
   refine A7 [0,1,2] h (fun _ h=>?_)
   exact Y
   exact Y
   exact Y
  .unfold O9 at h
   refine aw C0 true Tryz.func314 ?_
   refine Z ?_
   refine Am h (fun _ h=>?_) (fun _ h=>?_)
   exact Y
   refine Z ?_
   refine A2 h (fun (v5,v6)=>[(6,(O .i64 0)),(7,(O .i64 v5)),(18,(O .i64 v6))]) (fun (v5,v6)=>[]) ?_
   rintro ⟨v5,v6⟩ _ _ _ h _ _
   refine Z ?_
   refine Am h (fun _ h=>?_) (fun _ h=>?_)
   refine Z ?_
   refine Bn h (fun _ _ _ _ h=>?_)
   refine Z ?_
   refine Bn h (fun _ _ _ _ h=>?_)
   refine Z ?_
   refine A7 [0,1,2] h (fun _ h=>?_)
   exact Y
   exact Y
instance {k:Nat}:Aiw k:=(Ac4 k).1
instance {k:Nat}:Aix k:=(Ac4 k).2.1
instance {k:Nat}:Aiy k:=(Ac4 k).2.2
instance {a0:Int} {b1:List (ByteArray×Int)} {b2:List (ByteArray×(List Df))} {b0_0:List Al} {b0_1:List Ag} {b0_2 b0_3:Int} {b0_4:List Ag}:OK (Kj a0 b1 b2 b0_0 b0_1 b0_2 b0_3 b0_4) fun r=>Br Tryz.prog 68 [(.loc 0 0),(O .i64) a0] [.cells 129 [(.sl 3 (List.map Bv b0_0)),(.sl 3 (Bd b0_1)),(O .i64 b0_2),(O .i64 b0_3),(.sl 3 (Bd b0_4)),(.mp 1),(.mp 2)],.map (Bk (O .i64) b1),.map (Bk (Av 5 Eb) b2)] (C6 r) [.cells 129 [(.sl 3 (List.map Bv b0_0)),(.sl 3 (Bd b0_1)),(O .i64 b0_2),(O .i64 b0_3),(.sl 3 (Bd b0_4)),(.mp 1),(.mp 2)],.map (Bk (O .i64) b1),.map (Bk (Av 5 Eb) b2)]:=⟨fun {r} h=>by
 refine aw C0 true Tryz.func68 ?_
 exact Y⟩
instance {a0:Int} {a1:A5} {b1:List (ByteArray×Int)} {b2:List (ByteArray×(List Df))} {b0_0:List Al} {b0_1:List Ag} {b0_2 b0_3:Int} {b0_4:List Ag}:OK (Lb a0 a1 b1 b2 b0_0 b0_1 b0_2 b0_3 b0_4) fun r=>Br Tryz.prog 212 [(.loc 0 0),(O .i64) a0,Fb a1] [.cells 129 [(.sl 3 (List.map Bv b0_0)),(.sl 3 (Bd b0_1)),(O .i64 b0_2),(O .i64 b0_3),(.sl 3 (Bd b0_4)),(.mp 1),(.mp 2)],.map (Bk (O .i64) b1),.map (Bk (Av 5 Eb) b2)] ((O .i64) r.1) [.cells 129 [(.sl 3 (List.map Bv b0_0)),(.sl 3 (Bd b0_1)),(O .i64 b0_2),(O .i64 b0_3),(.sl 3 (Bd b0_4)),(.mp 1),(.mp 2)],.map (Bk (O .i64) r.2),.map (Bk (Av 5 Eb) b2)]:=⟨fun {r} h=>by
 refine aw C0 true Tryz.func212 ?_
 refine Z ?_
 refine Bc h (fun _ h=>?_)
 refine ZO ?_
 refine A4 ?_
 refine Bz h (fun (v3,v4)=>[(8,(O .i64 v3)),(9,(An v4))]) (fun (v3,v4)=>[]) ?_ ?_
 intro _ h _ _ _
 refine Z ?_
 refine Xc (f:=(O .i64)) (l:=b1) rfl (0:Int) h (fun j_ hb h=>?_) (fun hb h=>?_)
 exact Y
 exact Y
 rintro ⟨v3,v4⟩ _ h
 refine Z ?_
 refine Am h (fun _ h=>?_) (fun _ h=>?_)
 refine Z ?_
 refine A7 [0,1,2] h (fun _ h=>?_)
 refine Z ?_
 refine A7 [0,1,2] h (fun _ h=>?_)
 refine ZS ?_
 refine B7 ?_
 refine ZO ?_
 refine Bz h (fun v7=>[(8,(O .i64 v7))]) (fun v7=>[]) ?_ ?_
 intro _ h _ _ _
 exact Y
 rintro v7 _ h
 refine Z ?_
 refine S0 (f:=(O .i64)) (l:=b1) (x:=v7) rfl rfl ?_
 exact Y
 exact Y⟩
instance {a0:Ba} {b1:List (ByteArray×Int)} {b2:List (ByteArray×(List Df))} {b0_0:List Al} {b0_1:List Ag} {b0_2 b0_3:Int} {b0_4:List Ag}:OK (Ud a0 b1 b2 b0_0 b0_1 b0_2 b0_3 b0_4) fun r=>Br Tryz.prog 211 [(.loc 0 0),Gk a0] [.cells 129 [(.sl 3 (List.map Bv b0_0)),(.sl 3 (Bd b0_1)),(O .i64 b0_2),(O .i64 b0_3),(.sl 3 (Bd b0_4)),(.mp 1),(.mp 2)],.map (Bk (O .i64) b1),.map (Bk (Av 5 Eb) b2)] ((O .i64) r.1) [.cells 129 [(.sl 3 (List.map Bv b0_0)),(.sl 3 (Bd b0_1)),(O .i64 b0_2),(O .i64 b0_3),(.sl 3 (Bd b0_4)),(.mp 1),(.mp 2)],.map (Bk (O .i64) r.2),.map (Bk (Av 5 Eb) b2)]:=⟨fun {r} h=>by
 refine aw C0 true Tryz.func211 ?_
 refine Z ?_
 refine A2 h (fun (v5,v6,o7)=>[(5,(O .i64 v5)),(13,(O .i64 v6))]) (fun (v5,v6,o7)=>[(1,.map (Bk (O .i64) o7))]) ?_
 rintro ⟨v5,v6,o7⟩ _ _ _ h _ _
 refine Z ?_
 refine Am h (fun _ h=>?_) (fun _ h=>?_)
 refine Z ?_
 refine Bn h (fun _ _ _ _ h=>?_)
 refine Z ?_
 refine Am h (fun _ h=>?_) (fun _ h=>?_)
 refine Z ?_
 refine A7 [0,1,2] h (fun _ h=>?_)
 exact Y
 exact Y
 replace h:=Ca h
 refine Z ?_
 refine A2 h (fun (v15,v16)=>[(5,(O .i64 v15)),(31,(O .i64 v16))]) (fun (v15,v16)=>[]) ?_
 rintro ⟨v15,v16⟩ _ _ _ h _ _
 exact Y⟩
instance {a0:Int} {b1:List (ByteArray×Int)} {b2:List (ByteArray×(List Df))} {b0_0:List Al} {b0_1:List Ag} {b0_2 b0_3:Int} {b0_4:List Ag}:OK (Oy a0 b1 b2 b0_0 b0_1 b0_2 b0_3 b0_4) fun r=>Br Tryz.prog 162 [(.loc 0 0),(O .i64) a0] [.cells 129 [(.sl 3 (List.map Bv b0_0)),(.sl 3 (Bd b0_1)),(O .i64 b0_2),(O .i64 b0_3),(.sl 3 (Bd b0_4)),(.mp 1),(.mp 2)],.map (Bk (O .i64) b1),.map (Bk (Av 5 Eb) b2)] (An r) [.cells 129 [(.sl 3 (List.map Bv b0_0)),(.sl 3 (Bd b0_1)),(O .i64 b0_2),(O .i64 b0_3),(.sl 3 (Bd b0_4)),(.mp 1),(.mp 2)],.map (Bk (O .i64) b1),.map (Bk (Av 5 Eb) b2)]:=⟨fun {r} h=>by
 refine aw C0 true Tryz.func162 ?_
 exact Y⟩
instance {a0:C1} {b2:List (ByteArray×Int)} {b3:List (ByteArray×(List Df))} {b1_0:List Al} {b1_1:List Ag} {b1_2 b1_3:Int} {b1_4:List Ag}:OK (Q4 a0 b2 b3 b1_0 b1_1 b1_2 b1_3 b1_4) fun r=>Br Tryz.prog 161 [Gj a0,(.loc 0 0)] [.cells 66 [(.loc 1 0)],.cells 129 [(.sl 3 (List.map Bv b1_0)),(.sl 3 (Bd b1_1)),(O .i64 b1_2),(O .i64 b1_3),(.sl 3 (Bd b1_4)),(.mp 2),(.mp 3)],.map (Bk (O .i64) b2),.map (Bk (Av 5 Eb) b3)] (An r) [.cells 66 [(.loc 1 0)],.cells 129 [(.sl 3 (List.map Bv b1_0)),(.sl 3 (Bd b1_1)),(O .i64 b1_2),(O .i64 b1_3),(.sl 3 (Bd b1_4)),(.mp 2),(.mp 3)],.map (Bk (O .i64) b2),.map (Bk (Av 5 Eb) b3)]:=⟨fun {r} h=>by
 refine aw C0 true Tryz.func161 ?_
 refine Z ?_
 refine A7 [1,2,3] h (fun _ h=>?_)
 refine Z ?_
 refine Fx h (fun _ h=>?_) (fun _ h=>?_)
 exact Y
 refine Z ?_
 refine A7 [1,2,3] h (fun _ h=>?_)
 refine Z ?_
 refine Sr.mk 3 (by kernel_rfl) ?_
 exact Y⟩
instance {a0:List C1} {b2:List (ByteArray×Int)} {b3:List (ByteArray×(List Df))} {b1_0:List Al} {b1_1:List Ag} {b1_2 b1_3:Int} {b1_4:List Ag}:OK (X2 a0 b2 b3 b1_0 b1_1 b1_2 b1_3 b1_4) fun r=>Br Tryz.prog 234 [(Av 2 Gj) a0,(.fn 161 [(.loc 0 0)])] [.cells 66 [(.loc 1 0)],.cells 129 [(.sl 3 (List.map Bv b1_0)),(.sl 3 (Bd b1_1)),(O .i64 b1_2),(O .i64 b1_3),(.sl 3 (Bd b1_4)),(.mp 2),(.mp 3)],.map (Bk (O .i64) b2),.map (Bk (Av 5 Eb) b3)] ((O .i64) r) [.cells 66 [(.loc 1 0)],.cells 129 [(.sl 3 (List.map Bv b1_0)),(.sl 3 (Bd b1_1)),(O .i64 b1_2),(O .i64 b1_3),(.sl 3 (Bd b1_4)),(.mp 2),(.mp 3)],.map (Bk (O .i64) b2),.map (Bk (Av 5 Eb) b3)]:=⟨fun {r} h=>by
 refine aw C0 true Tryz.func234 ?_
 refine Z ?_
 refine A2 h (fun v3=>[(4,(O .i64 0)),(8,(O .i64 v3))]) (fun v3=>[]) ?_
 rintro v3 _ _ _ h _ _
 refine Z ?_
 refine Am h (fun _ h=>?_) (fun _ h=>?_)
 refine Z ?_
 refine Bn h (fun _ _ _ _ h=>?_)
 refine Z ?_
 refine A7 [0,1,2,3] h (fun _ h=>?_)
 exact Y
 exact Y⟩
instance {a0:List C1} {b2:List (ByteArray×Int)} {b3:List (ByteArray×(List Df))} {b1_0:List Al} {b1_1:List Ag} {b1_2 b1_3:Int} {b1_4:List Ag}:OK (Xy a0 b2 b3 b1_0 b1_1 b1_2 b1_3 b1_4) fun r=>Br Tryz.prog 160 [(Av 2 Gj) a0,(.fn 161 [(.loc 0 0)])] [.cells 66 [(.loc 1 0)],.cells 129 [(.sl 3 (List.map Bv b1_0)),(.sl 3 (Bd b1_1)),(O .i64 b1_2),(O .i64 b1_3),(.sl 3 (Bd b1_4)),(.mp 2),(.mp 3)],.map (Bk (O .i64) b2),.map (Bk (Av 5 Eb) b3)] (An r) [.cells 66 [(.loc 1 0)],.cells 129 [(.sl 3 (List.map Bv b1_0)),(.sl 3 (Bd b1_1)),(O .i64 b1_2),(O .i64 b1_3),(.sl 3 (Bd b1_4)),(.mp 2),(.mp 3)],.map (Bk (O .i64) b2),.map (Bk (Av 5 Eb) b3)]:=⟨fun {r} h=>by
 refine aw C0 true Tryz.func160 ?_
 refine Z ?_
 refine A7 [0,1,2,3] h (fun _ h=>?_)
 exact Y⟩
instance {a0:Da} {b1:List (ByteArray×Int)} {b2:List (ByteArray×(List Df))} {b0_0:List Al} {b0_1:List Ag} {b0_2 b0_3:Int} {b0_4:List Ag}:OK (Ot a0 b1 b2 b0_0 b0_1 b0_2 b0_3 b0_4) fun r=>Br Tryz.prog 90 [(.loc 0 0),J0 a0] [.cells 129 [(.sl 3 (List.map Bv b0_0)),(.sl 3 (Bd b0_1)),(O .i64 b0_2),(O .i64 b0_3),(.sl 3 (Bd b0_4)),(.mp 1),(.mp 2)],.map (Bk (O .i64) b1),.map (Bk (Av 5 Eb) b2)] (An r) [.cells 129 [(.sl 3 (List.map Bv b0_0)),(.sl 3 (Bd b0_1)),(O .i64 b0_2),(O .i64 b0_3),(.sl 3 (Bd b0_4)),(.mp 1),(.mp 2)],.map (Bk (O .i64) b1),.map (Bk (Av 5 Eb) b2)]:=⟨fun {r} h=>by
 refine aw C0 true Tryz.func90 ?_
 refine Z ?_
 refine A7 [3,0,1,2] h (fun _ h=>?_)
 exact Y⟩
instance {a0:Ba} {b1:List (ByteArray×Int)} {b2:List (ByteArray×(List Df))} {b0_0:List Al} {b0_1:List Ag} {b0_2 b0_3:Int} {b0_4:List Ag}:OK (Uc a0 b1 b2 b0_0 b0_1 b0_2 b0_3 b0_4) fun r=>Br Tryz.prog 210 [(.loc 0 0),Gk a0] [.cells 129 [(.sl 3 (List.map Bv b0_0)),(.sl 3 (Bd b0_1)),(O .i64 b0_2),(O .i64 b0_3),(.sl 3 (Bd b0_4)),(.mp 1),(.mp 2)],.map (Bk (O .i64) b1),.map (Bk (Av 5 Eb) b2)] (An r.1) [.cells 129 [(.sl 3 (List.map Bv b0_0)),(.sl 3 (Bd b0_1)),(O .i64 b0_2),(O .i64 b0_3),(.sl 3 (Bd b0_4)),(.mp 1),(.mp 2)],.map (Bk (O .i64) r.2),.map (Bk (Av 5 Eb) b2)]:=⟨fun {r} h=>by
 refine aw C0 true Tryz.func210 ?_
 refine Z ?_
 refine A2 h (fun (v6,o7)=>[(4,(An false)),(12,(O .i64 v6))]) (fun (v6,o7)=>[(1,.map (Bk (O .i64) o7))]) ?_
 rintro ⟨v6,o7⟩ _ _ _ h _ _
 refine Z ?_
 refine Am h (fun _ h=>?_) (fun _ h=>?_)
 refine Z ?_
 refine Bn h (fun _ _ _ _ h=>?_)
 refine Z ?_
 refine A7 [0,1,2] h (fun _ h=>?_)
 refine Z ?_
 refine Fx h (fun _ h=>?_) (fun _ h=>?_)
 exact Y
 refine Z ?_
 refine A7 [0,1,2] h (fun _ h=>?_)
 exact Y
 replace h:=Ca h
 refine Z ?_
 refine A2 h (fun v18=>[(4,(An false)),(34,(O .i64 v18))]) (fun v18=>[]) ?_
 rintro v18 _ _ _ h _ _
 refine Z ?_
 refine Am h (fun _ h=>?_) (fun _ h=>?_)
 refine Z ?_
 refine Bn h (fun _ _ _ _ h=>?_)
 refine Z ?_
 refine Fx h (fun _ h=>?_) (fun _ h=>?_)
 exact Y
 refine Z ?_
 refine A7 [0,1,2] h (fun _ h=>?_)
 exact Y
 exact Y⟩
instance {a0:Ba} {b1:List (ByteArray×Int)} {b2:List (ByteArray×(List Df))} {b0_0:List Al} {b0_1:List Ag} {b0_2 b0_3:Int} {b0_4:List Ag}:OK (Qz a0 b1 b2 b0_0 b0_1 b0_2 b0_3 b0_4) fun r=>Br Tryz.prog 142 [(.loc 0 0),Gk a0] [.cells 129 [(.sl 3 (List.map Bv b0_0)),(.sl 3 (Bd b0_1)),(O .i64 b0_2),(O .i64 b0_3),(.sl 3 (Bd b0_4)),(.mp 1),(.mp 2)],.map (Bk (O .i64) b1),.map (Bk (Av 5 Eb) b2)] (An r.1) [.cells 129 [(.sl 3 (List.map Bv b0_0)),(.sl 3 (Bd b0_1)),(O .i64 b0_2),(O .i64 b0_3),(.sl 3 (Bd b0_4)),(.mp 1),(.mp 2)],.map (Bk (O .i64) r.2),.map (Bk (Av 5 Eb) b2)]:=⟨fun {r} h=>by
 refine aw C0 true Tryz.func142 ?_
 refine ZS ?_
 refine B7 ?_
 refine ZO ?_
 refine A4 (A4 ?_)
 refine Bz h (fun (v4,o5)=>[(18,(An v4))]) (fun (v4,o5)=>[(1,.map (Bk (O .i64) o5))]) ?_ ?_
 intro _ h _ _ _
 refine Z ?_
 refine A7 [0,1,2] h (fun _ h=>?_)
 refine Z ?_
 refine Fx h (fun _ h=>?_) (fun _ h=>?_)
 exact Y
 refine Z ?_
 refine A7 [0,1,2] h (fun _ h=>?_)
 exact Y
 rintro ⟨v4,o5⟩ _ h
 refine Am h (fun _ h=>?_) (fun _ h=>?_)
 exact Y
 refine Z ?_
 refine A2 h (fun (v9,o10)=>[(4,(An false)),(22,(O .i64 v9))]) (fun (v9,o10)=>[(1,.map (Bk (O .i64) o10))]) ?_
 rintro ⟨v9,o10⟩ _ _ _ h _ _
 refine Z ?_
 refine Am h (fun _ h=>?_) (fun _ h=>?_)
 refine Z ?_
 refine Bn h (fun _ _ _ _ h=>?_)
 refine Z ?_
 refine A7 [0,1,2] h (fun _ h=>?_)
 exact Y
 replace h:=Ca h
 refine Z ?_
 refine A2 h (fun v22=>[(4,(An false)),(54,(O .i64 v22))]) (fun v22=>[]) ?_
 rintro v22 _ _ _ h _ _
 refine Z ?_
 refine Am h (fun _ h=>?_) (fun _ h=>?_)
 refine Z ?_
 refine Bn h (fun _ _ _ _ h=>?_)
 refine ZO ?_
 refine A4 (A4 ?_)
 refine Bz h (fun v26=>[(74,(An v26))]) (fun v26=>[]) ?_ ?_
 intro _ h _ _ _
 exact Y
 rintro v26 _ h
 exact Y
 exact Y⟩
instance {a0 a1:List Int}:OK (O0 a0 a1) fun r=>As Tryz.prog 174 [(Av 1 (O .u32)) a0,(Av 1 (O .u32)) a1] ((O .i64) r):=⟨fun {r} h=>by
 refine pw C0 Tryz.func174 ?_
 refine Z ?_
 refine Am h (fun _ h=>?_) (fun _ h=>?_)
 exact Y
 refine Z ?_
 refine A2 h (fun v5=>[(4,(O .i64 0)),(5,(O .i64 v5))]) (fun v5=>[]) ?_
 rintro v5 _ _ _ h _ _
 exact Y⟩
instance {a0:List Int}:OK (It a0) fun r=>As Tryz.prog 198 [(Av 1 (O .u32)) a0] ((Av 1 (O .u32)) r):=⟨fun {r} h=>by
 refine pw {T:=Cg,an:=(fun _=>.ask),nl:=(fun s=>bif Nat.beq s 2 then [(0,1)] else [])} Tryz.func198 ?_
 refine Z ?_
 refine A2 h (fun v2=>[(3,(O .i64 v2))]) (fun v2=>[]) ?_
 rintro v2 _ _ _ h _ _
 exact Y⟩
instance {a0:List Int} {a1:Int}:OK (O7 a0 a1) fun r=>As Tryz.prog 291 [(Av 1 (O .u32)) a0,(O .u64) a1] (.tup [(Av 1 (O .u32)) r.1,(O .u64) r.2]):=⟨fun {r} h=>by
 refine pw {T:=Cg,an:=(fun _=>.ask),nl:=(fun s=>bif Nat.beq s 4 then [(0,1)] else [])} Tryz.func291 ?_
 refine Z ?_
 refine Ga h (fun o1 h=>?_)
 refine Z ?_
 refine Fc h (fun (v7,v8,o9)=>[(7,(O .u64 v7)),(8,(O .i64 v8))]) (fun (v7,v8,o9)=>[(0,.rows 133 1 (List.map (O .u32) o9))]) (fun (v7,v8,o9)=>o1.length=o9.length) ?_
 rintro ⟨v7,v8,o9⟩ _ _ _ h _ _ q9
 refine Z ?_
 refine Am h (fun _ h=>?_) (fun _ h=>?_)
 exact Y
 replace h:=Ca h
 refine Gq (Gn rfl (A4 ?_))
 refine D5 [.fz 6] ?_
 exact Y⟩
instance {a0:Int}:OK (Ly a0) fun r=>As Tryz.prog 148 [(O .u64) a0] ((Av 1 (O .u32)) r):=⟨fun {r} h=>by
 refine pw {T:=Cg,an:=(fun s=>bif Nat.beq s 3 then .own else .ask),nl:=(fun s=>bif Nat.beq s 3 then [(0,1)] else bif Nat.beq s 2 then [(0,1)] else [])} Tryz.func148 ?_
 refine Z ?_
 refine A2 h (fun (v10,o11)=>[(0,(O .u64 v10)),(3,(.arr 0 o11.length 0 o11.length))]) (fun (v10,o11)=>[(0,.rows 133 1 (List.map (O .u32) o11))]) ?_
 rintro ⟨v10,o11⟩ _ _ _ h _ _
 exact Y⟩
instance {a0:List Int} {a1:Int}:OK (Rh a0 a1) fun r=>Br Tryz.prog 292 [(Av 1 (O .u32)) a0,(O .u64) a1] [] (.arr 0 r.length 0 r.length) [.rows 133 1 (List.map (O .u32) r)]:=⟨fun {r} h=>by
 refine aw {T:=Cg,an:=(fun _=>.ask),nl:=(fun s=>bif Nat.beq s 4 then [(0,1)] else [])} false Tryz.func292 ?_
 refine Z ?_
 refine Ga h (fun o1 h=>?_)
 refine Z ?_
 refine Fc h (fun (v7,v8,o9)=>[(6,(O .u64 v7)),(15,(O .i64 v8))]) (fun (v7,v8,o9)=>[(0,.rows 133 1 (List.map (O .u32) o9))]) (fun (v7,v8,o9)=>o1.length=o9.length) ?_
 rintro ⟨v7,v8,o9⟩ _ _ _ h _ _ q9
 refine Z ?_
 refine Am h (fun _ h=>?_) (fun _ h=>?_)
 exact Y
 replace h:=Ca h
 refine Z ?_
 refine Ic h (fun _ _ hiv16 _ h=>?_)
 refine Z ?_
 refine K2 (f:=(O .u32)) (x:=(Bt v7)) (j:=(a0.length:Int)) rfl rfl (Nat.zero_add _) hiv16 ?_
 refine Z ?_
 cases h
 exact ⟨congrArg (fun q_=>AV.arr 0 q_ 0 q_) (Gi (l:=o9) q9 (a0.length:Int) (Bt v7)),rfl,trivial⟩⟩
instance {a0:List Int} {a1:Int}:OK (Ac0 a0 a1) fun r=>As Tryz.prog 292 [(Av 1 (O .u32)) a0,(O .u64) a1] ((Av 1 (O .u32)) r):=⟨fun {r} h=>by
 refine pw {T:=Cg,an:=(fun _=>.ask),nl:=(fun s=>bif Nat.beq s 4 then [(0,1)] else [])} Tryz.func292 ?_
 refine Z ?_
 refine Ga h (fun o1 h=>?_)
 refine Z ?_
 refine Fc h (fun (v7,v8,o9)=>[(6,(O .u64 v7)),(15,(O .i64 v8))]) (fun (v7,v8,o9)=>[(0,.rows 133 1 (List.map (O .u32) o9))]) (fun (v7,v8,o9)=>o1.length=o9.length) ?_
 rintro ⟨v7,v8,o9⟩ _ _ _ h _ _ q9
 exact Y⟩
instance {a0 a1:Nat} {a2 b0:List Int}:OK (Ul a0 a1 a2 b0) fun r=>Br Tryz.prog 293 [(.arr 0 b0.length a0 a1),(Av 1 (O .u32)) a2] [.rows 133 1 (List.map (O .u32) b0)] ((O .u32) r.1) [.rows 133 1 (List.map (O .u32) r.2)]:=⟨fun {r} h=>by
 refine aw C0 true Tryz.func293 ?_
 refine Z ?_
 refine Bn h (fun _ _ _ _ h=>?_)
 refine Z ?_
 refine Bn h (fun _ _ _ _ h=>?_)
 refine Z ?_
 refine J1 h (fun _ _ _ _ h=>?_)
 refine Z ?_
 refine J1 h (fun _ _ _ _ h=>?_)
 refine Z ?_
 refine S3 h (fun _ h=>?_)
 refine Z ?_
 refine Xd h (fun _ h=>?_)
 refine Z ?_
 refine A2 h (fun (v9,v10)=>[(9,(O .u64 v9)),(10,(O .u64 v10))]) (fun (v9,v10)=>[]) ?_
 rintro ⟨v9,v10⟩ _ _ _ h _ _
 refine A4 (A4 ?_)
 refine Bz h (fun v12=>[(71,(An v12))]) (fun v12=>[]) ?_ ?_
 intro _ h _ _ _
 exact Y
 rintro v12 _ h
 refine Am h (fun _ h=>?_) (fun _ h=>?_)
 exact Y
 replace h:=Ca h
 refine Z ?_
 refine Fc h (fun (v24,v25,o26)=>[(11,(O .i64 v24)),(78,(O .i64 v25))]) (fun (v24,v25,o26)=>[(0,.rows 133 1 (List.map (O .u32) o26))]) (fun (v24,v25,o26)=>b0.length=o26.length) ?_
 rintro ⟨v24,v25,o26⟩ _ _ _ h _ _ q26
 refine Z ?_
 refine Am h (fun _ h=>?_) (fun _ h=>?_)
 refine Z ?_
 refine J1 h (fun _ _ _ _ h=>?_)
 refine Z ?_
 refine Bn h (fun _ _ _ _ h=>?_)
 refine Z ?_
 refine Xd h (fun _ h=>?_)
 refine Z ?_
 refine Bn h (fun _ _ _ _ h=>?_)
 refine Z ?_
 refine S3 h (fun _ h=>?_)
 refine Z ?_
 refine A2 h (fun (v32,v33)=>[(11,(O .i64 v32)),(13,(O .i64 v33))]) (fun (v32,v33)=>[]) ?_
 rintro ⟨v32,v33⟩ _ _ _ h _ _
 exact Y
 replace h:=Ca h
 refine Z ?_
 refine J1 h (fun _ _ _ _ h=>?_)
 refine Z ?_
 refine Am h (fun _ h=>?_) (fun _ h=>?_)
 exact Y
 refine Z ?_
 refine Fc h (fun (v46,v47,o48)=>[(15,(O .u32 v46)),(136,(O .i64 v47))]) (fun (v46,v47,o48)=>[(0,.rows 133 1 (List.map (O .u32) o48))]) (fun (v46,v47,o48)=>b0.length=o48.length) ?_
 rintro ⟨v46,v47,o48⟩ _ _ _ h _ _ q48
 exact Y⟩
instance {a0 a1:List Int}:OK (O5 a0 a1) fun r=>As Tryz.prog 220 [(Av 1 (O .u32)) a0,(Av 1 (O .u32)) a1] (.tup [(Av 1 (O .u32)) r.1,(Av 1 (O .u32)) r.2]):=⟨fun {r} h=>by
 refine pw {T:=Cg,an:=(fun _=>.ask),nl:=(fun s=>bif Nat.beq s 5 then [(0,1)] else bif Nat.beq s 4 then [(0,1)] else [])} Tryz.func220 ?_
 refine Z ?_
 refine Bc h (fun _ h=>?_)
 refine Z ?_
 refine Am h (fun _ h=>?_) (fun _ h=>?_)
 exact Y
 refine Z ?_
 refine Am h (fun _ h=>?_) (fun _ h=>?_)
 exact Y
 refine Z ?_
 refine Bn h (fun _ _ _ _ h=>?_)
 refine Z ?_
 refine S3 h (fun _ h=>?_)
 refine Z ?_
 refine A7 [] h (fun v9 h=>?_)
 refine Z ?_
 refine Bc h (fun _ h=>?_)
 refine Z ?_
 refine Ph h (fun v12 h=>?_)
 refine Z ?_
 refine Ga h (fun o13 h=>?_)
 refine Z ?_
 refine Fc h (fun (v19,o20,o21)=>[(13,(O .i64 v19))]) (fun (v19,o20,o21)=>[(0,.rows 133 1 (List.map (O .u32) o20)),(1,.rows 133 1 (List.map (O .u32) o21))]) (fun (v19,o20,o21)=>v9.length=o20.length/\o13.length=o21.length) ?_ (h0:=(⟨rfl,rfl⟩))
 rintro ⟨v19,o20,o21⟩ _ _ _ h _ hn1 ⟨q20,q21⟩
 refine Z ?_
 refine Am h (fun _ h=>?_) (fun _ h=>?_)
 refine Z ?_
 refine Ag9 (f:=(O .u32)) rfl q20 h (fun v22 h=>?_)
 refine Z ?_
 refine C5 h (fun v23 hcv23 h=>?_)
 have okv23:=(OK.ok hcv23 :)
 rw [<-q20] at okv23
 refine Fv.act [0] _ _ _ _ okv23 rfl rfl ⟨rfl,trivial⟩ ?_
 refine C5 h (fun v24 hgv24 h=>?_)
 refine Z ?_
 refine Ic h (fun _ _ hiv25 _ h=>?_)
 refine Z ?_
 refine K2 (f:=(O .u32)) (x:=v23.1) (j:=v19) rfl rfl (Nat.zero_add _) hiv25 ?_
 refine Z ?_
 exact hn1 _ _ _ _ (Option.some.inj h) ⟨rfl,trivial⟩ ⟨⟨rfl,rfl⟩,⟨rfl,rfl⟩,trivial⟩ (⟨Ir hgv24,Gi (l:=o21) q21 v19 v23.1⟩)
 replace h:=Ca h
 refine Gq (Gn rfl (A4 ?_))
 refine D5 [.fz 10] ?_
 refine Z ?_
 refine Bc h (fun _ h=>?_)
 refine Z ?_
 refine Bc h (fun _ h=>?_)
 refine ZO ?_
 refine A4 ?_
 refine D5 [.fz 12] ?_
 exact Y⟩
instance {a0:List Int}:OK (Rg a0) fun r=>As Tryz.prog 290 [(Av 1 (O .u32)) a0] (.tup [(O .u64) r.1,An r.2]):=⟨fun {r} h=>by
 refine pw C0 Tryz.func290 ?_
 refine Z ?_
 refine A2 h (fun (v3,v4)=>[(2,(O .u64 0)),(3,(An false)),(4,(O .u64 v3)),(9,(O .i64 v4))]) (fun (v3,v4)=>[]) ?_
 rintro ⟨v3,v4⟩ _ _ _ h _ _
 exact Y⟩
instance {a0 a1:List Int}:OK (Uf a0 a1) fun r=>As Tryz.prog 219 [(Av 1 (O .u32)) a0,(Av 1 (O .u32)) a1] ((Av 1 (O .u32)) r):=⟨fun {r} h=>by
 refine pw {T:=Cg,an:=(fun _=>.ask),nl:=(fun s=>bif Nat.beq s 4 then [(0,1)] else [])} Tryz.func219 ?_
 refine Z ?_
 refine A2 h (fun (v12,v13)=>[(0,(.sl 1 (List.map (O .u32) v12))),(1,(.sl 1 (List.map (O .u32) v13))),(4,(.sl 1 (List.map (O .u32) [])))]) (fun (v12,v13)=>[]) ?_
 rintro ⟨v12,v13⟩ _ _ _ h _ _
 refine Z ?_
 refine Am h (fun _ h=>?_) (fun _ h=>?_)
 refine K4 (K5 (A4 (A4 ?_)))
 refine Bz h (fun v14=>[(21,(An v14))]) (fun v14=>[]) ?_ ?_
 intro _ h _ _ _
 exact Y
 rintro v14 _ h
 refine Am h (fun _ h=>?_) (fun _ h=>?_)
 refine Z ?_
 refine Bc h (fun _ h=>?_)
 refine Z ?_
 refine Bc h (fun _ h=>?_)
 refine Z ?_
 refine A2 h (fun (v18,v19)=>[(5,(O .u64 v18)),(7,(O .u64 v19))]) (fun (v18,v19)=>[]) ?_
 rintro ⟨v18,v19⟩ _ _ _ h _ _
 exact Y
 exact Y
 exact Y⟩
instance {a0:List Int}:OK (O4 a0) fun r=>As Tryz.prog 218 [(Av 1 (O .u32)) a0] (An r):=⟨fun {r} h=>by
 refine pw C0 Tryz.func218 ?_
 exact Y⟩
instance {a0:Fr}:OK (Xx a0) fun r=>As Tryz.prog 149 [Nf a0] (Nf r):=⟨fun {r} h=>by
 refine pw {T:=Cg,an:=(fun _=>.ask),nl:=(fun s=>bif Nat.beq s 13 then [(1,1)] else [])} Tryz.func149 ?_
 exact Y⟩
instance {a0:Fr}:OK (K7 a0) fun r=>As Tryz.prog 82 [Nf a0] (Cq r):=⟨fun {r} h=>by
 refine pw C0 Tryz.func82 ?_
 exact Y⟩
instance {a0:List Int}:OK (Q5 a0) fun r=>As Tryz.prog 172 [(Av 1 (O .u32)) a0] ((Av 1 (O .u32)) r):=⟨fun {r} h=>by
 refine pw {T:=Cg,an:=(fun _=>.ask),nl:=(fun s=>bif Nat.beq s 2 then [(0,1)] else [])} Tryz.func172 ?_
 refine Z ?_
 refine Ga h (fun _ h=>?_)
 refine Z ?_
 refine A2 h (fun (v14,v15,o16)=>[(3,(.arr 0 o16.length 0 o16.length)),(4,(O .u64 v14)),(13,(O .i64 v15))]) (fun (v14,v15,o16)=>[(0,.rows 133 1 (List.map (O .u32) o16))]) ?_
 rintro ⟨v14,v15,o16⟩ _ _ _ h _ _
 refine Z ?_
 refine Am h (fun _ h=>?_) (fun _ h=>?_)
 exact Y
 replace h:=Ca h
 refine Z ?_
 refine Am h (fun _ h=>?_) (fun _ h=>?_)
 refine Z ?_
 refine Uz h (fun _ h=>?_)
 refine ZO ?_
 refine A4 ?_
 refine D5 [.fz 3] ?_
 exact Y
 refine K4 (A4 ?_)
 refine D5 [.fz 3] ?_
 exact Y⟩
instance {a0:Ao}:OK (Jw a0) fun r=>As Tryz.prog 106 [Cq a0] (Nf r):=⟨fun {r} h=>by
 refine pw {T:=Cg,an:=(fun _=>.ask),nl:=(fun s=>bif Nat.beq s 20 then [(1,1)] else [])} Tryz.func106 ?_
 refine Z ?_
 refine Bc h (fun _ h=>?_)
 refine Z ?_
 refine Bc h (fun _ h=>?_)
 refine ZO ?_
 refine A4 (A4 ?_)
 refine Bz h (fun v5=>[(18,(An v5))]) (fun v5=>[]) ?_ ?_
 intro _ h _ _ _
 exact Y
 rintro v5 _ h
 exact Y⟩
instance {a0:Ao}:OK (Ow a0) fun r=>As Tryz.prog 140 [Cq a0] (Cq r):=⟨fun {r} h=>by
 refine pw C0 Tryz.func140 ?_
 exact Y⟩
instance {a0:Fr}:OK (Tx a0) fun r=>As Tryz.prog 116 [Nf a0] ((O .i64) r):=⟨fun {r} h=>by
 refine pw C0 Tryz.func116 ?_
 exact Y⟩
instance {a0:Ao}:OK (Hg a0) fun r=>As Tryz.prog 58 [Cq a0] ((O .i64) r):=⟨fun {r} h=>by
 refine pw C0 Tryz.func58 ?_
 exact Y⟩
instance {a0 a1:List Int}:OK (La a0 a1) fun r=>As Tryz.prog 141 [(Av 1 (O .u32)) a0,(Av 1 (O .u32)) a1] (An r):=⟨fun {r} h=>by
 refine pw C0 Tryz.func141 ?_
 refine Z ?_
 refine Am h (fun _ h=>?_) (fun _ h=>?_)
 exact Y
 refine Z ?_
 refine A2 h (fun v3=>[(4,(An false)),(13,(O .i64 v3))]) (fun v3=>[]) ?_
 rintro v3 _ _ _ h _ _
 exact Y⟩
end Go.Ab
namespace Go.Ab
open Go Go.Proofs
set_option maxRecDepth 10000
set_option maxHeartbeats 4000000
set_option linter.unusedVariables false
instance {a0:List Aq} {b1:List (ByteArray×Int)} {b2:List (ByteArray×(List Df))} {b0_0:List Al} {b0_1:List Ag} {b0_2 b0_3:Int} {b0_4:List Ag}:OK (To a0 b1 b2 b0_0 b0_1 b0_2 b0_3 b0_4) fun r=>Br Tryz.prog 79 [(.loc 0 0),(Av 5 B9) a0] [.cells 129 [(.sl 3 (List.map Bv b0_0)),(.sl 3 (Bd b0_1)),(O .i64 b0_2),(O .i64 b0_3),(.sl 3 (Bd b0_4)),(.mp 1),(.mp 2)],.map (Bk (O .i64) b1),.map (Bk (Av 5 Eb) b2)] (An r.1) [.cells 129 [(.sl 3 (List.map Bv b0_0)),(.sl 3 (Bd b0_1)),(O .i64 b0_2),(O .i64 b0_3),(.sl 3 (Bd b0_4)),(.mp 1),(.mp 2)],.map (Bk (O .i64) r.2),.map (Bk (Av 5 Eb) b2)]:=⟨fun {r} h=>by
 refine aw C0 true Tryz.func79 ?_
 refine Z ?_
 refine Am h (fun _ h=>?_) (fun _ h=>?_)
 exact Y
 refine Z ?_
 refine A2 h (fun (v10,o11)=>[(4,(An false)),(14,(O .i64 v10))]) (fun (v10,o11)=>[(1,.map (Bk (O .i64) o11))]) ?_
 rintro ⟨v10,o11⟩ _ _ _ h _ _
 refine Z ?_
 refine Am h (fun _ h=>?_) (fun _ h=>?_)
 refine Z ?_
 refine Bn h (fun _ _ _ _ h=>?_)
 refine Z ?_
 refine Bc h (fun _ h=>?_)
 refine ZO ?_
 refine A4 ?_
 refine Bz h (fun v18=>[(8,(An v18))]) (fun v18=>[]) ?_ ?_
 intro _ h _ _ _
 exact Y
 rintro v18 _ h
 refine Z ?_
 refine Fx h (fun _ h=>?_) (fun _ h=>?_)
 exact Y
 refine Z ?_
 refine Bc h (fun _ h=>?_)
 refine Z ?_
 refine Fx h (fun _ h=>?_) (fun _ h=>?_)
 exact Y
 refine Z ?_
 refine A7 [0,1,2] h (fun _ h=>?_)
 exact Y
 exact Y⟩
theorem Yp {a0:Cf} {a1:List (List Aq)} {r:(Bool×Cf×(List (ByteArray×Int))×(List (ByteArray×(List Df)))×(List Al)×(List Ag)×Int×Int×(List Ag))} (h:Ju a0 a1=some (.inl r)):Br Tryz.prog 36 [Ko a0,(Av 1 (Av 5 B9)) a1] [] (.tup [.loc 3 0,An r.1]) [.cells 27 [(.sl 3 (List.map Bv r.2.1.Data)),(.sl 3 (Bd r.2.1.Vars)),(O .i64 r.2.1.Res.Kind),(O .i64 r.2.1.Res.Num),(.sl 3 (Bd r.2.1.Res.Args))],.map (Bk (O .i64) r.2.2.1),.map (Bk (Av 5 Eb) r.2.2.2.1),.cells 129 [(.sl 3 (List.map Bv r.2.2.2.2.1)),(.sl 3 (Bd r.2.2.2.2.2.1)),(O .i64 r.2.2.2.2.2.2.1),(O .i64 r.2.2.2.2.2.2.2.1),(.sl 3 (Bd r.2.2.2.2.2.2.2.2)),(.mp 1),(.mp 2)]]:=by
 refine aw {T:=Cg,an:=(fun _=>.ask),nl:=(fun s=>bif Nat.beq s 18 then [(1,7),(2,3),(3,8)] else [])} true Tryz.func36 ?_
 refine ZS ?_
 refine B7 ?_
 refine ZO ?_
 refine A4 (A4 ?_)
 refine Bz h (fun v4=>[(29,(An v4))]) (fun v4=>[]) ?_ ?_
 intro _ h _ _ _
 exact Y
 rintro v4 _ h
 refine Am h (fun _ h=>?_) (fun _ h=>?_)
 exact Y
 refine Z ?_
 refine A2 h (fun v8=>[(4,(.val (.pointer none))),(5,(An false)),(33,(O .i64 v8))]) (fun v8=>[]) ?_
 rintro v8 _ _ _ h _ _
 refine Z ?_
 refine Am h (fun _ h=>?_) (fun _ h=>?_)
 exact Y
 replace h:=Ca h
 refine Z ?_
 refine A2 h (fun (v18,o19)=>[(4,(.val (.pointer none))),(5,(An false)),(50,(O .i64 v18))]) (fun (v18,o19)=>[(1,.map (Bk (O .i64) o19))]) ?_
 rintro ⟨v18,o19⟩ _ _ _ h _ _
 refine Z ?_
 refine Am h (fun _ h=>?_) (fun _ h=>?_)
 refine Z ?_
 refine Bn h (fun _ _ _ _ h=>?_)
 refine Z ?_
 refine A7 [3,1,2] h (fun _ h=>?_)
 exact Y
 exact Y
theorem Yq {a0:Cf} {a1:List (List Aq)} {r:Bool} (h:Ju a0 a1=some (.inr r)):Br Tryz.prog 36 [Ko a0,(Av 1 (Av 5 B9)) a1] [] (.tup [.val (.pointer none),An r]) []:=by
 refine aw {T:=Cg,an:=(fun _=>.ask),nl:=(fun s=>bif Nat.beq s 18 then [(1,7),(2,3),(3,8)] else [])} true Tryz.func36 ?_
 refine ZS ?_
 refine B7 ?_
 refine ZO ?_
 refine A4 (A4 ?_)
 refine Bz h (fun v4=>[(29,(An v4))]) (fun v4=>[]) ?_ ?_
 intro _ h _ _ _
 exact Y
 rintro v4 _ h
 refine Am h (fun _ h=>?_) (fun _ h=>?_)
 exact Y
 refine Z ?_
 refine A2 h (fun v8=>[(4,(.val (.pointer none))),(5,(An false)),(33,(O .i64 v8))]) (fun v8=>[]) ?_
 rintro v8 _ _ _ h _ _
 refine Z ?_
 refine Am h (fun _ h=>?_) (fun _ h=>?_)
 exact Y
 replace h:=Ca h
 refine Z ?_
 refine A2 h (fun (v18,o19)=>[(4,(.val (.pointer none))),(5,(An false)),(50,(O .i64 v18))]) (fun (v18,o19)=>[(1,.map (Bk (O .i64) o19))]) ?_
 rintro ⟨v18,o19⟩ _ _ _ h _ _
 refine Z ?_
 refine Am h (fun _ h=>?_) (fun _ h=>?_)
 refine Z ?_
 refine Bn h (fun _ _ _ _ h=>?_)
 refine Z ?_
 refine A7 [3,1,2] h (fun _ h=>?_)
 exact Y
 exact Y
instance {a0:Int}:OK (Yj a0) fun r=>As Tryz.prog 68 [(.val (.pointer none)),(O .i64) a0] (C6 r):=⟨fun {r} h=>by
 refine pw C0 Tryz.func68 ?_
 exact Y⟩
instance {a0:Int}:OK (Ahv a0) fun r=>As Tryz.prog 162 [(.val (.pointer none)),(O .i64) a0] (An r):=⟨fun {r} h=>by
 refine pw C0 Tryz.func162 ?_
 exact Y⟩
instance {a0:C1}:OK (Ahw a0) fun r=>Br Tryz.prog 161 [Gj a0,(.loc 0 0)] [.cells 66 [(.val (.pointer none))]] (An r) [.cells 66 [(.val (.pointer none))]]:=⟨fun {r} h=>by
 refine aw C0 true Tryz.func161 ?_
 refine Z ?_
 refine Bc h (fun _ h=>?_)
 refine Z ?_
 refine Fx h (fun _ h=>?_) (fun _ h=>?_)
 exact Y
 refine Z ?_
 refine Bc h (fun _ h=>?_)
 refine Z ?_
 refine Sr.mk 3 (by kernel_rfl) ?_
 exact Y⟩
instance {a0:List C1}:OK (Ahx a0) fun r=>Br Tryz.prog 234 [(Av 2 Gj) a0,(.fn 161 [(.loc 0 0)])] [.cells 66 [(.val (.pointer none))]] ((O .i64) r) [.cells 66 [(.val (.pointer none))]]:=⟨fun {r} h=>by
 refine aw C0 true Tryz.func234 ?_
 refine Z ?_
 refine A2 h (fun v3=>[(4,(O .i64 0)),(8,(O .i64 v3))]) (fun v3=>[]) ?_
 rintro v3 _ _ _ h _ _
 refine Z ?_
 refine Am h (fun _ h=>?_) (fun _ h=>?_)
 refine Z ?_
 refine Bn h (fun _ _ _ _ h=>?_)
 refine Z ?_
 refine A7 [0] h (fun _ h=>?_)
 exact Y
 exact Y⟩
instance {a0:List C1}:OK (Ahy a0) fun r=>Br Tryz.prog 160 [(Av 2 Gj) a0,(.fn 161 [(.loc 0 0)])] [.cells 66 [(.val (.pointer none))]] (An r) [.cells 66 [(.val (.pointer none))]]:=⟨fun {r} h=>by
 refine aw C0 true Tryz.func160 ?_
 refine Z ?_
 refine A7 [0] h (fun _ h=>?_)
 exact Y⟩
instance {a0:Da}:OK (Ahz a0) fun r=>As Tryz.prog 90 [(.val (.pointer none)),J0 a0] (An r):=⟨fun {r} h=>by
 refine pw C0 Tryz.func90 ?_
 refine Z ?_
 refine A7 [0] h (fun _ h=>?_)
 exact Y⟩
instance  : OK (Qt) fun r=>Br Tryz.prog 37 [] [] (.loc 1 0) [.map (Bk (O .i64) r.1),.cells 76 [(.mp 0),(.arr 2 r.2.length 0 r.2.length)],.rows 84 5 (List.map B9 r.2)]:=⟨fun {r} h=>by
 refine aw C0 true Tryz.func37 ?_
 refine ZS ?_
 refine B7 ?_
 refine ZS ?_
 refine B7 ?_
 refine ZO ?_
 refine D5 [.own 3 1 84 5] ?_
 exact Y⟩
instance {a0:Da} {a1:Int}:OK (X9 a0 a1) fun r=>As Tryz.prog 245 [J0 a0,(O .i64) a1] ((Av 3 Ee) r):=⟨fun {r} h=>by
 refine pw {T:=Cg,an:=(fun _=>.ask),nl:=(fun s=>bif Nat.beq s 4 then [(0,3)] else [])} Tryz.func245 ?_
 exact Y⟩
instance {a0:Int}:OK (Oq a0) fun r=>As Tryz.prog 81 [(O .i64) a0] ((Av 1 (O .u32)) r):=⟨fun {r} h=>by
 refine pw {T:=Cg,an:=(fun _=>.ask),nl:=(fun s=>bif Nat.beq s 2 then [(0,1)] else [])} Tryz.func81 ?_
 exact Y⟩
instance {a0:Int}:OK (De a0) fun r=>As Tryz.prog 40 [(O .i64) a0] (Cq r):=⟨fun {r} h=>by
 refine pw C0 Tryz.func40 ?_
 exact Y⟩
instance {a0 a1:List Int}:OK (Lw a0 a1) fun r=>As Tryz.prog 127 [(Av 1 (O .u32)) a0,(Av 1 (O .u32)) a1] ((Av 1 (O .u32)) r):=⟨fun {r} h=>by
 refine pw {T:=Cg,an:=(fun _=>.ask),nl:=(fun s=>bif Nat.beq s 4 then [(0,1)] else [])} Tryz.func127 ?_
 refine ZS ?_
 refine B7 ?_
 refine ZO ?_
 refine A4 (A4 ?_)
 refine Bz h (fun v1=>[(17,(An v1))]) (fun v1=>[]) ?_ ?_
 intro _ h _ _ _
 exact Y
 rintro v1 _ h
 refine Am h (fun _ h=>?_) (fun _ h=>?_)
 exact Y
 refine Z ?_
 refine Ga h (fun o2 h=>?_)
 refine Z ?_
 refine Fc h (fun (v23,o24)=>[(26,(O .i64 v23))]) (fun (v23,o24)=>[(0,.rows 133 1 (List.map (O .u32) o24))]) (fun (v23,o24)=>o2.length=o24.length) ?_
 rintro ⟨v23,o24⟩ _ _ _ h _ _ q24
 refine Z ?_
 refine Am h (fun _ h=>?_) (fun _ h=>?_)
 refine Z ?_
 refine Fc h (fun (v31,v32,o33)=>[(7,(O .u64 v31)),(31,(O .i64 v32))]) (fun (v31,v32,o33)=>[(0,.rows 133 1 (List.map (O .u32) o33))]) (fun (v31,v32,o33)=>o2.length=o33.length) ?_
 rintro ⟨v31,v32,o33⟩ _ _ _ h _ _ q33
 exact Y
 replace h:=Ca h
 refine Gq (Gn rfl (A4 ?_))
 refine D5 [.fz 5] ?_
 exact Y⟩
instance {a0 a1:Ao}:OK (Eh a0 a1) fun r=>As Tryz.prog 70 [Cq a0,Cq a1] (Cq r):=⟨fun {r} h=>by
 refine pw C0 Tryz.func70 ?_
 exact Y⟩
instance {a0 a1:Int}:OK (M3 a0 a1) fun r=>As Tryz.prog 129 [(O .i64) a0,(O .i64) a1] (Cq r):=⟨fun {r} h=>by
 refine pw C0 Tryz.func129 ?_
 exact Y⟩
instance {a0 a1:Int}:OK (Re a0 a1) fun r=>As Tryz.prog 270 [(O .i64) a0,(O .i64) a1] (Cq r):=⟨fun {r} h=>by
 refine pw C0 Tryz.func270 ?_
 refine Z ?_
 refine Bc h (fun _ h=>?_)
 refine Z ?_
 refine A2 h (fun (v7,v8,v9,v10)=>[(9,(O .i64 v7))]) (fun (v7,v8,v9,v10)=>[(1,.cells 34 [(An v8),(.sl 1 (List.map (O .u32) v9)),(.sl 1 (List.map (O .u32) v10))])]) ?_
 rintro ⟨v7,v8,v9,v10⟩ _ _ _ h _ _
 exact Y⟩
instance {a0 a1:Int}:OK (Ac1 a0 a1) fun r=>As Tryz.prog 196 [(O .i64) a0,(O .i64) a1] (.tup [Cq r.1,An r.2]):=⟨fun {r} h=>by
 refine pw C0 Tryz.func196 ?_
 refine ZS ?_
 refine B7 ?_
 refine ZO ?_
 refine A4 (A4 ?_)
 refine Bz h (fun v2=>[(11,(An v2))]) (fun v2=>[]) ?_ ?_
 intro _ h _ _ _
 exact Y
 rintro v2 _ h
 exact Y⟩
instance {a0:List B8}:OK (X8 a0) fun r=>As Tryz.prog 244 [(Av 3 Ee) a0] ((Av 3 Cq) r):=⟨fun {r} h=>by
 refine pw {T:=Cg,an:=(fun s=>bif Nat.beq s 10 then .own else .ask),nl:=(fun s=>bif Nat.beq s 2 then [(0,3)] else [])} Tryz.func244 ?_
 refine Z ?_
 refine Bc h (fun _ h=>?_)
 refine Z ?_
 refine Fc h (fun (v14,o15)=>[(3,(.arr 0 1 0 1)),(13,(O .i64 v14))]) (fun (v14,o15)=>[(0,.rows 34 3 (List.map Cq o15))]) (fun (v14,o15)=>1=o15.length) ?_
 rintro ⟨v14,o15⟩ _ _ _ h _ _ q15
 refine Z ?_
 refine Am h (fun _ h=>?_) (fun _ h=>?_)
 refine Z ?_
 refine Bn h (fun _ _ _ _ h=>?_)
 refine Z ?_
 refine Am h (fun _ h=>?_) (fun _ h=>?_)
 exact Y
 refine Z ?_
 refine Ahh (f:=Cq) (z:=((Ao.mk false [] []):Ao)) (by repeat (first | exact Hr.nil | apply Hr.sl | apply Hr.same)) h (fun o23 h=>?_)
 exact Y
 exact Y⟩
instance {a0:Int}:OK (Acv a0) fun r=>As Tryz.prog 375 [(.val (.slice none 0 0)),(O .i64) a0] ((Av 3 Ee) r):=⟨fun {r} h=>by
 refine pw {T:=Cg,an:=(fun _=>.ask),nl:=(fun s=>bif Nat.beq s 4 then [(0,3)] else [])} Tryz.func375 ?_
 exact Y⟩
instance {a0:List (List B8)}:OK (Acr a0) fun r=>As Tryz.prog 338 [(Av 1 (Av 3 Ee)) a0] ((Av 3 Ee) r):=⟨fun {r} h=>by
 refine pw {T:=Cg,an:=(fun _=>.ask),nl:=(fun s=>bif Nat.beq s 2 then [(0,3)] else [])} Tryz.func338 ?_
 refine Z ?_
 refine A2 h (fun (v2,v3)=>[(3,(O .i64 v2)),(11,(O .i64 v3))]) (fun (v2,v3)=>[]) ?_
 rintro ⟨v2,v3⟩ _ _ _ h _ _
 refine Z ?_
 refine Am h (fun _ h=>?_) (fun _ h=>?_)
 exact Y
 replace h:=Ca h
 refine Z ?_
 refine Bc h (fun v6 h=>?_)
 refine Z ?_
 refine A2 h (fun v10=>[(6,(.sl 3 (List.map Ee v6))),(27,(O .i64 v10))]) (fun v10=>[]) ?_
 rintro v10 _ _ _ h _ _
 refine Z ?_
 refine Am h (fun _ h=>?_) (fun _ h=>?_)
 refine Z ?_
 refine Bn h (fun _ v11 _ _ h=>?_)
 refine Z ?_
 refine Ahg (f:=Ee) (l:=v11) rfl h (fun h=>?_)
 exact Y
 exact Y⟩
instance {a0:Int}:OK (Acu a0) fun r=>As Tryz.prog 374 [(.val (.slice none 0 0)),(O .i64) a0] ((Av 3 Er) r):=⟨fun {r} h=>by
 refine pw {T:=Cg,an:=(fun _=>.ask),nl:=(fun s=>bif Nat.beq s 4 then [(0,3)] else [])} Tryz.func374 ?_
 exact Y⟩
instance {a0:List (List Cj)}:OK (Acq a0) fun r=>As Tryz.prog 337 [(Av 1 (Av 3 Er)) a0] ((Av 3 Er) r):=⟨fun {r} h=>by
 refine pw {T:=Cg,an:=(fun _=>.ask),nl:=(fun s=>bif Nat.beq s 2 then [(0,3)] else [])} Tryz.func337 ?_
 refine Z ?_
 refine A2 h (fun (v2,v3)=>[(3,(O .i64 v2)),(11,(O .i64 v3))]) (fun (v2,v3)=>[]) ?_
 rintro ⟨v2,v3⟩ _ _ _ h _ _
 refine Z ?_
 refine Am h (fun _ h=>?_) (fun _ h=>?_)
 exact Y
 replace h:=Ca h
 refine Z ?_
 refine Bc h (fun v6 h=>?_)
 refine Z ?_
 refine A2 h (fun v10=>[(6,(.sl 3 (List.map Er v6))),(27,(O .i64 v10))]) (fun v10=>[]) ?_
 rintro v10 _ _ _ h _ _
 refine Z ?_
 refine Am h (fun _ h=>?_) (fun _ h=>?_)
 refine Z ?_
 refine Bn h (fun _ v11 _ _ h=>?_)
 refine Z ?_
 refine Ahg (f:=Er) (l:=v11) rfl h (fun h=>?_)
 exact Y
 exact Y⟩
instance {a0 a1:Ba}:OK (Aco a0 a1) fun r=>As Tryz.prog 298 [Gk a0,Gk a1] (Gk r):=⟨fun {r} h=>by
 refine pw C0 Tryz.func298 ?_
 exact Y⟩
instance {a0:Aq} {a1:Ao} {a2:Ba}:OK (X5 a0 a1 a2) fun r=>As Tryz.prog 239 [B9 a0,Cq a1,Gk a2] (B9 r):=⟨fun {r} h=>by
 refine pw C0 Tryz.func239 ?_
 exact Y⟩
instance {a0:List B8}:OK (X6 a0) fun r=>As Tryz.prog 241 [(Av 3 Ee) a0] ((Av 3 Ee) r):=⟨fun {r} h=>by
 exact Asb h⟩
instance {a0:List Cj}:OK (X3 a0) fun r=>As Tryz.prog 235 [(Av 3 Er) a0] ((Av 3 Er) r):=⟨fun {r} h=>by
 exact Asa h⟩
instance {a0 a1:B8}:OK (Ra a0 a1) fun r=>As Tryz.prog 243 [Ee a0,Ee a1] ((O .i64) r):=⟨fun {r} h=>by
 refine pw C0 Tryz.func243 ?_
 exact Y⟩
instance {a0:List B8} {a1 a2:Int}:OK (Ye a0 a1 a2) fun r=>As Tryz.prog 339 [(Av 3 Ee) a0,(O .i64) a1,(O .i64) a2,(.fn 243 [])] (.tup []):=⟨fun {r} h=>by
 refine pw C0 Tryz.func339 ?_
 refine Z ?_
 refine A2 h (fun v8=>[(8,(O .i64 v8))]) (fun v8=>[]) ?_
 rintro v8 _ _ _ h _ _
 refine Z ?_
 refine Am h (fun _ h=>?_) (fun _ h=>?_)
 refine Z ?_
 refine A2 h (fun _=>[(9,(O .i64 v8))]) (fun _=>[]) ?_
 rintro _ _ _ _ h _ _
 refine A4 (A4 ?_)
 refine Bz h (fun v12=>[(34,(An v12))]) (fun v12=>[]) ?_ ?_
 intro _ h _ _ _
 exact Y
 rintro v12 _ h
 exact Y
 exact Y⟩
instance {a0:List B8} {a1 a2 a3:Int}:OK (Uu a0 a1 a2 a3) fun r=>As Tryz.prog 391 [(Av 3 Ee) a0,(O .i64) a1,(O .i64) a2,(O .i64) a3,(.fn 243 [])] (.tup []):=⟨fun {r} h=>by
 refine pw C0 Tryz.func391 ?_
 refine Z ?_
 refine A2 h (fun _=>[(10,(O .i64 0))]) (fun _=>[]) ?_
 rintro _ _ _ _ h _ _
 exact Y⟩
instance {a0:List B8} {a1 a2 a3:Int}:OK (Acw a0 a1 a2 a3) fun r=>As Tryz.prog 376 [(Av 3 Ee) a0,(O .i64) a1,(O .i64) a2,(O .i64) a3,(.fn 243 [])] (.tup []):=⟨fun {r} h=>by
 refine pw C0 Tryz.func376 ?_
 refine Z ?_
 refine A2 h (fun (v3,v4)=>[(10,(O .i64 v3)),(11,(O .i64 v4))]) (fun (v3,v4)=>[]) ?_
 rintro ⟨v3,v4⟩ _ _ _ h _ _
 exact Y⟩
abbrev Aiz (k:Nat):Prop:=∀{a0:List B8} {a1 a2 a3:Int},OK (Pc k a0 a1 a2 a3) fun r=>As Tryz.prog 340 [(Av 3 Ee) a0,(O .i64) a1,(O .i64) a2,(O .i64) a3,(.fn 243 [])] (.tup [])
theorem Asr (k:Nat):Aiz k:=by
 induction k with
 | zero=>exact Dl
 | succ k ih=>
  refine @fun a0 a1 a2 a3=>⟨fun {r} h=>?_⟩
  .unfold Pc at h
   refine pw C0 Tryz.func340 ?_
   refine Z ?_
   refine Am h (fun _ h=>?_) (fun _ h=>?_)
   refine Z ?_
   refine A2 h (fun (v5,v6)=>[(10,(O .i64 v5)),(11,(O .i64 v6))]) (fun (v5,v6)=>[]) ?_
   rintro ⟨v5,v6⟩ _ _ _ h _ _
   refine Z ?_
   refine Am h (fun _ h=>?_) (fun _ h=>?_)
   exact Y
   replace h:=Ca h
   refine Z ?_
   refine A2 h (fun _=>[(13,(O .i64 a1))]) (fun _=>[]) ?_
   rintro _ _ _ _ h _ _
   exact Y
   refine Z ?_
   refine Am h (fun _ h=>?_) (fun _ h=>?_)
   refine Z ?_
   refine A2 h (fun (v19,v20)=>[(14,(O .i64 v19)),(15,(O .i64 v20))]) (fun (v19,v20)=>[]) ?_
   rintro ⟨v19,v20⟩ _ _ _ h _ _
   refine Z ?_
   refine Am h (fun _ h=>?_) (fun _ h=>?_)
   exact Y
   replace h:=Ca h
   refine Z ?_
   refine A2 h (fun _=>[(17,(O .i64 a2))]) (fun _=>[]) ?_
   rintro _ _ _ _ h _ _
   exact Y
   refine Z ?_
   refine Xe h (fun _ h=>?_)
   refine ZS ?_
   refine B7 ?_
   refine ZS ?_
   refine B7 ?_
   refine ZS ?_
   refine B7 ?_
   refine ZO ?_
   refine Bz h (fun (v30,v31)=>[(20,(O .i64 v30)),(21,(O .i64 v31))]) (fun (v30,v31)=>[]) ?_ ?_
   intro _ h _ _ _
   exact Y
   rintro ⟨v30,v31⟩ _ h
   refine Z ?_
   refine A2 h (fun (v36,v37)=>[(20,(O .i64 v36)),(21,(O .i64 v37))]) (fun (v36,v37)=>[]) ?_
   rintro ⟨v36,v37⟩ _ _ _ h _ _
   refine Z ?_
   refine Am h (fun _ h=>?_) (fun _ h=>?_)
   exact Y
   replace h:=Ca h
   refine ZS ?_
   refine B7 ?_
   refine ZO ?_
   refine A4 (A4 ?_)
   refine Bz h (fun v43=>[(185,(An v43))]) (fun v43=>[]) ?_ ?_
   intro _ h _ _ _
   exact Y
   rintro v43 _ h
   refine Bz h (fun _=>[]) (fun _=>[]) ?_ ?_
   intro _ h _ _ _
   exact Y
   rintro _ _ h
   refine A4 (A4 ?_)
   refine Bz h (fun v45=>[(199,(An v45))]) (fun v45=>[]) ?_ ?_
   intro _ h _ _ _
   exact Y
   rintro v45 _ h
   refine Bz h (fun _=>[]) (fun _=>[]) ?_ ?_
   intro _ h _ _ _
   exact Y
   rintro _ _ h
   exact Y
instance {k:Nat}:Aiz k:=(Asr k)
instance {a0:List B8} {a1:Int}:OK (Acp a0 a1) fun r=>As Tryz.prog 299 [(Av 3 Ee) a0,(O .i64) a1,(.fn 243 [])] (.tup []):=⟨fun {r} h=>by
 refine pw C0 Tryz.func299 ?_
 refine Z ?_
 refine A2 h (fun (v2,v3)=>[(7,(O .i64 v2)),(8,(O .i64 v3))]) (fun (v2,v3)=>[]) ?_
 rintro ⟨v2,v3⟩ _ _ _ h _ _
 refine Z ?_
 refine Am h (fun _ h=>?_) (fun _ h=>?_)
 exact Y
 replace h:=Ca h
 refine Z ?_
 refine Bc h (fun _ h=>?_)
 refine Z ?_
 refine A2 h (fun (v15,v16,v17)=>[(6,(O .i64 v15)),(7,(O .i64 v16)),(8,(O .i64 v17))]) (fun (v15,v16,v17)=>[]) ?_
 rintro ⟨v15,v16,v17⟩ _ _ _ h _ _
 refine Z ?_
 refine Am h (fun _ h=>?_) (fun _ h=>?_)
 refine Z ?_
 refine A2 h (fun (v19,v20)=>[(7,(O .i64 v19)),(8,(O .i64 v20))]) (fun (v19,v20)=>[]) ?_
 rintro ⟨v19,v20⟩ _ _ _ h _ _
 exact Y
 exact Y⟩
instance {a0:List B8}:OK (X7 a0) fun r=>As Tryz.prog 242 [(Av 3 Ee) a0,(.fn 243 [])] (.tup []):=⟨fun {r} h=>by
 refine pw C0 Tryz.func242 ?_
 exact Y⟩
instance {a0 a1:Cj}:OK (Q9 a0 a1) fun r=>As Tryz.prog 237 [Er a0,Er a1] ((O .i64) r):=⟨fun {r} h=>by
 refine pw C0 Tryz.func237 ?_
 exact Y⟩
instance {a0:List Cj} {a1 a2:Int}:OK (Yd a0 a1 a2) fun r=>As Tryz.prog 328 [(Av 3 Er) a0,(O .i64) a1,(O .i64) a2,(.fn 237 [])] (.tup []):=⟨fun {r} h=>by
 refine pw C0 Tryz.func328 ?_
 refine Z ?_
 refine A2 h (fun v8=>[(8,(O .i64 v8))]) (fun v8=>[]) ?_
 rintro v8 _ _ _ h _ _
 refine Z ?_
 refine Am h (fun _ h=>?_) (fun _ h=>?_)
 refine Z ?_
 refine A2 h (fun _=>[(9,(O .i64 v8))]) (fun _=>[]) ?_
 rintro _ _ _ _ h _ _
 refine A4 (A4 ?_)
 refine Bz h (fun v12=>[(34,(An v12))]) (fun v12=>[]) ?_ ?_
 intro _ h _ _ _
 exact Y
 rintro v12 _ h
 exact Y
 exact Y⟩
instance {a0:List Cj} {a1 a2 a3:Int}:OK (Ut a0 a1 a2 a3) fun r=>As Tryz.prog 382 [(Av 3 Er) a0,(O .i64) a1,(O .i64) a2,(O .i64) a3,(.fn 237 [])] (.tup []):=⟨fun {r} h=>by
 refine pw C0 Tryz.func382 ?_
 refine Z ?_
 refine A2 h (fun _=>[(10,(O .i64 0))]) (fun _=>[]) ?_
 rintro _ _ _ _ h _ _
 exact Y⟩
instance {a0:List Cj} {a1 a2 a3:Int}:OK (Acs a0 a1 a2 a3) fun r=>As Tryz.prog 362 [(Av 3 Er) a0,(O .i64) a1,(O .i64) a2,(O .i64) a3,(.fn 237 [])] (.tup []):=⟨fun {r} h=>by
 refine pw C0 Tryz.func362 ?_
 refine Z ?_
 refine A2 h (fun (v3,v4)=>[(10,(O .i64 v3)),(11,(O .i64 v4))]) (fun (v3,v4)=>[]) ?_
 rintro ⟨v3,v4⟩ _ _ _ h _ _
 exact Y⟩
abbrev Ai0 (k:Nat):Prop:=∀{a0:List Cj} {a1 a2 a3:Int},OK (Pb k a0 a1 a2 a3) fun r=>As Tryz.prog 329 [(Av 3 Er) a0,(O .i64) a1,(O .i64) a2,(O .i64) a3,(.fn 237 [])] (.tup [])
theorem Ass (k:Nat):Ai0 k:=by
 induction k with
 | zero=>exact Dl
 | succ k ih=>
  refine @fun a0 a1 a2 a3=>⟨fun {r} h=>?_⟩
  .unfold Pb at h
   refine pw C0 Tryz.func329 ?_
   refine Z ?_
   refine Am h (fun _ h=>?_) (fun _ h=>?_)
   refine Z ?_
   refine A2 h (fun (v5,v6)=>[(10,(O .i64 v5)),(11,(O .i64 v6))]) (fun (v5,v6)=>[]) ?_
   rintro ⟨v5,v6⟩ _ _ _ h _ _
   refine Z ?_
   refine Am h (fun _ h=>?_) (fun _ h=>?_)
   exact Y
   replace h:=Ca h
   refine Z ?_
   refine A2 h (fun _=>[(13,(O .i64 a1))]) (fun _=>[]) ?_
   rintro _ _ _ _ h _ _
   exact Y
   refine Z ?_
   refine Am h (fun _ h=>?_) (fun _ h=>?_)
   refine Z ?_
   refine A2 h (fun (v19,v20)=>[(14,(O .i64 v19)),(15,(O .i64 v20))]) (fun (v19,v20)=>[]) ?_
   rintro ⟨v19,v20⟩ _ _ _ h _ _
   refine Z ?_
   refine Am h (fun _ h=>?_) (fun _ h=>?_)
   exact Y
   replace h:=Ca h
   refine Z ?_
   refine A2 h (fun _=>[(17,(O .i64 a2))]) (fun _=>[]) ?_
   rintro _ _ _ _ h _ _
   exact Y
   refine Z ?_
   refine Xe h (fun _ h=>?_)
   refine ZS ?_
   refine B7 ?_
   refine ZS ?_
   refine B7 ?_
   refine ZS ?_
   refine B7 ?_
   refine ZO ?_
   refine Bz h (fun (v30,v31)=>[(20,(O .i64 v30)),(21,(O .i64 v31))]) (fun (v30,v31)=>[]) ?_ ?_
   intro _ h _ _ _
   exact Y
   rintro ⟨v30,v31⟩ _ h
   refine Z ?_
   refine A2 h (fun (v36,v37)=>[(20,(O .i64 v36)),(21,(O .i64 v37))]) (fun (v36,v37)=>[]) ?_
   rintro ⟨v36,v37⟩ _ _ _ h _ _
   refine Z ?_
   refine Am h (fun _ h=>?_) (fun _ h=>?_)
   exact Y
   replace h:=Ca h
   refine ZS ?_
   refine B7 ?_
   refine ZO ?_
   refine A4 (A4 ?_)
   refine Bz h (fun v43=>[(185,(An v43))]) (fun v43=>[]) ?_ ?_
   intro _ h _ _ _
   exact Y
   rintro v43 _ h
   refine Bz h (fun _=>[]) (fun _=>[]) ?_ ?_
   intro _ h _ _ _
   exact Y
   rintro _ _ h
   refine A4 (A4 ?_)
   refine Bz h (fun v45=>[(199,(An v45))]) (fun v45=>[]) ?_ ?_
   intro _ h _ _ _
   exact Y
   rintro v45 _ h
   refine Bz h (fun _=>[]) (fun _=>[]) ?_ ?_
   intro _ h _ _ _
   exact Y
   rintro _ _ h
   exact Y
instance {k:Nat}:Ai0 k:=(Ass k)
instance {a0:List Cj} {a1:Int}:OK (Acn a0 a1) fun r=>As Tryz.prog 296 [(Av 3 Er) a0,(O .i64) a1,(.fn 237 [])] (.tup []):=⟨fun {r} h=>by
 refine pw C0 Tryz.func296 ?_
 refine Z ?_
 refine A2 h (fun (v2,v3)=>[(7,(O .i64 v2)),(8,(O .i64 v3))]) (fun (v2,v3)=>[]) ?_
 rintro ⟨v2,v3⟩ _ _ _ h _ _
 refine Z ?_
 refine Am h (fun _ h=>?_) (fun _ h=>?_)
 exact Y
 replace h:=Ca h
 refine Z ?_
 refine Bc h (fun _ h=>?_)
 refine Z ?_
 refine A2 h (fun (v15,v16,v17)=>[(6,(O .i64 v15)),(7,(O .i64 v16)),(8,(O .i64 v17))]) (fun (v15,v16,v17)=>[]) ?_
 rintro ⟨v15,v16,v17⟩ _ _ _ h _ _
 refine Z ?_
 refine Am h (fun _ h=>?_) (fun _ h=>?_)
 refine Z ?_
 refine A2 h (fun (v19,v20)=>[(7,(O .i64 v19)),(8,(O .i64 v20))]) (fun (v19,v20)=>[]) ?_
 rintro ⟨v19,v20⟩ _ _ _ h _ _
 exact Y
 exact Y⟩
instance {a0:List Cj}:OK (X4 a0) fun r=>As Tryz.prog 236 [(Av 3 Er) a0,(.fn 237 [])] (.tup []):=⟨fun {r} h=>by
 refine pw C0 Tryz.func236 ?_
 exact Y⟩
instance {a0:Ao} {a1:Ba} {b1:List (ByteArray×Int)} {b2:List (ByteArray×(List Df))} {b0_0:List Al} {b0_1:List Ag} {b0_2 b0_3:Int} {b0_4:List Ag}:OK (Acd a0 a1 b1 b2 b0_0 b0_1 b0_2 b0_3 b0_4) fun r=>Br Tryz.prog 163 [(.loc 0 0),Cq a0,Gk a1] [.cells 129 [(.sl 3 (List.map Bv b0_0)),(.sl 3 (Bd b0_1)),(O .i64 b0_2),(O .i64 b0_3),(.sl 3 (Bd b0_4)),(.mp 1),(.mp 2)],.map (Bk (O .i64) b1),.map (Bk (Av 5 Eb) b2)] (.tup [(Av 5 B9) r.1,(O .i64) r.2]) [.cells 129 [(.sl 3 (List.map Bv b0_0)),(.sl 3 (Bd b0_1)),(O .i64 b0_2),(O .i64 b0_3),(.sl 3 (Bd b0_4)),(.mp 1),(.mp 2)],.map (Bk (O .i64) b1),.map (Bk (Av 5 Eb) b2)]:=⟨fun {r} h=>by
 refine aw {T:=Cg,an:=(fun s=>bif Nat.beq s 22 then .own else .ask),nl:=(fun s=>bif Nat.beq s 155 then [(0,3)] else bif Nat.beq s 31 then [(3,3),(4,3)] else bif Nat.beq s 22 then [(0,5)] else bif Nat.beq s 6 then [(0,5)] else [])} true Tryz.func163 ?_
 refine Z ?_
 refine Bc h (fun _ h=>?_)
 refine Z ?_
 refine Am h (fun _ h=>?_) (fun _ h=>?_)
 exact Y
 refine Z ?_
 refine Bc h (fun v4 h=>?_)
 refine Z ?_
 refine Bc h (fun _ h=>?_)
 refine Z ?_
 refine A2 h (fun _=>[(6,(.sl 5 (List.map B9 []))),(7,(O .i64 0)),(8,(.sl 5 (List.map B9 [(Aq.mk a0 (Ba.mk [] []))]))),(9,(.sl 3 (List.map Er v4)))]) (fun _=>[]) ?_
 rintro _ _ _ _ h _ _
 refine Z ?_
 refine Am h (fun _ h=>?_) (fun _ h=>?_)
 refine Z ?_
 refine Bn h (fun _ _ _ _ h=>?_)
 refine Z ?_
 refine A2 h (fun v8=>[(11,(O .i64 v8))]) (fun v8=>[]) ?_
 rintro v8 _ _ _ h _ _
 exact Y
 replace h:=Ca h
 refine Z ?_
 refine Bc h (fun _ h=>?_)
 refine Z ?_
 refine Bc h (fun _ h=>?_)
 refine Z ?_
 refine A2 h (fun (v104,v105)=>[(8,(.sl 5 (List.map B9 v104))),(19,(.sl 3 (List.map Ee v105)))]) (fun (v104,v105)=>[]) ?_
 rintro ⟨v104,v105⟩ _ _ _ h _ _
 refine Z ?_
 refine Am h (fun _ h=>?_) (fun _ h=>?_)
 refine Z ?_
 refine Bn h (fun _ _ _ _ h=>?_)
 refine Z ?_
 refine A2 h (fun v110=>[(21,(O .i64 v110))]) (fun v110=>[]) ?_
 rintro v110 _ _ _ h _ _
 refine Z ?_
 refine Fx h (fun _ h=>?_) (fun _ h=>?_)
 refine Z ?_
 refine Bn h (fun _ _ _ _ h=>?_)
 refine Z ?_
 refine Bc h (fun _ h=>?_)
 refine Z ?_
 refine Am h (fun _ h=>?_) (fun _ h=>?_)
 exact Y
 replace h:=Ca h
 refine Z ?_
 refine Ph h (fun _ h=>?_)
 refine Z ?_
 refine Bc h (fun _ h=>?_)
 refine Z ?_
 refine A2 h (fun (v167,o168)=>[(22,(.arr 6 o168.length 0 o168.length)),(135,(O .i64 v167))]) (fun (v167,o168)=>[(6,.rows 84 5 (List.map B9 o168))]) ?_
 rintro ⟨v167,o168⟩ _ _ _ h _ _
 refine Z ?_
 refine Am h (fun _ h=>?_) (fun _ h=>?_)
 refine Z ?_
 refine Bn h (fun _ _ _ _ h=>?_)
 refine Z ?_
 refine Bc h (fun _ h=>?_)
 refine Z ?_
 refine Am h (fun _ h=>?_) (fun _ h=>?_)
 exact Y
 refine Z ?_
 refine A2 h (fun (v184,o185)=>[(22,(.arr 6 o185.length 0 o185.length)),(145,(O .i64 v184))]) (fun (v184,o185)=>[(6,.rows 84 5 (List.map B9 o185))]) ?_
 rintro ⟨v184,o185⟩ _ _ _ h _ _
 exact Y
 replace h:=Ca h
 refine Gq (Gn rfl ?_)
 refine D5 [.fz 22] ?_
 exact Y
 replace h:=Ca h
 refine Z ?_
 refine Ph h (fun _ h=>?_)
 refine Z ?_
 refine Bc h (fun _ h=>?_)
 refine Z ?_
 refine A2 h (fun (v167,o168)=>[(22,(.arr 6 o168.length 0 o168.length)),(135,(O .i64 v167))]) (fun (v167,o168)=>[(6,.rows 84 5 (List.map B9 o168))]) ?_
 rintro ⟨v167,o168⟩ _ _ _ h _ _
 refine Z ?_
 refine Am h (fun _ h=>?_) (fun _ h=>?_)
 refine Z ?_
 refine Bn h (fun _ _ _ _ h=>?_)
 refine Z ?_
 refine Bc h (fun _ h=>?_)
 refine Z ?_
 refine Am h (fun _ h=>?_) (fun _ h=>?_)
 exact Y
 refine Z ?_
 refine A2 h (fun (v184,o185)=>[(22,(.arr 6 o185.length 0 o185.length)),(145,(O .i64 v184))]) (fun (v184,o185)=>[(6,.rows 84 5 (List.map B9 o185))]) ?_
 rintro ⟨v184,o185⟩ _ _ _ h _ _
 exact Y
 replace h:=Ca h
 refine Gq (Gn rfl ?_)
 refine D5 [.fz 22] ?_
 exact Y
 exact Y⟩
theorem Ai1 {a0:Int} {a1:Bool} {b1:List Int} {r:(Int×(List Int))} (h:O3 a0 a1 b1=some (.inl r)):Br Tryz.prog 216 [(.loc 0 0),(O .i64) a0,An a1] [.cells 187 [(.val (.pointer none)),(.arr 1 b1.length 0 b1.length)],.rows 5 1 (List.map (O .u8) b1)] ((O .i64) r.1) [.cells 187 [(.loc 0 0),(.arr 1 r.2.length 0 r.2.length)],.rows 5 1 (List.map (O .u8) r.2)]:=by
 refine aw C0 true Tryz.func216 ?_
 refine ZS ?_
 refine B7 ?_
 refine ZO ?_
 refine A4 (K5 (A4 ?_))
 refine Bz h (fun v1=>[(7,(An v1))]) (fun v1=>[]) ?_ ?_
 intro _ h _ _ _
 exact Y
 rintro v1 _ h
 refine Am h (fun _ h=>?_) (fun _ h=>?_)
 refine Z ?_
 refine A7 [0,1] h (fun _ h=>?_)
 exact Y
 refine Z ?_
 refine Am h (fun _ h=>?_) (fun _ h=>?_)
 refine Z ?_
 refine A7 [0,1] h (fun _ h=>?_)
 exact Y
 refine Z ?_
 refine Am h (fun _ h=>?_) (fun _ h=>?_)
 refine Z ?_
 refine A7 [0,1] h (fun _ h=>?_)
 exact Y
 exact Y
theorem Ai2 {a0:Int} {a1:Bool} {b1:List Int} {r:(Int×(List Int))} (h:O3 a0 a1 b1=some (.inr r)):Br Tryz.prog 216 [(.loc 0 0),(O .i64) a0,An a1] [.cells 187 [(.val (.pointer none)),(.arr 1 b1.length 0 b1.length)],.rows 5 1 (List.map (O .u8) b1)] ((O .i64) r.1) [.cells 187 [(.val (.pointer none)),(.arr 1 r.2.length 0 r.2.length)],.rows 5 1 (List.map (O .u8) r.2)]:=by
 refine aw C0 true Tryz.func216 ?_
 refine ZS ?_
 refine B7 ?_
 refine ZO ?_
 refine A4 (K5 (A4 ?_))
 refine Bz h (fun v1=>[(7,(An v1))]) (fun v1=>[]) ?_ ?_
 intro _ h _ _ _
 exact Y
 rintro v1 _ h
 refine Am h (fun _ h=>?_) (fun _ h=>?_)
 refine Z ?_
 refine A7 [0,1] h (fun _ h=>?_)
 exact Y
 refine Z ?_
 refine Am h (fun _ h=>?_) (fun _ h=>?_)
 refine Z ?_
 refine A7 [0,1] h (fun _ h=>?_)
 exact Y
 refine Z ?_
 refine Am h (fun _ h=>?_) (fun _ h=>?_)
 refine Z ?_
 refine A7 [0,1] h (fun _ h=>?_)
 exact Y
 exact Y
instance {a0:Int} {a1:Bool} {b1:List Int}:OK (Ux a0 a1 b1) fun r=>Br Tryz.prog 216 [(.loc 0 0),(O .i64) a0,An a1] [.cells 187 [(.loc 0 0),(.arr 1 b1.length 0 b1.length)],.rows 5 1 (List.map (O .u8) b1)] ((O .i64) r.1) [.cells 187 [(.loc 0 0),(.arr 1 r.2.length 0 r.2.length)],.rows 5 1 (List.map (O .u8) r.2)]:=⟨fun {r} h=>by
 refine aw C0 true Tryz.func216 ?_
 refine ZS ?_
 refine B7 ?_
 refine ZO ?_
 refine A4 (K5 (A4 ?_))
 refine Bz h (fun v1=>[(7,(An v1))]) (fun v1=>[]) ?_ ?_
 intro _ h _ _ _
 exact Y
 rintro v1 _ h
 refine Am h (fun _ h=>?_) (fun _ h=>?_)
 refine Z ?_
 refine A7 [0,1] h (fun _ h=>?_)
 exact Y
 refine Z ?_
 refine Am h (fun _ h=>?_) (fun _ h=>?_)
 refine Z ?_
 refine A7 [0,1] h (fun _ h=>?_)
 exact Y
 refine Z ?_
 refine Am h (fun _ h=>?_) (fun _ h=>?_)
 refine Z ?_
 refine A7 [0,1] h (fun _ h=>?_)
 exact Y
 exact Y⟩
instance {a0 a1:Int}:OK (Kn a0 a1) fun r=>As Tryz.prog 217 [(O .i64) a0,(O .i64) a1] (Ei r):=⟨fun {r} h=>by
 exact Ar4 h⟩
instance {b1:List Int}:OK (Yk b1) fun r=>Br Tryz.prog 147 [(.loc 0 0)] [.cells 187 [(.val (.pointer none)),(.arr 1 b1.length 0 b1.length)],.rows 5 1 (List.map (O .u8) b1)] (Ei r) [.cells 187 [(.val (.pointer none)),(.arr 1 b1.length 0 b1.length)],.dead]:=⟨fun {r} h=>by
 exact Ah8 h⟩
end Go.Ab
namespace Go.Ab
open Go Go.Proofs
set_option maxRecDepth 10000
set_option maxHeartbeats 4000000
set_option linter.unusedVariables false
instance {a0:Da}:OK (Lx a0) fun r=>As Tryz.prog 146 [J0 a0] (Ei r):=⟨fun {r} h=>by
 refine pw C0 Tryz.func146 ?_
 refine Z ?_
 refine Bc h (fun _ h=>?_)
 refine Z ?_
 refine Am h (fun _ h=>?_) (fun _ h=>?_)
 exact Y
 refine ZS ?_
 refine B7 ?_
 refine ZO ?_
 refine A4 (A4 ?_)
 refine D5 [.own 3 1 5 1] ?_
 refine Z ?_
 refine Xi ?_
 refine Z ?_
 refine Am h (fun _ h=>?_) (fun _ h=>?_)
 refine K4 (A4 ?_)
 refine Bz h (fun (v30,o31)=>[(4,(O .i64 0)),(6,(O .i64 v30))]) (fun (v30,o31)=>[(1,.cells 187 [(.loc 1 0),(.arr 2 o31.length 0 o31.length)]),(2,.rows 5 1 (List.map (O .u8) o31))]) ?_ ?_
 intro _ h _ _ _
 refine Z ?_
 refine Bn h (fun _ v5 _ _ h=>?_)
 refine Z ?_
 refine C5 h (fun v7 hcv7 h=>?_)
 rcases v7 with v8 | v9
 refine Fv.act [1,2] _ _ _ _ (Ai1 (a0:=v5.Coef) (a1:=true) (b1:=[]) hcv7) rfl rfl ⟨rfl,rfl,trivial⟩ ?_
 refine ZS ?_
 refine B7 ?_
 refine ZO ?_
 refine Bz h (fun o14=>[]) (fun o14=>[(1,.cells 187 [(.loc 1 0),(.arr 2 o14.length 0 o14.length)]),(2,.rows 5 1 (List.map (O .u8) o14))]) ?_ ?_
 intro _ h _ _ _
 refine Am h (fun _ h=>?_) (fun _ h=>?_)
 refine Z ?_
 refine Bc h (fun _ h=>?_)
 refine Z ?_
 refine Fw h (fun h=>?_)
 refine Z ?_
 refine A7 [1,2] h (fun _ h=>?_)
 exact Y
 exact Y
 rintro o14 _ h
 refine Z ?_
 refine Am h (fun _ h=>?_) (fun _ h=>?_)
 refine Z ?_
 refine A7 [1,2] h (fun _ h=>?_)
 exact Y
 refine Z ?_
 refine Bc h (fun _ h=>?_)
 refine Z ?_
 refine Fw h (fun h=>?_)
 refine Z ?_
 refine A7 [1,2] h (fun _ h=>?_)
 exact Y
 refine Fv.act [1,2] _ _ _ _ (Ai2 (a0:=v5.Coef) (a1:=true) (b1:=[]) hcv7) rfl rfl ⟨rfl,rfl,trivial⟩ ?_
 refine Z ?_
 refine Am h (fun _ h=>?_) (fun _ h=>?_)
 refine Z ?_
 refine Bc h (fun _ h=>?_)
 refine Z ?_
 refine Fw h (fun h=>?_)
 refine Z ?_
 refine A7 [1,2] h (fun _ h=>?_)
 refine Z ?_
 refine Am h (fun _ h=>?_) (fun _ h=>?_)
 refine Z ?_
 refine A7 [1,2] h (fun _ h=>?_)
 exact Y
 refine Z ?_
 refine Bc h (fun _ h=>?_)
 refine Z ?_
 refine Fw h (fun h=>?_)
 refine Z ?_
 refine A7 [1,2] h (fun _ h=>?_)
 exact Y
 refine Z ?_
 refine Am h (fun _ h=>?_) (fun _ h=>?_)
 refine Z ?_
 refine A7 [1,2] h (fun _ h=>?_)
 exact Y
 refine Z ?_
 refine Bc h (fun _ h=>?_)
 refine Z ?_
 refine Fw h (fun h=>?_)
 refine Z ?_
 refine A7 [1,2] h (fun _ h=>?_)
 exact Y
 rintro ⟨v30,o31⟩ _ h
 refine Z ?_
 refine A2 h (fun (v43,o44)=>[(13,(O .i64 v43))]) (fun (v43,o44)=>[(1,.cells 187 [(.loc 1 0),(.arr 2 o44.length 0 o44.length)]),(2,.rows 5 1 (List.map (O .u8) o44))]) ?_
 rintro ⟨v43,o44⟩ _ _ _ h _ _
 refine Z ?_
 refine Am h (fun _ h=>?_) (fun _ h=>?_)
 refine Z ?_
 refine Bn h (fun _ _ _ _ h=>?_)
 refine Z ?_
 refine A7 [1,2] h (fun _ h=>?_)
 refine ZS ?_
 refine B7 ?_
 refine ZO ?_
 refine Bz h (fun o51=>[]) (fun o51=>[(1,.cells 187 [(.loc 1 0),(.arr 2 o51.length 0 o51.length)]),(2,.rows 5 1 (List.map (O .u8) o51))]) ?_ ?_
 intro _ h _ _ _
 refine Am h (fun _ h=>?_) (fun _ h=>?_)
 refine Z ?_
 refine Bc h (fun _ h=>?_)
 refine Z ?_
 refine Fw h (fun h=>?_)
 refine Z ?_
 refine A7 [1,2] h (fun _ h=>?_)
 exact Y
 exact Y
 rintro o51 _ h
 refine Z ?_
 refine Am h (fun _ h=>?_) (fun _ h=>?_)
 refine Z ?_
 refine A7 [1,2] h (fun _ h=>?_)
 exact Y
 refine Z ?_
 refine Bc h (fun _ h=>?_)
 refine Z ?_
 refine Fw h (fun h=>?_)
 refine Z ?_
 refine A7 [1,2] h (fun _ h=>?_)
 exact Y
 replace h:=Ca h
 refine Gq (Gn rfl (A4 (A4 ?_)))
 refine Bz h (fun v57=>[(47,(An v57))]) (fun v57=>[]) ?_ ?_
 intro _ h _ _ _
 exact Y
 rintro v57 _ h
 refine Am h (fun _ h=>?_) (fun _ h=>?_)
 refine Z ?_
 refine A7 [1,2] h (fun _ h=>?_)
 refine Z ?_
 refine Bc h (fun _ h=>?_)
 refine Z ?_
 refine A7 [1,2] h (fun _ h=>?_)
 refine Z ?_
 refine A7 [1,2] h (fun _ h=>?_)
 exact Y
 refine Z ?_
 refine A7 [1,2] h (fun _ h=>?_)
 exact Y
 refine Gq (Gn rfl (A4 (A4 ?_)))
 refine Bz h (fun v63=>[(47,(An v63))]) (fun v63=>[]) ?_ ?_
 intro _ h _ _ _
 exact Y
 rintro v63 _ h
 refine Am h (fun _ h=>?_) (fun _ h=>?_)
 refine Z ?_
 refine C5 h (fun v64 hcv64 h=>?_)
 rcases v64 with v65 | v66
 refine Fv.act [1,2] _ _ _ _ (Ai1 (a0:=a0.Const) (a1:=((a0.Terms.length:Int)==(0:Int))) (b1:=[]) hcv64) rfl rfl ⟨rfl,rfl,trivial⟩ ?_
 refine Z ?_
 refine Bc h (fun _ h=>?_)
 refine Z ?_
 refine A7 [1,2] h (fun _ h=>?_)
 refine Z ?_
 refine A7 [1,2] h (fun _ h=>?_)
 exact Y
 refine Fv.act [1,2] _ _ _ _ (Ai2 (a0:=a0.Const) (a1:=((a0.Terms.length:Int)==(0:Int))) (b1:=[]) hcv64) rfl rfl ⟨rfl,rfl,trivial⟩ ?_
 refine Z ?_
 refine Bc h (fun _ h=>?_)
 refine Z ?_
 refine A7 [1,2] h (fun _ h=>?_)
 refine Z ?_
 refine A7 [1,2] h (fun _ h=>?_)
 exact Y
 refine Z ?_
 refine A7 [1,2] h (fun _ h=>?_)
 exact Y⟩
instance {a0:Ba}:OK (Tp a0) fun r=>As Tryz.prog 80 [Gk a0] (Ei r):=⟨fun {r} h=>by
 refine pw C0 Tryz.func80 ?_
 refine ZS ?_
 refine B7 ?_
 refine ZS ?_
 refine B7 ?_
 refine ZO ?_
 refine A4 (A4 ?_)
 refine D5 [.own 3 1 5 1] ?_
 refine Z ?_
 refine Xi ?_
 refine Z ?_
 refine Am h (fun _ h=>?_) (fun _ h=>?_)
 refine Z ?_
 refine Bn h (fun _ _ _ _ h=>?_)
 refine Z ?_
 refine Bc h (fun _ h=>?_)
 refine Z ?_
 refine A7 [1,2] h (fun _ h=>?_)
 refine Z ?_
 refine A2 h (fun (v18,o19)=>[(11,(O .i64 v18))]) (fun (v18,o19)=>[(1,.cells 187 [(.loc 1 0),(.arr 2 o19.length 0 o19.length)]),(2,.rows 5 1 (List.map (O .u8) o19))]) ?_
 rintro ⟨v18,o19⟩ _ _ _ h _ _
 refine Z ?_
 refine Am h (fun _ h=>?_) (fun _ h=>?_)
 refine Z ?_
 refine Bn h (fun _ _ _ _ h=>?_)
 refine Z ?_
 refine Bc h (fun _ h=>?_)
 refine Z ?_
 refine A7 [1,2] h (fun _ h=>?_)
 exact Y
 replace h:=Ca h
 refine Z ?_
 refine Xi ?_
 refine Z ?_
 refine Am h (fun _ h=>?_) (fun _ h=>?_)
 refine Z ?_
 refine Bn h (fun _ _ _ _ h=>?_)
 refine Z ?_
 refine Bc h (fun _ h=>?_)
 refine Z ?_
 refine Fw h (fun h=>?_)
 refine Z ?_
 refine Fw h (fun h=>?_)
 refine Z ?_
 refine Bc h (fun _ h=>?_)
 refine Z ?_
 refine Fw h (fun h=>?_)
 refine Z ?_
 refine A7 [1,2] h (fun _ h=>?_)
 refine Z ?_
 refine A2 h (fun (v51,o52)=>[(25,(O .i64 v51))]) (fun (v51,o52)=>[(1,.cells 187 [(.loc 1 0),(.arr 2 o52.length 0 o52.length)]),(2,.rows 5 1 (List.map (O .u8) o52))]) ?_
 rintro ⟨v51,o52⟩ _ _ _ h _ _
 refine Z ?_
 refine Am h (fun _ h=>?_) (fun _ h=>?_)
 refine Z ?_
 refine Bn h (fun _ _ _ _ h=>?_)
 refine Z ?_
 refine Bc h (fun _ h=>?_)
 refine Z ?_
 refine Fw h (fun h=>?_)
 refine Z ?_
 refine Fw h (fun h=>?_)
 refine Z ?_
 refine Bc h (fun _ h=>?_)
 refine Z ?_
 refine Fw h (fun h=>?_)
 refine Z ?_
 refine A7 [1,2] h (fun _ h=>?_)
 exact Y
 replace h:=Ca h
 refine Z ?_
 refine A7 [1,2] h (fun _ h=>?_)
 exact Y
 refine Z ?_
 refine A7 [1,2] h (fun _ h=>?_)
 exact Y
 refine Z ?_
 refine Xi ?_
 refine Z ?_
 refine Am h (fun _ h=>?_) (fun _ h=>?_)
 refine Z ?_
 refine Bn h (fun _ _ _ _ h=>?_)
 refine Z ?_
 refine Bc h (fun _ h=>?_)
 refine Z ?_
 refine Fw h (fun h=>?_)
 refine Z ?_
 refine Fw h (fun h=>?_)
 refine Z ?_
 refine Bc h (fun _ h=>?_)
 refine Z ?_
 refine Fw h (fun h=>?_)
 refine Z ?_
 refine A7 [1,2] h (fun _ h=>?_)
 refine Z ?_
 refine A2 h (fun (v90,o91)=>[(25,(O .i64 v90))]) (fun (v90,o91)=>[(1,.cells 187 [(.loc 1 0),(.arr 2 o91.length 0 o91.length)]),(2,.rows 5 1 (List.map (O .u8) o91))]) ?_
 rintro ⟨v90,o91⟩ _ _ _ h _ _
 refine Z ?_
 refine Am h (fun _ h=>?_) (fun _ h=>?_)
 refine Z ?_
 refine Bn h (fun _ _ _ _ h=>?_)
 refine Z ?_
 refine Bc h (fun _ h=>?_)
 refine Z ?_
 refine Fw h (fun h=>?_)
 refine Z ?_
 refine Fw h (fun h=>?_)
 refine Z ?_
 refine Bc h (fun _ h=>?_)
 refine Z ?_
 refine Fw h (fun h=>?_)
 refine Z ?_
 refine A7 [1,2] h (fun _ h=>?_)
 exact Y
 replace h:=Ca h
 refine Z ?_
 refine A7 [1,2] h (fun _ h=>?_)
 exact Y
 refine Z ?_
 refine A7 [1,2] h (fun _ h=>?_)
 exact Y⟩
instance {a0 a1:List Int}:OK (T6 a0 a1) fun r=>As Tryz.prog 173 [(Av 1 (O .u32)) a0,(Av 1 (O .u32)) a1] ((Av 1 (O .u32)) r):=⟨fun {r} h=>by
 refine pw {T:=Cg,an:=(fun _=>.ask),nl:=(fun s=>bif Nat.beq s 4 then [(0,1)] else [])} Tryz.func173 ?_
 refine ZS ?_
 refine B7 ?_
 refine ZS ?_
 refine B7 ?_
 refine ZO ?_
 refine Bz h (fun (v1,v2)=>[(0,(.sl 1 (List.map (O .u32) v1))),(1,(.sl 1 (List.map (O .u32) v2)))]) (fun (v1,v2)=>[]) ?_ ?_
 intro _ h _ _ _
 exact Y
 rintro ⟨v1,v2⟩ _ h
 refine Z ?_
 refine Ga h (fun _ h=>?_)
 refine Z ?_
 refine A2 h (fun (v20,v21,o22)=>[(5,(.arr 0 o22.length 0 o22.length)),(6,(O .u32 v20)),(22,(O .i64 v21))]) (fun (v20,v21,o22)=>[(0,.rows 133 1 (List.map (O .u32) o22))]) ?_
 rintro ⟨v20,v21,o22⟩ _ _ _ h _ _
 refine Z ?_
 refine Am h (fun _ h=>?_) (fun _ h=>?_)
 refine Z ?_
 refine Bn h (fun _ _ _ _ h=>?_)
 refine ZS ?_
 refine B7 ?_
 refine ZO ?_
 refine Bz h (fun v25=>[(8,(O .u32 v25))]) (fun v25=>[]) ?_ ?_
 intro _ h _ _ _
 exact Y
 rintro v25 _ h
 exact Y
 exact Y⟩
instance {a0 a1:List Int}:OK (Q6 a0 a1) fun r=>As Tryz.prog 175 [(Av 1 (O .u32)) a0,(Av 1 (O .u32)) a1] ((Av 1 (O .u32)) r):=⟨fun {r} h=>by
 refine pw {T:=Cg,an:=(fun _=>.ask),nl:=(fun s=>bif Nat.beq s 4 then [(0,1)] else [])} Tryz.func175 ?_
 refine Z ?_
 refine Ga h (fun _ h=>?_)
 refine Z ?_
 refine A2 h (fun (v8,v9,o10)=>[(5,(.arr 0 o10.length 0 o10.length)),(6,(O .i64 v8)),(14,(O .i64 v9))]) (fun (v8,v9,o10)=>[(0,.rows 133 1 (List.map (O .u32) o10))]) ?_
 rintro ⟨v8,v9,o10⟩ _ _ _ h _ _
 refine Z ?_
 refine Am h (fun _ h=>?_) (fun _ h=>?_)
 refine Z ?_
 refine Bn h (fun _ _ _ _ h=>?_)
 refine ZS ?_
 refine B7 ?_
 refine ZO ?_
 refine Bz h (fun v13=>[(8,(O .i64 v13))]) (fun v13=>[]) ?_ ?_
 intro _ h _ _ _
 exact Y
 rintro v13 _ h
 exact Y
 replace h:=Ca h
 refine Gq (Gn rfl (A4 ?_))
 refine D5 [.fz 5] ?_
 exact Y⟩
instance {a0 a1:Fr}:OK (Qy a0 a1) fun r=>As Tryz.prog 107 [Nf a0,Nf a1] (Nf r):=⟨fun {r} h=>by
 refine pw C0 Tryz.func107 ?_
 exact Y⟩
instance {a0 a1:Ao}:OK (Gr a0 a1) fun r=>As Tryz.prog 53 [Cq a0,Cq a1] (Cq r):=⟨fun {r} h=>by
 refine pw C0 Tryz.func53 ?_
 exact Y⟩
instance {a0:List Aq} {b1:List (ByteArray×Int)} {b2:List Aq}:OK (Lr a0 b1 b2) fun r=>Br Tryz.prog 38 [(.loc 0 0),(Av 5 B9) a0] [.cells 76 [(.mp 1),(.arr 2 b2.length 0 b2.length)],.map (Bk (O .i64) b1),.rows 84 5 (List.map B9 b2)] (.tup []) [.cells 76 [(.mp 1),(.arr 2 r.2.length 0 r.2.length)],.map (Bk (O .i64) r.1),.rows 84 5 (List.map B9 r.2)]:=⟨fun {r} h=>by
 refine aw C0 true Tryz.func38 ?_
 refine Z ?_
 refine A2 h (fun (v10,o11,o12)=>[(11,(O .i64 v10))]) (fun (v10,o11,o12)=>[(0,.cells 76 [(.mp 1),(.arr 2 o12.length 0 o12.length)]),(1,.map (Bk (O .i64) o11)),(2,.rows 84 5 (List.map B9 o12))]) ?_
 rintro ⟨v10,o11,o12⟩ _ _ _ h _ hn1
 refine Z ?_
 refine Am h (fun _ h=>?_) (fun _ h=>?_)
 refine Z ?_
 refine Bn h (fun _ _ _ _ h=>?_)
 refine Z ?_
 refine Bc h (fun _ h=>?_)
 refine ZO ?_
 refine A4 (A4 ?_)
 refine Bz h (fun (v16,v17)=>[(7,(O .i64 v16)),(8,(An v17))]) (fun (v16,v17)=>[]) ?_ ?_
 intro _ h _ _ _
 refine Z ?_
 refine Xc (f:=(O .i64)) (l:=o11) rfl (0:Int) h (fun j_ hb h=>?_) (fun hb h=>?_)
 exact Y
 exact Y
 rintro ⟨v16,v17⟩ _ h
 refine Z ?_
 refine Am h (fun _ h=>?_) (fun _ h=>?_)
 refine Z ?_
 refine Ic h (fun _ _ _ _ h=>?_)
 refine Z ?_
 refine Bc h (fun v19 h=>?_)
 refine Z ?_
 refine Ic h (fun _ v20 hiv20 _ h=>?_)
 refine Z ?_
 refine K2 (f:=B9) (x:=(Aq.mk v19 v20.Mono)) (j:=v16) rfl rfl (Nat.zero_add _) hiv20 ?_
 refine Z ?_
 exact hn1 _ _ _ _ (Option.some.inj h) ⟨rfl,trivial⟩ ⟨⟨rfl,rfl⟩,⟨rfl,rfl⟩,⟨congrArg (fun q_=>Bb.cells 76 [(.mp 1),(.arr 2 q_ 0 q_)]) (Gi (l:=o12) rfl v16 (Aq.mk v19 v20.Mono)),rfl⟩,trivial⟩ trivial
 refine Z ?_
 refine S0 (f:=(O .i64)) (l:=o11) (x:=((o12.length:Nat):Int)) rfl rfl ?_
 exact Y
 exact Y⟩
abbrev Ai3 (k:Nat):Prop:=∀{a0:A5},OK (Ui k a0) fun r=>As Tryz.prog 254 [Fb a0] (Fb r)
theorem Ast (k:Nat):Ai3 k:=by
 induction k with
 | zero=>exact Dl
 | succ k ih=>
  refine @fun a0=>⟨fun {r} h=>?_⟩
  .unfold Ui at h
   refine pw {T:=Cg,an:=(fun _=>.ask),nl:=(fun s=>bif Nat.beq s 17 then [(0,2)] else [])} Tryz.func254 ?_
   refine ZS ?_
   refine B7 ?_
   refine ZS ?_
   refine B7 ?_
   refine ZO ?_
   refine A4 (A4 ?_)
   refine D5 [.own 3 1 90 2] ?_
   refine Z ?_
   refine A2 h (fun (v15,o16)=>[(12,(O .i64 v15))]) (fun (v15,o16)=>[(2,.cells 90 [(O .i64 a0.Num),(.arr 3 o16.length 0 o16.length)]),(3,.rows 90 2 (Ht o16))]) ?_
   rintro ⟨v15,o16⟩ _ _ _ h _ _
   exact Y
instance {k:Nat}:Ai3 k:=(Ast k)
instance {a0:List C1}:OK (Acl a0) fun r=>As Tryz.prog 255 [(Av 2 Gj) a0] ((Av 2 Gj) r):=⟨fun {r} h=>by
 exact Ar9 h⟩
instance {a0:Ba}:OK (Acf a0) fun r=>As Tryz.prog 165 [Gk a0] (Gk r):=⟨fun {r} h=>by
 refine pw {T:=Cg,an:=(fun _=>.ask),nl:=(fun s=>bif Nat.beq s 44 then [(0,3)] else bif Nat.beq s 17 then [(0,3)] else [])} Tryz.func165 ?_
 refine ZS ?_
 refine B7 ?_
 refine ZS ?_
 refine B7 ?_
 refine ZO ?_
 refine A4 (A4 ?_)
 refine D5 [.own 3 0 92 3,.own 3 1 95 3] ?_
 refine Z ?_
 refine A2 h (fun (v16,o17)=>[(12,(O .i64 v16))]) (fun (v16,o17)=>[(2,.cells 45 [(.arr 3 o17.length 0 o17.length),(.arr 4 0 0 0)]),(3,.rows 92 3 (List.map Er o17))]) ?_
 rintro ⟨v16,o17⟩ _ _ _ h _ _
 refine Z ?_
 refine Am h (fun _ h=>?_) (fun _ h=>?_)
 exact Y
 replace h:=Ca h
 refine Z ?_
 refine A2 h (fun (v35,o36)=>[(31,(O .i64 v35))]) (fun (v35,o36)=>[(2,.cells 45 [(.arr 3 o17.length 0 o17.length),(.arr 4 o36.length 0 o36.length)]),(4,.rows 95 3 (List.map Ee o36))]) ?_
 rintro ⟨v35,o36⟩ _ _ _ h _ _
 exact Y⟩
instance {a0:List Aq}:OK (Ab3 a0) fun r=>As Tryz.prog 94 [(Av 5 B9) a0] ((Av 5 B9) r):=⟨fun {r} h=>by
 refine pw {T:=Cg,an:=(fun s=>bif Nat.beq s 3 then .own else .ask),nl:=(fun s=>bif Nat.beq s 3 then [(0,5)] else bif Nat.beq s 2 then [(0,5)] else [])} Tryz.func94 ?_
 refine Z ?_
 refine A2 h (fun (v14,o15)=>[(3,(.arr 0 o15.length 0 o15.length)),(8,(O .i64 v14))]) (fun (v14,o15)=>[(0,.rows 84 5 (List.map B9 o15))]) ?_
 rintro ⟨v14,o15⟩ _ _ _ h _ _
 exact Y⟩
instance {a0:Int}:OK (Ach a0) fun r=>As Tryz.prog 189 [(O .u64) a0] ((O .i64) r):=⟨fun {r} h=>by
 refine pw C0 Tryz.func189 ?_
 refine ZS ?_
 refine B7 ?_
 refine ZS ?_
 refine B7 ?_
 refine ZO ?_
 refine Bz h (fun (v2,v3)=>[(0,(O .u64 v2)),(2,(O .i64 v3))]) (fun (v2,v3)=>[]) ?_ ?_
 intro _ h _ _ _
 exact Y
 rintro ⟨v2,v3⟩ _ h
 refine ZS ?_
 refine B7 ?_
 refine ZO ?_
 refine Bz h (fun (v5,v6)=>[(0,(O .u64 v5)),(2,(O .i64 v6))]) (fun (v5,v6)=>[]) ?_ ?_
 intro _ h _ _ _
 exact Y
 rintro ⟨v5,v6⟩ _ h
 refine ZS ?_
 refine B7 ?_
 refine ZO ?_
 refine Bz h (fun (v8,v9)=>[(0,(O .u64 v8)),(2,(O .i64 v9))]) (fun (v8,v9)=>[]) ?_ ?_
 intro _ h _ _ _
 exact Y
 rintro ⟨v8,v9⟩ _ h
 exact Y⟩
instance {a0:Int}:OK (Xu a0) fun r=>As Tryz.prog 120 [(O .u64) a0] ((O .i64) r):=⟨fun {r} h=>by
 refine pw C0 Tryz.func120 ?_
 exact Y⟩
instance {a0 a1:Aq}:OK (Ts a0 a1) fun r=>As Tryz.prog 93 [B9 a0,B9 a1] ((O .i64) r):=⟨fun {r} h=>by
 refine pw C0 Tryz.func93 ?_
 exact Y⟩
instance {a0 a1:Int} {b0:List Aq}:OK (Ack a0 a1 b0) fun r=>Br Tryz.prog 246 [(.arr 0 b0.length 0 b0.length),(O .i64) a0,(O .i64) a1,(.fn 93 [])] [.rows 84 5 (List.map B9 b0)] (.tup []) [.rows 84 5 (List.map B9 r)]:=⟨fun {r} h=>by
 refine aw C0 true Tryz.func246 ?_
 refine Z ?_
 refine Fc h (fun (v21,o22)=>[(8,(O .i64 v21))]) (fun (v21,o22)=>[(0,.rows 84 5 (List.map B9 o22))]) (fun (v21,o22)=>b0.length=o22.length) ?_
 rintro ⟨v21,o22⟩ _ _ _ h _ _ q22
 refine Z ?_
 refine Am h (fun _ h=>?_) (fun _ h=>?_)
 refine Z ?_
 refine Fc h (fun (v31,o32)=>[(9,(O .i64 v31))]) (fun (v31,o32)=>[(0,.rows 84 5 (List.map B9 o32))]) (fun (v31,o32)=>b0.length=o32.length) ?_
 rintro ⟨v31,o32⟩ _ _ _ h _ _ q32
 refine A4 (A4 ?_)
 refine Bz h (fun v36=>[(34,(An v36))]) (fun v36=>[]) ?_ ?_
 intro _ h _ _ _
 exact Y
 rintro v36 _ h
 exact Y
 exact Y⟩
instance {a0 a1 a2:Int} {b0:List Aq}:OK (Ace a0 a1 a2 b0) fun r=>Br Tryz.prog 164 [(.arr 0 b0.length 0 b0.length),(O .i64) a0,(O .i64) a1,(O .i64) a2,(.fn 93 [])] [.rows 84 5 (List.map B9 b0)] (.tup []) [.rows 84 5 (List.map B9 r)]:=⟨fun {r} h=>by
 refine aw C0 true Tryz.func164 ?_
 refine Z ?_
 refine A2 h (fun _=>[(1,(O .i64 a0)),(2,(O .i64 a1)),(3,(O .i64 a2)),(10,(An true)),(11,(An true))]) (fun _=>[]) ?_
 rintro _ _ _ _ h _ _
 refine Z ?_
 refine Am h (fun _ h=>?_) (fun _ h=>?_)
 refine Z ?_
 refine A7 [0] h (fun _ h=>?_)
 refine C5 h (fun v2 hgv2 h=>?_)
 exact Y
 exact Y⟩
theorem Asu {b0:List Aq} {r:(List Aq)} (h:Ah0 b0=some r):Br Tryz.prog 92 [(.arr 0 b0.length 0 b0.length),(.fn 93 [])] [.rows 84 5 (List.map B9 b0)] (.tup []) [.rows 84 5 (List.map B9 r)]:=by
 refine aw C0 true Tryz.func92 ?_
 refine Z ?_
 refine Bc h (fun _ h=>?_)
 refine Z ?_
 refine A7 [0] h (fun _ h=>?_)
 refine C5 h (fun v3 hgv3 h=>?_)
 exact Y
instance {b0:List Aq}:OK (Xp b0) fun r=>Br Tryz.prog 92 [(.arr 0 b0.length 0 b0.length),(.fn 93 [])] [.rows 84 5 (List.map B9 b0)] (.tup []) [.rows 84 5 (List.map B9 r)]:=⟨fun {r} h=>by
 unfold Xp at h
 cases hb:Nat.ble b0.length 12 with
 | true=>rw [hb] at h; exact Asu h
 | false=>rw [hb] at h; exact Asm (eA:=B9) (cmp:=Ts) (g:=93) (enters_of Tryz.func93 (by kernel_rfl) rfl) (fun x y n h=>(OK.ok h :)) (fun x=>⟨_,rfl⟩) h (by rintro rfl; cases hb)⟩
instance {b1:List (ByteArray×Int)} {b2:List Aq}:OK (Xl b1 b2) fun r=>Br Tryz.prog 46 [(.loc 0 0)] [.cells 76 [(.mp 1),(.arr 2 b2.length 0 b2.length)],.map (Bk (O .i64) b1),.rows 84 5 (List.map B9 b2)] (.tup [(Av 5 B9) r.1,(O .i64) r.2]) [.cells 76 [(.mp 1),(.arr 2 b2.length 0 b2.length)],.map (Bk (O .i64) b1),.rows 84 5 (List.map B9 b2)]:=⟨fun {r} h=>by
 refine aw {T:=Cg,an:=(fun s=>bif Nat.beq s 4 then .own else .ask),nl:=(fun s=>bif Nat.beq s 4 then [(0,5)] else bif Nat.beq s 2 then [(0,5)] else [])} true Tryz.func46 ?_
 refine Z ?_
 refine A2 h (fun (v12,o13)=>[(4,(.arr 3 o13.length 0 o13.length)),(12,(O .i64 v12))]) (fun (v12,o13)=>[(3,.rows 84 5 (List.map B9 o13))]) ?_
 rintro ⟨v12,o13⟩ _ _ _ h _ _
 refine Z ?_
 refine Am h (fun _ h=>?_) (fun _ h=>?_)
 exact Y
 replace h:=Ca h
 refine Z ?_
 refine Am h (fun _ h=>?_) (fun _ h=>?_)
 exact Y
 refine Z ?_
 refine A7 [3] h (fun _ h=>?_)
 refine C5 h (fun v20 hgv20 h=>?_)
 refine ZO ?_
 refine A4 ?_
 refine D5 [.fz 4] ?_
 exact Y⟩
instance {a0:Ba} {b1:List (ByteArray×Int)} {b2:List (ByteArray×(List Df))} {b0_0:List Al} {b0_1:List Ag} {b0_2 b0_3:Int} {b0_4:List Ag}:OK (Ab2 a0 b1 b2 b0_0 b0_1 b0_2 b0_3 b0_4) fun r=>Br Tryz.prog 91 [(.loc 0 0),Gk a0] [.cells 129 [(.sl 3 (List.map Bv b0_0)),(.sl 3 (Bd b0_1)),(O .i64 b0_2),(O .i64 b0_3),(.sl 3 (Bd b0_4)),(.mp 1),(.mp 2)],.map (Bk (O .i64) b1),.map (Bk (Av 5 Eb) b2)] (.tup [(Av 5 B9) r.1,(O .i64) r.2]) [.cells 129 [(.sl 3 (List.map Bv b0_0)),(.sl 3 (Bd b0_1)),(O .i64 b0_2),(O .i64 b0_3),(.sl 3 (Bd b0_4)),(.mp 1),(.mp 2)],.map (Bk (O .i64) b1),.map (Bk (Av 5 Eb) b2)]:=⟨fun {r} h=>by
 refine aw {T:=Cg,an:=(fun _=>.ask),nl:=(fun s=>bif Nat.beq s 4 then [(0,5)] else [])} true Tryz.func91 ?_
 refine Z ?_
 refine Bc h (fun _ h=>?_)
 refine Z ?_
 refine A7 [0,1,2] h (fun _ h=>?_)
 refine Z ?_
 refine Am h (fun _ h=>?_) (fun _ h=>?_)
 exact Y
 refine Z ?_
 refine A7 [] h (fun _ h=>?_)
 refine Z ?_
 refine A7 [5,4,6] h (fun _ h=>?_)
 refine Z ?_
 refine A7 [5,4,6] h (fun _ h=>?_)
 exact Y⟩
instance {a0:Ao} {a1:Ba}:OK (Ah1 a0 a1) fun r=>As Tryz.prog 163 [(.val (.pointer none)),Cq a0,Gk a1] (.tup [(Av 5 B9) r.1,(O .i64) r.2]):=⟨fun {r} h=>by
 refine pw {T:=Cg,an:=(fun s=>bif Nat.beq s 22 then .own else .ask),nl:=(fun s=>bif Nat.beq s 155 then [(0,3)] else bif Nat.beq s 31 then [(3,3),(4,3)] else bif Nat.beq s 22 then [(0,5)] else bif Nat.beq s 6 then [(0,5)] else [])} Tryz.func163 ?_
 refine Z ?_
 refine Bc h (fun _ h=>?_)
 refine Z ?_
 refine Am h (fun _ h=>?_) (fun _ h=>?_)
 exact Y
 refine Z ?_
 refine Bc h (fun v4 h=>?_)
 refine Z ?_
 refine Bc h (fun _ h=>?_)
 refine Z ?_
 refine A2 h (fun _=>[(6,(.sl 5 (List.map B9 []))),(7,(O .i64 0)),(8,(.sl 5 (List.map B9 [(Aq.mk a0 (Ba.mk [] []))]))),(9,(.sl 3 (List.map Er v4)))]) (fun _=>[]) ?_
 rintro _ _ _ _ h _ _
 refine Z ?_
 refine Am h (fun _ h=>?_) (fun _ h=>?_)
 refine Z ?_
 refine Bn h (fun _ _ _ _ h=>?_)
 refine Z ?_
 refine A2 h (fun v8=>[(11,(O .i64 v8))]) (fun v8=>[]) ?_
 rintro v8 _ _ _ h _ _
 exact Y
 replace h:=Ca h
 refine Z ?_
 refine Bc h (fun _ h=>?_)
 refine Z ?_
 refine Bc h (fun _ h=>?_)
 refine Z ?_
 refine A2 h (fun (v104,v105)=>[(8,(.sl 5 (List.map B9 v104))),(19,(.sl 3 (List.map Ee v105)))]) (fun (v104,v105)=>[]) ?_
 rintro ⟨v104,v105⟩ _ _ _ h _ _
 refine Z ?_
 refine Am h (fun _ h=>?_) (fun _ h=>?_)
 refine Z ?_
 refine Bn h (fun _ _ _ _ h=>?_)
 refine Z ?_
 refine A2 h (fun v110=>[(21,(O .i64 v110))]) (fun v110=>[]) ?_
 rintro v110 _ _ _ h _ _
 refine Z ?_
 refine Fx h (fun _ h=>?_) (fun _ h=>?_)
 refine Z ?_
 refine Bn h (fun _ _ _ _ h=>?_)
 refine Z ?_
 refine Bc h (fun _ h=>?_)
 refine Z ?_
 refine Am h (fun _ h=>?_) (fun _ h=>?_)
 exact Y
 replace h:=Ca h
 refine Z ?_
 refine Ph h (fun _ h=>?_)
 refine Z ?_
 refine Bc h (fun _ h=>?_)
 refine Z ?_
 refine A2 h (fun (v167,o168)=>[(22,(.arr 3 o168.length 0 o168.length)),(135,(O .i64 v167))]) (fun (v167,o168)=>[(3,.rows 84 5 (List.map B9 o168))]) ?_
 rintro ⟨v167,o168⟩ _ _ _ h _ _
 refine Z ?_
 refine Am h (fun _ h=>?_) (fun _ h=>?_)
 refine Z ?_
 refine Bn h (fun _ _ _ _ h=>?_)
 refine Z ?_
 refine Bc h (fun _ h=>?_)
 refine Z ?_
 refine Am h (fun _ h=>?_) (fun _ h=>?_)
 exact Y
 refine Z ?_
 refine A2 h (fun (v184,o185)=>[(22,(.arr 3 o185.length 0 o185.length)),(145,(O .i64 v184))]) (fun (v184,o185)=>[(3,.rows 84 5 (List.map B9 o185))]) ?_
 rintro ⟨v184,o185⟩ _ _ _ h _ _
 exact Y
 replace h:=Ca h
 refine Gq (Gn rfl ?_)
 refine D5 [.fz 22] ?_
 exact Y
 replace h:=Ca h
 refine Z ?_
 refine Ph h (fun _ h=>?_)
 refine Z ?_
 refine Bc h (fun _ h=>?_)
 refine Z ?_
 refine A2 h (fun (v167,o168)=>[(22,(.arr 3 o168.length 0 o168.length)),(135,(O .i64 v167))]) (fun (v167,o168)=>[(3,.rows 84 5 (List.map B9 o168))]) ?_
 rintro ⟨v167,o168⟩ _ _ _ h _ _
 refine Z ?_
 refine Am h (fun _ h=>?_) (fun _ h=>?_)
 refine Z ?_
 refine Bn h (fun _ _ _ _ h=>?_)
 refine Z ?_
 refine Bc h (fun _ h=>?_)
 refine Z ?_
 refine Am h (fun _ h=>?_) (fun _ h=>?_)
 exact Y
 refine Z ?_
 refine A2 h (fun (v184,o185)=>[(22,(.arr 3 o185.length 0 o185.length)),(145,(O .i64 v184))]) (fun (v184,o185)=>[(3,.rows 84 5 (List.map B9 o185))]) ?_
 rintro ⟨v184,o185⟩ _ _ _ h _ _
 exact Y
 replace h:=Ca h
 refine Gq (Gn rfl ?_)
 refine D5 [.fz 22] ?_
 exact Y
 exact Y⟩
instance {a0:Ba}:OK (Ah2 a0) fun r=>As Tryz.prog 91 [(.val (.pointer none)),Gk a0] (.tup [(Av 5 B9) r.1,(O .i64) r.2]):=⟨fun {r} h=>by
 refine pw {T:=Cg,an:=(fun _=>.ask),nl:=(fun s=>bif Nat.beq s 4 then [(0,5)] else [])} Tryz.func91 ?_
 refine Z ?_
 refine Bc h (fun _ h=>?_)
 refine Z ?_
 refine Bc h (fun _ h=>?_)
 refine Z ?_
 refine Am h (fun _ h=>?_) (fun _ h=>?_)
 exact Y
 refine Z ?_
 refine A7 [] h (fun _ h=>?_)
 refine Z ?_
 refine A7 [2,1,3] h (fun _ h=>?_)
 refine Z ?_
 refine A7 [2,1,3] h (fun _ h=>?_)
 exact Y⟩
instance {a0:Cf} {a1:Da} {a2:Int}:OK (Ab0 a0 a1 a2) fun r=>As Tryz.prog 44 [Ko a0,J0 a1,(O .i64) a2] (.tup [(Av 5 B9) r.1,(O .i64) r.2]):=⟨fun {r} h=>by
 refine pw {T:=Cg,an:=(fun _=>.ask),nl:=(fun s=>bif Nat.beq s 37 then [(0,3)] else bif Nat.beq s 6 then [(0,5)] else [])} Tryz.func44 ?_
 refine Z ?_
 refine C5 h (fun v3 hcv3 h=>?_)
 rcases v3 with v4 | v9
 refine Fv.act [] _ _ _ _ (Br.sub (args:=[_,.val (.slice none 0 0)]) (Yp (a0:=a0) (a1:=[]) hcv3) ⟨Sub.refl _,Sub.nil _,trivial⟩) rfl rfl trivial ?_
 refine Z ?_
 refine Am h (fun _ h=>?_) (fun _ h=>?_)
 exact Y
 refine K4 (A4 (A4 ?_))
 refine Bz h (fun v11=>[(27,(An v11))]) (fun v11=>[]) ?_ ?_
 intro _ h _ _ _
 exact Y
 rintro v11 _ h
 refine Am h (fun _ h=>?_) (fun _ h=>?_)
 exact Y
 refine Z ?_
 refine A7 [5,3,4] h (fun _ h=>?_)
 refine Z ?_
 refine Am h (fun _ h=>?_) (fun _ h=>?_)
 exact Y
 refine Z ?_
 refine A7 [5,3,4] h (fun _ h=>?_)
 exact Y
 refine Fv.act [] _ _ _ _ (Br.sub (args:=[_,.val (.slice none 0 0)]) (Yq (a0:=a0) (a1:=[]) hcv3) ⟨Sub.refl _,Sub.nil _,trivial⟩) rfl rfl trivial ?_
 refine Z ?_
 refine Am h (fun _ h=>?_) (fun _ h=>?_)
 exact Y
 refine K4 (A4 (A4 ?_))
 refine Bz h (fun v15=>[(27,(An v15))]) (fun v15=>[]) ?_ ?_
 intro _ h _ _ _
 exact Y
 rintro v15 _ h
 exact Y⟩
instance {a0:Cf} {a1:List Aq}:OK (Ab1 a0 a1) fun r=>As Tryz.prog 45 [Ko a0,(Av 5 B9) a1] (An r):=⟨fun {r} h=>by
 refine pw C0 Tryz.func45 ?_
 refine Z ?_
 refine C5 h (fun v2 hcv2 h=>?_)
 rcases v2 with v3 | v8
 refine Fv.act [] _ _ _ _ (Yp (a0:=a0) (a1:=[a1]) hcv2) rfl rfl trivial ?_
 exact Y
 refine Fv.act [] _ _ _ _ (Yq (a0:=a0) (a1:=[a1]) hcv2) rfl rfl trivial ?_
 exact Y⟩
instance {a0:List Int}:OK (Is a0) fun r=>As Tryz.prog 179 [(Av 1 (O .u32)) a0] ((Av 1 (O .u32)) r):=⟨fun {r} h=>by
 refine pw {T:=Cg,an:=(fun _=>.ask),nl:=(fun s=>bif Nat.beq s 2 then [(0,1)] else [])} Tryz.func179 ?_
 refine Z ?_
 refine A2 h (fun v2=>[(3,(O .i64 v2))]) (fun v2=>[]) ?_
 rintro v2 _ _ _ h _ _
 exact Y⟩
instance {a0:List Int}:OK (Q2 a0) fun r=>As Tryz.prog 155 [(Av 1 (O .u32)) a0] ((Av 1 (O .u32)) r):=⟨fun {r} h=>by
 refine pw {T:=Cg,an:=(fun s=>bif Nat.beq s 3 then .own else .ask),nl:=(fun s=>bif Nat.beq s 3 then [(0,1)] else bif Nat.beq s 2 then [(0,1)] else [])} Tryz.func155 ?_
 refine Z ?_
 refine A2 h (fun (v13,v14,o15)=>[(3,(.arr 0 o15.length 0 o15.length)),(4,(O .u64 v13)),(5,(O .i64 v14))]) (fun (v13,v14,o15)=>[(0,.rows 133 1 (List.map (O .u32) o15))]) ?_
 rintro ⟨v13,v14,o15⟩ _ _ _ h _ _
 refine Z ?_
 refine Am h (fun _ h=>?_) (fun _ h=>?_)
 exact Y
 replace h:=Ca h
 refine Z ?_
 refine Am h (fun _ h=>?_) (fun _ h=>?_)
 refine Z ?_
 refine Uz h (fun _ h=>?_)
 refine ZO ?_
 refine A4 ?_
 refine D5 [.fz 3] ?_
 exact Y
 refine K4 (A4 ?_)
 refine D5 [.fz 3] ?_
 exact Y⟩
instance {a0 a1:List Int}:OK (Uh a0 a1) fun r=>As Tryz.prog 233 [(Av 1 (O .u32)) a0,(Av 1 (O .u32)) a1] ((O .u64) r):=⟨fun {r} h=>by
 refine pw C0 Tryz.func233 ?_
 exact Y⟩
instance {a0:Int}:OK (Lu a0) fun r=>As Tryz.prog 88 [(O .u64) a0] ((Av 1 (O .u32)) r):=⟨fun {r} h=>by
 refine pw {T:=Cg,an:=(fun s=>bif Nat.beq s 3 then .own else .ask),nl:=(fun s=>bif Nat.beq s 3 then [(0,1)] else bif Nat.beq s 2 then [(0,1)] else [])} Tryz.func88 ?_
 refine Z ?_
 refine A2 h (fun (v10,o11)=>[(0,(O .u64 v10)),(3,(.arr 0 o11.length 0 o11.length))]) (fun (v10,o11)=>[(0,.rows 133 1 (List.map (O .u32) o11))]) ?_
 rintro ⟨v10,o11⟩ _ _ _ h _ _
 exact Y⟩
instance {a0 a1:List Int}:OK (Mz a0 a1) fun r=>As Tryz.prog 113 [(Av 1 (O .u32)) a0,(Av 1 (O .u32)) a1] ((O .i64) r):=⟨fun {r} h=>by
 refine pw C0 Tryz.func113 ?_
 refine Z ?_
 refine Am h (fun _ h=>?_) (fun _ h=>?_)
 exact Y
 refine Z ?_
 refine A2 h (fun v5=>[(4,(O .i64 0)),(5,(O .i64 v5))]) (fun v5=>[]) ?_
 rintro v5 _ _ _ h _ _
 exact Y⟩
instance {a0 a1:List Int}:OK (Jx a0 a1) fun r=>As Tryz.prog 111 [(Av 1 (O .u32)) a0,(Av 1 (O .u32)) a1] ((Av 1 (O .u32)) r):=⟨fun {r} h=>by
 refine pw {T:=Cg,an:=(fun _=>.ask),nl:=(fun s=>bif Nat.beq s 4 then [(0,1)] else [])} Tryz.func111 ?_
 refine Z ?_
 refine Ga h (fun o1 h=>?_)
 refine Z ?_
 refine Fc h (fun (v25,o26)=>[(6,(O .i64 v25))]) (fun (v25,o26)=>[(0,.rows 133 1 (List.map (O .u32) o26))]) (fun (v25,o26)=>o1.length=o26.length) ?_
 rintro ⟨v25,o26⟩ _ _ _ h _ _ q26
 refine Z ?_
 refine Am h (fun _ h=>?_) (fun _ h=>?_)
 refine Z ?_
 refine Fc h (fun (v35,v36,o37)=>[(7,(O .u64 v35)),(8,(O .i64 v36))]) (fun (v35,v36,o37)=>[(0,.rows 133 1 (List.map (O .u32) o37))]) (fun (v35,v36,o37)=>o1.length=o37.length) ?_
 rintro ⟨v35,v36,o37⟩ _ _ _ h _ _ q37
 refine A4 (A4 ?_)
 refine Bz h (fun v38=>[(29,(An v38))]) (fun v38=>[]) ?_ ?_
 intro _ h _ _ _
 exact Y
 rintro v38 _ h
 refine Am h (fun _ h=>?_) (fun _ h=>?_)
 refine Z ?_
 refine Ic h (fun _ _ _ _ h=>?_)
 refine ZS ?_
 refine B7 ?_
 refine ZO ?_
 refine Bz h (fun v42=>[(7,(O .u64 v42))]) (fun v42=>[]) ?_ ?_
 intro _ h _ _ _
 exact Y
 rintro v42 _ h
 exact Y
 exact Y
 replace h:=Ca h
 refine Gq (Gn rfl (A4 ?_))
 refine D5 [.fz 5] ?_
 exact Y⟩
instance {a0:List Int} {a1:Int}:OK (Ug a0 a1) fun r=>As Tryz.prog 232 [(Av 1 (O .u32)) a0,(O .u64) a1] (.tup [(Av 1 (O .u32)) r.1,(O .u64) r.2]):=⟨fun {r} h=>by
 refine pw {T:=Cg,an:=(fun _=>.ask),nl:=(fun s=>bif Nat.beq s 4 then [(0,1)] else [])} Tryz.func232 ?_
 refine Z ?_
 refine Ga h (fun o1 h=>?_)
 refine Z ?_
 refine Fc h (fun (v7,v8,o9)=>[(7,(O .u64 v7)),(8,(O .i64 v8))]) (fun (v7,v8,o9)=>[(0,.rows 133 1 (List.map (O .u32) o9))]) (fun (v7,v8,o9)=>o1.length=o9.length) ?_
 rintro ⟨v7,v8,o9⟩ _ _ _ h _ _ q9
 refine Z ?_
 refine Am h (fun _ h=>?_) (fun _ h=>?_)
 exact Y
 replace h:=Ca h
 refine Gq (Gn rfl (A4 ?_))
 refine D5 [.fz 6] ?_
 exact Y⟩
instance {a0 a1:List Int}:OK (M0 a0 a1) fun r=>As Tryz.prog 114 [(Av 1 (O .u32)) a0,(Av 1 (O .u32)) a1] ((Av 1 (O .u32)) r):=⟨fun {r} h=>by
 refine pw {T:=Cg,an:=(fun _=>.ask),nl:=(fun s=>bif Nat.beq s 4 then [(0,1)] else [])} Tryz.func114 ?_
 refine Z ?_
 refine Ga h (fun o1 h=>?_)
 refine Z ?_
 refine Fc h (fun (v10,v11,o12)=>[(6,(O .u32 v10)),(7,(O .i64 v11))]) (fun (v10,v11,o12)=>[(0,.rows 133 1 (List.map (O .u32) o12))]) (fun (v10,v11,o12)=>o1.length=o12.length) ?_
 rintro ⟨v10,v11,o12⟩ _ _ _ h _ _ q12
 refine Z ?_
 refine Am h (fun _ h=>?_) (fun _ h=>?_)
 refine ZS ?_
 refine B7 ?_
 refine ZS ?_
 refine B7 ?_
 refine ZO ?_
 refine Bz h (fun v14=>[(8,(O .u32 v14))]) (fun v14=>[]) ?_ ?_
 intro _ h _ _ _
 exact Y
 rintro v14 _ h
 exact Y
 replace h:=Ca h
 refine Gq (Gn rfl (A4 ?_))
 refine D5 [.fz 5] ?_
 exact Y⟩
end Go.Ab
