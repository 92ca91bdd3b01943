/- The contracts of the functions, each by its walk (made by a program). -/
import Derived.Test.YtenghgogpgldaaaGreatDoorPsHand
import Derived.Test.YtenghgogpgldaaaGreatDoorPsDef
namespace Go.Ab
open Go Go.Proofs
set_option maxRecDepth 10000
set_option maxHeartbeats 4000000
set_option linter.unusedVariables false
theorem Aqg (x0 x1 y0 y1:Int):Sg Tryz.prog 105 [.int .i64 x0,.int .i64 x1] [.int .i64 y0,.int .i64 y1] (x0==y0&&(x1==y1)):=by
 have u:Tryz.prog.underlying 105=some (.struct #[⟨ "Var",3,0,false,"","",0⟩,⟨ "Coef",2,1,false,"","",8⟩]):=by kernel_rfl
 have u2:Tryz.prog.underlying 2=some (.int .i64):=by kernel_rfl
 have u3:Tryz.prog.underlying 3=some (.int .i64):=by kernel_rfl
 have s:Tryz.prog.stoodInHeld 105=false:=by kernel_rfl
 have g:Tryz.prog.eqGuardType Tryz.prog.depth 105=false:=by kernel_rfl
 intro w op x y
 constructor
 .unfold eqGuard
  cases op <;> simp [program,Sem.run,g]
 .show (Op.equalIn (9999+1) 105 _ _).run _ w=_
  unfold Op.equalIn
  simp only [Sem.run_bind,run_underlying u,Result.andThen_ok]
  have hp:(program).run Tryz.prog w = .ok Tryz.prog w:=rfl
  simp only [hp,Result.andThen_ok,s]
  simp [Aek w u2,Ael w u2 9998,Aek w u3,Ael w u3 9998]
  by_cases h0:x0=y0 <;> by_cases h1:x1=y1 <;> simp [*]
instance {a0:A5}:OK (Mm a0) fun r=>Aq Tryz.prog 11 [C7 a0] (Al r):=⟨fun {r} h=>by
 refine pw C0 Tryz.func11 ?_
 exact Y⟩
abbrev Ag4 (k:Nat):Prop:=∀{a0 a1:A8},OK (Ok k a0 a1) fun r=>Aq Tryz.prog 95 [Et a0,Et a1] (Al r)
abbrev Ag5 (k:Nat):Prop:=∀{a0 a1:List A8},OK (Q4 k a0 a1) fun r=>Aq Tryz.prog 166 [(Fx 2 Gv) a0,(Fx 2 Gv) a1] (Al r)
theorem Ag6 (k:Nat):Ag4 k/\Ag5 k:=by
 induction k with
 | zero=>exact ⟨okz,okz⟩
 | succ k ih=>
  obtain ⟨i0_,i1_⟩:=ih
  refine ⟨@fun a0 a1=>⟨fun {r} h=>?_⟩,@fun a0 a1=>⟨fun {r} h=>?_⟩⟩
  .unfold Ok at h
   refine pw C0 Tryz.func95 ?_
   exact Y
  .unfold Q4 at h
   refine pw C0 Tryz.func166 ?_
   refine Z ?_
   refine Ao h (fun _ h=>?_) (fun _ h=>?_)
   exact Y
   refine Z ?_
   refine Az h (fun v4=>[(4,(Al false)),(13,(O .i64 v4))]) (fun v4=>[]) ?_
   rintro v4 _ _ _ h _ _
   exact Y
instance {k:Nat}:Ag4 k:=(Ag6 k).1
instance {k:Nat}:Ag5 k:=(Ag6 k).2
instance {a0 a1:Cu}:OK (Tf a0 a1) fun r=>Aq Tryz.prog 96 [Gc a0,Gc a1] (Al r):=⟨fun {r} h=>by
 refine pw C0 Tryz.func96 ?_
 refine ZS ?_
 refine Bq ?_
 refine ZO ?_
 refine Ax (Ax ?_)
 refine Bo h (fun v3=>[(19,(Al v3))]) (fun v3=>[]) ?_ ?_
 intro _ h _ _ _
 exact Y
 rintro v3 _ h
 refine Ao h (fun _ h=>?_) (fun _ h=>?_)
 exact Y
 refine Z ?_
 refine Az h (fun v6=>[(4,(Al false)),(23,(O .i64 v6))]) (fun v6=>[]) ?_
 rintro v6 _ _ _ h _ _
 refine Z ?_
 refine Ao h (fun _ h=>?_) (fun _ h=>?_)
 refine Z ?_
 refine B2 h (fun _ v7 _ _ h=>?_)
 refine Z ?_
 refine B2 h (fun _ v8 _ _ h=>?_)
 refine Z ?_
 refine Z4.mk _ (Aqg v7.Var v7.Coef v8.Var v8.Coef) ?_
 exact Y
 exact Y⟩
instance {a0 a1:Bb}:OK (S5 a0 a1) fun r=>Aq Tryz.prog 48 [Ez a0,Ez a1] (Al r):=⟨fun {r} h=>by
 refine pw C0 Tryz.func48 ?_
 refine ZS ?_
 refine Bq ?_
 refine ZO ?_
 refine Ax (Ax ?_)
 refine Bo h (fun v3=>[(22,(Al v3))]) (fun v3=>[]) ?_ ?_
 intro _ h _ _ _
 exact Y
 rintro v3 _ h
 refine Ao h (fun _ h=>?_) (fun _ h=>?_)
 exact Y
 refine Z ?_
 refine Az h (fun v9=>[(4,(Al false)),(26,(O .i64 v9))]) (fun v9=>[]) ?_
 rintro v9 _ _ _ h _ _
 refine Z ?_
 refine Ao h (fun _ h=>?_) (fun _ h=>?_)
 exact Y
 replace h:=Cl h
 refine Z ?_
 refine Az h (fun v21=>[(4,(Al false)),(62,(O .i64 v21))]) (fun v21=>[]) ?_
 rintro v21 _ _ _ h _ _
 exact Y⟩
instance {a0 a1:List Int}:OK (Qv a0 a1) fun r=>Aq Tryz.prog 51 [(Ar 1 (O .u32)) a0,(Ar 1 (O .u32)) a1] (Al r):=⟨fun {r} h=>by
 refine pw C0 Tryz.func51 ?_
 refine Z ?_
 refine Ao h (fun _ h=>?_) (fun _ h=>?_)
 exact Y
 refine Z ?_
 refine Az h (fun v3=>[(4,(Al false)),(13,(O .i64 v3))]) (fun v3=>[]) ?_
 rintro v3 _ _ _ h _ _
 exact Y⟩
instance {a0 a1:A5}:OK (Qs a0 a1) fun r=>Aq Tryz.prog 21 [C7 a0,C7 a1] (Al r):=⟨fun {r} h=>by
 refine pw C0 Tryz.func21 ?_
 exact Y⟩
instance {a0 a1:List Aj}:OK (I6 a0 a1) fun r=>Aq Tryz.prog 16 [(Ar 5 Bj) a0,(Ar 5 Bj) a1] (Al r):=⟨fun {r} h=>by
 refine pw C0 Tryz.func16 ?_
 refine Z ?_
 refine Ao h (fun _ h=>?_) (fun _ h=>?_)
 exact Y
 refine Z ?_
 refine Az h (fun v7=>[(4,(Al false)),(13,(O .i64 v7))]) (fun v7=>[]) ?_
 rintro v7 _ _ _ h _ _
 exact Y⟩
instance {a0:Int}:OK (Q2 a0) fun r=>Aq Tryz.prog 158 [(O .i64) a0] (Al r):=⟨fun {r} h=>by
 refine pw C0 Tryz.func158 ?_
 exact Y⟩
instance {a0:Int}:OK (Ts a0) fun r=>Aq Tryz.prog 159 [(O .i64) a0] (Al r):=⟨fun {r} h=>by
 refine pw C0 Tryz.func159 ?_
 exact Y⟩
instance {a0:Cu}:OK (Lp a0) fun r=>Aq Tryz.prog 89 [Gc a0] (Al r):=⟨fun {r} h=>by
 refine pw C0 Tryz.func89 ?_
 refine ZS ?_
 refine Bq ?_
 refine ZO ?_
 refine Ax (Ax ?_)
 refine Bo h (fun v3=>[(14,(Al v3))]) (fun v3=>[]) ?_ ?_
 intro _ h _ _ _
 exact Y
 rintro v3 _ h
 refine Ao h (fun _ h=>?_) (fun _ h=>?_)
 exact Y
 refine Z ?_
 refine Az h (fun v8=>[(2,(Al false)),(18,(O .i64 v8))]) (fun v8=>[]) ?_
 rintro v8 _ _ _ h _ _
 exact Y⟩
instance {a0:List Ay}:OK (Abc a0) fun r=>Aq Tryz.prog 136 [Pi (Ht.mk a0 [] [] [])] (Al r):=⟨fun {r} h=>by
 refine pw C0 Tryz.func136 ?_
 refine Z ?_
 refine Gd h (fun _ h=>?_)
 refine Z ?_
 refine Az h (fun _=>[(2,(Al false)),(20,(O .i64 0))]) (fun _=>[]) ?_
 rintro _ _ _ _ h _ _
 replace h:=Cl h
 refine Z ?_
 refine Az h (fun _=>[(2,(Al false)),(40,(O .i64 0))]) (fun _=>[]) ?_
 rintro _ _ _ _ h _ _
 exact Y⟩
instance {a0:List Ay}:OK (Aba a0) fun r=>Aq Tryz.prog 134 [Pi (Ht.mk a0 [] [] [])] (Al r):=⟨fun {r} h=>by
 refine pw C0 Tryz.func134 ?_
 refine Z ?_
 refine Az h (fun _=>[(2,(Al false)),(4,(Al false)),(21,(O .i64 0))]) (fun _=>[]) ?_
 rintro _ _ _ _ h _ _
 exact Y⟩
instance {a0:Int}:OK (Ub a0) fun r=>Aq Tryz.prog 308 [(O .u8) a0] (Al r):=⟨fun {r} h=>by
 refine pw C0 Tryz.func308 ?_
 exact Y⟩
instance {a0:ByteArray}:OK (Ui a0) fun r=>Aq Tryz.prog 350 [Db a0] (Al r):=⟨fun {r} h=>by
 refine pw C0 Tryz.func350 ?_
 exact Y⟩
instance {a0:Int}:OK (M6 a0) fun r=>Aq Tryz.prog 351 [(O .u8) a0] (Al r):=⟨fun {r} h=>by
 refine pw C0 Tryz.func351 ?_
 exact Y⟩
instance {a0:Int}:OK (Rk a0) fun r=>Aq Tryz.prog 346 [(O .u8) a0] (Al r):=⟨fun {r} h=>by
 refine pw C0 Tryz.func346 ?_
 exact Y⟩
instance {a0:Int}:OK (Pd a0) fun r=>Aq Tryz.prog 347 [(O .u8) a0] (Al r):=⟨fun {r} h=>by
 refine pw C0 Tryz.func347 ?_
 exact Y⟩
instance {a0:Int}:OK (Rl a0) fun r=>Aq Tryz.prog 349 [(O .u8) a0] (Al r):=⟨fun {r} h=>by
 refine pw C0 Tryz.func349 ?_
 exact Y⟩
instance {a0:ByteArray}:OK (Uh a0) fun r=>Aq Tryz.prog 348 [Db a0,(.fn 349 [])] (Db r):=⟨fun {r} h=>by
 refine pw C0 Tryz.func348 ?_
 refine Z ?_
 refine Az h (fun v3=>[(5,(O .i64 v3))]) (fun v3=>[]) ?_
 rintro v3 _ _ _ h _ _
 exact Y⟩
instance {a0:ByteArray}:OK (Xm a0) fun r=>Aq Tryz.prog 348 [Db a0,(.fn 351 [])] (Db r):=⟨fun {r} h=>by
 refine pw C0 Tryz.func348 ?_
 refine Z ?_
 refine Az h (fun v3=>[(5,(O .i64 v3))]) (fun v3=>[]) ?_
 rintro v3 _ _ _ h _ _
 exact Y⟩
instance {a0:ByteArray}:OK (Uk a0) fun r=>Aq Tryz.prog 353 [Db a0] (Db r):=⟨fun {r} h=>by
 refine pw C0 Tryz.func353 ?_
 refine ZS ?_
 refine Bq ?_
 refine ZS ?_
 refine Bq ?_
 refine ZO ?_
 refine Xr (fun (x:Unit)=>(.inr x)) h (fun _=>[(2,(Db (ByteArray.mk #[])))]) (fun _=>[]) ?_ ?_
 intro _ h _ _ _
 exact Y
 rintro _ _ h
 exact Y⟩
instance {a0:ByteArray}:OK (Uj a0) fun r=>Aq Tryz.prog 352 [Db a0] (Al r):=⟨fun {r} h=>by
 refine pw C0 Tryz.func352 ?_
 refine Z ?_
 refine Az h (fun (v2,v3)=>[(2,(Al false)),(3,(O .i64 v2)),(7,(O .i64 v3))]) (fun (v2,v3)=>[]) ?_
 rintro ⟨v2,v3⟩ _ _ _ h _ _
 exact Y⟩
instance {a0:ByteArray} {a1:Int}:OK (Uc a0 a1) fun r=>Aq Tryz.prog 309 [Db a0,(O .i64) a1] (.tup [Xl r.1,(O .i64) r.2]):=⟨fun {r} h=>by
 refine pw C0 Tryz.func309 ?_
 refine Z ?_
 refine J4 h (fun _ h=>?_)
 refine ZO ?_
 refine J5 (Ax ?_)
 refine Bo h (fun v6=>[(23,(Al v6))]) (fun v6=>[]) ?_ ?_
 intro _ h _ _ _
 exact Y
 rintro v6 _ h
 refine Ao h (fun _ h=>?_) (fun _ h=>?_)
 exact Y
 refine Z ?_
 refine Bd h (fun _ h=>?_)
 refine Z ?_
 refine Ao h (fun _ h=>?_) (fun _ h=>?_)
 refine Z ?_
 refine Aax h (fun _ _ _ _ h=>?_)
 refine Z ?_
 refine Bd h (fun _ h=>?_)
 refine ZO ?_
 refine Ax (Ax ?_)
 refine Bo h (fun v14=>[(67,(Al v14))]) (fun v14=>[]) ?_ ?_
 intro _ h _ _ _
 exact Y
 rintro v14 _ h
 exact Y
 exact Y⟩
instance {a0:ByteArray}:OK (Xe a0) fun r=>Aq Tryz.prog 273 [Db a0] (.tup [(Ar 3 Xl) r.1,(O .i64) r.2.1,(O .i64) r.2.2]):=⟨fun {r} h=>by
 refine pw {T:=B7,an:=(fun s=>bif Nat.beq s 5 then .own else .ask),nl:=(fun s=>bif Nat.beq s 5 then [(0,3)] else bif Nat.beq s 2 then [(0,3)] else [])} Tryz.func273 ?_
 refine Z ?_
 refine Ao h (fun _ h=>?_) (fun _ h=>?_)
 exact Y
 refine Z ?_
 refine Az h (fun (v26,o27)=>[(2,(.sl 3 (List.map Xl []))),(3,(O .i64 0)),(4,(O .i64 0)),(5,(.arr 0 o27.length 0 o27.length)),(6,(O .i64 v26))]) (fun (v26,o27)=>[(0,.rows 313 3 (List.map Xl o27))]) ?_
 rintro ⟨v26,o27⟩ _ _ _ h _ _
 refine Z ?_
 refine Ao h (fun _ h=>?_) (fun _ h=>?_)
 refine Z ?_
 refine J4 h (fun _ h=>?_)
 refine Z ?_
 refine Bd h (fun _ h=>?_)
 refine Z ?_
 refine Ao h (fun _ h=>?_) (fun _ h=>?_)
 exact Y
 refine Z ?_
 refine J4 h (fun _ h=>?_)
 refine Z ?_
 refine Ao h (fun _ h=>?_) (fun _ h=>?_)
 refine Z ?_
 refine Az h (fun v32=>[(6,(O .i64 v32))]) (fun v32=>[]) ?_
 rintro v32 _ _ _ h _ _
 exact Y
 exact Y
 exact Y⟩
instance {a0:ByteArray}:OK (Ou a0) fun r=>Aq Tryz.prog 199 [Db a0] (Al r):=⟨fun {r} h=>by
 refine pw C0 Tryz.func199 ?_
 exact Y⟩
abbrev Ag7 (k:Nat):Prop:=∀{a0:Ah} {a1:Int},OK (O7 k a0 a1) fun r=>Aq Tryz.prog 274 [Dc a0,(O .i64) a1] (Al r)
abbrev Ag8 (k:Nat):Prop:=∀{a0:Ah} {b0:Int},OK (Ud k a0 b0) fun r=>Ce Tryz.prog 310 [Dc a0,(.loc 0 0)] [.cells 3 [(O .i64 b0)]] (Al r) [.cells 3 [(O .i64 b0)]]
abbrev Ag9 (k:Nat):Prop:=∀{a0:List Ah} {b0:Int},OK (Rp k a0 b0) fun r=>Ce Tryz.prog 201 [(Fx 3 Bh) a0,(.fn 310 [(.loc 0 0)])] [.cells 3 [(O .i64 b0)]] (Al r) [.cells 3 [(O .i64 b0)]]
abbrev Aha (k:Nat):Prop:=∀{a0:List Ah} {b0:Int},OK (Xn k a0 b0) fun r=>Ce Tryz.prog 275 [(Fx 3 Bh) a0,(.fn 310 [(.loc 0 0)])] [.cells 3 [(O .i64 b0)]] ((O .i64) r) [.cells 3 [(O .i64 b0)]]
theorem Xs (k:Nat):Ag7 k/\Ag8 k/\Ag9 k/\Aha k:=by
 induction k with
 | zero=>exact ⟨okz,okz,okz,okz⟩
 | succ k ih=>
  obtain ⟨i0_,i1_,i2_,i3_⟩:=ih
  refine ⟨@fun a0 a1=>⟨fun {r} h=>?_⟩,@fun a0 b0=>⟨fun {r} h=>?_⟩,@fun a0 b0=>⟨fun {r} h=>?_⟩,@fun a0 b0=>⟨fun {r} h=>?_⟩⟩
  .unfold O7 at h
   refine pw C0 Tryz.func274 ?_
   refine Z ?_
   refine Fm h (fun _ h=>?_) (fun _ h=>?_)
   refine Z ?_
   refine Fm h (fun _ h=>?_) (fun _ h=>?_)
   exact Y
   refine Z ?_
   refine Be [1] h (fun _ h=>?_)
   exact Y
   refine Z ?_
   refine Be [1] h (fun _ h=>?_)
   exact Y
  .unfold Ud at h
   refine aw C0 true Tryz.func310 ?_
   exact Y
  .unfold Rp at h
   refine aw C0 true Tryz.func201 ?_
   refine Z ?_
   refine Be [0] h (fun _ h=>?_)
   exact Y
  .unfold Xn at h
   refine aw C0 true Tryz.func275 ?_
   refine Z ?_
   refine Az h (fun v3=>[(4,(O .i64 0)),(8,(O .i64 v3))]) (fun v3=>[]) ?_
   rintro v3 _ _ _ h _ _
   refine Z ?_
   refine Ao h (fun _ h=>?_) (fun _ h=>?_)
   refine Z ?_
   refine B2 h (fun _ _ _ _ h=>?_)
   refine Z ?_
   refine Be [0] h (fun _ h=>?_)
   exact Y
   exact Y
instance {k:Nat}:Ag7 k:=(Xs k).1
instance {k:Nat}:Ag8 k:=(Xs k).2.1
instance {k:Nat}:Ag9 k:=(Xs k).2.2.1
instance {k:Nat}:Aha k:=(Xs k).2.2.2
instance {a0:List Ay} {a1 a2:Int}:OK (Rc a0 a1 a2) fun r=>Aq Tryz.prog 271 [(Ar 3 Cf) a0,(O .i64) a1,(O .i64) a2] ((Ar 1 Al) r):=⟨fun {r} h=>by
 refine pw {T:=B7,an:=(fun _=>.ask),nl:=(fun s=>bif Nat.beq s 6 then [(0,1)] else [])} Tryz.func271 ?_
 refine ZS ?_
 refine Bq ?_
 refine ZO ?_
 refine Ax (Ax ?_)
 refine Bo h (fun v2=>[(34,(Al v2))]) (fun v2=>[]) ?_ ?_
 intro _ h _ _ _
 exact Y
 rintro v2 _ h
 refine Ao h (fun _ h=>?_) (fun _ h=>?_)
 exact Y
 refine Z ?_
 refine B2 h (fun _ _ _ _ h=>?_)
 refine Z ?_
 refine B2 h (fun _ _ _ _ h=>?_)
 refine Z ?_
 refine Gd h (fun o5 h=>?_)
 refine Z ?_
 refine Gl h (fun (v28,o29)=>[(49,(O .i64 v28))]) (fun (v28,o29)=>[(0,.rows 4 1 (List.map Al o29))]) (fun (v28,o29)=>o5.length=o29.length) ?_
 rintro ⟨v28,o29⟩ _ _ _ h _ _ q29
 refine Z ?_
 refine Ao h (fun _ h=>?_) (fun _ h=>?_)
 refine Z ?_
 refine B2 h (fun _ v30 _ _ h=>?_)
 refine ZO ?_
 refine Ax ?_
 refine Aar h (fun o3_ h hj3=>?_)
 refine Qm (fun (o36:(List Bool))=>o36=o3_/\o5.length=o36.length) (fun o36=>[]) (fun o36=>[(0,.rows 4 1 (List.map Al o36))]) (fun _=>rfl) ?_ ?_
 intro K3 hK3
 refine Z ?_
 refine Fm h (fun _ h=>?_) (fun _ h=>?_)
 refine Z ?_
 refine Fm h (fun _ h=>?_) (fun _ h=>?_)
 refine Z ?_
 refine B2 h (fun _ v32 _ _ h=>?_)
 refine Z ?_
 refine K0 h (fun _ _ hiv33 _ h=>?_)
 refine Z ?_
 refine Lk (f:=Al) (x:=((v30.Args.length:Int)==v32.Vars)) (j:=v28) rfl rfl (Nat.zero_add _) hiv33 ?_
 refine Z ?_
 exact hK3 (Cq o29 v28 ((v30.Args.length:Int)==v32.Vars)) _ _ _ ⟨(Option.some.inj h),Fb (l:=o29) q29 v28 ((v30.Args.length:Int)==v32.Vars)⟩ trivial ⟨⟨rfl,rfl⟩,⟨rfl,rfl⟩,trivial⟩
 refine Z ?_
 refine K0 h (fun _ _ hiv34 _ h=>?_)
 refine Z ?_
 refine Lk (f:=Al) (x:=false) (j:=v28) rfl rfl (Nat.zero_add _) hiv34 ?_
 refine Z ?_
 exact hK3 (Cq o29 v28 false) _ _ _ ⟨(Option.some.inj h),Fb (l:=o29) q29 v28 false⟩ trivial ⟨⟨rfl,rfl⟩,⟨rfl,rfl⟩,trivial⟩
 refine Z ?_
 refine K0 h (fun _ _ hiv35 _ h=>?_)
 refine Z ?_
 refine Lk (f:=Al) (x:=false) (j:=v28) rfl rfl (Nat.zero_add _) hiv35 ?_
 refine Z ?_
 exact hK3 (Cq o29 v28 false) _ _ _ ⟨(Option.some.inj h),Fb (l:=o29) q29 v28 false⟩ trivial ⟨⟨rfl,rfl⟩,⟨rfl,rfl⟩,trivial⟩
 rintro o36 u3 ⟨hJ3,q36⟩
 have h:=hj3 _ hJ3
 refine Z ?_
 refine Gl h (fun (v42,o43)=>[(80,(O .i64 v42))]) (fun (v42,o43)=>[(0,.rows 4 1 (List.map Al o43))]) (fun (v42,o43)=>o5.length=o43.length) ?_
 rintro ⟨v42,o43⟩ _ _ _ h _ _ q43
 exact Y
 exact Y⟩
abbrev Ahb (k:Nat):Prop:=∀{a0:List Ah} {b1:E5},OK (Rq k a0 b1) fun r=>Ce Tryz.prog 201 [(Fx 3 Bh) a0,(.fn 209 [(.loc 0 0)])] [.cells 181 [(.loc 1 0)],.cells 183 [(.sl 3 (List.map Cf b1.data)),(O .i64 b1.vars),(O .i64 b1.left)]] (Al r.1) [.cells 181 [(.loc 1 0)],.cells 183 [(.sl 3 (List.map Cf r.2.data)),(O .i64 r.2.vars),(O .i64 r.2.left)]]
abbrev Ahc (k:Nat):Prop:=∀{a0:List Ah} {b1:E5},OK (Uo k a0 b1) fun r=>Ce Tryz.prog 275 [(Fx 3 Bh) a0,(.fn 209 [(.loc 0 0)])] [.cells 181 [(.loc 1 0)],.cells 183 [(.sl 3 (List.map Cf b1.data)),(O .i64 b1.vars),(O .i64 b1.left)]] ((O .i64) r.1) [.cells 181 [(.loc 1 0)],.cells 183 [(.sl 3 (List.map Cf r.2.data)),(O .i64 r.2.vars),(O .i64 r.2.left)]]
abbrev Ahd (k:Nat):Prop:=∀{a0:Ah} {b0:E5},OK (J8 k a0 b0) fun r=>Ce Tryz.prog 139 [(.loc 0 0),Dc a0] [.cells 183 [(.sl 3 (List.map Cf b0.data)),(O .i64 b0.vars),(O .i64 b0.left)]] (Al r.1) [.cells 183 [(.sl 3 (List.map Cf r.2.data)),(O .i64 r.2.vars),(O .i64 r.2.left)]]
abbrev Ahe (k:Nat):Prop:=∀{a0:Ah} {b1:E5},OK (T1 k a0 b1) fun r=>Ce Tryz.prog 209 [Dc a0,(.loc 0 0)] [.cells 181 [(.loc 1 0)],.cells 183 [(.sl 3 (List.map Cf b1.data)),(O .i64 b1.vars),(O .i64 b1.left)]] (Al r.1) [.cells 181 [(.loc 1 0)],.cells 183 [(.sl 3 (List.map Cf r.2.data)),(O .i64 r.2.vars),(O .i64 r.2.left)]]
theorem Xt (k:Nat):Ahb k/\Ahc k/\Ahd k/\Ahe k:=by
 induction k with
 | zero=>exact ⟨okz,okz,okz,okz⟩
 | succ k ih=>
  obtain ⟨i0_,i1_,i2_,i3_⟩:=ih
  refine ⟨@fun a0 b1=>⟨fun {r} h=>?_⟩,@fun a0 b1=>⟨fun {r} h=>?_⟩,@fun a0 b0=>⟨fun {r} h=>?_⟩,@fun a0 b1=>⟨fun {r} h=>?_⟩⟩
  .unfold Rq at h
   refine aw C0 true Tryz.func201 ?_
   refine Z ?_
   refine Be [0,1] h (fun _ h=>?_)
   exact Y
  .unfold Uo at h
   refine aw C0 true Tryz.func275 ?_
   refine Z ?_
   refine Az h (fun (v3,v4,v5,v6)=>[(4,(O .i64 0)),(8,(O .i64 v3))]) (fun (v3,v4,v5,v6)=>[(1,.cells 183 [(.sl 3 (List.map Cf v4)),(O .i64 v5),(O .i64 v6)])]) ?_
   rintro ⟨v3,v4,v5,v6⟩ _ _ _ h _ _
   refine Z ?_
   refine Ao h (fun _ h=>?_) (fun _ h=>?_)
   refine Z ?_
   refine B2 h (fun _ _ _ _ h=>?_)
   refine Z ?_
   refine Be [0,1] h (fun _ h=>?_)
   exact Y
   exact Y
  .unfold J8 at h
   refine aw C0 true Tryz.func139 ?_
   refine Z ?_
   refine Ao h (fun _ h=>?_) (fun _ h=>?_)
   exact Y
   refine ZS ?_
   refine Bq ?_
   refine ZS ?_
   refine Bq ?_
   refine ZO ?_
   refine Xr (fun (x:(Int×Int))=>(.inl x)) h (fun (v8,v9)=>[(4,(Al false)),(5,(O .i64 v8)),(6,(O .i64 v9))]) (fun (v8,v9)=>[]) ?_ ?_
   intro _ h _ _ _
   refine ZS ?_
   refine Bq ?_
   refine ZO ?_
   refine Bo h (fun v3=>[(21,(Al v3))]) (fun v3=>[]) ?_ ?_
   intro _ h _ _ _
   exact Y
   rintro v3 _ h
   refine Ao h (fun _ h=>?_) (fun _ h=>?_)
   exact Y
   refine Z ?_
   refine Ao h (fun _ h=>?_) (fun _ h=>?_)
   exact Y
   refine Z ?_
   refine Ao h (fun _ h=>?_) (fun _ h=>?_)
   refine Ax (Ax ?_)
   refine Bo h (fun v4=>[(53,(Al v4))]) (fun v4=>[]) ?_ ?_
   intro _ h _ _ _
   exact Y
   rintro v4 _ h
   exact Y
   refine Z ?_
   refine Ao h (fun _ h=>?_) (fun _ h=>?_)
   exact Y
   refine ZS ?_
   refine Bq ?_
   refine ZO ?_
   refine Bo h (fun v7=>[(74,(Al v7))]) (fun v7=>[]) ?_ ?_
   intro _ h _ _ _
   exact Y
   rintro v7 _ h
   exact Y
   rintro ⟨v8,v9⟩ _ h
   refine Ax (Ax ?_)
   refine Bo h (fun v10=>[(91,(Al v10))]) (fun v10=>[]) ?_ ?_
   intro _ h _ _ _
   exact Y
   rintro v10 _ h
   refine Ao h (fun _ h=>?_) (fun _ h=>?_)
   exact Y
   refine I5 (Ax (Ax ?_))
   refine Bo h (fun v11=>[(103,(Al v11))]) (fun v11=>[]) ?_ ?_
   intro _ h _ _ _
   exact Y
   rintro v11 _ h
   refine Ao h (fun _ h=>?_) (fun _ h=>?_)
   exact Y
   refine Z ?_
   refine Be [1,0] h (fun _ h=>?_)
   exact Y
  .unfold T1 at h
   refine aw C0 true Tryz.func209 ?_
   refine Z ?_
   refine Be [1] h (fun _ h=>?_)
   exact Y
instance {k:Nat}:Ahb k:=(Xt k).1
instance {k:Nat}:Ahc k:=(Xt k).2.1
instance {k:Nat}:Ahd k:=(Xt k).2.2.1
instance {k:Nat}:Ahe k:=(Xt k).2.2.2
instance {a0:List Ay} {a1:Ah} {a2:Int}:OK (Mr a0 a1 a2) fun r=>Aq Tryz.prog 78 [(Ar 3 Cf) a0,Dc a1,(O .i64) a2] (Al r):=⟨fun {r} h=>by
 refine pw C0 Tryz.func78 ?_
 refine Z ?_
 refine Be [1] h (fun _ h=>?_)
 exact Y⟩
instance {a0:List Ay} {a1 a2:Int}:OK (Mz a0 a1 a2) fun r=>Aq Tryz.prog 200 [(Ar 3 Cf) a0,(O .i64) a1,(O .i64) a2] (Al r):=⟨fun {r} h=>by
 refine pw C0 Tryz.func200 ?_
 refine Z ?_
 refine B2 h (fun _ _ _ _ h=>?_)
 refine Z ?_
 refine B2 h (fun _ _ _ _ h=>?_)
 refine Z ?_
 refine Ao h (fun _ h=>?_) (fun _ h=>?_)
 exact Y
 refine Z ?_
 refine Bd h (fun _ h=>?_)
 refine Z ?_
 refine Az h (fun v11=>[(6,(Al false)),(29,(O .i64 v11))]) (fun v11=>[]) ?_
 rintro v11 _ _ _ h _ _
 exact Y⟩
instance {a0:List Ay}:OK (Tl a0) fun r=>Aq Tryz.prog 132 [(Ar 3 Cf) a0] (Al r):=⟨fun {r} h=>by
 refine pw C0 Tryz.func132 ?_
 refine Z ?_
 refine Ao h (fun _ h=>?_) (fun _ h=>?_)
 exact Y
 refine Z ?_
 refine Az h (fun (v31,o32,o33)=>[(2,(Al false)),(15,(O .i64 v31))]) (fun (v31,o32,o33)=>[(0,.map (Bm Al o32)),(1,.map (Bm Al o33))]) ?_
 rintro ⟨v31,o32,o33⟩ _ _ _ h _ _
 refine Z ?_
 refine Ao h (fun _ h=>?_) (fun _ h=>?_)
 refine ZS ?_
 refine Bq ?_
 refine ZO ?_
 refine Ax (Ax ?_)
 refine Bo h (fun v41=>[(49,(Al v41))]) (fun v41=>[]) ?_ ?_
 intro _ h _ _ _
 refine Z ?_
 refine B2 h (fun _ _ _ _ h=>?_)
 refine Z ?_
 refine Bd h (fun _ h=>?_)
 refine Z ?_
 refine Fm h (fun _ h=>?_) (fun _ h=>?_)
 exact Y
 refine Z ?_
 refine B2 h (fun _ _ _ _ h=>?_)
 refine Z ?_
 refine Wn (f:=Al) (l:=o32) rfl (false:Bool) h (fun j_ hb h=>?_) (fun hb h=>?_)
 exact Y
 exact Y
 rintro v41 _ h
 refine Ao h (fun _ h=>?_) (fun _ h=>?_)
 exact Y
 refine Z ?_
 refine B2 h (fun _ _ _ _ h=>?_)
 refine Z ?_
 refine Sv (f:=Al) (l:=o32) (x:=true) rfl rfl ?_
 refine ZO ?_
 refine Ax (Ax ?_)
 refine Bo h (fun v45=>[(71,(Al v45))]) (fun v45=>[]) ?_ ?_
 intro _ h _ _ _
 exact Y
 rintro v45 _ h
 refine Ao h (fun _ h=>?_) (fun _ h=>?_)
 exact Y
 refine Z ?_
 refine B2 h (fun _ _ _ _ h=>?_)
 refine Z ?_
 refine Az h (fun (v52,o53)=>[(2,(Al false)),(78,(O .i64 v52))]) (fun (v52,o53)=>[(1,.map (Bm Al o53))]) ?_
 rintro ⟨v52,o53⟩ _ _ _ h _ _
 refine Z ?_
 refine Ao h (fun _ h=>?_) (fun _ h=>?_)
 refine Z ?_
 refine B2 h (fun _ _ _ _ h=>?_)
 refine Z ?_
 refine Bd h (fun _ h=>?_)
 refine Z ?_
 refine Fm h (fun _ h=>?_) (fun _ h=>?_)
 exact Y
 refine Z ?_
 refine Wn (f:=Al) (l:=o53) rfl (false:Bool) h (fun j_ hb h=>?_) (fun hb h=>?_)
 refine Z ?_
 refine Fm h (fun _ h=>?_) (fun _ h=>?_)
 exact Y
 refine Z ?_
 refine Bd h (fun _ h=>?_)
 refine Z ?_
 refine Ao h (fun _ h=>?_) (fun _ h=>?_)
 exact Y
 refine Z ?_
 refine Sv (f:=Al) (l:=o53) (x:=true) rfl rfl ?_
 exact Y
 refine Z ?_
 refine Bd h (fun _ h=>?_)
 refine Z ?_
 refine Ao h (fun _ h=>?_) (fun _ h=>?_)
 exact Y
 refine Z ?_
 refine Sv (f:=Al) (l:=o53) (x:=true) rfl rfl ?_
 exact Y
 exact Y
 exact Y⟩
instance {a0:List Ay}:OK (Abe a0) fun r=>Aq Tryz.prog 138 [Pi (Ht.mk a0 [] [] [])] (Al r):=⟨fun {r} h=>by
 refine pw C0 Tryz.func138 ?_
 refine Z ?_
 refine Gd h (fun _ h=>?_)
 refine Z ?_
 refine Az h (fun _=>[(2,(Al false)),(18,(O .i64 0))]) (fun _=>[]) ?_
 rintro _ _ _ _ h _ _
 replace h:=Cl h
 refine Z ?_
 refine Az h (fun _=>[(2,(Al false)),(30,(O .i64 0))]) (fun _=>[]) ?_
 rintro _ _ _ _ h _ _
 exact Y⟩
instance {a0:List Ay}:OK (Abd a0) fun r=>Aq Tryz.prog 137 [Pi (Ht.mk a0 [] [] [])] (Al r):=⟨fun {r} h=>by
 refine pw C0 Tryz.func137 ?_
 refine Z ?_
 refine Gd h (fun _ h=>?_)
 refine Z ?_
 refine Az h (fun _=>[(2,(Al false)),(17,(O .i64 0))]) (fun _=>[]) ?_
 rintro _ _ _ _ h _ _
 exact Y⟩
instance {a0:List Ay}:OK (Abb a0) fun r=>Aq Tryz.prog 135 [Pi (Ht.mk a0 [] [] [])] (Al r):=⟨fun {r} h=>by
 refine pw C0 Tryz.func135 ?_
 refine Z ?_
 refine Gd h (fun _ h=>?_)
 refine Z ?_
 refine Az h (fun _=>[(2,(Al false)),(20,(O .i64 0))]) (fun _=>[]) ?_
 rintro _ _ _ _ h _ _
 replace h:=Cl h
 refine Z ?_
 refine Az h (fun _=>[(2,(Al false)),(33,(O .i64 0))]) (fun _=>[]) ?_
 rintro _ _ _ _ h _ _
 exact Y⟩
instance {a0:Ah} {b0:Ht}:OK (Abh a0 b0) fun r=>Ce Tryz.prog 202 [Dc a0,(.loc 0 0)] [.cells 125 [(.sl 3 (List.map Cf b0.Data)),(.sl 7 (List.map Pg b0.Codes)),(.sl 3 (Bh b0.Vars)),(.sl 8 (List.map Ph b0.Exprs))]] (Al r) [.cells 125 [(.sl 3 (List.map Cf b0.Data)),(.sl 7 (List.map Pg b0.Codes)),(.sl 3 (Bh b0.Vars)),(.sl 8 (List.map Ph b0.Exprs))]]:=⟨fun {r} h=>by
 refine aw C0 true Tryz.func202 ?_
 exact Y⟩
instance {a0:List Ah} {b0:Ht}:OK (Abj a0 b0) fun r=>Ce Tryz.prog 275 [(Fx 3 Bh) a0,(.fn 202 [(.loc 0 0)])] [.cells 125 [(.sl 3 (List.map Cf b0.Data)),(.sl 7 (List.map Pg b0.Codes)),(.sl 3 (Bh b0.Vars)),(.sl 8 (List.map Ph b0.Exprs))]] ((O .i64) r) [.cells 125 [(.sl 3 (List.map Cf b0.Data)),(.sl 7 (List.map Pg b0.Codes)),(.sl 3 (Bh b0.Vars)),(.sl 8 (List.map Ph b0.Exprs))]]:=⟨fun {r} h=>by
 refine aw C0 true Tryz.func275 ?_
 refine Z ?_
 refine Az h (fun v3=>[(4,(O .i64 0)),(8,(O .i64 v3))]) (fun v3=>[]) ?_
 rintro v3 _ _ _ h _ _
 refine Z ?_
 refine Ao h (fun _ h=>?_) (fun _ h=>?_)
 refine Z ?_
 refine B2 h (fun _ _ _ _ h=>?_)
 refine Z ?_
 refine Be [0] h (fun _ h=>?_)
 exact Y
 exact Y⟩
instance {a0:List Ah} {b0:Ht}:OK (Abg a0 b0) fun r=>Ce Tryz.prog 201 [(Fx 3 Bh) a0,(.fn 202 [(.loc 0 0)])] [.cells 125 [(.sl 3 (List.map Cf b0.Data)),(.sl 7 (List.map Pg b0.Codes)),(.sl 3 (Bh b0.Vars)),(.sl 8 (List.map Ph b0.Exprs))]] (Al r) [.cells 125 [(.sl 3 (List.map Cf b0.Data)),(.sl 7 (List.map Pg b0.Codes)),(.sl 3 (Bh b0.Vars)),(.sl 8 (List.map Ph b0.Exprs))]]:=⟨fun {r} h=>by
 refine aw C0 true Tryz.func201 ?_
 refine Z ?_
 refine Be [0] h (fun _ h=>?_)
 exact Y⟩
instance {a0:List Ay}:OK (Aa9 a0) fun r=>Aq Tryz.prog 133 [Pi (Ht.mk a0 [] [] [])] (Al r):=⟨fun {r} h=>by
 refine pw C0 Tryz.func133 ?_
 refine Z ?_
 refine Be [0] h (fun _ h=>?_)
 exact Y⟩
instance {a0:List Ay}:OK (S9 a0) fun r=>Aq Tryz.prog 77 [Pi (Ht.mk a0 [] [] [])] (Al r):=⟨fun {r} h=>by
 refine pw C0 Tryz.func77 ?_
 exact Y⟩
instance {a0:Int}:OK (Tv a0) fun r=>Aq Tryz.prog 167 [(O .i64) a0] (Al r):=⟨fun {r} h=>by
 refine pw C0 Tryz.func167 ?_
 exact Y⟩
instance {a0 a1:Int}:OK (Ja a0 a1) fun r=>Aq Tryz.prog 98 [(O .i64) a0,(O .i64) a1] ((O .i64) r):=⟨fun {r} h=>by
 refine pw C0 Tryz.func98 ?_
 exact Y⟩
instance {a0:List Int}:OK (Kw a0) fun r=>Aq Tryz.prog 101 [(Ar 1 (O .i64)) a0] ((O .i64) r):=⟨fun {r} h=>by
 refine pw C0 Tryz.func101 ?_
 refine Z ?_
 refine Az h (fun v2=>[(2,(O .i64 0)),(8,(O .i64 v2))]) (fun v2=>[]) ?_
 rintro v2 _ _ _ h _ _
 exact Y⟩
instance {a0:Int}:OK (Xd a0) fun r=>Aq Tryz.prog 256 [(O .i64) a0] (Al r):=⟨fun {r} h=>by
 refine pw C0 Tryz.func256 ?_
 exact Y⟩
instance {a0 a1:Int}:OK (Ty a0 a1) fun r=>Aq Tryz.prog 171 [(O .i64) a0,(O .i64) a1] ((O .i64) r):=⟨fun {r} h=>by
 refine pw C0 Tryz.func171 ?_
 exact Y⟩
instance {a0 a1:Dd}:OK (Tx a0 a1) fun r=>Aq Tryz.prog 170 [Gb a0,Gb a1] ((O .i64) r):=⟨fun {r} h=>by
 refine pw C0 Tryz.func170 ?_
 exact Y⟩
instance {a0 a1:List Dd}:OK (W1 a0 a1) fun r=>Aq Tryz.prog 169 [(Ar 2 Gb) a0,(Ar 2 Gb) a1,(.fn 170 [])] ((O .i64) r):=⟨fun {r} h=>by
 refine pw C0 Tryz.func169 ?_
 refine Z ?_
 refine Az h (fun v6=>[(6,(O .i64 0)),(13,(O .i64 v6))]) (fun v6=>[]) ?_
 rintro v6 _ _ _ h _ _
 exact Y⟩
instance {a0 a1:Cu}:OK (J7 a0 a1) fun r=>Aq Tryz.prog 105 [Gc a0,Gc a1] ((O .i64) r):=⟨fun {r} h=>by
 refine pw C0 Tryz.func105 ?_
 exact Y⟩
instance {a0 a1:Ca}:OK (Th a0 a1) fun r=>Aq Tryz.prog 104 [Ef a0,Ef a1] ((O .i64) r):=⟨fun {r} h=>by
 refine pw C0 Tryz.func104 ?_
 exact Y⟩
instance {a0 a1:List Ca}:OK (Wx a0 a1) fun r=>Aq Tryz.prog 103 [(Ar 3 Ef) a0,(Ar 3 Ef) a1,(.fn 104 [])] ((O .i64) r):=⟨fun {r} h=>by
 refine pw C0 Tryz.func103 ?_
 refine Z ?_
 refine Az h (fun v6=>[(6,(O .i64 0)),(13,(O .i64 v6))]) (fun v6=>[]) ?_
 rintro v6 _ _ _ h _ _
 exact Y⟩
abbrev Ahf (k:Nat):Prop:=∀{a0 a1:A8},OK (Ms k a0 a1) fun r=>Aq Tryz.prog 102 [Et a0,Et a1] ((O .i64) r)
abbrev Ahg (k:Nat):Prop:=∀{a0 a1:List A8},OK (Tw k a0 a1) fun r=>Aq Tryz.prog 168 [(Fx 2 Gv) a0,(Fx 2 Gv) a1,(.fn 102 [])] ((O .i64) r)
theorem Ahh (k:Nat):Ahf k/\Ahg k:=by
 induction k with
 | zero=>exact ⟨okz,okz⟩
 | succ k ih=>
  obtain ⟨i0_,i1_⟩:=ih
  refine ⟨@fun a0 a1=>⟨fun {r} h=>?_⟩,@fun a0 a1=>⟨fun {r} h=>?_⟩⟩
  .unfold Ms at h
   refine pw C0 Tryz.func102 ?_
   exact Y
  .unfold Tw at h
   refine pw C0 Tryz.func168 ?_
   refine Z ?_
   refine Az h (fun v6=>[(6,(O .i64 0)),(13,(O .i64 v6))]) (fun v6=>[]) ?_
   rintro v6 _ _ _ h _ _
   exact Y
instance {k:Nat}:Ahf k:=(Ahh k).1
instance {k:Nat}:Ahg k:=(Ahh k).2
instance {a0 a1:Cm}:OK (Tg a0 a1) fun r=>Aq Tryz.prog 100 [El a0,El a1] ((O .i64) r):=⟨fun {r} h=>by
 refine pw C0 Tryz.func100 ?_
 exact Y⟩
instance {a0 a1:List Cm}:OK (Ww a0 a1) fun r=>Aq Tryz.prog 99 [(Ar 3 El) a0,(Ar 3 El) a1,(.fn 100 [])] ((O .i64) r):=⟨fun {r} h=>by
 refine pw C0 Tryz.func99 ?_
 refine Z ?_
 refine Az h (fun v6=>[(6,(O .i64 0)),(13,(O .i64 v6))]) (fun v6=>[]) ?_
 rintro v6 _ _ _ h _ _
 exact Y⟩
instance {a0 a1:Bb}:OK (Mp a0 a1) fun r=>Aq Tryz.prog 52 [Ez a0,Ez a1] ((O .i64) r):=⟨fun {r} h=>by
 refine pw C0 Tryz.func52 ?_
 exact Y⟩
instance {a0:Int}:OK (Gk a0) fun r=>Aq Tryz.prog 145 [(O .i64) a0] (Db r):=⟨fun {r} h=>by
 exact Apy h⟩
instance {b1:List Int}:OK (Rr b1) fun r=>Ce Tryz.prog 213 [(.loc 0 0)] [.cells 187 [(.loc 0 0),(.arr 1 b1.length 0 b1.length)],.rows 5 1 (List.map (O .u8) b1)] (.tup []) [.cells 187 [(.loc 0 0),(.arr 1 b1.length 0 b1.length)],.rows 5 1 (List.map (O .u8) b1)]:=⟨fun {r} h=>by
 cases h
 exact Ap1 _ _⟩
instance {a0:Int} {b1:List Int}:OK (Re a0 b1) fun r=>Ce Tryz.prog 288 [(.loc 0 0),(O .u8) a0] [.cells 187 [(.loc 0 0),(.arr 1 b1.length 0 b1.length)],.rows 5 1 (List.map (O .u8) b1)] (.val .nilIface) [.cells 187 [(.loc 0 0),(.arr 1 r.length 0 r.length)],.rows 5 1 (List.map (O .u8) r)]:=⟨fun {r} h=>by
 refine aw C0 true Tryz.func288 ?_
 refine Z ?_
 refine Be [0,1] h (fun _ h=>?_)
 exact Y⟩
instance {a0:ByteArray} {b1:List Int}:OK (Fc a0 b1) fun r=>Ce Tryz.prog 143 [(.loc 0 0),Db a0] [.cells 187 [(.loc 0 0),(.arr 1 b1.length 0 b1.length)],.rows 5 1 (List.map (O .u8) b1)] (.tup [(O .i64) r.1,.val .nilIface]) [.cells 187 [(.loc 0 0),(.arr 1 r.2.length 0 r.2.length)],.rows 5 1 (List.map (O .u8) r.2)]:=⟨fun {r} h=>by
 refine aw C0 true Tryz.func143 ?_
 refine Z ?_
 refine Be [0,1] h (fun _ h=>?_)
 exact Y⟩
end Go.Ab
namespace Go.Ab
open Go Go.Proofs
set_option maxRecDepth 10000
set_option maxHeartbeats 4000000
set_option linter.unusedVariables false
abbrev Ahi (k:Nat):Prop:=∀{a0:A8} {b1:List Int},OK (Ov k a0 b1) fun r=>Ce Tryz.prog 214 [(.loc 0 0),Et a0] [.cells 187 [(.loc 0 0),(.arr 1 b1.length 0 b1.length)],.rows 5 1 (List.map (O .u8) b1)] (.tup []) [.cells 187 [(.loc 0 0),(.arr 1 r.length 0 r.length)],.rows 5 1 (List.map (O .u8) r)]
theorem Aqh (k:Nat):Ahi k:=by
 induction k with
 | zero=>exact okz
 | succ k ih=>
  refine @fun a0 b1=>⟨fun {r} h=>?_⟩
  .unfold Ov at h
   refine aw C0 true Tryz.func214 ?_
   refine Z ?_
   refine Bd h (fun _ h=>?_)
   refine Z ?_
   refine Be [0,1] h (fun _ h=>?_)
   refine Z ?_
   refine Ao h (fun _ h=>?_) (fun _ h=>?_)
   refine Z ?_
   refine Be [0,1] h (fun _ h=>?_)
   refine Z ?_
   refine Az h (fun (v15,o16)=>[(20,(O .i64 v15))]) (fun (v15,o16)=>[(0,.cells 187 [(.loc 0 0),(.arr 1 o16.length 0 o16.length)]),(1,.rows 5 1 (List.map (O .u8) o16))]) ?_
   rintro ⟨v15,o16⟩ _ _ _ h _ _
   refine Z ?_
   refine Ao h (fun _ h=>?_) (fun _ h=>?_)
   refine Z ?_
   refine B2 h (fun _ _ _ _ h=>?_)
   refine Z ?_
   refine Be [0,1] h (fun _ h=>?_)
   refine Z ?_
   refine Be [0,1] h (fun _ h=>?_)
   exact Y
   replace h:=Cl h
   refine Z ?_
   refine Be [0,1] h (fun _ h=>?_)
   exact Y
   exact Y
instance {k:Nat}:Ahi k:=(Aqh k)
instance {b1:List Int}:OK (Jc b1) fun r=>Ce Tryz.prog 147 [(.loc 0 0)] [.cells 187 [(.loc 0 0),(.arr 1 b1.length 0 b1.length)],.rows 5 1 (List.map (O .u8) b1)] (Db r) [.cells 187 [(.loc 0 0),(.arr 1 b1.length 0 b1.length)],.dead]:=⟨fun {r} h=>by
 exact Agv h⟩
instance {b1:List Int}:OK (T5 b1) fun r=>Ce Tryz.prog 213 [(.loc 0 0)] [.cells 187 [(.val (.pointer none)),(.arr 1 b1.length 0 b1.length)],.rows 5 1 (List.map (O .u8) b1)] (.tup []) [.cells 187 [(.loc 0 0),(.arr 1 b1.length 0 b1.length)],.rows 5 1 (List.map (O .u8) b1)]:=⟨fun {r} h=>by
 cases h
 exact Ap2 _ _⟩
instance {a0:ByteArray} {b1:List Int}:OK (Hs a0 b1) fun r=>Ce Tryz.prog 143 [(.loc 0 0),Db a0] [.cells 187 [(.val (.pointer none)),(.arr 1 b1.length 0 b1.length)],.rows 5 1 (List.map (O .u8) b1)] (.tup [(O .i64) r.1,(.val .nilIface)]) [.cells 187 [(.loc 0 0),(.arr 1 r.2.length 0 r.2.length)],.rows 5 1 (List.map (O .u8) r.2)]:=⟨fun {r} h=>by
 refine aw C0 true Tryz.func143 ?_
 refine Z ?_
 refine Be [0,1] h (fun _ h=>?_)
 exact Y⟩
instance {a0:Int} {a1:A8}:OK (My a0 a1) fun r=>Aq Tryz.prog 144 [(O .i64) a0,Et a1] (Db r):=⟨fun {r} h=>by
 refine pw C0 Tryz.func144 ?_
 refine ZS ?_
 refine Bq ?_
 refine ZS ?_
 refine Bq ?_
 refine ZO ?_
 refine Ax ?_
 refine Ee [.own 5 1 5 1] ?_
 refine Z ?_
 refine Bd h (fun _ h=>?_)
 refine Z ?_
 refine Fq h (fun h=>?_)
 refine Z ?_
 refine Fq h (fun h=>?_)
 refine Z ?_
 refine Be [1,2] h (fun _ h=>?_)
 refine Z ?_
 refine Be [1,2] h (fun _ h=>?_)
 refine Z ?_
 refine Be [1,2] h (fun _ h=>?_)
 exact Y⟩
abbrev Ahj (k:Nat):Prop:=∀{a0:Ah},OK (O5 k a0) fun r=>Aq Tryz.prog 265 [Dc a0] ((O .i64) r)
theorem Aqi (k:Nat):Ahj k:=by
 induction k with
 | zero=>exact okz
 | succ k ih=>
  refine @fun a0=>⟨fun {r} h=>?_⟩
  .unfold O5 at h
   refine pw C0 Tryz.func265 ?_
   refine Z ?_
   refine Az h (fun (v5,v6)=>[(3,(O .i64 v5)),(9,(O .i64 v6))]) (fun (v5,v6)=>[]) ?_
   rintro ⟨v5,v6⟩ _ _ _ h _ _
   exact Y
instance {k:Nat}:Ahj k:=(Aqi k)
abbrev Ahk (k:Nat):Prop:=∀{a0:Ah} {a1:List Ah},OK (M2 k a0 a1) fun r=>Aq Tryz.prog 267 [Dc a0,(Fx 3 Bh) a1] (Dc r)
theorem Aqj (k:Nat):Ahk k:=by
 induction k with
 | zero=>exact okz
 | succ k ih=>
  refine @fun a0 a1=>⟨fun {r} h=>?_⟩
  .unfold M2 at h
   refine pw {T:=B7,an:=(fun _=>.ask),nl:=(fun s=>bif Nat.beq s 42 then [(0,3)] else [])} Tryz.func267 ?_
   refine ZS ?_
   refine Bq ?_
   refine ZO ?_
   refine Ax (Ax ?_)
   refine Bo h (fun v3=>[(22,(Al v3))]) (fun v3=>[]) ?_ ?_
   intro _ h _ _ _
   exact Y
   rintro v3 _ h
   refine Ao h (fun _ h=>?_) (fun _ h=>?_)
   exact Y
   refine ZS ?_
   refine Bq ?_
   refine ZO ?_
   refine Ax (Ax ?_)
   refine Ee [.own 5 2 25 3] ?_
   refine Z ?_
   refine Az h (fun (v18,o19)=>[(37,(O .i64 v18))]) (fun (v18,o19)=>[(2,.cells 25 [(O .i64 a0.Kind),(O .i64 a0.Num),(.arr 3 o19.length 0 o19.length)]),(3,.rows 25 3 (Bh o19))]) ?_
   rintro ⟨v18,o19⟩ _ _ _ h _ _
   exact Y
instance {k:Nat}:Ahk k:=(Aqj k)
abbrev Ahl (k:Nat):Prop:=∀{a0:Ah} {a1:List Int},OK (O6 k a0 a1) fun r=>Aq Tryz.prog 266 [Dc a0,(Ar 1 (O .i64)) a1] ((O .i64) r)
theorem Aqk (k:Nat):Ahl k:=by
 induction k with
 | zero=>exact okz
 | succ k ih=>
  refine @fun a0 a1=>⟨fun {r} h=>?_⟩
  .unfold O6 at h
   refine pw C0 Tryz.func266 ?_
   refine ZS ?_
   refine Bq ?_
   refine ZO ?_
   refine Ax (Ax ?_)
   refine Bo h (fun v2=>[(22,(Al v2))]) (fun v2=>[]) ?_ ?_
   intro _ h _ _ _
   exact Y
   rintro v2 _ h
   refine Ao h (fun _ h=>?_) (fun _ h=>?_)
   exact Y
   refine Z ?_
   refine Az h (fun (v7,v8)=>[(5,(O .i64 v7)),(31,(O .i64 v8))]) (fun (v7,v8)=>[]) ?_
   rintro ⟨v7,v8⟩ _ _ _ h _ _
   exact Y
instance {k:Nat}:Ahl k:=(Aqk k)
instance {a0:List Ay} {a1:Ah} {a2:Int}:OK (Xo a0 a1 a2) fun r=>Aq Tryz.prog 193 [(Ar 3 Cf) a0,Dc a1,(O .i64) a2] (.tup [(Fx 3 Bh) r.1,Al r.2]):=⟨fun {r} h=>by
 refine pw {T:=B7,an:=(fun s=>bif Nat.beq s 14 then .own else .ask),nl:=(fun s=>bif Nat.beq s 14 then [(0,3)] else bif Nat.beq s 6 then [(0,3)] else [])} Tryz.func193 ?_
 refine ZS ?_
 refine Bq ?_
 refine ZO ?_
 refine Ax (Ax ?_)
 refine Bo h (fun v2=>[(31,(Al v2))]) (fun v2=>[]) ?_ ?_
 intro _ h _ _ _
 exact Y
 rintro v2 _ h
 refine Ao h (fun _ h=>?_) (fun _ h=>?_)
 exact Y
 refine Z ?_
 refine B2 h (fun _ _ _ _ h=>?_)
 refine ZO ?_
 refine Ax (Ax ?_)
 refine Bo h (fun v5=>[(53,(Al v5))]) (fun v5=>[]) ?_ ?_
 intro _ h _ _ _
 exact Y
 rintro v5 _ h
 refine Ao h (fun _ h=>?_) (fun _ h=>?_)
 exact Y
 refine Z ?_
 refine Gd h (fun o6 h=>?_)
 refine Z ?_
 refine Gl h (fun (v12,o13)=>[(61,(O .i64 v12))]) (fun (v12,o13)=>[(2,.rows 3 1 (List.map (O .i64) o13))]) (fun (v12,o13)=>o6.length=o13.length) ?_
 rintro ⟨v12,o13⟩ _ _ _ h _ _ q13
 refine Z ?_
 refine Ao h (fun _ h=>?_) (fun _ h=>?_)
 exact Y
 replace h:=Cl h
 refine Z ?_
 refine B2 h (fun _ _ _ _ h=>?_)
 refine ZO ?_
 refine J5 ?_
 refine Ee [.fz 9] ?_
 refine Z ?_
 refine Az h (fun v23=>[(6,(.sl 3 (Bh []))),(7,(Al false)),(79,(O .i64 v23))]) (fun v23=>[]) ?_
 rintro v23 _ _ _ h _ _
 refine Z ?_
 refine Ao h (fun _ h=>?_) (fun _ h=>?_)
 exact Y
 replace h:=Cl h
 refine Z ?_
 refine B2 h (fun _ _ _ _ h=>?_)
 refine Z ?_
 refine Az h (fun (v41,o42)=>[(14,(.arr 3 o42.length 0 o42.length)),(95,(O .i64 v41))]) (fun (v41,o42)=>[(3,.rows 25 3 (Bh o42))]) ?_
 rintro ⟨v41,o42⟩ _ _ _ h _ _
 exact Y⟩
abbrev Ahm (k:Nat):Prop:=∀{a0:Ah} {a1:A8} {b1:List (ByteArray×Int)} {b2:List (ByteArray×(List Dq))} {b0_0:List Ay} {b0_1:List Ah} {b0_2 b0_3:Int} {b0_4:List Ah},OK (Pa k a0 a1 b1 b2 b0_0 b0_1 b0_2 b0_3 b0_4) fun r=>Ce Tryz.prog 315 [(.loc 0 0),Dc a0,Et a1] [.cells 129 [(.sl 3 (List.map Cf b0_0)),(.sl 3 (Bh b0_1)),(O .i64 b0_2),(O .i64 b0_3),(.sl 3 (Bh b0_4)),(.mp 1),(.mp 2)],.map (Bm (O .i64) b1),.map (Bm (Ar 5 Eg) b2)] ((O .i64) r) [.cells 129 [(.sl 3 (List.map Cf b0_0)),(.sl 3 (Bh b0_1)),(O .i64 b0_2),(O .i64 b0_3),(.sl 3 (Bh b0_4)),(.mp 1),(.mp 2)],.map (Bm (O .i64) b1),.map (Bm (Ar 5 Eg) b2)]
abbrev Ahn (k:Nat):Prop:=∀{a0:Ah} {a1:A8} {b1:List (ByteArray×Int)} {b2:List (ByteArray×(List Dq))} {b0_0:List Ay} {b0_1:List Ah} {b0_2 b0_3:Int} {b0_4:List Ah},OK (M3 k a0 a1 b1 b2 b0_0 b0_1 b0_2 b0_3 b0_4) fun r=>Ce Tryz.prog 286 [(.loc 0 0),Dc a0,Et a1] [.cells 129 [(.sl 3 (List.map Cf b0_0)),(.sl 3 (Bh b0_1)),(O .i64 b0_2),(O .i64 b0_3),(.sl 3 (Bh b0_4)),(.mp 1),(.mp 2)],.map (Bm (O .i64) b1),.map (Bm (Ar 5 Eg) b2)] ((O .i64) r) [.cells 129 [(.sl 3 (List.map Cf b0_0)),(.sl 3 (Bh b0_1)),(O .i64 b0_2),(O .i64 b0_3),(.sl 3 (Bh b0_4)),(.mp 1),(.mp 2)],.map (Bm (O .i64) b1),.map (Bm (Ar 5 Eg) b2)]
abbrev Aho (k:Nat):Prop:=∀{a0:List Ah} {a1:List A8} {b1:List (ByteArray×Int)} {b2:List (ByteArray×(List Dq))} {b0_0:List Ay} {b0_1:List Ah} {b0_2 b0_3:Int} {b0_4:List Ah},OK (O9 k a0 a1 b1 b2 b0_0 b0_1 b0_2 b0_3 b0_4) fun r=>Ce Tryz.prog 314 [(.loc 0 0),(Fx 3 Bh) a0,(Fx 2 Gv) a1] [.cells 129 [(.sl 3 (List.map Cf b0_0)),(.sl 3 (Bh b0_1)),(O .i64 b0_2),(O .i64 b0_3),(.sl 3 (Bh b0_4)),(.mp 1),(.mp 2)],.map (Bm (O .i64) b1),.map (Bm (Ar 5 Eg) b2)] ((O .i64) r) [.cells 129 [(.sl 3 (List.map Cf b0_0)),(.sl 3 (Bh b0_1)),(O .i64 b0_2),(O .i64 b0_3),(.sl 3 (Bh b0_4)),(.mp 1),(.mp 2)],.map (Bm (O .i64) b1),.map (Bm (Ar 5 Eg) b2)]
theorem Abz (k:Nat):Ahm k/\Ahn k/\Aho k:=by
 induction k with
 | zero=>exact ⟨okz,okz,okz⟩
 | succ k ih=>
  obtain ⟨i0_,i1_,i2_⟩:=ih
  refine ⟨@fun a0 a1 b1 b2 b0_0 b0_1 b0_2 b0_3 b0_4=>⟨fun {r} h=>?_⟩,@fun a0 a1 b1 b2 b0_0 b0_1 b0_2 b0_3 b0_4=>⟨fun {r} h=>?_⟩,@fun a0 a1 b1 b2 b0_0 b0_1 b0_2 b0_3 b0_4=>⟨fun {r} h=>?_⟩⟩
  .unfold Pa at h
   refine aw {T:=B7,an:=(fun s=>bif Nat.beq s 9 then .own else .ask),nl:=(fun s=>bif Nat.beq s 9 then [(0,3)] else [])} true Tryz.func315 ?_
   refine Z ?_
   refine Bd h (fun _ h=>?_)
   refine Z ?_
   refine Ao h (fun _ h=>?_) (fun _ h=>?_)
   exact Y
   refine Z ?_
   refine Bd h (fun _ h=>?_)
   refine Z ?_
   refine Az h (fun (v14,o15)=>[(9,(.arr 5 o15.length 0 o15.length)),(38,(O .i64 v14))]) (fun (v14,o15)=>[(5,.rows 25 3 (Bh o15))]) ?_
   rintro ⟨v14,o15⟩ _ _ _ h _ _
   refine Z ?_
   refine Ao h (fun _ h=>?_) (fun _ h=>?_)
   exact Y
   replace h:=Cl h
   refine Fw (Fv rfl (Ax ?_))
   refine Ee [.fz 9] ?_
   refine Z ?_
   refine Be [0,1,2] h (fun _ h=>?_)
   exact Y
  .unfold M3 at h
   refine aw C0 true Tryz.func286 ?_
   refine Z ?_
   refine Ao h (fun _ h=>?_) (fun _ h=>?_)
   refine Z ?_
   refine Ao h (fun _ h=>?_) (fun _ h=>?_)
   refine Z ?_
   refine Be [0,1,2] h (fun _ h=>?_)
   exact Y
   exact Y
   refine Z ?_
   refine Ao h (fun _ h=>?_) (fun _ h=>?_)
   exact Y
   refine Z ?_
   refine Ao h (fun _ h=>?_) (fun _ h=>?_)
   refine Z ?_
   refine Ao h (fun _ h=>?_) (fun _ h=>?_)
   exact Y
   refine Z ?_
   refine Az h (fun (v7,v8)=>[(6,(O .i64 0)),(7,(O .i64 v7)),(50,(O .i64 v8))]) (fun (v7,v8)=>[]) ?_
   rintro ⟨v7,v8⟩ _ _ _ h _ _
   refine Z ?_
   refine Ao h (fun _ h=>?_) (fun _ h=>?_)
   refine Z ?_
   refine B2 h (fun _ _ _ _ h=>?_)
   refine Z ?_
   refine Be [0,1,2] h (fun _ h=>?_)
   exact Y
   exact Y
   exact Y
  .unfold O9 at h
   refine aw C0 true Tryz.func314 ?_
   refine Z ?_
   refine Ao h (fun _ h=>?_) (fun _ h=>?_)
   exact Y
   refine Z ?_
   refine Az h (fun (v5,v6)=>[(6,(O .i64 0)),(7,(O .i64 v5)),(18,(O .i64 v6))]) (fun (v5,v6)=>[]) ?_
   rintro ⟨v5,v6⟩ _ _ _ h _ _
   refine Z ?_
   refine Ao h (fun _ h=>?_) (fun _ h=>?_)
   refine Z ?_
   refine B2 h (fun _ _ _ _ h=>?_)
   refine Z ?_
   refine B2 h (fun _ _ _ _ h=>?_)
   refine Z ?_
   refine Be [0,1,2] h (fun _ h=>?_)
   exact Y
   exact Y
instance {k:Nat}:Ahm k:=(Abz k).1
instance {k:Nat}:Ahn k:=(Abz k).2.1
instance {k:Nat}:Aho k:=(Abz k).2.2
instance {a0:Int} {b1:List (ByteArray×Int)} {b2:List (ByteArray×(List Dq))} {b0_0:List Ay} {b0_1:List Ah} {b0_2 b0_3:Int} {b0_4:List Ah}:OK (Mq a0 b1 b2 b0_0 b0_1 b0_2 b0_3 b0_4) fun r=>Ce Tryz.prog 68 [(.loc 0 0),(O .i64) a0] [.cells 129 [(.sl 3 (List.map Cf b0_0)),(.sl 3 (Bh b0_1)),(O .i64 b0_2),(O .i64 b0_3),(.sl 3 (Bh b0_4)),(.mp 1),(.mp 2)],.map (Bm (O .i64) b1),.map (Bm (Ar 5 Eg) b2)] (Dc r) [.cells 129 [(.sl 3 (List.map Cf b0_0)),(.sl 3 (Bh b0_1)),(O .i64 b0_2),(O .i64 b0_3),(.sl 3 (Bh b0_4)),(.mp 1),(.mp 2)],.map (Bm (O .i64) b1),.map (Bm (Ar 5 Eg) b2)]:=⟨fun {r} h=>by
 refine aw C0 true Tryz.func68 ?_
 exact Y⟩
instance {a0:Int} {a1:A8} {b1:List (ByteArray×Int)} {b2:List (ByteArray×(List Dq))} {b0_0:List Ay} {b0_1:List Ah} {b0_2 b0_3:Int} {b0_4:List Ah}:OK (Kz a0 a1 b1 b2 b0_0 b0_1 b0_2 b0_3 b0_4) fun r=>Ce Tryz.prog 212 [(.loc 0 0),(O .i64) a0,Et a1] [.cells 129 [(.sl 3 (List.map Cf b0_0)),(.sl 3 (Bh b0_1)),(O .i64 b0_2),(O .i64 b0_3),(.sl 3 (Bh b0_4)),(.mp 1),(.mp 2)],.map (Bm (O .i64) b1),.map (Bm (Ar 5 Eg) b2)] ((O .i64) r.1) [.cells 129 [(.sl 3 (List.map Cf b0_0)),(.sl 3 (Bh b0_1)),(O .i64 b0_2),(O .i64 b0_3),(.sl 3 (Bh b0_4)),(.mp 1),(.mp 2)],.map (Bm (O .i64) r.2),.map (Bm (Ar 5 Eg) b2)]:=⟨fun {r} h=>by
 refine aw C0 true Tryz.func212 ?_
 refine Z ?_
 refine Bd h (fun _ h=>?_)
 refine ZO ?_
 refine Ax ?_
 refine Bo h (fun (v3,v4)=>[(8,(O .i64 v3)),(9,(Al v4))]) (fun (v3,v4)=>[]) ?_ ?_
 intro _ h _ _ _
 refine Z ?_
 refine Wn (f:=(O .i64)) (l:=b1) rfl (0:Int) h (fun j_ hb h=>?_) (fun hb h=>?_)
 exact Y
 exact Y
 rintro ⟨v3,v4⟩ _ h
 refine Z ?_
 refine Ao h (fun _ h=>?_) (fun _ h=>?_)
 refine Z ?_
 refine Be [0,1,2] h (fun _ h=>?_)
 refine Z ?_
 refine Be [0,1,2] h (fun _ h=>?_)
 refine ZS ?_
 refine Bq ?_
 refine ZO ?_
 refine Bo h (fun v7=>[(8,(O .i64 v7))]) (fun v7=>[]) ?_ ?_
 intro _ h _ _ _
 exact Y
 rintro v7 _ h
 refine Z ?_
 refine Sv (f:=(O .i64)) (l:=b1) (x:=v7) rfl rfl ?_
 exact Y
 exact Y⟩
instance {a0:Bb} {b1:List (ByteArray×Int)} {b2:List (ByteArray×(List Dq))} {b0_0:List Ay} {b0_1:List Ah} {b0_2 b0_3:Int} {b0_4:List Ah}:OK (T3 a0 b1 b2 b0_0 b0_1 b0_2 b0_3 b0_4) fun r=>Ce Tryz.prog 211 [(.loc 0 0),Ez a0] [.cells 129 [(.sl 3 (List.map Cf b0_0)),(.sl 3 (Bh b0_1)),(O .i64 b0_2),(O .i64 b0_3),(.sl 3 (Bh b0_4)),(.mp 1),(.mp 2)],.map (Bm (O .i64) b1),.map (Bm (Ar 5 Eg) b2)] ((O .i64) r.1) [.cells 129 [(.sl 3 (List.map Cf b0_0)),(.sl 3 (Bh b0_1)),(O .i64 b0_2),(O .i64 b0_3),(.sl 3 (Bh b0_4)),(.mp 1),(.mp 2)],.map (Bm (O .i64) r.2),.map (Bm (Ar 5 Eg) b2)]:=⟨fun {r} h=>by
 refine aw C0 true Tryz.func211 ?_
 refine Z ?_
 refine Az h (fun (v5,v6,o7)=>[(5,(O .i64 v5)),(13,(O .i64 v6))]) (fun (v5,v6,o7)=>[(1,.map (Bm (O .i64) o7))]) ?_
 rintro ⟨v5,v6,o7⟩ _ _ _ h _ _
 refine Z ?_
 refine Ao h (fun _ h=>?_) (fun _ h=>?_)
 refine Z ?_
 refine B2 h (fun _ _ _ _ h=>?_)
 refine Z ?_
 refine Ao h (fun _ h=>?_) (fun _ h=>?_)
 refine Z ?_
 refine Be [0,1,2] h (fun _ h=>?_)
 exact Y
 exact Y
 replace h:=Cl h
 refine Z ?_
 refine Az h (fun (v15,v16)=>[(5,(O .i64 v15)),(31,(O .i64 v16))]) (fun (v15,v16)=>[]) ?_
 rintro ⟨v15,v16⟩ _ _ _ h _ _
 exact Y⟩
instance {a0:Int} {b1:List (ByteArray×Int)} {b2:List (ByteArray×(List Dq))} {b0_0:List Ay} {b0_1:List Ah} {b0_2 b0_3:Int} {b0_4:List Ah}:OK (Oo a0 b1 b2 b0_0 b0_1 b0_2 b0_3 b0_4) fun r=>Ce Tryz.prog 162 [(.loc 0 0),(O .i64) a0] [.cells 129 [(.sl 3 (List.map Cf b0_0)),(.sl 3 (Bh b0_1)),(O .i64 b0_2),(O .i64 b0_3),(.sl 3 (Bh b0_4)),(.mp 1),(.mp 2)],.map (Bm (O .i64) b1),.map (Bm (Ar 5 Eg) b2)] (Al r) [.cells 129 [(.sl 3 (List.map Cf b0_0)),(.sl 3 (Bh b0_1)),(O .i64 b0_2),(O .i64 b0_3),(.sl 3 (Bh b0_4)),(.mp 1),(.mp 2)],.map (Bm (O .i64) b1),.map (Bm (Ar 5 Eg) b2)]:=⟨fun {r} h=>by
 refine aw C0 true Tryz.func162 ?_
 exact Y⟩
instance {a0:Dd} {b2:List (ByteArray×Int)} {b3:List (ByteArray×(List Dq))} {b1_0:List Ay} {b1_1:List Ah} {b1_2 b1_3:Int} {b1_4:List Ah}:OK (Q3 a0 b2 b3 b1_0 b1_1 b1_2 b1_3 b1_4) fun r=>Ce Tryz.prog 161 [Gb a0,(.loc 0 0)] [.cells 66 [(.loc 1 0)],.cells 129 [(.sl 3 (List.map Cf b1_0)),(.sl 3 (Bh b1_1)),(O .i64 b1_2),(O .i64 b1_3),(.sl 3 (Bh b1_4)),(.mp 2),(.mp 3)],.map (Bm (O .i64) b2),.map (Bm (Ar 5 Eg) b3)] (Al r) [.cells 66 [(.loc 1 0)],.cells 129 [(.sl 3 (List.map Cf b1_0)),(.sl 3 (Bh b1_1)),(O .i64 b1_2),(O .i64 b1_3),(.sl 3 (Bh b1_4)),(.mp 2),(.mp 3)],.map (Bm (O .i64) b2),.map (Bm (Ar 5 Eg) b3)]:=⟨fun {r} h=>by
 refine aw C0 true Tryz.func161 ?_
 refine Z ?_
 refine Be [1,2,3] h (fun _ h=>?_)
 refine Z ?_
 refine Fm h (fun _ h=>?_) (fun _ h=>?_)
 exact Y
 refine Z ?_
 refine Be [1,2,3] h (fun _ h=>?_)
 refine Z ?_
 refine Z5.mk 3 (by kernel_rfl) ?_
 exact Y⟩
instance {a0:List Dd} {b2:List (ByteArray×Int)} {b3:List (ByteArray×(List Dq))} {b1_0:List Ay} {b1_1:List Ah} {b1_2 b1_3:Int} {b1_4:List Ah}:OK (W4 a0 b2 b3 b1_0 b1_1 b1_2 b1_3 b1_4) fun r=>Ce Tryz.prog 234 [(Ar 2 Gb) a0,(.fn 161 [(.loc 0 0)])] [.cells 66 [(.loc 1 0)],.cells 129 [(.sl 3 (List.map Cf b1_0)),(.sl 3 (Bh b1_1)),(O .i64 b1_2),(O .i64 b1_3),(.sl 3 (Bh b1_4)),(.mp 2),(.mp 3)],.map (Bm (O .i64) b2),.map (Bm (Ar 5 Eg) b3)] ((O .i64) r) [.cells 66 [(.loc 1 0)],.cells 129 [(.sl 3 (List.map Cf b1_0)),(.sl 3 (Bh b1_1)),(O .i64 b1_2),(O .i64 b1_3),(.sl 3 (Bh b1_4)),(.mp 2),(.mp 3)],.map (Bm (O .i64) b2),.map (Bm (Ar 5 Eg) b3)]:=⟨fun {r} h=>by
 refine aw C0 true Tryz.func234 ?_
 refine Z ?_
 refine Az h (fun v3=>[(4,(O .i64 0)),(8,(O .i64 v3))]) (fun v3=>[]) ?_
 rintro v3 _ _ _ h _ _
 refine Z ?_
 refine Ao h (fun _ h=>?_) (fun _ h=>?_)
 refine Z ?_
 refine B2 h (fun _ _ _ _ h=>?_)
 refine Z ?_
 refine Be [0,1,2,3] h (fun _ h=>?_)
 exact Y
 exact Y⟩
instance {a0:List Dd} {b2:List (ByteArray×Int)} {b3:List (ByteArray×(List Dq))} {b1_0:List Ay} {b1_1:List Ah} {b1_2 b1_3:Int} {b1_4:List Ah}:OK (W0 a0 b2 b3 b1_0 b1_1 b1_2 b1_3 b1_4) fun r=>Ce Tryz.prog 160 [(Ar 2 Gb) a0,(.fn 161 [(.loc 0 0)])] [.cells 66 [(.loc 1 0)],.cells 129 [(.sl 3 (List.map Cf b1_0)),(.sl 3 (Bh b1_1)),(O .i64 b1_2),(O .i64 b1_3),(.sl 3 (Bh b1_4)),(.mp 2),(.mp 3)],.map (Bm (O .i64) b2),.map (Bm (Ar 5 Eg) b3)] (Al r) [.cells 66 [(.loc 1 0)],.cells 129 [(.sl 3 (List.map Cf b1_0)),(.sl 3 (Bh b1_1)),(O .i64 b1_2),(O .i64 b1_3),(.sl 3 (Bh b1_4)),(.mp 2),(.mp 3)],.map (Bm (O .i64) b2),.map (Bm (Ar 5 Eg) b3)]:=⟨fun {r} h=>by
 refine aw C0 true Tryz.func160 ?_
 refine Z ?_
 refine Be [0,1,2,3] h (fun _ h=>?_)
 exact Y⟩
instance {a0:Cu} {b1:List (ByteArray×Int)} {b2:List (ByteArray×(List Dq))} {b0_0:List Ay} {b0_1:List Ah} {b0_2 b0_3:Int} {b0_4:List Ah}:OK (Oj a0 b1 b2 b0_0 b0_1 b0_2 b0_3 b0_4) fun r=>Ce Tryz.prog 90 [(.loc 0 0),Gc a0] [.cells 129 [(.sl 3 (List.map Cf b0_0)),(.sl 3 (Bh b0_1)),(O .i64 b0_2),(O .i64 b0_3),(.sl 3 (Bh b0_4)),(.mp 1),(.mp 2)],.map (Bm (O .i64) b1),.map (Bm (Ar 5 Eg) b2)] (Al r) [.cells 129 [(.sl 3 (List.map Cf b0_0)),(.sl 3 (Bh b0_1)),(O .i64 b0_2),(O .i64 b0_3),(.sl 3 (Bh b0_4)),(.mp 1),(.mp 2)],.map (Bm (O .i64) b1),.map (Bm (Ar 5 Eg) b2)]:=⟨fun {r} h=>by
 refine aw C0 true Tryz.func90 ?_
 refine Z ?_
 refine Be [3,0,1,2] h (fun _ h=>?_)
 exact Y⟩
instance {a0:Bb} {b1:List (ByteArray×Int)} {b2:List (ByteArray×(List Dq))} {b0_0:List Ay} {b0_1:List Ah} {b0_2 b0_3:Int} {b0_4:List Ah}:OK (T2 a0 b1 b2 b0_0 b0_1 b0_2 b0_3 b0_4) fun r=>Ce Tryz.prog 210 [(.loc 0 0),Ez a0] [.cells 129 [(.sl 3 (List.map Cf b0_0)),(.sl 3 (Bh b0_1)),(O .i64 b0_2),(O .i64 b0_3),(.sl 3 (Bh b0_4)),(.mp 1),(.mp 2)],.map (Bm (O .i64) b1),.map (Bm (Ar 5 Eg) b2)] (Al r.1) [.cells 129 [(.sl 3 (List.map Cf b0_0)),(.sl 3 (Bh b0_1)),(O .i64 b0_2),(O .i64 b0_3),(.sl 3 (Bh b0_4)),(.mp 1),(.mp 2)],.map (Bm (O .i64) r.2),.map (Bm (Ar 5 Eg) b2)]:=⟨fun {r} h=>by
 refine aw C0 true Tryz.func210 ?_
 refine Z ?_
 refine Az h (fun (v6,o7)=>[(4,(Al false)),(12,(O .i64 v6))]) (fun (v6,o7)=>[(1,.map (Bm (O .i64) o7))]) ?_
 rintro ⟨v6,o7⟩ _ _ _ h _ _
 refine Z ?_
 refine Ao h (fun _ h=>?_) (fun _ h=>?_)
 refine Z ?_
 refine B2 h (fun _ _ _ _ h=>?_)
 refine Z ?_
 refine Be [0,1,2] h (fun _ h=>?_)
 refine Z ?_
 refine Fm h (fun _ h=>?_) (fun _ h=>?_)
 exact Y
 refine Z ?_
 refine Be [0,1,2] h (fun _ h=>?_)
 exact Y
 replace h:=Cl h
 refine Z ?_
 refine Az h (fun v18=>[(4,(Al false)),(34,(O .i64 v18))]) (fun v18=>[]) ?_
 rintro v18 _ _ _ h _ _
 refine Z ?_
 refine Ao h (fun _ h=>?_) (fun _ h=>?_)
 refine Z ?_
 refine B2 h (fun _ _ _ _ h=>?_)
 refine Z ?_
 refine Fm h (fun _ h=>?_) (fun _ h=>?_)
 exact Y
 refine Z ?_
 refine Be [0,1,2] h (fun _ h=>?_)
 exact Y
 exact Y⟩
instance {a0:Bb} {b1:List (ByteArray×Int)} {b2:List (ByteArray×(List Dq))} {b0_0:List Ay} {b0_1:List Ah} {b0_2 b0_3:Int} {b0_4:List Ah}:OK (Qy a0 b1 b2 b0_0 b0_1 b0_2 b0_3 b0_4) fun r=>Ce Tryz.prog 142 [(.loc 0 0),Ez a0] [.cells 129 [(.sl 3 (List.map Cf b0_0)),(.sl 3 (Bh b0_1)),(O .i64 b0_2),(O .i64 b0_3),(.sl 3 (Bh b0_4)),(.mp 1),(.mp 2)],.map (Bm (O .i64) b1),.map (Bm (Ar 5 Eg) b2)] (Al r.1) [.cells 129 [(.sl 3 (List.map Cf b0_0)),(.sl 3 (Bh b0_1)),(O .i64 b0_2),(O .i64 b0_3),(.sl 3 (Bh b0_4)),(.mp 1),(.mp 2)],.map (Bm (O .i64) r.2),.map (Bm (Ar 5 Eg) b2)]:=⟨fun {r} h=>by
 refine aw C0 true Tryz.func142 ?_
 refine ZS ?_
 refine Bq ?_
 refine ZO ?_
 refine Ax (Ax ?_)
 refine Bo h (fun (v4,o5)=>[(18,(Al v4))]) (fun (v4,o5)=>[(1,.map (Bm (O .i64) o5))]) ?_ ?_
 intro _ h _ _ _
 refine Z ?_
 refine Be [0,1,2] h (fun _ h=>?_)
 refine Z ?_
 refine Fm h (fun _ h=>?_) (fun _ h=>?_)
 exact Y
 refine Z ?_
 refine Be [0,1,2] h (fun _ h=>?_)
 exact Y
 rintro ⟨v4,o5⟩ _ h
 refine Ao h (fun _ h=>?_) (fun _ h=>?_)
 exact Y
 refine Z ?_
 refine Az h (fun (v9,o10)=>[(4,(Al false)),(22,(O .i64 v9))]) (fun (v9,o10)=>[(1,.map (Bm (O .i64) o10))]) ?_
 rintro ⟨v9,o10⟩ _ _ _ h _ _
 refine Z ?_
 refine Ao h (fun _ h=>?_) (fun _ h=>?_)
 refine Z ?_
 refine B2 h (fun _ _ _ _ h=>?_)
 refine Z ?_
 refine Be [0,1,2] h (fun _ h=>?_)
 exact Y
 replace h:=Cl h
 refine Z ?_
 refine Az h (fun v22=>[(4,(Al false)),(54,(O .i64 v22))]) (fun v22=>[]) ?_
 rintro v22 _ _ _ h _ _
 refine Z ?_
 refine Ao h (fun _ h=>?_) (fun _ h=>?_)
 refine Z ?_
 refine B2 h (fun _ _ _ _ h=>?_)
 refine ZO ?_
 refine Ax (Ax ?_)
 refine Bo h (fun v26=>[(74,(Al v26))]) (fun v26=>[]) ?_ ?_
 intro _ h _ _ _
 exact Y
 rintro v26 _ h
 exact Y
 exact Y⟩
instance {a0 a1:List Int}:OK (Oq a0 a1) fun r=>Aq Tryz.prog 174 [(Ar 1 (O .u32)) a0,(Ar 1 (O .u32)) a1] ((O .i64) r):=⟨fun {r} h=>by
 refine pw C0 Tryz.func174 ?_
 refine Z ?_
 refine Ao h (fun _ h=>?_) (fun _ h=>?_)
 exact Y
 refine Z ?_
 refine Az h (fun v5=>[(4,(O .i64 0)),(5,(O .i64 v5))]) (fun v5=>[]) ?_
 rintro v5 _ _ _ h _ _
 exact Y⟩
instance {a0:List Int}:OK (H7 a0) fun r=>Aq Tryz.prog 198 [(Ar 1 (O .u32)) a0] ((Ar 1 (O .u32)) r):=⟨fun {r} h=>by
 refine pw {T:=B7,an:=(fun _=>.ask),nl:=(fun s=>bif Nat.beq s 2 then [(0,1)] else [])} Tryz.func198 ?_
 refine Z ?_
 refine Az h (fun v2=>[(3,(O .i64 v2))]) (fun v2=>[]) ?_
 rintro v2 _ _ _ h _ _
 exact Y⟩
instance {a0:List Int} {a1:Int}:OK (O8 a0 a1) fun r=>Aq Tryz.prog 291 [(Ar 1 (O .u32)) a0,(O .u64) a1] (.tup [(Ar 1 (O .u32)) r.1,(O .u64) r.2]):=⟨fun {r} h=>by
 refine pw {T:=B7,an:=(fun _=>.ask),nl:=(fun s=>bif Nat.beq s 4 then [(0,1)] else [])} Tryz.func291 ?_
 refine Z ?_
 refine Gd h (fun o1 h=>?_)
 refine Z ?_
 refine Gl h (fun (v7,v8,o9)=>[(7,(O .u64 v7)),(8,(O .i64 v8))]) (fun (v7,v8,o9)=>[(0,.rows 133 1 (List.map (O .u32) o9))]) (fun (v7,v8,o9)=>o1.length=o9.length) ?_
 rintro ⟨v7,v8,o9⟩ _ _ _ h _ _ q9
 refine Z ?_
 refine Ao h (fun _ h=>?_) (fun _ h=>?_)
 exact Y
 replace h:=Cl h
 refine Fw (Fv rfl (Ax ?_))
 refine Ee [.fz 6] ?_
 exact Y⟩
instance {a0:Int}:OK (Lv a0) fun r=>Aq Tryz.prog 148 [(O .u64) a0] ((Ar 1 (O .u32)) r):=⟨fun {r} h=>by
 refine pw {T:=B7,an:=(fun s=>bif Nat.beq s 3 then .own else .ask),nl:=(fun s=>bif Nat.beq s 3 then [(0,1)] else bif Nat.beq s 2 then [(0,1)] else [])} Tryz.func148 ?_
 refine Z ?_
 refine Az h (fun (v10,o11)=>[(0,(O .u64 v10)),(3,(.arr 0 o11.length 0 o11.length))]) (fun (v10,o11)=>[(0,.rows 133 1 (List.map (O .u32) o11))]) ?_
 rintro ⟨v10,o11⟩ _ _ _ h _ _
 exact Y⟩
instance {a0:List Int} {a1:Int}:OK (Rg a0 a1) fun r=>Ce Tryz.prog 292 [(Ar 1 (O .u32)) a0,(O .u64) a1] [] (.arr 0 r.length 0 r.length) [.rows 133 1 (List.map (O .u32) r)]:=⟨fun {r} h=>by
 refine aw {T:=B7,an:=(fun _=>.ask),nl:=(fun s=>bif Nat.beq s 4 then [(0,1)] else [])} false Tryz.func292 ?_
 refine Z ?_
 refine Gd h (fun o1 h=>?_)
 refine Z ?_
 refine Gl h (fun (v7,v8,o9)=>[(6,(O .u64 v7)),(15,(O .i64 v8))]) (fun (v7,v8,o9)=>[(0,.rows 133 1 (List.map (O .u32) o9))]) (fun (v7,v8,o9)=>o1.length=o9.length) ?_
 rintro ⟨v7,v8,o9⟩ _ _ _ h _ _ q9
 refine Z ?_
 refine Ao h (fun _ h=>?_) (fun _ h=>?_)
 exact Y
 replace h:=Cl h
 refine Z ?_
 refine K0 h (fun _ _ hiv16 _ h=>?_)
 refine Z ?_
 refine Lk (f:=(O .u32)) (x:=(Bz v7)) (j:=(a0.length:Int)) rfl rfl (Nat.zero_add _) hiv16 ?_
 refine Z ?_
 cases h
 exact ⟨congrArg (fun q_=>AV.arr 0 q_ 0 q_) (Fb (l:=o9) q9 (a0.length:Int) (Bz v7)),rfl,trivial⟩⟩
instance {a0:List Int} {a1:Int}:OK (Abx a0 a1) fun r=>Aq Tryz.prog 292 [(Ar 1 (O .u32)) a0,(O .u64) a1] ((Ar 1 (O .u32)) r):=⟨fun {r} h=>by
 refine pw {T:=B7,an:=(fun _=>.ask),nl:=(fun s=>bif Nat.beq s 4 then [(0,1)] else [])} Tryz.func292 ?_
 refine Z ?_
 refine Gd h (fun o1 h=>?_)
 refine Z ?_
 refine Gl h (fun (v7,v8,o9)=>[(6,(O .u64 v7)),(15,(O .i64 v8))]) (fun (v7,v8,o9)=>[(0,.rows 133 1 (List.map (O .u32) o9))]) (fun (v7,v8,o9)=>o1.length=o9.length) ?_
 rintro ⟨v7,v8,o9⟩ _ _ _ h _ _ q9
 exact Y⟩
instance {a0 a1:Nat} {a2 b0:List Int}:OK (Ua a0 a1 a2 b0) fun r=>Ce Tryz.prog 293 [(.arr 0 b0.length a0 a1),(Ar 1 (O .u32)) a2] [.rows 133 1 (List.map (O .u32) b0)] ((O .u32) r.1) [.rows 133 1 (List.map (O .u32) r.2)]:=⟨fun {r} h=>by
 refine aw C0 true Tryz.func293 ?_
 refine Z ?_
 refine B2 h (fun _ _ _ _ h=>?_)
 refine Z ?_
 refine B2 h (fun _ _ _ _ h=>?_)
 refine Z ?_
 refine K1 h (fun _ _ _ _ h=>?_)
 refine Z ?_
 refine K1 h (fun _ _ _ _ h=>?_)
 refine Z ?_
 refine Sw h (fun _ h=>?_)
 refine Z ?_
 refine Wo h (fun _ h=>?_)
 refine Z ?_
 refine Az h (fun (v9,v10)=>[(9,(O .u64 v9)),(10,(O .u64 v10))]) (fun (v9,v10)=>[]) ?_
 rintro ⟨v9,v10⟩ _ _ _ h _ _
 refine Ax (Ax ?_)
 refine Bo h (fun v12=>[(71,(Al v12))]) (fun v12=>[]) ?_ ?_
 intro _ h _ _ _
 exact Y
 rintro v12 _ h
 refine Ao h (fun _ h=>?_) (fun _ h=>?_)
 exact Y
 replace h:=Cl h
 refine Z ?_
 refine Gl h (fun (v24,v25,o26)=>[(11,(O .i64 v24)),(78,(O .i64 v25))]) (fun (v24,v25,o26)=>[(0,.rows 133 1 (List.map (O .u32) o26))]) (fun (v24,v25,o26)=>b0.length=o26.length) ?_
 rintro ⟨v24,v25,o26⟩ _ _ _ h _ _ q26
 refine Z ?_
 refine Ao h (fun _ h=>?_) (fun _ h=>?_)
 refine Z ?_
 refine K1 h (fun _ _ _ _ h=>?_)
 refine Z ?_
 refine B2 h (fun _ _ _ _ h=>?_)
 refine Z ?_
 refine Wo h (fun _ h=>?_)
 refine Z ?_
 refine B2 h (fun _ _ _ _ h=>?_)
 refine Z ?_
 refine Sw h (fun _ h=>?_)
 refine Z ?_
 refine Az h (fun (v32,v33)=>[(11,(O .i64 v32)),(13,(O .i64 v33))]) (fun (v32,v33)=>[]) ?_
 rintro ⟨v32,v33⟩ _ _ _ h _ _
 exact Y
 replace h:=Cl h
 refine Z ?_
 refine K1 h (fun _ _ _ _ h=>?_)
 refine Z ?_
 refine Ao h (fun _ h=>?_) (fun _ h=>?_)
 exact Y
 refine Z ?_
 refine Gl h (fun (v46,v47,o48)=>[(15,(O .u32 v46)),(136,(O .i64 v47))]) (fun (v46,v47,o48)=>[(0,.rows 133 1 (List.map (O .u32) o48))]) (fun (v46,v47,o48)=>b0.length=o48.length) ?_
 rintro ⟨v46,v47,o48⟩ _ _ _ h _ _ q48
 exact Y⟩
instance {a0 a1:List Int}:OK (Oy a0 a1) fun r=>Aq Tryz.prog 220 [(Ar 1 (O .u32)) a0,(Ar 1 (O .u32)) a1] (.tup [(Ar 1 (O .u32)) r.1,(Ar 1 (O .u32)) r.2]):=⟨fun {r} h=>by
 refine pw {T:=B7,an:=(fun _=>.ask),nl:=(fun s=>bif Nat.beq s 5 then [(0,1)] else bif Nat.beq s 4 then [(0,1)] else [])} Tryz.func220 ?_
 refine Z ?_
 refine Bd h (fun _ h=>?_)
 refine Z ?_
 refine Ao h (fun _ h=>?_) (fun _ h=>?_)
 exact Y
 refine Z ?_
 refine Ao h (fun _ h=>?_) (fun _ h=>?_)
 exact Y
 refine Z ?_
 refine B2 h (fun _ _ _ _ h=>?_)
 refine Z ?_
 refine Sw h (fun _ h=>?_)
 refine Z ?_
 refine Be [] h (fun v9 h=>?_)
 refine Z ?_
 refine Bd h (fun _ h=>?_)
 refine Z ?_
 refine Pk h (fun v12 h=>?_)
 refine Z ?_
 refine Gd h (fun o13 h=>?_)
 refine Z ?_
 refine Gl h (fun (v19,o20,o21)=>[(13,(O .i64 v19))]) (fun (v19,o20,o21)=>[(0,.rows 133 1 (List.map (O .u32) o20)),(1,.rows 133 1 (List.map (O .u32) o21))]) (fun (v19,o20,o21)=>v9.length=o20.length/\o13.length=o21.length) ?_ (h0:=(⟨rfl,rfl⟩))
 rintro ⟨v19,o20,o21⟩ _ _ _ h _ hn1 ⟨q20,q21⟩
 refine Z ?_
 refine Ao h (fun _ h=>?_) (fun _ h=>?_)
 refine Z ?_
 refine Aas (f:=(O .u32)) rfl q20 h (fun v22 h=>?_)
 refine Z ?_
 refine Dh h (fun v23 hcv23 h=>?_)
 have okv23:=(OK.ok hcv23 :)
 rw [<-q20] at okv23
 refine Ff.act [0] _ _ _ _ okv23 rfl rfl ⟨rfl,trivial⟩ ?_
 refine Dh h (fun v24 hgv24 h=>?_)
 refine Z ?_
 refine K0 h (fun _ _ hiv25 _ h=>?_)
 refine Z ?_
 refine Lk (f:=(O .u32)) (x:=v23.1) (j:=v19) rfl rfl (Nat.zero_add _) hiv25 ?_
 refine Z ?_
 exact hn1 _ _ _ _ (Option.some.inj h) ⟨rfl,trivial⟩ ⟨⟨rfl,rfl⟩,⟨rfl,rfl⟩,trivial⟩ (⟨Ir hgv24,Fb (l:=o21) q21 v19 v23.1⟩)
 replace h:=Cl h
 refine Fw (Fv rfl (Ax ?_))
 refine Ee [.fz 10] ?_
 refine Z ?_
 refine Bd h (fun _ h=>?_)
 refine Z ?_
 refine Bd h (fun _ h=>?_)
 refine ZO ?_
 refine Ax ?_
 refine Ee [.fz 12] ?_
 exact Y⟩
instance {a0:List Int}:OK (Rf a0) fun r=>Aq Tryz.prog 290 [(Ar 1 (O .u32)) a0] (.tup [(O .u64) r.1,Al r.2]):=⟨fun {r} h=>by
 refine pw C0 Tryz.func290 ?_
 refine Z ?_
 refine Az h (fun (v3,v4)=>[(2,(O .u64 0)),(3,(Al false)),(4,(O .u64 v3)),(9,(O .i64 v4))]) (fun (v3,v4)=>[]) ?_
 rintro ⟨v3,v4⟩ _ _ _ h _ _
 exact Y⟩
end Go.Ab
namespace Go.Ab
open Go Go.Proofs
set_option maxRecDepth 10000
set_option maxHeartbeats 4000000
set_option linter.unusedVariables false
instance {a0 a1:List Int}:OK (T6 a0 a1) fun r=>Aq Tryz.prog 219 [(Ar 1 (O .u32)) a0,(Ar 1 (O .u32)) a1] ((Ar 1 (O .u32)) r):=⟨fun {r} h=>by
 refine pw {T:=B7,an:=(fun _=>.ask),nl:=(fun s=>bif Nat.beq s 4 then [(0,1)] else [])} Tryz.func219 ?_
 refine Z ?_
 refine Az h (fun (v12,v13)=>[(0,(.sl 1 (List.map (O .u32) v12))),(1,(.sl 1 (List.map (O .u32) v13))),(4,(.sl 1 (List.map (O .u32) [])))]) (fun (v12,v13)=>[]) ?_
 rintro ⟨v12,v13⟩ _ _ _ h _ _
 refine Z ?_
 refine Ao h (fun _ h=>?_) (fun _ h=>?_)
 refine I5 (J5 (Ax (Ax ?_)))
 refine Bo h (fun v14=>[(21,(Al v14))]) (fun v14=>[]) ?_ ?_
 intro _ h _ _ _
 exact Y
 rintro v14 _ h
 refine Ao h (fun _ h=>?_) (fun _ h=>?_)
 refine Z ?_
 refine Bd h (fun _ h=>?_)
 refine Z ?_
 refine Bd h (fun _ h=>?_)
 refine Z ?_
 refine Az h (fun (v18,v19)=>[(5,(O .u64 v18)),(7,(O .u64 v19))]) (fun (v18,v19)=>[]) ?_
 rintro ⟨v18,v19⟩ _ _ _ h _ _
 exact Y
 exact Y
 exact Y⟩
instance {a0:List Int}:OK (Ox a0) fun r=>Aq Tryz.prog 218 [(Ar 1 (O .u32)) a0] (Al r):=⟨fun {r} h=>by
 refine pw C0 Tryz.func218 ?_
 exact Y⟩
instance {a0:Fr}:OK (Wz a0) fun r=>Aq Tryz.prog 149 [M8 a0] (M8 r):=⟨fun {r} h=>by
 refine pw {T:=B7,an:=(fun _=>.ask),nl:=(fun s=>bif Nat.beq s 13 then [(1,1)] else [])} Tryz.func149 ?_
 exact Y⟩
instance {a0:Fr}:OK (Ln a0) fun r=>Aq Tryz.prog 82 [M8 a0] (C7 r):=⟨fun {r} h=>by
 refine pw C0 Tryz.func82 ?_
 exact Y⟩
instance {a0:List Int}:OK (Q5 a0) fun r=>Aq Tryz.prog 172 [(Ar 1 (O .u32)) a0] ((Ar 1 (O .u32)) r):=⟨fun {r} h=>by
 refine pw {T:=B7,an:=(fun _=>.ask),nl:=(fun s=>bif Nat.beq s 2 then [(0,1)] else [])} Tryz.func172 ?_
 refine Z ?_
 refine Gd h (fun _ h=>?_)
 refine Z ?_
 refine Az h (fun (v14,v15,o16)=>[(3,(.arr 0 o16.length 0 o16.length)),(4,(O .u64 v14)),(13,(O .i64 v15))]) (fun (v14,v15,o16)=>[(0,.rows 133 1 (List.map (O .u32) o16))]) ?_
 rintro ⟨v14,v15,o16⟩ _ _ _ h _ _
 refine Z ?_
 refine Ao h (fun _ h=>?_) (fun _ h=>?_)
 exact Y
 replace h:=Cl h
 refine Z ?_
 refine Ao h (fun _ h=>?_) (fun _ h=>?_)
 refine Z ?_
 refine Pj h (fun _ h=>?_)
 refine ZO ?_
 refine Ax ?_
 refine Ee [.fz 3] ?_
 exact Y
 refine I5 (Ax ?_)
 refine Ee [.fz 3] ?_
 exact Y⟩
instance {a0:A5}:OK (Kx a0) fun r=>Aq Tryz.prog 106 [C7 a0] (M8 r):=⟨fun {r} h=>by
 refine pw {T:=B7,an:=(fun _=>.ask),nl:=(fun s=>bif Nat.beq s 20 then [(1,1)] else [])} Tryz.func106 ?_
 refine Z ?_
 refine Bd h (fun _ h=>?_)
 refine Z ?_
 refine Bd h (fun _ h=>?_)
 refine ZO ?_
 refine Ax (Ax ?_)
 refine Bo h (fun v5=>[(18,(Al v5))]) (fun v5=>[]) ?_ ?_
 intro _ h _ _ _
 exact Y
 rintro v5 _ h
 exact Y⟩
instance {a0:A5}:OK (Mx a0) fun r=>Aq Tryz.prog 140 [C7 a0] (C7 r):=⟨fun {r} h=>by
 refine pw C0 Tryz.func140 ?_
 exact Y⟩
instance {a0:Fr}:OK (Tj a0) fun r=>Aq Tryz.prog 116 [M8 a0] ((O .i64) r):=⟨fun {r} h=>by
 refine pw C0 Tryz.func116 ?_
 exact Y⟩
instance {a0:A5}:OK (I7 a0) fun r=>Aq Tryz.prog 58 [C7 a0] ((O .i64) r):=⟨fun {r} h=>by
 refine pw C0 Tryz.func58 ?_
 exact Y⟩
instance {a0 a1:List Int}:OK (Ky a0 a1) fun r=>Aq Tryz.prog 141 [(Ar 1 (O .u32)) a0,(Ar 1 (O .u32)) a1] (Al r):=⟨fun {r} h=>by
 refine pw C0 Tryz.func141 ?_
 refine Z ?_
 refine Ao h (fun _ h=>?_) (fun _ h=>?_)
 exact Y
 refine Z ?_
 refine Az h (fun v3=>[(4,(Al false)),(13,(O .i64 v3))]) (fun v3=>[]) ?_
 rintro v3 _ _ _ h _ _
 exact Y⟩
instance {a0:List Aj} {b1:List (ByteArray×Int)} {b2:List (ByteArray×(List Dq))} {b0_0:List Ay} {b0_1:List Ah} {b0_2 b0_3:Int} {b0_4:List Ah}:OK (Ta a0 b1 b2 b0_0 b0_1 b0_2 b0_3 b0_4) fun r=>Ce Tryz.prog 79 [(.loc 0 0),(Ar 5 Bj) a0] [.cells 129 [(.sl 3 (List.map Cf b0_0)),(.sl 3 (Bh b0_1)),(O .i64 b0_2),(O .i64 b0_3),(.sl 3 (Bh b0_4)),(.mp 1),(.mp 2)],.map (Bm (O .i64) b1),.map (Bm (Ar 5 Eg) b2)] (Al r.1) [.cells 129 [(.sl 3 (List.map Cf b0_0)),(.sl 3 (Bh b0_1)),(O .i64 b0_2),(O .i64 b0_3),(.sl 3 (Bh b0_4)),(.mp 1),(.mp 2)],.map (Bm (O .i64) r.2),.map (Bm (Ar 5 Eg) b2)]:=⟨fun {r} h=>by
 refine aw C0 true Tryz.func79 ?_
 refine Z ?_
 refine Ao h (fun _ h=>?_) (fun _ h=>?_)
 exact Y
 refine Z ?_
 refine Az h (fun (v10,o11)=>[(4,(Al false)),(14,(O .i64 v10))]) (fun (v10,o11)=>[(1,.map (Bm (O .i64) o11))]) ?_
 rintro ⟨v10,o11⟩ _ _ _ h _ _
 refine Z ?_
 refine Ao h (fun _ h=>?_) (fun _ h=>?_)
 refine Z ?_
 refine B2 h (fun _ _ _ _ h=>?_)
 refine Z ?_
 refine Bd h (fun _ h=>?_)
 refine ZO ?_
 refine Ax ?_
 refine Bo h (fun v18=>[(8,(Al v18))]) (fun v18=>[]) ?_ ?_
 intro _ h _ _ _
 exact Y
 rintro v18 _ h
 refine Z ?_
 refine Fm h (fun _ h=>?_) (fun _ h=>?_)
 exact Y
 refine Z ?_
 refine Bd h (fun _ h=>?_)
 refine Z ?_
 refine Fm h (fun _ h=>?_) (fun _ h=>?_)
 exact Y
 refine Z ?_
 refine Be [0,1,2] h (fun _ h=>?_)
 exact Y
 exact Y⟩
theorem Ur {a0:B5} {a1:List (List Aj)} {r:(Bool×B5×(List (ByteArray×Int))×(List (ByteArray×(List Dq)))×(List Ay)×(List Ah)×Int×Int×(List Ah))} (h:It a0 a1=some (.inl r)):Ce Tryz.prog 36 [F6 a0,(Ar 1 (Ar 5 Bj)) a1] [] (.tup [.loc 3 0,Al r.1]) [.cells 27 [(.sl 3 (List.map Cf r.2.1.Data)),(.sl 3 (Bh r.2.1.Vars)),(O .i64 r.2.1.Res.Kind),(O .i64 r.2.1.Res.Num),(.sl 3 (Bh r.2.1.Res.Args))],.map (Bm (O .i64) r.2.2.1),.map (Bm (Ar 5 Eg) r.2.2.2.1),.cells 129 [(.sl 3 (List.map Cf r.2.2.2.2.1)),(.sl 3 (Bh r.2.2.2.2.2.1)),(O .i64 r.2.2.2.2.2.2.1),(O .i64 r.2.2.2.2.2.2.2.1),(.sl 3 (Bh r.2.2.2.2.2.2.2.2)),(.mp 1),(.mp 2)]]:=by
 refine aw {T:=B7,an:=(fun _=>.ask),nl:=(fun s=>bif Nat.beq s 18 then [(1,7),(2,3),(3,8)] else [])} true Tryz.func36 ?_
 refine ZS ?_
 refine Bq ?_
 refine ZO ?_
 refine Ax (Ax ?_)
 refine Bo h (fun v4=>[(29,(Al v4))]) (fun v4=>[]) ?_ ?_
 intro _ h _ _ _
 exact Y
 rintro v4 _ h
 refine Ao h (fun _ h=>?_) (fun _ h=>?_)
 exact Y
 refine Z ?_
 refine Az h (fun v8=>[(4,(.val (.pointer none))),(5,(Al false)),(33,(O .i64 v8))]) (fun v8=>[]) ?_
 rintro v8 _ _ _ h _ _
 refine Z ?_
 refine Ao h (fun _ h=>?_) (fun _ h=>?_)
 exact Y
 replace h:=Cl h
 refine Z ?_
 refine Az h (fun (v18,o19)=>[(4,(.val (.pointer none))),(5,(Al false)),(50,(O .i64 v18))]) (fun (v18,o19)=>[(1,.map (Bm (O .i64) o19))]) ?_
 rintro ⟨v18,o19⟩ _ _ _ h _ _
 refine Z ?_
 refine Ao h (fun _ h=>?_) (fun _ h=>?_)
 refine Z ?_
 refine B2 h (fun _ _ _ _ h=>?_)
 refine Z ?_
 refine Be [3,1,2] h (fun _ h=>?_)
 exact Y
 exact Y
theorem Us {a0:B5} {a1:List (List Aj)} {r:Bool} (h:It a0 a1=some (.inr r)):Ce Tryz.prog 36 [F6 a0,(Ar 1 (Ar 5 Bj)) a1] [] (.tup [.val (.pointer none),Al r]) []:=by
 refine aw {T:=B7,an:=(fun _=>.ask),nl:=(fun s=>bif Nat.beq s 18 then [(1,7),(2,3),(3,8)] else [])} true Tryz.func36 ?_
 refine ZS ?_
 refine Bq ?_
 refine ZO ?_
 refine Ax (Ax ?_)
 refine Bo h (fun v4=>[(29,(Al v4))]) (fun v4=>[]) ?_ ?_
 intro _ h _ _ _
 exact Y
 rintro v4 _ h
 refine Ao h (fun _ h=>?_) (fun _ h=>?_)
 exact Y
 refine Z ?_
 refine Az h (fun v8=>[(4,(.val (.pointer none))),(5,(Al false)),(33,(O .i64 v8))]) (fun v8=>[]) ?_
 rintro v8 _ _ _ h _ _
 refine Z ?_
 refine Ao h (fun _ h=>?_) (fun _ h=>?_)
 exact Y
 replace h:=Cl h
 refine Z ?_
 refine Az h (fun (v18,o19)=>[(4,(.val (.pointer none))),(5,(Al false)),(50,(O .i64 v18))]) (fun (v18,o19)=>[(1,.map (Bm (O .i64) o19))]) ?_
 rintro ⟨v18,o19⟩ _ _ _ h _ _
 refine Z ?_
 refine Ao h (fun _ h=>?_) (fun _ h=>?_)
 refine Z ?_
 refine B2 h (fun _ _ _ _ h=>?_)
 refine Z ?_
 refine Be [3,1,2] h (fun _ h=>?_)
 exact Y
 exact Y
instance {a0:Int}:OK (Agi a0) fun r=>Aq Tryz.prog 68 [(.val (.pointer none)),(O .i64) a0] (Dc r):=⟨fun {r} h=>by
 refine pw C0 Tryz.func68 ?_
 exact Y⟩
instance {a0:Int}:OK (Agj a0) fun r=>Aq Tryz.prog 162 [(.val (.pointer none)),(O .i64) a0] (Al r):=⟨fun {r} h=>by
 refine pw C0 Tryz.func162 ?_
 exact Y⟩
instance {a0:Dd}:OK (Agk a0) fun r=>Ce Tryz.prog 161 [Gb a0,(.loc 0 0)] [.cells 66 [(.val (.pointer none))]] (Al r) [.cells 66 [(.val (.pointer none))]]:=⟨fun {r} h=>by
 refine aw C0 true Tryz.func161 ?_
 refine Z ?_
 refine Bd h (fun _ h=>?_)
 refine Z ?_
 refine Fm h (fun _ h=>?_) (fun _ h=>?_)
 exact Y
 refine Z ?_
 refine Bd h (fun _ h=>?_)
 refine Z ?_
 refine Z5.mk 3 (by kernel_rfl) ?_
 exact Y⟩
instance {a0:List Dd}:OK (Agl a0) fun r=>Ce Tryz.prog 234 [(Ar 2 Gb) a0,(.fn 161 [(.loc 0 0)])] [.cells 66 [(.val (.pointer none))]] ((O .i64) r) [.cells 66 [(.val (.pointer none))]]:=⟨fun {r} h=>by
 refine aw C0 true Tryz.func234 ?_
 refine Z ?_
 refine Az h (fun v3=>[(4,(O .i64 0)),(8,(O .i64 v3))]) (fun v3=>[]) ?_
 rintro v3 _ _ _ h _ _
 refine Z ?_
 refine Ao h (fun _ h=>?_) (fun _ h=>?_)
 refine Z ?_
 refine B2 h (fun _ _ _ _ h=>?_)
 refine Z ?_
 refine Be [0] h (fun _ h=>?_)
 exact Y
 exact Y⟩
instance {a0:List Dd}:OK (Agm a0) fun r=>Ce Tryz.prog 160 [(Ar 2 Gb) a0,(.fn 161 [(.loc 0 0)])] [.cells 66 [(.val (.pointer none))]] (Al r) [.cells 66 [(.val (.pointer none))]]:=⟨fun {r} h=>by
 refine aw C0 true Tryz.func160 ?_
 refine Z ?_
 refine Be [0] h (fun _ h=>?_)
 exact Y⟩
instance {a0:Cu}:OK (Agn a0) fun r=>Aq Tryz.prog 90 [(.val (.pointer none)),Gc a0] (Al r):=⟨fun {r} h=>by
 refine pw C0 Tryz.func90 ?_
 refine Z ?_
 refine Be [0] h (fun _ h=>?_)
 exact Y⟩
instance  : OK (Kt) fun r=>Ce Tryz.prog 37 [] [] (.loc 1 0) [.map (Bm (O .i64) r.1),.cells 76 [(.mp 0),(.arr 2 r.2.length 0 r.2.length)],.rows 84 5 (List.map Bj r.2)]:=⟨fun {r} h=>by
 refine aw C0 true Tryz.func37 ?_
 refine ZS ?_
 refine Bq ?_
 refine ZS ?_
 refine Bq ?_
 refine ZO ?_
 refine Ee [.own 3 1 84 5] ?_
 exact Y⟩
instance {a0:Cu} {a1:Int}:OK (Xb a0 a1) fun r=>Aq Tryz.prog 245 [Gc a0,(O .i64) a1] ((Ar 3 Ef) r):=⟨fun {r} h=>by
 refine pw {T:=B7,an:=(fun _=>.ask),nl:=(fun s=>bif Nat.beq s 4 then [(0,3)] else [])} Tryz.func245 ?_
 exact Y⟩
instance {a0:Int}:OK (Oh a0) fun r=>Aq Tryz.prog 81 [(O .i64) a0] ((Ar 1 (O .u32)) r):=⟨fun {r} h=>by
 refine pw {T:=B7,an:=(fun _=>.ask),nl:=(fun s=>bif Nat.beq s 2 then [(0,1)] else [])} Tryz.func81 ?_
 exact Y⟩
instance {a0:Int}:OK (H5 a0) fun r=>Aq Tryz.prog 40 [(O .i64) a0] (C7 r):=⟨fun {r} h=>by
 refine pw C0 Tryz.func40 ?_
 exact Y⟩
instance {a0 a1:List Int}:OK (Lt a0 a1) fun r=>Aq Tryz.prog 127 [(Ar 1 (O .u32)) a0,(Ar 1 (O .u32)) a1] ((Ar 1 (O .u32)) r):=⟨fun {r} h=>by
 refine pw {T:=B7,an:=(fun _=>.ask),nl:=(fun s=>bif Nat.beq s 4 then [(0,1)] else [])} Tryz.func127 ?_
 refine ZS ?_
 refine Bq ?_
 refine ZO ?_
 refine Ax (Ax ?_)
 refine Bo h (fun v1=>[(17,(Al v1))]) (fun v1=>[]) ?_ ?_
 intro _ h _ _ _
 exact Y
 rintro v1 _ h
 refine Ao h (fun _ h=>?_) (fun _ h=>?_)
 exact Y
 refine Z ?_
 refine Gd h (fun o2 h=>?_)
 refine Z ?_
 refine Gl h (fun (v23,o24)=>[(26,(O .i64 v23))]) (fun (v23,o24)=>[(0,.rows 133 1 (List.map (O .u32) o24))]) (fun (v23,o24)=>o2.length=o24.length) ?_
 rintro ⟨v23,o24⟩ _ _ _ h _ _ q24
 refine Z ?_
 refine Ao h (fun _ h=>?_) (fun _ h=>?_)
 refine Z ?_
 refine Gl h (fun (v31,v32,o33)=>[(7,(O .u64 v31)),(31,(O .i64 v32))]) (fun (v31,v32,o33)=>[(0,.rows 133 1 (List.map (O .u32) o33))]) (fun (v31,v32,o33)=>o2.length=o33.length) ?_
 rintro ⟨v31,v32,o33⟩ _ _ _ h _ _ q33
 exact Y
 replace h:=Cl h
 refine Fw (Fv rfl (Ax ?_))
 refine Ee [.fz 5] ?_
 exact Y⟩
instance {a0 a1:A5}:OK (Kv a0 a1) fun r=>Aq Tryz.prog 70 [C7 a0,C7 a1] (C7 r):=⟨fun {r} h=>by
 refine pw C0 Tryz.func70 ?_
 exact Y⟩
instance {a0 a1:Int}:OK (Aa8 a0 a1) fun r=>Aq Tryz.prog 129 [(O .i64) a0,(O .i64) a1] (C7 r):=⟨fun {r} h=>by
 refine pw C0 Tryz.func129 ?_
 exact Y⟩
instance {a0 a1:Int}:OK (Abi a0 a1) fun r=>Aq Tryz.prog 270 [(O .i64) a0,(O .i64) a1] (C7 r):=⟨fun {r} h=>by
 refine pw C0 Tryz.func270 ?_
 refine Z ?_
 refine Bd h (fun _ h=>?_)
 refine Z ?_
 refine Az h (fun (v7,v8,v9,v10)=>[(9,(O .i64 v7))]) (fun (v7,v8,v9,v10)=>[(1,.cells 34 [(Al v8),(.sl 1 (List.map (O .u32) v9)),(.sl 1 (List.map (O .u32) v10))])]) ?_
 rintro ⟨v7,v8,v9,v10⟩ _ _ _ h _ _
 exact Y⟩
instance {a0 a1:Int}:OK (Ago a0 a1) fun r=>Aq Tryz.prog 196 [(O .i64) a0,(O .i64) a1] (.tup [C7 r.1,Al r.2]):=⟨fun {r} h=>by
 refine pw C0 Tryz.func196 ?_
 refine ZS ?_
 refine Bq ?_
 refine ZO ?_
 refine Ax (Ax ?_)
 refine Bo h (fun v2=>[(11,(Al v2))]) (fun v2=>[]) ?_ ?_
 intro _ h _ _ _
 exact Y
 rintro v2 _ h
 exact Y⟩
instance {a0:List Ca}:OK (Xa a0) fun r=>Aq Tryz.prog 244 [(Ar 3 Ef) a0] ((Ar 3 C7) r):=⟨fun {r} h=>by
 refine pw {T:=B7,an:=(fun s=>bif Nat.beq s 10 then .own else .ask),nl:=(fun s=>bif Nat.beq s 2 then [(0,3)] else [])} Tryz.func244 ?_
 refine Z ?_
 refine Bd h (fun _ h=>?_)
 refine Z ?_
 refine Gl h (fun (v14,o15)=>[(3,(.arr 0 1 0 1)),(13,(O .i64 v14))]) (fun (v14,o15)=>[(0,.rows 34 3 (List.map C7 o15))]) (fun (v14,o15)=>1=o15.length) ?_
 rintro ⟨v14,o15⟩ _ _ _ h _ _ q15
 refine Z ?_
 refine Ao h (fun _ h=>?_) (fun _ h=>?_)
 refine Z ?_
 refine B2 h (fun _ _ _ _ h=>?_)
 refine Z ?_
 refine Ao h (fun _ h=>?_) (fun _ h=>?_)
 exact Y
 refine Z ?_
 refine Apm (f:=C7) (z:=((A5.mk false [] []):A5)) (by repeat (first | exact Ij.nil | apply Ij.sl | apply Ij.same)) h (fun o23 h=>?_)
 exact Y
 exact Y⟩
instance {a0:Int}:OK (Abr a0) fun r=>Aq Tryz.prog 375 [(.val (.slice none 0 0)),(O .i64) a0] ((Ar 3 Ef) r):=⟨fun {r} h=>by
 refine pw {T:=B7,an:=(fun _=>.ask),nl:=(fun s=>bif Nat.beq s 4 then [(0,3)] else [])} Tryz.func375 ?_
 exact Y⟩
instance {a0:List (List Ca)}:OK (Abo a0) fun r=>Aq Tryz.prog 338 [(Ar 1 (Ar 3 Ef)) a0] ((Ar 3 Ef) r):=⟨fun {r} h=>by
 refine pw {T:=B7,an:=(fun _=>.ask),nl:=(fun s=>bif Nat.beq s 2 then [(0,3)] else [])} Tryz.func338 ?_
 refine Z ?_
 refine Az h (fun (v2,v3)=>[(3,(O .i64 v2)),(11,(O .i64 v3))]) (fun (v2,v3)=>[]) ?_
 rintro ⟨v2,v3⟩ _ _ _ h _ _
 refine Z ?_
 refine Ao h (fun _ h=>?_) (fun _ h=>?_)
 exact Y
 replace h:=Cl h
 refine Z ?_
 refine Bd h (fun v6 h=>?_)
 refine Z ?_
 refine Az h (fun v10=>[(6,(.sl 3 (List.map Ef v6))),(27,(O .i64 v10))]) (fun v10=>[]) ?_
 rintro v10 _ _ _ h _ _
 refine Z ?_
 refine Ao h (fun _ h=>?_) (fun _ h=>?_)
 refine Z ?_
 refine B2 h (fun _ v11 _ _ h=>?_)
 refine Z ?_
 refine Af3 (f:=Ef) (l:=v11) rfl h (fun h=>?_)
 exact Y
 exact Y⟩
instance {a0:Int}:OK (Abq a0) fun r=>Aq Tryz.prog 374 [(.val (.slice none 0 0)),(O .i64) a0] ((Ar 3 El) r):=⟨fun {r} h=>by
 refine pw {T:=B7,an:=(fun _=>.ask),nl:=(fun s=>bif Nat.beq s 4 then [(0,3)] else [])} Tryz.func374 ?_
 exact Y⟩
instance {a0:List (List Cm)}:OK (Abn a0) fun r=>Aq Tryz.prog 337 [(Ar 1 (Ar 3 El)) a0] ((Ar 3 El) r):=⟨fun {r} h=>by
 refine pw {T:=B7,an:=(fun _=>.ask),nl:=(fun s=>bif Nat.beq s 2 then [(0,3)] else [])} Tryz.func337 ?_
 refine Z ?_
 refine Az h (fun (v2,v3)=>[(3,(O .i64 v2)),(11,(O .i64 v3))]) (fun (v2,v3)=>[]) ?_
 rintro ⟨v2,v3⟩ _ _ _ h _ _
 refine Z ?_
 refine Ao h (fun _ h=>?_) (fun _ h=>?_)
 exact Y
 replace h:=Cl h
 refine Z ?_
 refine Bd h (fun v6 h=>?_)
 refine Z ?_
 refine Az h (fun v10=>[(6,(.sl 3 (List.map El v6))),(27,(O .i64 v10))]) (fun v10=>[]) ?_
 rintro v10 _ _ _ h _ _
 refine Z ?_
 refine Ao h (fun _ h=>?_) (fun _ h=>?_)
 refine Z ?_
 refine B2 h (fun _ v11 _ _ h=>?_)
 refine Z ?_
 refine Af3 (f:=El) (l:=v11) rfl h (fun h=>?_)
 exact Y
 exact Y⟩
instance {a0 a1:Bb}:OK (Abl a0 a1) fun r=>Aq Tryz.prog 298 [Ez a0,Ez a1] (Ez r):=⟨fun {r} h=>by
 refine pw C0 Tryz.func298 ?_
 exact Y⟩
instance {a0:Aj} {a1:A5} {a2:Bb}:OK (W7 a0 a1 a2) fun r=>Aq Tryz.prog 239 [Bj a0,C7 a1,Ez a2] (Bj r):=⟨fun {r} h=>by
 refine pw C0 Tryz.func239 ?_
 exact Y⟩
instance {a0:List Ca}:OK (W8 a0) fun r=>Aq Tryz.prog 241 [(Ar 3 Ef) a0] ((Ar 3 Ef) r):=⟨fun {r} h=>by
 exact Ap7 h⟩
instance {a0:List Cm}:OK (W5 a0) fun r=>Aq Tryz.prog 235 [(Ar 3 El) a0] ((Ar 3 El) r):=⟨fun {r} h=>by
 exact Ap6 h⟩
instance {a0 a1:Ca}:OK (Rb a0 a1) fun r=>Aq Tryz.prog 243 [Ef a0,Ef a1] ((O .i64) r):=⟨fun {r} h=>by
 refine pw C0 Tryz.func243 ?_
 exact Y⟩
instance {a0:List Ca} {a1 a2:Int}:OK (Xi a0 a1 a2) fun r=>Aq Tryz.prog 339 [(Ar 3 Ef) a0,(O .i64) a1,(O .i64) a2,(.fn 243 [])] (.tup []):=⟨fun {r} h=>by
 refine pw C0 Tryz.func339 ?_
 refine Z ?_
 refine Az h (fun v8=>[(8,(O .i64 v8))]) (fun v8=>[]) ?_
 rintro v8 _ _ _ h _ _
 refine Z ?_
 refine Ao h (fun _ h=>?_) (fun _ h=>?_)
 refine Z ?_
 refine Az h (fun _=>[(9,(O .i64 v8))]) (fun _=>[]) ?_
 rintro _ _ _ _ h _ _
 refine Ax (Ax ?_)
 refine Bo h (fun v12=>[(34,(Al v12))]) (fun v12=>[]) ?_ ?_
 intro _ h _ _ _
 exact Y
 rintro v12 _ h
 exact Y
 exact Y⟩
instance {a0:List Ca} {a1 a2 a3:Int}:OK (Un a0 a1 a2 a3) fun r=>Aq Tryz.prog 391 [(Ar 3 Ef) a0,(O .i64) a1,(O .i64) a2,(O .i64) a3,(.fn 243 [])] (.tup []):=⟨fun {r} h=>by
 refine pw C0 Tryz.func391 ?_
 refine Z ?_
 refine Az h (fun _=>[(10,(O .i64 0))]) (fun _=>[]) ?_
 rintro _ _ _ _ h _ _
 exact Y⟩
instance {a0:List Ca} {a1 a2 a3:Int}:OK (Abs a0 a1 a2 a3) fun r=>Aq Tryz.prog 376 [(Ar 3 Ef) a0,(O .i64) a1,(O .i64) a2,(O .i64) a3,(.fn 243 [])] (.tup []):=⟨fun {r} h=>by
 refine pw C0 Tryz.func376 ?_
 refine Z ?_
 refine Az h (fun (v3,v4)=>[(10,(O .i64 v3)),(11,(O .i64 v4))]) (fun (v3,v4)=>[]) ?_
 rintro ⟨v3,v4⟩ _ _ _ h _ _
 exact Y⟩
abbrev Ahp (k:Nat):Prop:=∀{a0:List Ca} {a1 a2 a3:Int},OK (Pc k a0 a1 a2 a3) fun r=>Aq Tryz.prog 340 [(Ar 3 Ef) a0,(O .i64) a1,(O .i64) a2,(O .i64) a3,(.fn 243 [])] (.tup [])
theorem Aql (k:Nat):Ahp k:=by
 induction k with
 | zero=>exact okz
 | succ k ih=>
  refine @fun a0 a1 a2 a3=>⟨fun {r} h=>?_⟩
  .unfold Pc at h
   refine pw C0 Tryz.func340 ?_
   refine Z ?_
   refine Ao h (fun _ h=>?_) (fun _ h=>?_)
   refine Z ?_
   refine Az h (fun (v5,v6)=>[(10,(O .i64 v5)),(11,(O .i64 v6))]) (fun (v5,v6)=>[]) ?_
   rintro ⟨v5,v6⟩ _ _ _ h _ _
   refine Z ?_
   refine Ao h (fun _ h=>?_) (fun _ h=>?_)
   exact Y
   replace h:=Cl h
   refine Z ?_
   refine Az h (fun _=>[(13,(O .i64 a1))]) (fun _=>[]) ?_
   rintro _ _ _ _ h _ _
   exact Y
   refine Z ?_
   refine Ao h (fun _ h=>?_) (fun _ h=>?_)
   refine Z ?_
   refine Az h (fun (v19,v20)=>[(14,(O .i64 v19)),(15,(O .i64 v20))]) (fun (v19,v20)=>[]) ?_
   rintro ⟨v19,v20⟩ _ _ _ h _ _
   refine Z ?_
   refine Ao h (fun _ h=>?_) (fun _ h=>?_)
   exact Y
   replace h:=Cl h
   refine Z ?_
   refine Az h (fun _=>[(17,(O .i64 a2))]) (fun _=>[]) ?_
   rintro _ _ _ _ h _ _
   exact Y
   refine Z ?_
   refine Wp h (fun _ h=>?_)
   refine ZS ?_
   refine Bq ?_
   refine ZS ?_
   refine Bq ?_
   refine ZS ?_
   refine Bq ?_
   refine ZO ?_
   refine Bo h (fun (v30,v31)=>[(20,(O .i64 v30)),(21,(O .i64 v31))]) (fun (v30,v31)=>[]) ?_ ?_
   intro _ h _ _ _
   exact Y
   rintro ⟨v30,v31⟩ _ h
   refine Z ?_
   refine Az h (fun (v36,v37)=>[(20,(O .i64 v36)),(21,(O .i64 v37))]) (fun (v36,v37)=>[]) ?_
   rintro ⟨v36,v37⟩ _ _ _ h _ _
   refine Z ?_
   refine Ao h (fun _ h=>?_) (fun _ h=>?_)
   exact Y
   replace h:=Cl h
   refine ZS ?_
   refine Bq ?_
   refine ZO ?_
   refine Ax (Ax ?_)
   refine Bo h (fun v43=>[(185,(Al v43))]) (fun v43=>[]) ?_ ?_
   intro _ h _ _ _
   exact Y
   rintro v43 _ h
   refine Bo h (fun _=>[]) (fun _=>[]) ?_ ?_
   intro _ h _ _ _
   exact Y
   rintro _ _ h
   refine Ax (Ax ?_)
   refine Bo h (fun v45=>[(199,(Al v45))]) (fun v45=>[]) ?_ ?_
   intro _ h _ _ _
   exact Y
   rintro v45 _ h
   refine Bo h (fun _=>[]) (fun _=>[]) ?_ ?_
   intro _ h _ _ _
   exact Y
   rintro _ _ h
   exact Y
instance {k:Nat}:Ahp k:=(Aql k)
instance {a0:List Ca} {a1:Int}:OK (Abm a0 a1) fun r=>Aq Tryz.prog 299 [(Ar 3 Ef) a0,(O .i64) a1,(.fn 243 [])] (.tup []):=⟨fun {r} h=>by
 refine pw C0 Tryz.func299 ?_
 refine Z ?_
 refine Az h (fun (v2,v3)=>[(7,(O .i64 v2)),(8,(O .i64 v3))]) (fun (v2,v3)=>[]) ?_
 rintro ⟨v2,v3⟩ _ _ _ h _ _
 refine Z ?_
 refine Ao h (fun _ h=>?_) (fun _ h=>?_)
 exact Y
 replace h:=Cl h
 refine Z ?_
 refine Bd h (fun _ h=>?_)
 refine Z ?_
 refine Az h (fun (v15,v16,v17)=>[(6,(O .i64 v15)),(7,(O .i64 v16)),(8,(O .i64 v17))]) (fun (v15,v16,v17)=>[]) ?_
 rintro ⟨v15,v16,v17⟩ _ _ _ h _ _
 refine Z ?_
 refine Ao h (fun _ h=>?_) (fun _ h=>?_)
 refine Z ?_
 refine Az h (fun (v19,v20)=>[(7,(O .i64 v19)),(8,(O .i64 v20))]) (fun (v19,v20)=>[]) ?_
 rintro ⟨v19,v20⟩ _ _ _ h _ _
 exact Y
 exact Y⟩
instance {a0:List Ca}:OK (W9 a0) fun r=>Aq Tryz.prog 242 [(Ar 3 Ef) a0,(.fn 243 [])] (.tup []):=⟨fun {r} h=>by
 refine pw C0 Tryz.func242 ?_
 exact Y⟩
instance {a0 a1:Cm}:OK (Ra a0 a1) fun r=>Aq Tryz.prog 237 [El a0,El a1] ((O .i64) r):=⟨fun {r} h=>by
 refine pw C0 Tryz.func237 ?_
 exact Y⟩
instance {a0:List Cm} {a1 a2:Int}:OK (Xh a0 a1 a2) fun r=>Aq Tryz.prog 328 [(Ar 3 El) a0,(O .i64) a1,(O .i64) a2,(.fn 237 [])] (.tup []):=⟨fun {r} h=>by
 refine pw C0 Tryz.func328 ?_
 refine Z ?_
 refine Az h (fun v8=>[(8,(O .i64 v8))]) (fun v8=>[]) ?_
 rintro v8 _ _ _ h _ _
 refine Z ?_
 refine Ao h (fun _ h=>?_) (fun _ h=>?_)
 refine Z ?_
 refine Az h (fun _=>[(9,(O .i64 v8))]) (fun _=>[]) ?_
 rintro _ _ _ _ h _ _
 refine Ax (Ax ?_)
 refine Bo h (fun v12=>[(34,(Al v12))]) (fun v12=>[]) ?_ ?_
 intro _ h _ _ _
 exact Y
 rintro v12 _ h
 exact Y
 exact Y⟩
instance {a0:List Cm} {a1 a2 a3:Int}:OK (Um a0 a1 a2 a3) fun r=>Aq Tryz.prog 382 [(Ar 3 El) a0,(O .i64) a1,(O .i64) a2,(O .i64) a3,(.fn 237 [])] (.tup []):=⟨fun {r} h=>by
 refine pw C0 Tryz.func382 ?_
 refine Z ?_
 refine Az h (fun _=>[(10,(O .i64 0))]) (fun _=>[]) ?_
 rintro _ _ _ _ h _ _
 exact Y⟩
instance {a0:List Cm} {a1 a2 a3:Int}:OK (Abp a0 a1 a2 a3) fun r=>Aq Tryz.prog 362 [(Ar 3 El) a0,(O .i64) a1,(O .i64) a2,(O .i64) a3,(.fn 237 [])] (.tup []):=⟨fun {r} h=>by
 refine pw C0 Tryz.func362 ?_
 refine Z ?_
 refine Az h (fun (v3,v4)=>[(10,(O .i64 v3)),(11,(O .i64 v4))]) (fun (v3,v4)=>[]) ?_
 rintro ⟨v3,v4⟩ _ _ _ h _ _
 exact Y⟩
abbrev Ahq (k:Nat):Prop:=∀{a0:List Cm} {a1 a2 a3:Int},OK (Pb k a0 a1 a2 a3) fun r=>Aq Tryz.prog 329 [(Ar 3 El) a0,(O .i64) a1,(O .i64) a2,(O .i64) a3,(.fn 237 [])] (.tup [])
theorem Aqm (k:Nat):Ahq k:=by
 induction k with
 | zero=>exact okz
 | succ k ih=>
  refine @fun a0 a1 a2 a3=>⟨fun {r} h=>?_⟩
  .unfold Pb at h
   refine pw C0 Tryz.func329 ?_
   refine Z ?_
   refine Ao h (fun _ h=>?_) (fun _ h=>?_)
   refine Z ?_
   refine Az h (fun (v5,v6)=>[(10,(O .i64 v5)),(11,(O .i64 v6))]) (fun (v5,v6)=>[]) ?_
   rintro ⟨v5,v6⟩ _ _ _ h _ _
   refine Z ?_
   refine Ao h (fun _ h=>?_) (fun _ h=>?_)
   exact Y
   replace h:=Cl h
   refine Z ?_
   refine Az h (fun _=>[(13,(O .i64 a1))]) (fun _=>[]) ?_
   rintro _ _ _ _ h _ _
   exact Y
   refine Z ?_
   refine Ao h (fun _ h=>?_) (fun _ h=>?_)
   refine Z ?_
   refine Az h (fun (v19,v20)=>[(14,(O .i64 v19)),(15,(O .i64 v20))]) (fun (v19,v20)=>[]) ?_
   rintro ⟨v19,v20⟩ _ _ _ h _ _
   refine Z ?_
   refine Ao h (fun _ h=>?_) (fun _ h=>?_)
   exact Y
   replace h:=Cl h
   refine Z ?_
   refine Az h (fun _=>[(17,(O .i64 a2))]) (fun _=>[]) ?_
   rintro _ _ _ _ h _ _
   exact Y
   refine Z ?_
   refine Wp h (fun _ h=>?_)
   refine ZS ?_
   refine Bq ?_
   refine ZS ?_
   refine Bq ?_
   refine ZS ?_
   refine Bq ?_
   refine ZO ?_
   refine Bo h (fun (v30,v31)=>[(20,(O .i64 v30)),(21,(O .i64 v31))]) (fun (v30,v31)=>[]) ?_ ?_
   intro _ h _ _ _
   exact Y
   rintro ⟨v30,v31⟩ _ h
   refine Z ?_
   refine Az h (fun (v36,v37)=>[(20,(O .i64 v36)),(21,(O .i64 v37))]) (fun (v36,v37)=>[]) ?_
   rintro ⟨v36,v37⟩ _ _ _ h _ _
   refine Z ?_
   refine Ao h (fun _ h=>?_) (fun _ h=>?_)
   exact Y
   replace h:=Cl h
   refine ZS ?_
   refine Bq ?_
   refine ZO ?_
   refine Ax (Ax ?_)
   refine Bo h (fun v43=>[(185,(Al v43))]) (fun v43=>[]) ?_ ?_
   intro _ h _ _ _
   exact Y
   rintro v43 _ h
   refine Bo h (fun _=>[]) (fun _=>[]) ?_ ?_
   intro _ h _ _ _
   exact Y
   rintro _ _ h
   refine Ax (Ax ?_)
   refine Bo h (fun v45=>[(199,(Al v45))]) (fun v45=>[]) ?_ ?_
   intro _ h _ _ _
   exact Y
   rintro v45 _ h
   refine Bo h (fun _=>[]) (fun _=>[]) ?_ ?_
   intro _ h _ _ _
   exact Y
   rintro _ _ h
   exact Y
instance {k:Nat}:Ahq k:=(Aqm k)
instance {a0:List Cm} {a1:Int}:OK (Abk a0 a1) fun r=>Aq Tryz.prog 296 [(Ar 3 El) a0,(O .i64) a1,(.fn 237 [])] (.tup []):=⟨fun {r} h=>by
 refine pw C0 Tryz.func296 ?_
 refine Z ?_
 refine Az h (fun (v2,v3)=>[(7,(O .i64 v2)),(8,(O .i64 v3))]) (fun (v2,v3)=>[]) ?_
 rintro ⟨v2,v3⟩ _ _ _ h _ _
 refine Z ?_
 refine Ao h (fun _ h=>?_) (fun _ h=>?_)
 exact Y
 replace h:=Cl h
 refine Z ?_
 refine Bd h (fun _ h=>?_)
 refine Z ?_
 refine Az h (fun (v15,v16,v17)=>[(6,(O .i64 v15)),(7,(O .i64 v16)),(8,(O .i64 v17))]) (fun (v15,v16,v17)=>[]) ?_
 rintro ⟨v15,v16,v17⟩ _ _ _ h _ _
 refine Z ?_
 refine Ao h (fun _ h=>?_) (fun _ h=>?_)
 refine Z ?_
 refine Az h (fun (v19,v20)=>[(7,(O .i64 v19)),(8,(O .i64 v20))]) (fun (v19,v20)=>[]) ?_
 rintro ⟨v19,v20⟩ _ _ _ h _ _
 exact Y
 exact Y⟩
instance {a0:List Cm}:OK (W6 a0) fun r=>Aq Tryz.prog 236 [(Ar 3 El) a0,(.fn 237 [])] (.tup []):=⟨fun {r} h=>by
 refine pw C0 Tryz.func236 ?_
 exact Y⟩
instance {a0:A5} {a1:Bb} {b1:List (ByteArray×Int)} {b2:List (ByteArray×(List Dq))} {b0_0:List Ay} {b0_1:List Ah} {b0_2 b0_3:Int} {b0_4:List Ah}:OK (Abf a0 a1 b1 b2 b0_0 b0_1 b0_2 b0_3 b0_4) fun r=>Ce Tryz.prog 163 [(.loc 0 0),C7 a0,Ez a1] [.cells 129 [(.sl 3 (List.map Cf b0_0)),(.sl 3 (Bh b0_1)),(O .i64 b0_2),(O .i64 b0_3),(.sl 3 (Bh b0_4)),(.mp 1),(.mp 2)],.map (Bm (O .i64) b1),.map (Bm (Ar 5 Eg) b2)] (.tup [(Ar 5 Bj) r.1,(O .i64) r.2]) [.cells 129 [(.sl 3 (List.map Cf b0_0)),(.sl 3 (Bh b0_1)),(O .i64 b0_2),(O .i64 b0_3),(.sl 3 (Bh b0_4)),(.mp 1),(.mp 2)],.map (Bm (O .i64) b1),.map (Bm (Ar 5 Eg) b2)]:=⟨fun {r} h=>by
 refine aw {T:=B7,an:=(fun s=>bif Nat.beq s 22 then .own else .ask),nl:=(fun s=>bif Nat.beq s 155 then [(0,3)] else bif Nat.beq s 31 then [(3,3),(4,3)] else bif Nat.beq s 22 then [(0,5)] else bif Nat.beq s 6 then [(0,5)] else [])} true Tryz.func163 ?_
 refine Z ?_
 refine Bd h (fun _ h=>?_)
 refine Z ?_
 refine Ao h (fun _ h=>?_) (fun _ h=>?_)
 exact Y
 refine Z ?_
 refine Bd h (fun v4 h=>?_)
 refine Z ?_
 refine Bd h (fun _ h=>?_)
 refine Z ?_
 refine Az h (fun _=>[(6,(.sl 5 (List.map Bj []))),(7,(O .i64 0)),(8,(.sl 5 (List.map Bj [(Aj.mk a0 (Bb.mk [] []))]))),(9,(.sl 3 (List.map El v4)))]) (fun _=>[]) ?_
 rintro _ _ _ _ h _ _
 refine Z ?_
 refine Ao h (fun _ h=>?_) (fun _ h=>?_)
 refine Z ?_
 refine B2 h (fun _ _ _ _ h=>?_)
 refine Z ?_
 refine Az h (fun v8=>[(11,(O .i64 v8))]) (fun v8=>[]) ?_
 rintro v8 _ _ _ h _ _
 exact Y
 replace h:=Cl h
 refine Z ?_
 refine Bd h (fun _ h=>?_)
 refine Z ?_
 refine Bd h (fun _ h=>?_)
 refine Z ?_
 refine Az h (fun (v104,v105)=>[(8,(.sl 5 (List.map Bj v104))),(19,(.sl 3 (List.map Ef v105)))]) (fun (v104,v105)=>[]) ?_
 rintro ⟨v104,v105⟩ _ _ _ h _ _
 refine Z ?_
 refine Ao h (fun _ h=>?_) (fun _ h=>?_)
 refine Z ?_
 refine B2 h (fun _ _ _ _ h=>?_)
 refine Z ?_
 refine Az h (fun v110=>[(21,(O .i64 v110))]) (fun v110=>[]) ?_
 rintro v110 _ _ _ h _ _
 refine Z ?_
 refine Fm h (fun _ h=>?_) (fun _ h=>?_)
 refine Z ?_
 refine B2 h (fun _ _ _ _ h=>?_)
 refine Z ?_
 refine Bd h (fun _ h=>?_)
 refine Z ?_
 refine Ao h (fun _ h=>?_) (fun _ h=>?_)
 exact Y
 replace h:=Cl h
 refine Z ?_
 refine Pk h (fun _ h=>?_)
 refine Z ?_
 refine Bd h (fun _ h=>?_)
 refine Z ?_
 refine Az h (fun (v167,o168)=>[(22,(.arr 6 o168.length 0 o168.length)),(135,(O .i64 v167))]) (fun (v167,o168)=>[(6,.rows 84 5 (List.map Bj o168))]) ?_
 rintro ⟨v167,o168⟩ _ _ _ h _ _
 refine Z ?_
 refine Ao h (fun _ h=>?_) (fun _ h=>?_)
 refine Z ?_
 refine B2 h (fun _ _ _ _ h=>?_)
 refine Z ?_
 refine Bd h (fun _ h=>?_)
 refine Z ?_
 refine Ao h (fun _ h=>?_) (fun _ h=>?_)
 exact Y
 refine Z ?_
 refine Az h (fun (v184,o185)=>[(22,(.arr 6 o185.length 0 o185.length)),(145,(O .i64 v184))]) (fun (v184,o185)=>[(6,.rows 84 5 (List.map Bj o185))]) ?_
 rintro ⟨v184,o185⟩ _ _ _ h _ _
 exact Y
 replace h:=Cl h
 refine Fw (Fv rfl ?_)
 refine Ee [.fz 22] ?_
 exact Y
 replace h:=Cl h
 refine Z ?_
 refine Pk h (fun _ h=>?_)
 refine Z ?_
 refine Bd h (fun _ h=>?_)
 refine Z ?_
 refine Az h (fun (v167,o168)=>[(22,(.arr 6 o168.length 0 o168.length)),(135,(O .i64 v167))]) (fun (v167,o168)=>[(6,.rows 84 5 (List.map Bj o168))]) ?_
 rintro ⟨v167,o168⟩ _ _ _ h _ _
 refine Z ?_
 refine Ao h (fun _ h=>?_) (fun _ h=>?_)
 refine Z ?_
 refine B2 h (fun _ _ _ _ h=>?_)
 refine Z ?_
 refine Bd h (fun _ h=>?_)
 refine Z ?_
 refine Ao h (fun _ h=>?_) (fun _ h=>?_)
 exact Y
 refine Z ?_
 refine Az h (fun (v184,o185)=>[(22,(.arr 6 o185.length 0 o185.length)),(145,(O .i64 v184))]) (fun (v184,o185)=>[(6,.rows 84 5 (List.map Bj o185))]) ?_
 rintro ⟨v184,o185⟩ _ _ _ h _ _
 exact Y
 replace h:=Cl h
 refine Fw (Fv rfl ?_)
 refine Ee [.fz 22] ?_
 exact Y
 exact Y⟩
end Go.Ab
namespace Go.Ab
open Go Go.Proofs
set_option maxRecDepth 10000
set_option maxHeartbeats 4000000
set_option linter.unusedVariables false
theorem Ahr {a0:Int} {a1:Bool} {b1:List Int} {r:(Int×(List Int))} (h:Ow a0 a1 b1=some (.inl r)):Ce Tryz.prog 216 [(.loc 0 0),(O .i64) a0,Al a1] [.cells 187 [(.val (.pointer none)),(.arr 1 b1.length 0 b1.length)],.rows 5 1 (List.map (O .u8) b1)] ((O .i64) r.1) [.cells 187 [(.loc 0 0),(.arr 1 r.2.length 0 r.2.length)],.rows 5 1 (List.map (O .u8) r.2)]:=by
 refine aw C0 true Tryz.func216 ?_
 refine ZS ?_
 refine Bq ?_
 refine ZO ?_
 refine Ax (J5 (Ax ?_))
 refine Bo h (fun v1=>[(7,(Al v1))]) (fun v1=>[]) ?_ ?_
 intro _ h _ _ _
 exact Y
 rintro v1 _ h
 refine Ao h (fun _ h=>?_) (fun _ h=>?_)
 refine Z ?_
 refine Be [0,1] h (fun _ h=>?_)
 exact Y
 refine Z ?_
 refine Ao h (fun _ h=>?_) (fun _ h=>?_)
 refine Z ?_
 refine Be [0,1] h (fun _ h=>?_)
 exact Y
 refine Z ?_
 refine Ao h (fun _ h=>?_) (fun _ h=>?_)
 refine Z ?_
 refine Be [0,1] h (fun _ h=>?_)
 exact Y
 exact Y
theorem Ahs {a0:Int} {a1:Bool} {b1:List Int} {r:(Int×(List Int))} (h:Ow a0 a1 b1=some (.inr r)):Ce Tryz.prog 216 [(.loc 0 0),(O .i64) a0,Al a1] [.cells 187 [(.val (.pointer none)),(.arr 1 b1.length 0 b1.length)],.rows 5 1 (List.map (O .u8) b1)] ((O .i64) r.1) [.cells 187 [(.val (.pointer none)),(.arr 1 r.2.length 0 r.2.length)],.rows 5 1 (List.map (O .u8) r.2)]:=by
 refine aw C0 true Tryz.func216 ?_
 refine ZS ?_
 refine Bq ?_
 refine ZO ?_
 refine Ax (J5 (Ax ?_))
 refine Bo h (fun v1=>[(7,(Al v1))]) (fun v1=>[]) ?_ ?_
 intro _ h _ _ _
 exact Y
 rintro v1 _ h
 refine Ao h (fun _ h=>?_) (fun _ h=>?_)
 refine Z ?_
 refine Be [0,1] h (fun _ h=>?_)
 exact Y
 refine Z ?_
 refine Ao h (fun _ h=>?_) (fun _ h=>?_)
 refine Z ?_
 refine Be [0,1] h (fun _ h=>?_)
 exact Y
 refine Z ?_
 refine Ao h (fun _ h=>?_) (fun _ h=>?_)
 refine Z ?_
 refine Be [0,1] h (fun _ h=>?_)
 exact Y
 exact Y
instance {a0:Int} {a1:Bool} {b1:List Int}:OK (Up a0 a1 b1) fun r=>Ce Tryz.prog 216 [(.loc 0 0),(O .i64) a0,Al a1] [.cells 187 [(.loc 0 0),(.arr 1 b1.length 0 b1.length)],.rows 5 1 (List.map (O .u8) b1)] ((O .i64) r.1) [.cells 187 [(.loc 0 0),(.arr 1 r.2.length 0 r.2.length)],.rows 5 1 (List.map (O .u8) r.2)]:=⟨fun {r} h=>by
 refine aw C0 true Tryz.func216 ?_
 refine ZS ?_
 refine Bq ?_
 refine ZO ?_
 refine Ax (J5 (Ax ?_))
 refine Bo h (fun v1=>[(7,(Al v1))]) (fun v1=>[]) ?_ ?_
 intro _ h _ _ _
 exact Y
 rintro v1 _ h
 refine Ao h (fun _ h=>?_) (fun _ h=>?_)
 refine Z ?_
 refine Be [0,1] h (fun _ h=>?_)
 exact Y
 refine Z ?_
 refine Ao h (fun _ h=>?_) (fun _ h=>?_)
 refine Z ?_
 refine Be [0,1] h (fun _ h=>?_)
 exact Y
 refine Z ?_
 refine Ao h (fun _ h=>?_) (fun _ h=>?_)
 refine Z ?_
 refine Be [0,1] h (fun _ h=>?_)
 exact Y
 exact Y⟩
instance {a0 a1:Int}:OK (J9 a0 a1) fun r=>Aq Tryz.prog 217 [(O .i64) a0,(O .i64) a1] (Db r):=⟨fun {r} h=>by
 exact Ap0 h⟩
instance {b1:List Int}:OK (Xp b1) fun r=>Ce Tryz.prog 147 [(.loc 0 0)] [.cells 187 [(.val (.pointer none)),(.arr 1 b1.length 0 b1.length)],.rows 5 1 (List.map (O .u8) b1)] (Db r) [.cells 187 [(.val (.pointer none)),(.arr 1 b1.length 0 b1.length)],.dead]:=⟨fun {r} h=>by
 exact Agv h⟩
instance {a0:Cu}:OK (Lu a0) fun r=>Aq Tryz.prog 146 [Gc a0] (Db r):=⟨fun {r} h=>by
 refine pw C0 Tryz.func146 ?_
 refine Z ?_
 refine Bd h (fun _ h=>?_)
 refine Z ?_
 refine Ao h (fun _ h=>?_) (fun _ h=>?_)
 exact Y
 refine ZS ?_
 refine Bq ?_
 refine ZO ?_
 refine Ax (Ax ?_)
 refine Ee [.own 3 1 5 1] ?_
 refine Z ?_
 refine Ws ?_
 refine Z ?_
 refine Ao h (fun _ h=>?_) (fun _ h=>?_)
 refine I5 (Ax ?_)
 refine Bo h (fun (v30,o31)=>[(4,(O .i64 0)),(6,(O .i64 v30))]) (fun (v30,o31)=>[(1,.cells 187 [(.loc 1 0),(.arr 2 o31.length 0 o31.length)]),(2,.rows 5 1 (List.map (O .u8) o31))]) ?_ ?_
 intro _ h _ _ _
 refine Z ?_
 refine B2 h (fun _ v5 _ _ h=>?_)
 refine Z ?_
 refine Dh h (fun v7 hcv7 h=>?_)
 rcases v7 with v8 | v9
 refine Ff.act [1,2] _ _ _ _ (Ahr (a0:=v5.Coef) (a1:=true) (b1:=[]) hcv7) rfl rfl ⟨rfl,rfl,trivial⟩ ?_
 refine ZS ?_
 refine Bq ?_
 refine ZO ?_
 refine Bo h (fun o14=>[]) (fun o14=>[(1,.cells 187 [(.loc 1 0),(.arr 2 o14.length 0 o14.length)]),(2,.rows 5 1 (List.map (O .u8) o14))]) ?_ ?_
 intro _ h _ _ _
 refine Ao h (fun _ h=>?_) (fun _ h=>?_)
 refine Z ?_
 refine Bd h (fun _ h=>?_)
 refine Z ?_
 refine Fq h (fun h=>?_)
 refine Z ?_
 refine Be [1,2] h (fun _ h=>?_)
 exact Y
 exact Y
 rintro o14 _ h
 refine Z ?_
 refine Ao h (fun _ h=>?_) (fun _ h=>?_)
 refine Z ?_
 refine Be [1,2] h (fun _ h=>?_)
 exact Y
 refine Z ?_
 refine Bd h (fun _ h=>?_)
 refine Z ?_
 refine Fq h (fun h=>?_)
 refine Z ?_
 refine Be [1,2] h (fun _ h=>?_)
 exact Y
 refine Ff.act [1,2] _ _ _ _ (Ahs (a0:=v5.Coef) (a1:=true) (b1:=[]) hcv7) rfl rfl ⟨rfl,rfl,trivial⟩ ?_
 refine Z ?_
 refine Ao h (fun _ h=>?_) (fun _ h=>?_)
 refine Z ?_
 refine Bd h (fun _ h=>?_)
 refine Z ?_
 refine Fq h (fun h=>?_)
 refine Z ?_
 refine Be [1,2] h (fun _ h=>?_)
 refine Z ?_
 refine Ao h (fun _ h=>?_) (fun _ h=>?_)
 refine Z ?_
 refine Be [1,2] h (fun _ h=>?_)
 exact Y
 refine Z ?_
 refine Bd h (fun _ h=>?_)
 refine Z ?_
 refine Fq h (fun h=>?_)
 refine Z ?_
 refine Be [1,2] h (fun _ h=>?_)
 exact Y
 refine Z ?_
 refine Ao h (fun _ h=>?_) (fun _ h=>?_)
 refine Z ?_
 refine Be [1,2] h (fun _ h=>?_)
 exact Y
 refine Z ?_
 refine Bd h (fun _ h=>?_)
 refine Z ?_
 refine Fq h (fun h=>?_)
 refine Z ?_
 refine Be [1,2] h (fun _ h=>?_)
 exact Y
 rintro ⟨v30,o31⟩ _ h
 refine Z ?_
 refine Az h (fun (v43,o44)=>[(13,(O .i64 v43))]) (fun (v43,o44)=>[(1,.cells 187 [(.loc 1 0),(.arr 2 o44.length 0 o44.length)]),(2,.rows 5 1 (List.map (O .u8) o44))]) ?_
 rintro ⟨v43,o44⟩ _ _ _ h _ _
 refine Z ?_
 refine Ao h (fun _ h=>?_) (fun _ h=>?_)
 refine Z ?_
 refine B2 h (fun _ _ _ _ h=>?_)
 refine Z ?_
 refine Be [1,2] h (fun _ h=>?_)
 refine ZS ?_
 refine Bq ?_
 refine ZO ?_
 refine Bo h (fun o51=>[]) (fun o51=>[(1,.cells 187 [(.loc 1 0),(.arr 2 o51.length 0 o51.length)]),(2,.rows 5 1 (List.map (O .u8) o51))]) ?_ ?_
 intro _ h _ _ _
 refine Ao h (fun _ h=>?_) (fun _ h=>?_)
 refine Z ?_
 refine Bd h (fun _ h=>?_)
 refine Z ?_
 refine Fq h (fun h=>?_)
 refine Z ?_
 refine Be [1,2] h (fun _ h=>?_)
 exact Y
 exact Y
 rintro o51 _ h
 refine Z ?_
 refine Ao h (fun _ h=>?_) (fun _ h=>?_)
 refine Z ?_
 refine Be [1,2] h (fun _ h=>?_)
 exact Y
 refine Z ?_
 refine Bd h (fun _ h=>?_)
 refine Z ?_
 refine Fq h (fun h=>?_)
 refine Z ?_
 refine Be [1,2] h (fun _ h=>?_)
 exact Y
 replace h:=Cl h
 refine Fw (Fv rfl (Ax (Ax ?_)))
 refine Bo h (fun v57=>[(47,(Al v57))]) (fun v57=>[]) ?_ ?_
 intro _ h _ _ _
 exact Y
 rintro v57 _ h
 refine Ao h (fun _ h=>?_) (fun _ h=>?_)
 refine Z ?_
 refine Be [1,2] h (fun _ h=>?_)
 refine Z ?_
 refine Bd h (fun _ h=>?_)
 refine Z ?_
 refine Be [1,2] h (fun _ h=>?_)
 refine Z ?_
 refine Be [1,2] h (fun _ h=>?_)
 exact Y
 refine Z ?_
 refine Be [1,2] h (fun _ h=>?_)
 exact Y
 refine Fw (Fv rfl (Ax (Ax ?_)))
 refine Bo h (fun v63=>[(47,(Al v63))]) (fun v63=>[]) ?_ ?_
 intro _ h _ _ _
 exact Y
 rintro v63 _ h
 refine Ao h (fun _ h=>?_) (fun _ h=>?_)
 refine Z ?_
 refine Dh h (fun v64 hcv64 h=>?_)
 rcases v64 with v65 | v66
 refine Ff.act [1,2] _ _ _ _ (Ahr (a0:=a0.Const) (a1:=((a0.Terms.length:Int)==(0:Int))) (b1:=[]) hcv64) rfl rfl ⟨rfl,rfl,trivial⟩ ?_
 refine Z ?_
 refine Bd h (fun _ h=>?_)
 refine Z ?_
 refine Be [1,2] h (fun _ h=>?_)
 refine Z ?_
 refine Be [1,2] h (fun _ h=>?_)
 exact Y
 refine Ff.act [1,2] _ _ _ _ (Ahs (a0:=a0.Const) (a1:=((a0.Terms.length:Int)==(0:Int))) (b1:=[]) hcv64) rfl rfl ⟨rfl,rfl,trivial⟩ ?_
 refine Z ?_
 refine Bd h (fun _ h=>?_)
 refine Z ?_
 refine Be [1,2] h (fun _ h=>?_)
 refine Z ?_
 refine Be [1,2] h (fun _ h=>?_)
 exact Y
 refine Z ?_
 refine Be [1,2] h (fun _ h=>?_)
 exact Y⟩
instance {a0:Bb}:OK (Tb a0) fun r=>Aq Tryz.prog 80 [Ez a0] (Db r):=⟨fun {r} h=>by
 refine pw C0 Tryz.func80 ?_
 refine ZS ?_
 refine Bq ?_
 refine ZS ?_
 refine Bq ?_
 refine ZO ?_
 refine Ax (Ax ?_)
 refine Ee [.own 3 1 5 1] ?_
 refine Z ?_
 refine Ws ?_
 refine Z ?_
 refine Ao h (fun _ h=>?_) (fun _ h=>?_)
 refine Z ?_
 refine B2 h (fun _ _ _ _ h=>?_)
 refine Z ?_
 refine Bd h (fun _ h=>?_)
 refine Z ?_
 refine Be [1,2] h (fun _ h=>?_)
 refine Z ?_
 refine Az h (fun (v18,o19)=>[(11,(O .i64 v18))]) (fun (v18,o19)=>[(1,.cells 187 [(.loc 1 0),(.arr 2 o19.length 0 o19.length)]),(2,.rows 5 1 (List.map (O .u8) o19))]) ?_
 rintro ⟨v18,o19⟩ _ _ _ h _ _
 refine Z ?_
 refine Ao h (fun _ h=>?_) (fun _ h=>?_)
 refine Z ?_
 refine B2 h (fun _ _ _ _ h=>?_)
 refine Z ?_
 refine Bd h (fun _ h=>?_)
 refine Z ?_
 refine Be [1,2] h (fun _ h=>?_)
 exact Y
 replace h:=Cl h
 refine Z ?_
 refine Ws ?_
 refine Z ?_
 refine Ao h (fun _ h=>?_) (fun _ h=>?_)
 refine Z ?_
 refine B2 h (fun _ _ _ _ h=>?_)
 refine Z ?_
 refine Bd h (fun _ h=>?_)
 refine Z ?_
 refine Fq h (fun h=>?_)
 refine Z ?_
 refine Fq h (fun h=>?_)
 refine Z ?_
 refine Bd h (fun _ h=>?_)
 refine Z ?_
 refine Fq h (fun h=>?_)
 refine Z ?_
 refine Be [1,2] h (fun _ h=>?_)
 refine Z ?_
 refine Az h (fun (v51,o52)=>[(25,(O .i64 v51))]) (fun (v51,o52)=>[(1,.cells 187 [(.loc 1 0),(.arr 2 o52.length 0 o52.length)]),(2,.rows 5 1 (List.map (O .u8) o52))]) ?_
 rintro ⟨v51,o52⟩ _ _ _ h _ _
 refine Z ?_
 refine Ao h (fun _ h=>?_) (fun _ h=>?_)
 refine Z ?_
 refine B2 h (fun _ _ _ _ h=>?_)
 refine Z ?_
 refine Bd h (fun _ h=>?_)
 refine Z ?_
 refine Fq h (fun h=>?_)
 refine Z ?_
 refine Fq h (fun h=>?_)
 refine Z ?_
 refine Bd h (fun _ h=>?_)
 refine Z ?_
 refine Fq h (fun h=>?_)
 refine Z ?_
 refine Be [1,2] h (fun _ h=>?_)
 exact Y
 replace h:=Cl h
 refine Z ?_
 refine Be [1,2] h (fun _ h=>?_)
 exact Y
 refine Z ?_
 refine Be [1,2] h (fun _ h=>?_)
 exact Y
 refine Z ?_
 refine Ws ?_
 refine Z ?_
 refine Ao h (fun _ h=>?_) (fun _ h=>?_)
 refine Z ?_
 refine B2 h (fun _ _ _ _ h=>?_)
 refine Z ?_
 refine Bd h (fun _ h=>?_)
 refine Z ?_
 refine Fq h (fun h=>?_)
 refine Z ?_
 refine Fq h (fun h=>?_)
 refine Z ?_
 refine Bd h (fun _ h=>?_)
 refine Z ?_
 refine Fq h (fun h=>?_)
 refine Z ?_
 refine Be [1,2] h (fun _ h=>?_)
 refine Z ?_
 refine Az h (fun (v90,o91)=>[(25,(O .i64 v90))]) (fun (v90,o91)=>[(1,.cells 187 [(.loc 1 0),(.arr 2 o91.length 0 o91.length)]),(2,.rows 5 1 (List.map (O .u8) o91))]) ?_
 rintro ⟨v90,o91⟩ _ _ _ h _ _
 refine Z ?_
 refine Ao h (fun _ h=>?_) (fun _ h=>?_)
 refine Z ?_
 refine B2 h (fun _ _ _ _ h=>?_)
 refine Z ?_
 refine Bd h (fun _ h=>?_)
 refine Z ?_
 refine Fq h (fun h=>?_)
 refine Z ?_
 refine Fq h (fun h=>?_)
 refine Z ?_
 refine Bd h (fun _ h=>?_)
 refine Z ?_
 refine Fq h (fun h=>?_)
 refine Z ?_
 refine Be [1,2] h (fun _ h=>?_)
 exact Y
 replace h:=Cl h
 refine Z ?_
 refine Be [1,2] h (fun _ h=>?_)
 exact Y
 refine Z ?_
 refine Be [1,2] h (fun _ h=>?_)
 exact Y⟩
instance {a0 a1:List Int}:OK (Tz a0 a1) fun r=>Aq Tryz.prog 173 [(Ar 1 (O .u32)) a0,(Ar 1 (O .u32)) a1] ((Ar 1 (O .u32)) r):=⟨fun {r} h=>by
 refine pw {T:=B7,an:=(fun _=>.ask),nl:=(fun s=>bif Nat.beq s 4 then [(0,1)] else [])} Tryz.func173 ?_
 refine ZS ?_
 refine Bq ?_
 refine ZS ?_
 refine Bq ?_
 refine ZO ?_
 refine Bo h (fun (v1,v2)=>[(0,(.sl 1 (List.map (O .u32) v1))),(1,(.sl 1 (List.map (O .u32) v2)))]) (fun (v1,v2)=>[]) ?_ ?_
 intro _ h _ _ _
 exact Y
 rintro ⟨v1,v2⟩ _ h
 refine Z ?_
 refine Gd h (fun _ h=>?_)
 refine Z ?_
 refine Az h (fun (v20,v21,o22)=>[(5,(.arr 0 o22.length 0 o22.length)),(6,(O .u32 v20)),(22,(O .i64 v21))]) (fun (v20,v21,o22)=>[(0,.rows 133 1 (List.map (O .u32) o22))]) ?_
 rintro ⟨v20,v21,o22⟩ _ _ _ h _ _
 refine Z ?_
 refine Ao h (fun _ h=>?_) (fun _ h=>?_)
 refine Z ?_
 refine B2 h (fun _ _ _ _ h=>?_)
 refine ZS ?_
 refine Bq ?_
 refine ZO ?_
 refine Bo h (fun v25=>[(8,(O .u32 v25))]) (fun v25=>[]) ?_ ?_
 intro _ h _ _ _
 exact Y
 rintro v25 _ h
 exact Y
 exact Y⟩
instance {a0 a1:List Int}:OK (Q6 a0 a1) fun r=>Aq Tryz.prog 175 [(Ar 1 (O .u32)) a0,(Ar 1 (O .u32)) a1] ((Ar 1 (O .u32)) r):=⟨fun {r} h=>by
 refine pw {T:=B7,an:=(fun _=>.ask),nl:=(fun s=>bif Nat.beq s 4 then [(0,1)] else [])} Tryz.func175 ?_
 refine Z ?_
 refine Gd h (fun _ h=>?_)
 refine Z ?_
 refine Az h (fun (v8,v9,o10)=>[(5,(.arr 0 o10.length 0 o10.length)),(6,(O .i64 v8)),(14,(O .i64 v9))]) (fun (v8,v9,o10)=>[(0,.rows 133 1 (List.map (O .u32) o10))]) ?_
 rintro ⟨v8,v9,o10⟩ _ _ _ h _ _
 refine Z ?_
 refine Ao h (fun _ h=>?_) (fun _ h=>?_)
 refine Z ?_
 refine B2 h (fun _ _ _ _ h=>?_)
 refine ZS ?_
 refine Bq ?_
 refine ZO ?_
 refine Bo h (fun v13=>[(8,(O .i64 v13))]) (fun v13=>[]) ?_ ?_
 intro _ h _ _ _
 exact Y
 rintro v13 _ h
 exact Y
 replace h:=Cl h
 refine Fw (Fv rfl (Ax ?_))
 refine Ee [.fz 5] ?_
 exact Y⟩
instance {a0 a1:Fr}:OK (Wy a0 a1) fun r=>Aq Tryz.prog 107 [M8 a0,M8 a1] (M8 r):=⟨fun {r} h=>by
 refine pw C0 Tryz.func107 ?_
 exact Y⟩
instance {a0 a1:A5}:OK (Of a0 a1) fun r=>Aq Tryz.prog 53 [C7 a0,C7 a1] (C7 r):=⟨fun {r} h=>by
 refine pw C0 Tryz.func53 ?_
 exact Y⟩
instance {a0:List Aj} {b1:List (ByteArray×Int)} {b2:List Aj}:OK (H4 a0 b1 b2) fun r=>Ce Tryz.prog 38 [(.loc 0 0),(Ar 5 Bj) a0] [.cells 76 [(.mp 1),(.arr 2 b2.length 0 b2.length)],.map (Bm (O .i64) b1),.rows 84 5 (List.map Bj b2)] (.tup []) [.cells 76 [(.mp 1),(.arr 2 r.2.length 0 r.2.length)],.map (Bm (O .i64) r.1),.rows 84 5 (List.map Bj r.2)]:=⟨fun {r} h=>by
 refine aw C0 true Tryz.func38 ?_
 refine Z ?_
 refine Az h (fun (v10,o11,o12)=>[(11,(O .i64 v10))]) (fun (v10,o11,o12)=>[(0,.cells 76 [(.mp 1),(.arr 2 o12.length 0 o12.length)]),(1,.map (Bm (O .i64) o11)),(2,.rows 84 5 (List.map Bj o12))]) ?_
 rintro ⟨v10,o11,o12⟩ _ _ _ h _ hn1
 refine Z ?_
 refine Ao h (fun _ h=>?_) (fun _ h=>?_)
 refine Z ?_
 refine B2 h (fun _ _ _ _ h=>?_)
 refine Z ?_
 refine Bd h (fun _ h=>?_)
 refine ZO ?_
 refine Ax (Ax ?_)
 refine Bo h (fun (v16,v17)=>[(7,(O .i64 v16)),(8,(Al v17))]) (fun (v16,v17)=>[]) ?_ ?_
 intro _ h _ _ _
 refine Z ?_
 refine Wn (f:=(O .i64)) (l:=o11) rfl (0:Int) h (fun j_ hb h=>?_) (fun hb h=>?_)
 exact Y
 exact Y
 rintro ⟨v16,v17⟩ _ h
 refine Z ?_
 refine Ao h (fun _ h=>?_) (fun _ h=>?_)
 refine Z ?_
 refine K0 h (fun _ _ _ _ h=>?_)
 refine Z ?_
 refine Bd h (fun v19 h=>?_)
 refine Z ?_
 refine K0 h (fun _ v20 hiv20 _ h=>?_)
 refine Z ?_
 refine Lk (f:=Bj) (x:=(Aj.mk v19 v20.Mono)) (j:=v16) rfl rfl (Nat.zero_add _) hiv20 ?_
 refine Z ?_
 exact hn1 _ _ _ _ (Option.some.inj h) ⟨rfl,trivial⟩ ⟨⟨rfl,rfl⟩,⟨rfl,rfl⟩,⟨congrArg (fun q_=>Bf.cells 76 [(.mp 1),(.arr 2 q_ 0 q_)]) (Fb (l:=o12) rfl v16 (Aj.mk v19 v20.Mono)),rfl⟩,trivial⟩ trivial
 refine Z ?_
 refine Sv (f:=(O .i64)) (l:=o11) (x:=((o12.length:Nat):Int)) rfl rfl ?_
 exact Y
 exact Y⟩
abbrev Aht (k:Nat):Prop:=∀{a0:A8},OK (O4 k a0) fun r=>Aq Tryz.prog 254 [Et a0] (Et r)
theorem Aqn (k:Nat):Aht k:=by
 induction k with
 | zero=>exact okz
 | succ k ih=>
  refine @fun a0=>⟨fun {r} h=>?_⟩
  .unfold O4 at h
   refine pw {T:=B7,an:=(fun _=>.ask),nl:=(fun s=>bif Nat.beq s 17 then [(0,2)] else [])} Tryz.func254 ?_
   refine ZS ?_
   refine Bq ?_
   refine ZS ?_
   refine Bq ?_
   refine ZO ?_
   refine Ax (Ax ?_)
   refine Ee [.own 3 1 90 2] ?_
   refine Z ?_
   refine Az h (fun (v15,o16)=>[(12,(O .i64 v15))]) (fun (v15,o16)=>[(2,.cells 90 [(O .i64 a0.Num),(.arr 3 o16.length 0 o16.length)]),(3,.rows 90 2 (Gv o16))]) ?_
   rintro ⟨v15,o16⟩ _ _ _ h _ _
   exact Y
instance {k:Nat}:Aht k:=(Aqn k)
instance {a0:List Dd}:OK (Xc a0) fun r=>Aq Tryz.prog 255 [(Ar 2 Gb) a0] ((Ar 2 Gb) r):=⟨fun {r} h=>by
 exact Ap5 h⟩
instance {a0:Bb}:OK (Tu a0) fun r=>Aq Tryz.prog 165 [Ez a0] (Ez r):=⟨fun {r} h=>by
 refine pw {T:=B7,an:=(fun _=>.ask),nl:=(fun s=>bif Nat.beq s 44 then [(0,3)] else bif Nat.beq s 17 then [(0,3)] else [])} Tryz.func165 ?_
 refine ZS ?_
 refine Bq ?_
 refine ZS ?_
 refine Bq ?_
 refine ZO ?_
 refine Ax (Ax ?_)
 refine Ee [.own 3 0 92 3,.own 3 1 95 3] ?_
 refine Z ?_
 refine Az h (fun (v16,o17)=>[(12,(O .i64 v16))]) (fun (v16,o17)=>[(2,.cells 45 [(.arr 3 o17.length 0 o17.length),(.arr 4 0 0 0)]),(3,.rows 92 3 (List.map El o17))]) ?_
 rintro ⟨v16,o17⟩ _ _ _ h _ _
 refine Z ?_
 refine Ao h (fun _ h=>?_) (fun _ h=>?_)
 exact Y
 replace h:=Cl h
 refine Z ?_
 refine Az h (fun (v35,o36)=>[(31,(O .i64 v35))]) (fun (v35,o36)=>[(2,.cells 45 [(.arr 3 o17.length 0 o17.length),(.arr 4 o36.length 0 o36.length)]),(4,.rows 95 3 (List.map Ef o36))]) ?_
 rintro ⟨v35,o36⟩ _ _ _ h _ _
 exact Y⟩
instance {a0:List Aj}:OK (Te a0) fun r=>Aq Tryz.prog 94 [(Ar 5 Bj) a0] ((Ar 5 Bj) r):=⟨fun {r} h=>by
 refine pw {T:=B7,an:=(fun s=>bif Nat.beq s 3 then .own else .ask),nl:=(fun s=>bif Nat.beq s 3 then [(0,5)] else bif Nat.beq s 2 then [(0,5)] else [])} Tryz.func94 ?_
 refine Z ?_
 refine Az h (fun (v14,o15)=>[(3,(.arr 0 o15.length 0 o15.length)),(8,(O .i64 v14))]) (fun (v14,o15)=>[(0,.rows 84 5 (List.map Bj o15))]) ?_
 rintro ⟨v14,o15⟩ _ _ _ h _ _
 exact Y⟩
instance {a0:Int}:OK (W2 a0) fun r=>Aq Tryz.prog 189 [(O .u64) a0] ((O .i64) r):=⟨fun {r} h=>by
 refine pw C0 Tryz.func189 ?_
 refine ZS ?_
 refine Bq ?_
 refine ZS ?_
 refine Bq ?_
 refine ZO ?_
 refine Bo h (fun (v2,v3)=>[(0,(O .u64 v2)),(2,(O .i64 v3))]) (fun (v2,v3)=>[]) ?_ ?_
 intro _ h _ _ _
 exact Y
 rintro ⟨v2,v3⟩ _ h
 refine ZS ?_
 refine Bq ?_
 refine ZO ?_
 refine Bo h (fun (v5,v6)=>[(0,(O .u64 v5)),(2,(O .i64 v6))]) (fun (v5,v6)=>[]) ?_ ?_
 intro _ h _ _ _
 exact Y
 rintro ⟨v5,v6⟩ _ h
 refine ZS ?_
 refine Bq ?_
 refine ZO ?_
 refine Bo h (fun (v8,v9)=>[(0,(O .u64 v8)),(2,(O .i64 v9))]) (fun (v8,v9)=>[]) ?_ ?_
 intro _ h _ _ _
 exact Y
 rintro ⟨v8,v9⟩ _ h
 exact Y⟩
instance {a0:Int}:OK (Tk a0) fun r=>Aq Tryz.prog 120 [(O .u64) a0] ((O .i64) r):=⟨fun {r} h=>by
 refine pw C0 Tryz.func120 ?_
 exact Y⟩
instance {a0 a1:Aj}:OK (Lr a0 a1) fun r=>Aq Tryz.prog 93 [Bj a0,Bj a1] ((O .i64) r):=⟨fun {r} h=>by
 refine pw C0 Tryz.func93 ?_
 exact Y⟩
instance {a0 a1:Int} {b0:List Aj}:OK (T9 a0 a1 b0) fun r=>Ce Tryz.prog 246 [(.arr 0 b0.length 0 b0.length),(O .i64) a0,(O .i64) a1,(.fn 93 [])] [.rows 84 5 (List.map Bj b0)] (.tup []) [.rows 84 5 (List.map Bj r)]:=⟨fun {r} h=>by
 refine aw C0 true Tryz.func246 ?_
 refine Z ?_
 refine Gl h (fun (v21,o22)=>[(8,(O .i64 v21))]) (fun (v21,o22)=>[(0,.rows 84 5 (List.map Bj o22))]) (fun (v21,o22)=>b0.length=o22.length) ?_
 rintro ⟨v21,o22⟩ _ _ _ h _ _ q22
 refine Z ?_
 refine Ao h (fun _ h=>?_) (fun _ h=>?_)
 refine Z ?_
 refine Gl h (fun (v31,o32)=>[(9,(O .i64 v31))]) (fun (v31,o32)=>[(0,.rows 84 5 (List.map Bj o32))]) (fun (v31,o32)=>b0.length=o32.length) ?_
 rintro ⟨v31,o32⟩ _ _ _ h _ _ q32
 refine Ax (Ax ?_)
 refine Bo h (fun v36=>[(34,(Al v36))]) (fun v36=>[]) ?_ ?_
 intro _ h _ _ _
 exact Y
 rintro v36 _ h
 exact Y
 exact Y⟩
instance {a0 a1 a2:Int} {b0:List Aj}:OK (Tt a0 a1 a2 b0) fun r=>Ce Tryz.prog 164 [(.arr 0 b0.length 0 b0.length),(O .i64) a0,(O .i64) a1,(O .i64) a2,(.fn 93 [])] [.rows 84 5 (List.map Bj b0)] (.tup []) [.rows 84 5 (List.map Bj r)]:=⟨fun {r} h=>by
 refine aw C0 true Tryz.func164 ?_
 refine Z ?_
 refine Az h (fun _=>[(1,(O .i64 a0)),(2,(O .i64 a1)),(3,(O .i64 a2)),(10,(Al true)),(11,(Al true))]) (fun _=>[]) ?_
 rintro _ _ _ _ h _ _
 refine Z ?_
 refine Ao h (fun _ h=>?_) (fun _ h=>?_)
 refine Z ?_
 refine Be [0] h (fun _ h=>?_)
 refine Dh h (fun v2 hgv2 h=>?_)
 exact Y
 exact Y⟩
theorem Aqo {b0:List Aj} {r:(List Aj)} (h:Aby b0=some r):Ce Tryz.prog 92 [(.arr 0 b0.length 0 b0.length),(.fn 93 [])] [.rows 84 5 (List.map Bj b0)] (.tup []) [.rows 84 5 (List.map Bj r)]:=by
 refine aw C0 true Tryz.func92 ?_
 refine Z ?_
 refine Bd h (fun _ h=>?_)
 refine Z ?_
 refine Be [0] h (fun _ h=>?_)
 refine Dh h (fun v3 hgv3 h=>?_)
 exact Y
instance {b0:List Aj}:OK (Lq b0) fun r=>Ce Tryz.prog 92 [(.arr 0 b0.length 0 b0.length),(.fn 93 [])] [.rows 84 5 (List.map Bj b0)] (.tup []) [.rows 84 5 (List.map Bj r)]:=⟨fun {r} h=>by
 unfold Lq at h
 cases hb:Nat.ble b0.length 12 with
 | true=>rw [hb] at h; exact Aqo h
 | false=>rw [hb] at h; exact Aqf (eA:=Bj) (cmp:=Lr) (g:=93) (enters_of Tryz.func93 (by kernel_rfl) rfl) (fun x y n h=>(OK.ok h :)) (fun x=>⟨_,rfl⟩) h (by rintro rfl; cases hb)⟩
instance {b1:List (ByteArray×Int)} {b2:List Aj}:OK (Ku b1 b2) fun r=>Ce Tryz.prog 46 [(.loc 0 0)] [.cells 76 [(.mp 1),(.arr 2 b2.length 0 b2.length)],.map (Bm (O .i64) b1),.rows 84 5 (List.map Bj b2)] (.tup [(Ar 5 Bj) r.1,(O .i64) r.2]) [.cells 76 [(.mp 1),(.arr 2 b2.length 0 b2.length)],.map (Bm (O .i64) b1),.rows 84 5 (List.map Bj b2)]:=⟨fun {r} h=>by
 refine aw {T:=B7,an:=(fun s=>bif Nat.beq s 4 then .own else .ask),nl:=(fun s=>bif Nat.beq s 4 then [(0,5)] else bif Nat.beq s 2 then [(0,5)] else [])} true Tryz.func46 ?_
 refine Z ?_
 refine Az h (fun (v12,o13)=>[(4,(.arr 3 o13.length 0 o13.length)),(12,(O .i64 v12))]) (fun (v12,o13)=>[(3,.rows 84 5 (List.map Bj o13))]) ?_
 rintro ⟨v12,o13⟩ _ _ _ h _ _
 refine Z ?_
 refine Ao h (fun _ h=>?_) (fun _ h=>?_)
 exact Y
 replace h:=Cl h
 refine Z ?_
 refine Ao h (fun _ h=>?_) (fun _ h=>?_)
 exact Y
 refine Z ?_
 refine Be [3] h (fun _ h=>?_)
 refine Dh h (fun v20 hgv20 h=>?_)
 refine ZO ?_
 refine Ax ?_
 refine Ee [.fz 4] ?_
 exact Y⟩
instance {a0:Bb} {b1:List (ByteArray×Int)} {b2:List (ByteArray×(List Dq))} {b0_0:List Ay} {b0_1:List Ah} {b0_2 b0_3:Int} {b0_4:List Ah}:OK (Aa7 a0 b1 b2 b0_0 b0_1 b0_2 b0_3 b0_4) fun r=>Ce Tryz.prog 91 [(.loc 0 0),Ez a0] [.cells 129 [(.sl 3 (List.map Cf b0_0)),(.sl 3 (Bh b0_1)),(O .i64 b0_2),(O .i64 b0_3),(.sl 3 (Bh b0_4)),(.mp 1),(.mp 2)],.map (Bm (O .i64) b1),.map (Bm (Ar 5 Eg) b2)] (.tup [(Ar 5 Bj) r.1,(O .i64) r.2]) [.cells 129 [(.sl 3 (List.map Cf b0_0)),(.sl 3 (Bh b0_1)),(O .i64 b0_2),(O .i64 b0_3),(.sl 3 (Bh b0_4)),(.mp 1),(.mp 2)],.map (Bm (O .i64) b1),.map (Bm (Ar 5 Eg) b2)]:=⟨fun {r} h=>by
 refine aw {T:=B7,an:=(fun _=>.ask),nl:=(fun s=>bif Nat.beq s 4 then [(0,5)] else [])} true Tryz.func91 ?_
 refine Z ?_
 refine Bd h (fun _ h=>?_)
 refine Z ?_
 refine Be [0,1,2] h (fun _ h=>?_)
 refine Z ?_
 refine Ao h (fun _ h=>?_) (fun _ h=>?_)
 exact Y
 refine Z ?_
 refine Be [] h (fun _ h=>?_)
 refine Z ?_
 refine Be [5,4,6] h (fun _ h=>?_)
 refine Z ?_
 refine Be [5,4,6] h (fun _ h=>?_)
 exact Y⟩
instance {a0:A5} {a1:Bb}:OK (Agp a0 a1) fun r=>Aq Tryz.prog 163 [(.val (.pointer none)),C7 a0,Ez a1] (.tup [(Ar 5 Bj) r.1,(O .i64) r.2]):=⟨fun {r} h=>by
 refine pw {T:=B7,an:=(fun s=>bif Nat.beq s 22 then .own else .ask),nl:=(fun s=>bif Nat.beq s 155 then [(0,3)] else bif Nat.beq s 31 then [(3,3),(4,3)] else bif Nat.beq s 22 then [(0,5)] else bif Nat.beq s 6 then [(0,5)] else [])} Tryz.func163 ?_
 refine Z ?_
 refine Bd h (fun _ h=>?_)
 refine Z ?_
 refine Ao h (fun _ h=>?_) (fun _ h=>?_)
 exact Y
 refine Z ?_
 refine Bd h (fun v4 h=>?_)
 refine Z ?_
 refine Bd h (fun _ h=>?_)
 refine Z ?_
 refine Az h (fun _=>[(6,(.sl 5 (List.map Bj []))),(7,(O .i64 0)),(8,(.sl 5 (List.map Bj [(Aj.mk a0 (Bb.mk [] []))]))),(9,(.sl 3 (List.map El v4)))]) (fun _=>[]) ?_
 rintro _ _ _ _ h _ _
 refine Z ?_
 refine Ao h (fun _ h=>?_) (fun _ h=>?_)
 refine Z ?_
 refine B2 h (fun _ _ _ _ h=>?_)
 refine Z ?_
 refine Az h (fun v8=>[(11,(O .i64 v8))]) (fun v8=>[]) ?_
 rintro v8 _ _ _ h _ _
 exact Y
 replace h:=Cl h
 refine Z ?_
 refine Bd h (fun _ h=>?_)
 refine Z ?_
 refine Bd h (fun _ h=>?_)
 refine Z ?_
 refine Az h (fun (v104,v105)=>[(8,(.sl 5 (List.map Bj v104))),(19,(.sl 3 (List.map Ef v105)))]) (fun (v104,v105)=>[]) ?_
 rintro ⟨v104,v105⟩ _ _ _ h _ _
 refine Z ?_
 refine Ao h (fun _ h=>?_) (fun _ h=>?_)
 refine Z ?_
 refine B2 h (fun _ _ _ _ h=>?_)
 refine Z ?_
 refine Az h (fun v110=>[(21,(O .i64 v110))]) (fun v110=>[]) ?_
 rintro v110 _ _ _ h _ _
 refine Z ?_
 refine Fm h (fun _ h=>?_) (fun _ h=>?_)
 refine Z ?_
 refine B2 h (fun _ _ _ _ h=>?_)
 refine Z ?_
 refine Bd h (fun _ h=>?_)
 refine Z ?_
 refine Ao h (fun _ h=>?_) (fun _ h=>?_)
 exact Y
 replace h:=Cl h
 refine Z ?_
 refine Pk h (fun _ h=>?_)
 refine Z ?_
 refine Bd h (fun _ h=>?_)
 refine Z ?_
 refine Az h (fun (v167,o168)=>[(22,(.arr 3 o168.length 0 o168.length)),(135,(O .i64 v167))]) (fun (v167,o168)=>[(3,.rows 84 5 (List.map Bj o168))]) ?_
 rintro ⟨v167,o168⟩ _ _ _ h _ _
 refine Z ?_
 refine Ao h (fun _ h=>?_) (fun _ h=>?_)
 refine Z ?_
 refine B2 h (fun _ _ _ _ h=>?_)
 refine Z ?_
 refine Bd h (fun _ h=>?_)
 refine Z ?_
 refine Ao h (fun _ h=>?_) (fun _ h=>?_)
 exact Y
 refine Z ?_
 refine Az h (fun (v184,o185)=>[(22,(.arr 3 o185.length 0 o185.length)),(145,(O .i64 v184))]) (fun (v184,o185)=>[(3,.rows 84 5 (List.map Bj o185))]) ?_
 rintro ⟨v184,o185⟩ _ _ _ h _ _
 exact Y
 replace h:=Cl h
 refine Fw (Fv rfl ?_)
 refine Ee [.fz 22] ?_
 exact Y
 replace h:=Cl h
 refine Z ?_
 refine Pk h (fun _ h=>?_)
 refine Z ?_
 refine Bd h (fun _ h=>?_)
 refine Z ?_
 refine Az h (fun (v167,o168)=>[(22,(.arr 3 o168.length 0 o168.length)),(135,(O .i64 v167))]) (fun (v167,o168)=>[(3,.rows 84 5 (List.map Bj o168))]) ?_
 rintro ⟨v167,o168⟩ _ _ _ h _ _
 refine Z ?_
 refine Ao h (fun _ h=>?_) (fun _ h=>?_)
 refine Z ?_
 refine B2 h (fun _ _ _ _ h=>?_)
 refine Z ?_
 refine Bd h (fun _ h=>?_)
 refine Z ?_
 refine Ao h (fun _ h=>?_) (fun _ h=>?_)
 exact Y
 refine Z ?_
 refine Az h (fun (v184,o185)=>[(22,(.arr 3 o185.length 0 o185.length)),(145,(O .i64 v184))]) (fun (v184,o185)=>[(3,.rows 84 5 (List.map Bj o185))]) ?_
 rintro ⟨v184,o185⟩ _ _ _ h _ _
 exact Y
 replace h:=Cl h
 refine Fw (Fv rfl ?_)
 refine Ee [.fz 22] ?_
 exact Y
 exact Y⟩
instance {a0:Bb}:OK (Agq a0) fun r=>Aq Tryz.prog 91 [(.val (.pointer none)),Ez a0] (.tup [(Ar 5 Bj) r.1,(O .i64) r.2]):=⟨fun {r} h=>by
 refine pw {T:=B7,an:=(fun _=>.ask),nl:=(fun s=>bif Nat.beq s 4 then [(0,5)] else [])} Tryz.func91 ?_
 refine Z ?_
 refine Bd h (fun _ h=>?_)
 refine Z ?_
 refine Bd h (fun _ h=>?_)
 refine Z ?_
 refine Ao h (fun _ h=>?_) (fun _ h=>?_)
 exact Y
 refine Z ?_
 refine Be [] h (fun _ h=>?_)
 refine Z ?_
 refine Be [2,1,3] h (fun _ h=>?_)
 refine Z ?_
 refine Be [2,1,3] h (fun _ h=>?_)
 exact Y⟩
instance {a0:B5} {a1:Cu} {a2:Int}:OK (Aa5 a0 a1 a2) fun r=>Aq Tryz.prog 44 [F6 a0,Gc a1,(O .i64) a2] (.tup [(Ar 5 Bj) r.1,(O .i64) r.2]):=⟨fun {r} h=>by
 refine pw {T:=B7,an:=(fun _=>.ask),nl:=(fun s=>bif Nat.beq s 37 then [(0,3)] else bif Nat.beq s 6 then [(0,5)] else [])} Tryz.func44 ?_
 refine Z ?_
 refine Dh h (fun v3 hcv3 h=>?_)
 rcases v3 with v4 | v9
 refine Ff.act [] _ _ _ _ (Ce.sub (args:=[_,.val (.slice none 0 0)]) (Ur (a0:=a0) (a1:=[]) hcv3) ⟨Sub.refl _,Sub.nil _,trivial⟩) rfl rfl trivial ?_
 refine Z ?_
 refine Ao h (fun _ h=>?_) (fun _ h=>?_)
 exact Y
 refine I5 (Ax (Ax ?_))
 refine Bo h (fun v11=>[(27,(Al v11))]) (fun v11=>[]) ?_ ?_
 intro _ h _ _ _
 exact Y
 rintro v11 _ h
 refine Ao h (fun _ h=>?_) (fun _ h=>?_)
 exact Y
 refine Z ?_
 refine Be [5,3,4] h (fun _ h=>?_)
 refine Z ?_
 refine Ao h (fun _ h=>?_) (fun _ h=>?_)
 exact Y
 refine Z ?_
 refine Be [5,3,4] h (fun _ h=>?_)
 exact Y
 refine Ff.act [] _ _ _ _ (Ce.sub (args:=[_,.val (.slice none 0 0)]) (Us (a0:=a0) (a1:=[]) hcv3) ⟨Sub.refl _,Sub.nil _,trivial⟩) rfl rfl trivial ?_
 refine Z ?_
 refine Ao h (fun _ h=>?_) (fun _ h=>?_)
 exact Y
 refine I5 (Ax (Ax ?_))
 refine Bo h (fun v15=>[(27,(Al v15))]) (fun v15=>[]) ?_ ?_
 intro _ h _ _ _
 exact Y
 rintro v15 _ h
 exact Y⟩
instance {a0:B5} {a1:List Aj}:OK (Aa6 a0 a1) fun r=>Aq Tryz.prog 45 [F6 a0,(Ar 5 Bj) a1] (Al r):=⟨fun {r} h=>by
 refine pw C0 Tryz.func45 ?_
 refine Z ?_
 refine Dh h (fun v2 hcv2 h=>?_)
 rcases v2 with v3 | v8
 refine Ff.act [] _ _ _ _ (Ur (a0:=a0) (a1:=[a1]) hcv2) rfl rfl trivial ?_
 exact Y
 refine Ff.act [] _ _ _ _ (Us (a0:=a0) (a1:=[a1]) hcv2) rfl rfl trivial ?_
 exact Y⟩
instance {a0:List Int}:OK (H6 a0) fun r=>Aq Tryz.prog 179 [(Ar 1 (O .u32)) a0] ((Ar 1 (O .u32)) r):=⟨fun {r} h=>by
 refine pw {T:=B7,an:=(fun _=>.ask),nl:=(fun s=>bif Nat.beq s 2 then [(0,1)] else [])} Tryz.func179 ?_
 refine Z ?_
 refine Az h (fun v2=>[(3,(O .i64 v2))]) (fun v2=>[]) ?_
 rintro v2 _ _ _ h _ _
 exact Y⟩
instance {a0:List Int}:OK (Qz a0) fun r=>Aq Tryz.prog 155 [(Ar 1 (O .u32)) a0] ((Ar 1 (O .u32)) r):=⟨fun {r} h=>by
 refine pw {T:=B7,an:=(fun s=>bif Nat.beq s 3 then .own else .ask),nl:=(fun s=>bif Nat.beq s 3 then [(0,1)] else bif Nat.beq s 2 then [(0,1)] else [])} Tryz.func155 ?_
 refine Z ?_
 refine Az h (fun (v13,v14,o15)=>[(3,(.arr 0 o15.length 0 o15.length)),(4,(O .u64 v13)),(5,(O .i64 v14))]) (fun (v13,v14,o15)=>[(0,.rows 133 1 (List.map (O .u32) o15))]) ?_
 rintro ⟨v13,v14,o15⟩ _ _ _ h _ _
 refine Z ?_
 refine Ao h (fun _ h=>?_) (fun _ h=>?_)
 exact Y
 replace h:=Cl h
 refine Z ?_
 refine Ao h (fun _ h=>?_) (fun _ h=>?_)
 refine Z ?_
 refine Pj h (fun _ h=>?_)
 refine ZO ?_
 refine Ax ?_
 refine Ee [.fz 3] ?_
 exact Y
 refine I5 (Ax ?_)
 refine Ee [.fz 3] ?_
 exact Y⟩
instance {a0 a1:List Int}:OK (T8 a0 a1) fun r=>Aq Tryz.prog 233 [(Ar 1 (O .u32)) a0,(Ar 1 (O .u32)) a1] ((O .u64) r):=⟨fun {r} h=>by
 refine pw C0 Tryz.func233 ?_
 exact Y⟩
instance {a0:Int}:OK (Lo a0) fun r=>Aq Tryz.prog 88 [(O .u64) a0] ((Ar 1 (O .u32)) r):=⟨fun {r} h=>by
 refine pw {T:=B7,an:=(fun s=>bif Nat.beq s 3 then .own else .ask),nl:=(fun s=>bif Nat.beq s 3 then [(0,1)] else bif Nat.beq s 2 then [(0,1)] else [])} Tryz.func88 ?_
 refine Z ?_
 refine Az h (fun (v10,o11)=>[(0,(O .u64 v10)),(3,(.arr 0 o11.length 0 o11.length))]) (fun (v10,o11)=>[(0,.rows 133 1 (List.map (O .u32) o11))]) ?_
 rintro ⟨v10,o11⟩ _ _ _ h _ _
 exact Y⟩
instance {a0 a1:List Int}:OK (Mu a0 a1) fun r=>Aq Tryz.prog 113 [(Ar 1 (O .u32)) a0,(Ar 1 (O .u32)) a1] ((O .i64) r):=⟨fun {r} h=>by
 refine pw C0 Tryz.func113 ?_
 refine Z ?_
 refine Ao h (fun _ h=>?_) (fun _ h=>?_)
 exact Y
 refine Z ?_
 refine Az h (fun v5=>[(4,(O .i64 0)),(5,(O .i64 v5))]) (fun v5=>[]) ?_
 rintro v5 _ _ _ h _ _
 exact Y⟩
end Go.Ab
