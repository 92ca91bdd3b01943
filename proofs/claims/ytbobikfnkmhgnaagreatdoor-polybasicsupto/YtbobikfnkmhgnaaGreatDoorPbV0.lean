/- The contracts of the functions, each by its walk (made by a program). -/
import Derived.Test.YtbobikfnkmhgnaaGreatDoorPbHand
import Derived.Test.YtbobikfnkmhgnaaGreatDoorPbDef
namespace Go.Ab
open Go Go.Proofs
set_option maxRecDepth 10000
set_option maxHeartbeats 4000000
set_option linter.unusedVariables false
theorem Aul (x0 x1 y0 y1:Int):Uz Tryz.prog 156 [.int .i64 x0,.int .i64 x1] [.int .i64 y0,.int .i64 y1] (x0==y0&&(x1==y1)):=by
 have u:Tryz.prog.underlying 156=some (.struct #[⟨ "Var",3,0,false,"","",0⟩,⟨ "Coef",2,1,false,"","",8⟩]):=by kernel_rfl
 have u2:Tryz.prog.underlying 2=some (.int .i64):=by kernel_rfl
 have u3:Tryz.prog.underlying 3=some (.int .i64):=by kernel_rfl
 have s:Tryz.prog.stoodInHeld 156=false:=by kernel_rfl
 have g:Tryz.prog.eqGuardType Tryz.prog.depth 156=false:=by kernel_rfl
 intro w op x y
 constructor
 .unfold eqGuard
  cases op <;> simp [program,Sem.run,g]
 .show (Op.equalIn (9999+1) 156 _ _).run _ w=_
  unfold Op.equalIn
  simp only [Sem.run_bind,run_underlying u,Result.andThen_ok]
  have hp:(program).run Tryz.prog w = .ok Tryz.prog w:=rfl
  simp only [hp,Result.andThen_ok,s]
  simp [Aht w u2,Ahu w u2 9998,Aht w u3,Ahu w u3 9998]
  by_cases h0:x0=y0 <;> by_cases h1:x1=y1 <;> simp [*]
abbrev Aj9 (k:Nat):Prop:=∀{a0:A9} {b0:Int},OK (P5 k a0 b0) fun r=>Bw Tryz.prog 47 [Ev a0,(.loc 0 0)] [.cells 3 [(O .i64 b0)]] (Ao r.1) [.cells 3 [(O .i64 r.2)]]
theorem Aum (k:Nat):Aj9 k:=by
 induction k with
 | zero=>exact okz
 | succ k ih=>
  refine @fun a0 b0=>⟨fun {r} h=>?_⟩
  .unfold P5 at h
   refine aw C0 true Tryz.func47 ?_
   refine Z ?_
   refine Am h (fun _ h=>?_) (fun _ h=>?_)
   exact Y
   refine Z ?_
   refine A3 h (fun (v4,v5)=>[(4,(Ao false)),(5,(O .i64 v4))]) (fun (v4,v5)=>[(0,.cells 3 [(O .i64 v5)])]) ?_
   rintro ⟨v4,v5⟩ _ _ _ h _ _
   refine Z ?_
   refine Am h (fun _ h=>?_) (fun _ h=>?_)
   refine Z ?_
   refine Bt h (fun _ _ _ _ h=>?_)
   refine Z ?_
   refine Bb [0] h (fun _ h=>?_)
   exact Y
   exact Y
instance {k:Nat}:Aj9 k:=(Aum k)
instance {a0:A9}:OK (Sy a0) fun r=>Ar Tryz.prog 16 [Ev a0] (Ao r):=⟨fun {r} h=>by
 refine pw C0 Tryz.func16 ?_
 refine Z ?_
 refine Bb [1] h (fun _ h=>?_)
 exact Y⟩
instance {a0:Ca}:OK (Sz a0) fun r=>Ar Tryz.prog 17 [Gk a0] (Ao r):=⟨fun {r} h=>by
 refine pw C0 Tryz.func17 ?_
 exact Y⟩
instance {a0:Aq}:OK (N4 a0) fun r=>Ar Tryz.prog 15 [B9 a0] (Ao r):=⟨fun {r} h=>by
 refine pw C0 Tryz.func15 ?_
 exact Y⟩
abbrev Aka (k:Nat):Prop:=∀{a0 a1:A9},OK (Qf k a0 a1) fun r=>Ar Tryz.prog 117 [Ev a0,Ev a1] (Ao r)
abbrev Akb (k:Nat):Prop:=∀{a0 a1:List A9},OK (Tn k a0 a1) fun r=>Ar Tryz.prog 197 [(Gj 2 Hr) a0,(Gj 2 Hr) a1] (Ao r)
theorem Akc (k:Nat):Aka k/\Akb k:=by
 induction k with
 | zero=>exact ⟨okz,okz⟩
 | succ k ih=>
  obtain ⟨i0_,i1_⟩:=ih
  refine ⟨@fun a0 a1=>⟨fun {r} h=>?_⟩,@fun a0 a1=>⟨fun {r} h=>?_⟩⟩
  .unfold Qf at h
   refine pw C0 Tryz.func117 ?_
   exact Y
  .unfold Tn at h
   refine pw C0 Tryz.func197 ?_
   refine Z ?_
   refine Am h (fun _ h=>?_) (fun _ h=>?_)
   exact Y
   refine Z ?_
   refine A3 h (fun v4=>[(4,(Ao false)),(13,(O .i64 v4))]) (fun v4=>[]) ?_
   rintro v4 _ _ _ h _ _
   exact Y
instance {k:Nat}:Aka k:=(Akc k).1
instance {k:Nat}:Akb k:=(Akc k).2
instance {a0 a1:Ca}:OK (Vv a0 a1) fun r=>Ar Tryz.prog 118 [Gk a0,Gk a1] (Ao r):=⟨fun {r} h=>by
 refine pw C0 Tryz.func118 ?_
 refine ZS ?_
 refine B1 ?_
 refine ZO ?_
 refine As (As ?_)
 refine Bx h (fun v3=>[(19,(Ao v3))]) (fun v3=>[]) ?_ ?_
 intro _ h _ _ _
 exact Y
 rintro v3 _ h
 refine Am h (fun _ h=>?_) (fun _ h=>?_)
 exact Y
 refine Z ?_
 refine A3 h (fun v6=>[(4,(Ao false)),(23,(O .i64 v6))]) (fun v6=>[]) ?_
 rintro v6 _ _ _ h _ _
 refine Z ?_
 refine Am h (fun _ h=>?_) (fun _ h=>?_)
 refine Z ?_
 refine Bt h (fun _ v7 _ _ h=>?_)
 refine Z ?_
 refine Bt h (fun _ v8 _ _ h=>?_)
 refine Z ?_
 refine Ac6.mk _ (Aul v7.Var v7.Coef v8.Var v8.Coef) ?_
 exact Y
 exact Y⟩
instance {a0 a1:A8}:OK (Vl a0 a1) fun r=>Ar Tryz.prog 62 [F0 a0,F0 a1] (Ao r):=⟨fun {r} h=>by
 refine pw C0 Tryz.func62 ?_
 refine ZS ?_
 refine B1 ?_
 refine ZO ?_
 refine As (As ?_)
 refine Bx h (fun v3=>[(22,(Ao v3))]) (fun v3=>[]) ?_ ?_
 intro _ h _ _ _
 exact Y
 rintro v3 _ h
 refine Am h (fun _ h=>?_) (fun _ h=>?_)
 exact Y
 refine Z ?_
 refine A3 h (fun v9=>[(4,(Ao false)),(26,(O .i64 v9))]) (fun v9=>[]) ?_
 rintro v9 _ _ _ h _ _
 refine Z ?_
 refine Am h (fun _ h=>?_) (fun _ h=>?_)
 exact Y
 replace h:=Cj h
 refine Z ?_
 refine A3 h (fun v21=>[(4,(Ao false)),(62,(O .i64 v21))]) (fun v21=>[]) ?_
 rintro v21 _ _ _ h _ _
 exact Y⟩
instance {a0 a1:List Int}:OK (Ta a0 a1) fun r=>Ar Tryz.prog 116 [(Au 1 (O .u32)) a0,(Au 1 (O .u32)) a1] (Ao r):=⟨fun {r} h=>by
 refine pw C0 Tryz.func116 ?_
 refine Z ?_
 refine Am h (fun _ h=>?_) (fun _ h=>?_)
 exact Y
 refine Z ?_
 refine A3 h (fun v3=>[(4,(Ao false)),(13,(O .i64 v3))]) (fun v3=>[]) ?_
 rintro v3 _ _ _ h _ _
 exact Y⟩
instance {a0 a1:Aq}:OK (S3 a0 a1) fun r=>Ar Tryz.prog 61 [B9 a0,B9 a1] (Ao r):=⟨fun {r} h=>by
 refine pw C0 Tryz.func61 ?_
 exact Y⟩
instance {a0 a1:List Aj}:OK (Ja a0 a1) fun r=>Ar Tryz.prog 22 [(Au 5 Bv) a0,(Au 5 Bv) a1] (Ao r):=⟨fun {r} h=>by
 refine pw C0 Tryz.func22 ?_
 refine Z ?_
 refine Am h (fun _ h=>?_) (fun _ h=>?_)
 exact Y
 refine Z ?_
 refine A3 h (fun v7=>[(4,(Ao false)),(13,(O .i64 v7))]) (fun v7=>[]) ?_
 rintro v7 _ _ _ h _ _
 exact Y⟩
instance {a0:Int}:OK (S7 a0) fun r=>Ar Tryz.prog 110 [(O .i64) a0] (Ao r):=⟨fun {r} h=>by
 refine pw C0 Tryz.func110 ?_
 exact Y⟩
instance {a0:Int}:OK (Vu a0) fun r=>Ar Tryz.prog 111 [(O .i64) a0] (Ao r):=⟨fun {r} h=>by
 refine pw C0 Tryz.func111 ?_
 exact Y⟩
instance {a0:Ca}:OK (Mx a0) fun r=>Ar Tryz.prog 56 [Gk a0] (Ao r):=⟨fun {r} h=>by
 refine pw C0 Tryz.func56 ?_
 refine ZS ?_
 refine B1 ?_
 refine ZO ?_
 refine As (As ?_)
 refine Bx h (fun v3=>[(14,(Ao v3))]) (fun v3=>[]) ?_ ?_
 intro _ h _ _ _
 exact Y
 rintro v3 _ h
 refine Am h (fun _ h=>?_) (fun _ h=>?_)
 exact Y
 refine Z ?_
 refine A3 h (fun v8=>[(2,(Ao false)),(18,(O .i64 v8))]) (fun v8=>[]) ?_
 rintro v8 _ _ _ h _ _
 exact Y⟩
instance {a0:List Az}:OK (Aea a0) fun r=>Ar Tryz.prog 159 [Rb (Ix.mk a0 [] [] [])] (Ao r):=⟨fun {r} h=>by
 refine pw C0 Tryz.func159 ?_
 refine Z ?_
 refine G3 h (fun _ h=>?_)
 refine Z ?_
 refine A3 h (fun _=>[(2,(Ao false)),(20,(O .i64 0))]) (fun _=>[]) ?_
 rintro _ _ _ _ h _ _
 replace h:=Cj h
 refine Z ?_
 refine A3 h (fun _=>[(2,(Ao false)),(40,(O .i64 0))]) (fun _=>[]) ?_
 rintro _ _ _ _ h _ _
 exact Y⟩
instance {a0:List Az}:OK (Ad8 a0) fun r=>Ar Tryz.prog 157 [Rb (Ix.mk a0 [] [] [])] (Ao r):=⟨fun {r} h=>by
 refine pw C0 Tryz.func157 ?_
 refine Z ?_
 refine A3 h (fun _=>[(2,(Ao false)),(4,(Ao false)),(21,(O .i64 0))]) (fun _=>[]) ?_
 rintro _ _ _ _ h _ _
 exact Y⟩
instance {a0:Int}:OK (Wy a0) fun r=>Ar Tryz.prog 325 [(O .u8) a0] (Ao r):=⟨fun {r} h=>by
 refine pw C0 Tryz.func325 ?_
 exact Y⟩
instance {a0:ByteArray}:OK (W3 a0) fun r=>Ar Tryz.prog 359 [Dl a0] (Ao r):=⟨fun {r} h=>by
 refine pw C0 Tryz.func359 ?_
 exact Y⟩
instance {a0:Int}:OK (Ov a0) fun r=>Ar Tryz.prog 360 [(O .u8) a0] (Ao r):=⟨fun {r} h=>by
 refine pw C0 Tryz.func360 ?_
 exact Y⟩
instance {a0:Int}:OK (Tz a0) fun r=>Ar Tryz.prog 355 [(O .u8) a0] (Ao r):=⟨fun {r} h=>by
 refine pw C0 Tryz.func355 ?_
 exact Y⟩
instance {a0:Int}:OK (Q8 a0) fun r=>Ar Tryz.prog 356 [(O .u8) a0] (Ao r):=⟨fun {r} h=>by
 refine pw C0 Tryz.func356 ?_
 exact Y⟩
instance {a0:Int}:OK (T0 a0) fun r=>Ar Tryz.prog 358 [(O .u8) a0] (Ao r):=⟨fun {r} h=>by
 refine pw C0 Tryz.func358 ?_
 exact Y⟩
instance {a0:ByteArray}:OK (W2 a0) fun r=>Ar Tryz.prog 357 [Dl a0,(.fn 358 [])] (Dl r):=⟨fun {r} h=>by
 refine pw C0 Tryz.func357 ?_
 refine Z ?_
 refine A3 h (fun v3=>[(5,(O .i64 v3))]) (fun v3=>[]) ?_
 rintro v3 _ _ _ h _ _
 exact Y⟩
instance {a0:ByteArray}:OK (Z8 a0) fun r=>Ar Tryz.prog 357 [Dl a0,(.fn 360 [])] (Dl r):=⟨fun {r} h=>by
 refine pw C0 Tryz.func357 ?_
 refine Z ?_
 refine A3 h (fun v3=>[(5,(O .i64 v3))]) (fun v3=>[]) ?_
 rintro v3 _ _ _ h _ _
 exact Y⟩
instance {a0:ByteArray}:OK (W5 a0) fun r=>Ar Tryz.prog 362 [Dl a0] (Dl r):=⟨fun {r} h=>by
 refine pw C0 Tryz.func362 ?_
 refine ZS ?_
 refine B1 ?_
 refine ZS ?_
 refine B1 ?_
 refine ZO ?_
 refine Aaf (fun (x:Unit)=>(.inr x)) h (fun _=>[(2,(Dl (ByteArray.mk #[])))]) (fun _=>[]) ?_ ?_
 intro _ h _ _ _
 exact Y
 rintro _ _ h
 exact Y⟩
instance {a0:ByteArray}:OK (W4 a0) fun r=>Ar Tryz.prog 361 [Dl a0] (Ao r):=⟨fun {r} h=>by
 refine pw C0 Tryz.func361 ?_
 refine Z ?_
 refine A3 h (fun (v2,v3)=>[(2,(Ao false)),(3,(O .i64 v2)),(7,(O .i64 v3))]) (fun (v2,v3)=>[]) ?_
 rintro ⟨v2,v3⟩ _ _ _ h _ _
 exact Y⟩
instance {a0:ByteArray} {a1:Int}:OK (Wz a0 a1) fun r=>Ar Tryz.prog 326 [Dl a0,(O .i64) a1] (.tup [Z7 r.1,(O .i64) r.2]):=⟨fun {r} h=>by
 refine pw C0 Tryz.func326 ?_
 refine Z ?_
 refine Lg h (fun _ h=>?_)
 refine ZO ?_
 refine Iw (As ?_)
 refine Bx h (fun v6=>[(23,(Ao v6))]) (fun v6=>[]) ?_ ?_
 intro _ h _ _ _
 exact Y
 rintro v6 _ h
 refine Am h (fun _ h=>?_) (fun _ h=>?_)
 exact Y
 refine Z ?_
 refine Be h (fun _ h=>?_)
 refine Z ?_
 refine Am h (fun _ h=>?_) (fun _ h=>?_)
 refine Z ?_
 refine Adx h (fun _ _ _ _ h=>?_)
 refine Z ?_
 refine Be h (fun _ h=>?_)
 refine ZO ?_
 refine As (As ?_)
 refine Bx h (fun v14=>[(67,(Ao v14))]) (fun v14=>[]) ?_ ?_
 intro _ h _ _ _
 exact Y
 rintro v14 _ h
 exact Y
 exact Y⟩
instance {a0:ByteArray}:OK (Zy a0) fun r=>Ar Tryz.prog 271 [Dl a0] (.tup [(Au 3 Z7) r.1,(O .i64) r.2.1,(O .i64) r.2.2]):=⟨fun {r} h=>by
 refine pw {T:=Cf,an:=(fun s=>bif Nat.beq s 5 then .own else .ask),nl:=(fun s=>bif Nat.beq s 5 then [(0,3)] else bif Nat.beq s 2 then [(0,3)] else [])} Tryz.func271 ?_
 refine Z ?_
 refine Am h (fun _ h=>?_) (fun _ h=>?_)
 exact Y
 refine Z ?_
 refine A3 h (fun (v26,o27)=>[(2,(.sl 3 (List.map Z7 []))),(3,(O .i64 0)),(4,(O .i64 0)),(5,(.arr 0 o27.length 0 o27.length)),(6,(O .i64 v26))]) (fun (v26,o27)=>[(0,.rows 311 3 (List.map Z7 o27))]) ?_
 rintro ⟨v26,o27⟩ _ _ _ h _ _
 refine Z ?_
 refine Am h (fun _ h=>?_) (fun _ h=>?_)
 refine Z ?_
 refine Lg h (fun _ h=>?_)
 refine Z ?_
 refine Be h (fun _ h=>?_)
 refine Z ?_
 refine Am h (fun _ h=>?_) (fun _ h=>?_)
 exact Y
 refine Z ?_
 refine Lg h (fun _ h=>?_)
 refine Z ?_
 refine Am h (fun _ h=>?_) (fun _ h=>?_)
 refine Z ?_
 refine A3 h (fun v32=>[(6,(O .i64 v32))]) (fun v32=>[]) ?_
 rintro v32 _ _ _ h _ _
 exact Y
 exact Y
 exact Y⟩
instance {a0:ByteArray}:OK (Qt a0) fun r=>Ar Tryz.prog 220 [Dl a0] (Ao r):=⟨fun {r} h=>by
 refine pw C0 Tryz.func220 ?_
 exact Y⟩
abbrev Akd (k:Nat):Prop:=∀{a0:Ah} {a1:Int},OK (Qz k a0 a1) fun r=>Ar Tryz.prog 272 [Dw a0,(O .i64) a1] (Ao r)
abbrev Ake (k:Nat):Prop:=∀{a0:Ah} {b0:Int},OK (W0 k a0 b0) fun r=>Bw Tryz.prog 327 [Dw a0,(.loc 0 0)] [.cells 3 [(O .i64 b0)]] (Ao r) [.cells 3 [(O .i64 b0)]]
abbrev Akf (k:Nat):Prop:=∀{a0:List Ah} {b0:Int},OK (T1 k a0 b0) fun r=>Bw Tryz.prog 222 [(Gj 3 Bl) a0,(.fn 327 [(.loc 0 0)])] [.cells 3 [(O .i64 b0)]] (Ao r) [.cells 3 [(O .i64 b0)]]
abbrev Akg (k:Nat):Prop:=∀{a0:List Ah} {b0:Int},OK (Z9 k a0 b0) fun r=>Bw Tryz.prog 273 [(Gj 3 Bl) a0,(.fn 327 [(.loc 0 0)])] [.cells 3 [(O .i64 b0)]] ((O .i64) r) [.cells 3 [(O .i64 b0)]]
theorem Aag (k:Nat):Akd k/\Ake k/\Akf k/\Akg k:=by
 induction k with
 | zero=>exact ⟨okz,okz,okz,okz⟩
 | succ k ih=>
  obtain ⟨i0_,i1_,i2_,i3_⟩:=ih
  refine ⟨@fun a0 a1=>⟨fun {r} h=>?_⟩,@fun a0 b0=>⟨fun {r} h=>?_⟩,@fun a0 b0=>⟨fun {r} h=>?_⟩,@fun a0 b0=>⟨fun {r} h=>?_⟩⟩
  .unfold Qz at h
   refine pw C0 Tryz.func272 ?_
   refine Z ?_
   refine Fh h (fun _ h=>?_) (fun _ h=>?_)
   refine Z ?_
   refine Fh h (fun _ h=>?_) (fun _ h=>?_)
   exact Y
   refine Z ?_
   refine Bb [1] h (fun _ h=>?_)
   exact Y
   refine Z ?_
   refine Bb [1] h (fun _ h=>?_)
   exact Y
  .unfold W0 at h
   refine aw C0 true Tryz.func327 ?_
   exact Y
  .unfold T1 at h
   refine aw C0 true Tryz.func222 ?_
   refine Z ?_
   refine Bb [0] h (fun _ h=>?_)
   exact Y
  .unfold Z9 at h
   refine aw C0 true Tryz.func273 ?_
   refine Z ?_
   refine A3 h (fun v3=>[(4,(O .i64 0)),(8,(O .i64 v3))]) (fun v3=>[]) ?_
   rintro v3 _ _ _ h _ _
   refine Z ?_
   refine Am h (fun _ h=>?_) (fun _ h=>?_)
   refine Z ?_
   refine Bt h (fun _ _ _ _ h=>?_)
   refine Z ?_
   refine Bb [0] h (fun _ h=>?_)
   exact Y
   exact Y
instance {k:Nat}:Akd k:=(Aag k).1
instance {k:Nat}:Ake k:=(Aag k).2.1
instance {k:Nat}:Akf k:=(Aag k).2.2.1
instance {k:Nat}:Akg k:=(Aag k).2.2.2
instance {a0:List Az} {a1 a2:Int}:OK (Tp a0 a1 a2) fun r=>Ar Tryz.prog 237 [(Au 3 Cn) a0,(O .i64) a1,(O .i64) a2] ((Au 1 Ao) r):=⟨fun {r} h=>by
 refine pw {T:=Cf,an:=(fun _=>.ask),nl:=(fun s=>bif Nat.beq s 6 then [(0,1)] else [])} Tryz.func237 ?_
 refine ZS ?_
 refine B1 ?_
 refine ZO ?_
 refine As (As ?_)
 refine Bx h (fun v2=>[(34,(Ao v2))]) (fun v2=>[]) ?_ ?_
 intro _ h _ _ _
 exact Y
 rintro v2 _ h
 refine Am h (fun _ h=>?_) (fun _ h=>?_)
 exact Y
 refine Z ?_
 refine Bt h (fun _ _ _ _ h=>?_)
 refine Z ?_
 refine Bt h (fun _ _ _ _ h=>?_)
 refine Z ?_
 refine G3 h (fun o5 h=>?_)
 refine Z ?_
 refine Ff h (fun (v28,o29)=>[(49,(O .i64 v28))]) (fun (v28,o29)=>[(0,.rows 4 1 (List.map Ao o29))]) (fun (v28,o29)=>o5.length=o29.length) ?_
 rintro ⟨v28,o29⟩ _ _ _ h _ _ q29
 refine Z ?_
 refine Am h (fun _ h=>?_) (fun _ h=>?_)
 refine Z ?_
 refine Bt h (fun _ v30 _ _ h=>?_)
 refine ZO ?_
 refine As ?_
 refine N1 h (fun o3_ h hj3=>?_)
 refine Lh (fun (o36:(List Bool))=>o36=o3_/\o5.length=o36.length) (fun o36=>[]) (fun o36=>[(0,.rows 4 1 (List.map Ao o36))]) (fun _=>rfl) ?_ ?_
 intro K3 hK3
 refine Z ?_
 refine Fh h (fun _ h=>?_) (fun _ h=>?_)
 refine Z ?_
 refine Fh h (fun _ h=>?_) (fun _ h=>?_)
 refine Z ?_
 refine Bt h (fun _ v32 _ _ h=>?_)
 refine Z ?_
 refine Hs h (fun _ _ hiv33 _ h=>?_)
 refine Z ?_
 refine H6 (f:=Ao) (x:=((v30.Args.length:Int)==v32.Vars)) (j:=v28) rfl rfl (Nat.zero_add _) hiv33 ?_
 refine Z ?_
 exact hK3 (Ci o29 v28 ((v30.Args.length:Int)==v32.Vars)) _ _ _ ⟨(Option.some.inj h),Fy (l:=o29) q29 v28 ((v30.Args.length:Int)==v32.Vars)⟩ trivial ⟨⟨rfl,rfl⟩,⟨rfl,rfl⟩,trivial⟩
 refine Z ?_
 refine Hs h (fun _ _ hiv34 _ h=>?_)
 refine Z ?_
 refine H6 (f:=Ao) (x:=false) (j:=v28) rfl rfl (Nat.zero_add _) hiv34 ?_
 refine Z ?_
 exact hK3 (Ci o29 v28 false) _ _ _ ⟨(Option.some.inj h),Fy (l:=o29) q29 v28 false⟩ trivial ⟨⟨rfl,rfl⟩,⟨rfl,rfl⟩,trivial⟩
 refine Z ?_
 refine Hs h (fun _ _ hiv35 _ h=>?_)
 refine Z ?_
 refine H6 (f:=Ao) (x:=false) (j:=v28) rfl rfl (Nat.zero_add _) hiv35 ?_
 refine Z ?_
 exact hK3 (Ci o29 v28 false) _ _ _ ⟨(Option.some.inj h),Fy (l:=o29) q29 v28 false⟩ trivial ⟨⟨rfl,rfl⟩,⟨rfl,rfl⟩,trivial⟩
 rintro o36 u3 ⟨hJ3,q36⟩
 have h:=hj3 _ hJ3
 refine Z ?_
 refine Ff h (fun (v42,o43)=>[(80,(O .i64 v42))]) (fun (v42,o43)=>[(0,.rows 4 1 (List.map Ao o43))]) (fun (v42,o43)=>o5.length=o43.length) ?_
 rintro ⟨v42,o43⟩ _ _ _ h _ _ q43
 exact Y
 exact Y⟩
abbrev Akh (k:Nat):Prop:=∀{a0:List Ah} {b1:Fw},OK (T2 k a0 b1) fun r=>Bw Tryz.prog 222 [(Gj 3 Bl) a0,(.fn 230 [(.loc 0 0)])] [.cells 193 [(.loc 1 0)],.cells 195 [(.sl 3 (List.map Cn b1.data)),(O .i64 b1.vars),(O .i64 b1.left)]] (Ao r.1) [.cells 193 [(.loc 1 0)],.cells 195 [(.sl 3 (List.map Cn r.2.data)),(O .i64 r.2.vars),(O .i64 r.2.left)]]
abbrev Aki (k:Nat):Prop:=∀{a0:List Ah} {b1:Fw},OK (W6 k a0 b1) fun r=>Bw Tryz.prog 273 [(Gj 3 Bl) a0,(.fn 230 [(.loc 0 0)])] [.cells 193 [(.loc 1 0)],.cells 195 [(.sl 3 (List.map Cn b1.data)),(O .i64 b1.vars),(O .i64 b1.left)]] ((O .i64) r.1) [.cells 193 [(.loc 1 0)],.cells 195 [(.sl 3 (List.map Cn r.2.data)),(O .i64 r.2.vars),(O .i64 r.2.left)]]
abbrev Akj (k:Nat):Prop:=∀{a0:Ah} {b0:Fw},OK (Ll k a0 b0) fun r=>Bw Tryz.prog 162 [(.loc 0 0),Dw a0] [.cells 195 [(.sl 3 (List.map Cn b0.data)),(O .i64 b0.vars),(O .i64 b0.left)]] (Ao r.1) [.cells 195 [(.sl 3 (List.map Cn r.2.data)),(O .i64 r.2.vars),(O .i64 r.2.left)]]
abbrev Akk (k:Nat):Prop:=∀{a0:Ah} {b1:Fw},OK (Wh k a0 b1) fun r=>Bw Tryz.prog 230 [Dw a0,(.loc 0 0)] [.cells 193 [(.loc 1 0)],.cells 195 [(.sl 3 (List.map Cn b1.data)),(O .i64 b1.vars),(O .i64 b1.left)]] (Ao r.1) [.cells 193 [(.loc 1 0)],.cells 195 [(.sl 3 (List.map Cn r.2.data)),(O .i64 r.2.vars),(O .i64 r.2.left)]]
theorem Aah (k:Nat):Akh k/\Aki k/\Akj k/\Akk k:=by
 induction k with
 | zero=>exact ⟨okz,okz,okz,okz⟩
 | succ k ih=>
  obtain ⟨i0_,i1_,i2_,i3_⟩:=ih
  refine ⟨@fun a0 b1=>⟨fun {r} h=>?_⟩,@fun a0 b1=>⟨fun {r} h=>?_⟩,@fun a0 b0=>⟨fun {r} h=>?_⟩,@fun a0 b1=>⟨fun {r} h=>?_⟩⟩
  .unfold T2 at h
   refine aw C0 true Tryz.func222 ?_
   refine Z ?_
   refine Bb [0,1] h (fun _ h=>?_)
   exact Y
  .unfold W6 at h
   refine aw C0 true Tryz.func273 ?_
   refine Z ?_
   refine A3 h (fun (v3,v4,v5,v6)=>[(4,(O .i64 0)),(8,(O .i64 v3))]) (fun (v3,v4,v5,v6)=>[(1,.cells 195 [(.sl 3 (List.map Cn v4)),(O .i64 v5),(O .i64 v6)])]) ?_
   rintro ⟨v3,v4,v5,v6⟩ _ _ _ h _ _
   refine Z ?_
   refine Am h (fun _ h=>?_) (fun _ h=>?_)
   refine Z ?_
   refine Bt h (fun _ _ _ _ h=>?_)
   refine Z ?_
   refine Bb [0,1] h (fun _ h=>?_)
   exact Y
   exact Y
  .unfold Ll at h
   refine aw C0 true Tryz.func162 ?_
   refine Z ?_
   refine Am h (fun _ h=>?_) (fun _ h=>?_)
   exact Y
   refine ZS ?_
   refine B1 ?_
   refine ZS ?_
   refine B1 ?_
   refine ZO ?_
   refine Aaf (fun (x:(Int×Int))=>(.inl x)) h (fun (v8,v9)=>[(4,(Ao false)),(5,(O .i64 v8)),(6,(O .i64 v9))]) (fun (v8,v9)=>[]) ?_ ?_
   intro _ h _ _ _
   refine ZS ?_
   refine B1 ?_
   refine ZO ?_
   refine Bx h (fun v3=>[(21,(Ao v3))]) (fun v3=>[]) ?_ ?_
   intro _ h _ _ _
   exact Y
   rintro v3 _ h
   refine Am h (fun _ h=>?_) (fun _ h=>?_)
   exact Y
   refine Z ?_
   refine Am h (fun _ h=>?_) (fun _ h=>?_)
   exact Y
   refine Z ?_
   refine Am h (fun _ h=>?_) (fun _ h=>?_)
   refine As (As ?_)
   refine Bx h (fun v4=>[(53,(Ao v4))]) (fun v4=>[]) ?_ ?_
   intro _ h _ _ _
   exact Y
   rintro v4 _ h
   exact Y
   refine Z ?_
   refine Am h (fun _ h=>?_) (fun _ h=>?_)
   exact Y
   refine ZS ?_
   refine B1 ?_
   refine ZO ?_
   refine Bx h (fun v7=>[(74,(Ao v7))]) (fun v7=>[]) ?_ ?_
   intro _ h _ _ _
   exact Y
   rintro v7 _ h
   exact Y
   rintro ⟨v8,v9⟩ _ h
   refine As (As ?_)
   refine Bx h (fun v10=>[(91,(Ao v10))]) (fun v10=>[]) ?_ ?_
   intro _ h _ _ _
   exact Y
   rintro v10 _ h
   refine Am h (fun _ h=>?_) (fun _ h=>?_)
   exact Y
   refine J0 (As (As ?_))
   refine Bx h (fun v11=>[(103,(Ao v11))]) (fun v11=>[]) ?_ ?_
   intro _ h _ _ _
   exact Y
   rintro v11 _ h
   refine Am h (fun _ h=>?_) (fun _ h=>?_)
   exact Y
   refine Z ?_
   refine Bb [1,0] h (fun _ h=>?_)
   exact Y
  .unfold Wh at h
   refine aw C0 true Tryz.func230 ?_
   refine Z ?_
   refine Bb [1] h (fun _ h=>?_)
   exact Y
instance {k:Nat}:Akh k:=(Aah k).1
instance {k:Nat}:Aki k:=(Aah k).2.1
instance {k:Nat}:Akj k:=(Aah k).2.2.1
instance {k:Nat}:Akk k:=(Aah k).2.2.2
instance {a0:List Az} {a1:Ah} {a2:Int}:OK (Ob a0 a1 a2) fun r=>Ar Tryz.prog 98 [(Au 3 Cn) a0,Dw a1,(O .i64) a2] (Ao r):=⟨fun {r} h=>by
 refine pw C0 Tryz.func98 ?_
 refine Z ?_
 refine Bb [1] h (fun _ h=>?_)
 exact Y⟩
instance {a0:List Az} {a1 a2:Int}:OK (Oq a0 a1 a2) fun r=>Ar Tryz.prog 221 [(Au 3 Cn) a0,(O .i64) a1,(O .i64) a2] (Ao r):=⟨fun {r} h=>by
 refine pw C0 Tryz.func221 ?_
 refine Z ?_
 refine Bt h (fun _ _ _ _ h=>?_)
 refine Z ?_
 refine Bt h (fun _ _ _ _ h=>?_)
 refine Z ?_
 refine Am h (fun _ h=>?_) (fun _ h=>?_)
 exact Y
 refine Z ?_
 refine Be h (fun _ h=>?_)
 refine Z ?_
 refine A3 h (fun v11=>[(6,(Ao false)),(29,(O .i64 v11))]) (fun v11=>[]) ?_
 rintro v11 _ _ _ h _ _
 exact Y⟩
instance {a0:List Az}:OK (V4 a0) fun r=>Ar Tryz.prog 155 [(Au 3 Cn) a0] (Ao r):=⟨fun {r} h=>by
 refine pw C0 Tryz.func155 ?_
 refine Z ?_
 refine Am h (fun _ h=>?_) (fun _ h=>?_)
 exact Y
 refine Z ?_
 refine A3 h (fun (v31,o32,o33)=>[(2,(Ao false)),(15,(O .i64 v31))]) (fun (v31,o32,o33)=>[(0,.map (Bk Ao o32)),(1,.map (Bk Ao o33))]) ?_
 rintro ⟨v31,o32,o33⟩ _ _ _ h _ _
 refine Z ?_
 refine Am h (fun _ h=>?_) (fun _ h=>?_)
 refine ZS ?_
 refine B1 ?_
 refine ZO ?_
 refine As (As ?_)
 refine Bx h (fun v41=>[(49,(Ao v41))]) (fun v41=>[]) ?_ ?_
 intro _ h _ _ _
 refine Z ?_
 refine Bt h (fun _ _ _ _ h=>?_)
 refine Z ?_
 refine Be h (fun _ h=>?_)
 refine Z ?_
 refine Fh h (fun _ h=>?_) (fun _ h=>?_)
 exact Y
 refine Z ?_
 refine Bt h (fun _ _ _ _ h=>?_)
 refine Z ?_
 refine Sv (f:=Ao) (l:=o32) rfl (false:Bool) h (fun j_ hb h=>?_) (fun hb h=>?_)
 exact Y
 exact Y
 rintro v41 _ h
 refine Am h (fun _ h=>?_) (fun _ h=>?_)
 exact Y
 refine Z ?_
 refine Bt h (fun _ _ _ _ h=>?_)
 refine Z ?_
 refine P1 (f:=Ao) (l:=o32) (x:=true) rfl rfl ?_
 refine ZO ?_
 refine As (As ?_)
 refine Bx h (fun v45=>[(71,(Ao v45))]) (fun v45=>[]) ?_ ?_
 intro _ h _ _ _
 exact Y
 rintro v45 _ h
 refine Am h (fun _ h=>?_) (fun _ h=>?_)
 exact Y
 refine Z ?_
 refine Bt h (fun _ _ _ _ h=>?_)
 refine Z ?_
 refine A3 h (fun (v52,o53)=>[(2,(Ao false)),(78,(O .i64 v52))]) (fun (v52,o53)=>[(1,.map (Bk Ao o53))]) ?_
 rintro ⟨v52,o53⟩ _ _ _ h _ _
 refine Z ?_
 refine Am h (fun _ h=>?_) (fun _ h=>?_)
 refine Z ?_
 refine Bt h (fun _ _ _ _ h=>?_)
 refine Z ?_
 refine Be h (fun _ h=>?_)
 refine Z ?_
 refine Fh h (fun _ h=>?_) (fun _ h=>?_)
 exact Y
 refine Z ?_
 refine Sv (f:=Ao) (l:=o53) rfl (false:Bool) h (fun j_ hb h=>?_) (fun hb h=>?_)
 refine Z ?_
 refine Fh h (fun _ h=>?_) (fun _ h=>?_)
 exact Y
 refine Z ?_
 refine Be h (fun _ h=>?_)
 refine Z ?_
 refine Am h (fun _ h=>?_) (fun _ h=>?_)
 exact Y
 refine Z ?_
 refine P1 (f:=Ao) (l:=o53) (x:=true) rfl rfl ?_
 exact Y
 refine Z ?_
 refine Be h (fun _ h=>?_)
 refine Z ?_
 refine Am h (fun _ h=>?_) (fun _ h=>?_)
 exact Y
 refine Z ?_
 refine P1 (f:=Ao) (l:=o53) (x:=true) rfl rfl ?_
 exact Y
 exact Y
 exact Y⟩
instance {a0:List Az}:OK (Aec a0) fun r=>Ar Tryz.prog 161 [Rb (Ix.mk a0 [] [] [])] (Ao r):=⟨fun {r} h=>by
 refine pw C0 Tryz.func161 ?_
 refine Z ?_
 refine G3 h (fun _ h=>?_)
 refine Z ?_
 refine A3 h (fun _=>[(2,(Ao false)),(18,(O .i64 0))]) (fun _=>[]) ?_
 rintro _ _ _ _ h _ _
 replace h:=Cj h
 refine Z ?_
 refine A3 h (fun _=>[(2,(Ao false)),(30,(O .i64 0))]) (fun _=>[]) ?_
 rintro _ _ _ _ h _ _
 exact Y⟩
instance {a0:List Az}:OK (Aeb a0) fun r=>Ar Tryz.prog 160 [Rb (Ix.mk a0 [] [] [])] (Ao r):=⟨fun {r} h=>by
 refine pw C0 Tryz.func160 ?_
 refine Z ?_
 refine G3 h (fun _ h=>?_)
 refine Z ?_
 refine A3 h (fun _=>[(2,(Ao false)),(17,(O .i64 0))]) (fun _=>[]) ?_
 rintro _ _ _ _ h _ _
 exact Y⟩
instance {a0:List Az}:OK (Ad9 a0) fun r=>Ar Tryz.prog 158 [Rb (Ix.mk a0 [] [] [])] (Ao r):=⟨fun {r} h=>by
 refine pw C0 Tryz.func158 ?_
 refine Z ?_
 refine G3 h (fun _ h=>?_)
 refine Z ?_
 refine A3 h (fun _=>[(2,(Ao false)),(20,(O .i64 0))]) (fun _=>[]) ?_
 rintro _ _ _ _ h _ _
 replace h:=Cj h
 refine Z ?_
 refine A3 h (fun _=>[(2,(Ao false)),(33,(O .i64 0))]) (fun _=>[]) ?_
 rintro _ _ _ _ h _ _
 exact Y⟩
instance {a0:Ah} {b0:Ix}:OK (Aee a0 b0) fun r=>Bw Tryz.prog 223 [Dw a0,(.loc 0 0)] [.cells 138 [(.sl 3 (List.map Cn b0.Data)),(.sl 7 (List.map Q9 b0.Codes)),(.sl 3 (Bl b0.Vars)),(.sl 8 (List.map Ra b0.Exprs))]] (Ao r) [.cells 138 [(.sl 3 (List.map Cn b0.Data)),(.sl 7 (List.map Q9 b0.Codes)),(.sl 3 (Bl b0.Vars)),(.sl 8 (List.map Ra b0.Exprs))]]:=⟨fun {r} h=>by
 refine aw C0 true Tryz.func223 ?_
 exact Y⟩
instance {a0:List Ah} {b0:Ix}:OK (Aef a0 b0) fun r=>Bw Tryz.prog 273 [(Gj 3 Bl) a0,(.fn 223 [(.loc 0 0)])] [.cells 138 [(.sl 3 (List.map Cn b0.Data)),(.sl 7 (List.map Q9 b0.Codes)),(.sl 3 (Bl b0.Vars)),(.sl 8 (List.map Ra b0.Exprs))]] ((O .i64) r) [.cells 138 [(.sl 3 (List.map Cn b0.Data)),(.sl 7 (List.map Q9 b0.Codes)),(.sl 3 (Bl b0.Vars)),(.sl 8 (List.map Ra b0.Exprs))]]:=⟨fun {r} h=>by
 refine aw C0 true Tryz.func273 ?_
 refine Z ?_
 refine A3 h (fun v3=>[(4,(O .i64 0)),(8,(O .i64 v3))]) (fun v3=>[]) ?_
 rintro v3 _ _ _ h _ _
 refine Z ?_
 refine Am h (fun _ h=>?_) (fun _ h=>?_)
 refine Z ?_
 refine Bt h (fun _ _ _ _ h=>?_)
 refine Z ?_
 refine Bb [0] h (fun _ h=>?_)
 exact Y
 exact Y⟩
instance {a0:List Ah} {b0:Ix}:OK (Aed a0 b0) fun r=>Bw Tryz.prog 222 [(Gj 3 Bl) a0,(.fn 223 [(.loc 0 0)])] [.cells 138 [(.sl 3 (List.map Cn b0.Data)),(.sl 7 (List.map Q9 b0.Codes)),(.sl 3 (Bl b0.Vars)),(.sl 8 (List.map Ra b0.Exprs))]] (Ao r) [.cells 138 [(.sl 3 (List.map Cn b0.Data)),(.sl 7 (List.map Q9 b0.Codes)),(.sl 3 (Bl b0.Vars)),(.sl 8 (List.map Ra b0.Exprs))]]:=⟨fun {r} h=>by
 refine aw C0 true Tryz.func222 ?_
 refine Z ?_
 refine Bb [0] h (fun _ h=>?_)
 exact Y⟩
instance {a0:List Az}:OK (Ad7 a0) fun r=>Ar Tryz.prog 156 [Rb (Ix.mk a0 [] [] [])] (Ao r):=⟨fun {r} h=>by
 refine pw C0 Tryz.func156 ?_
 refine Z ?_
 refine Bb [0] h (fun _ h=>?_)
 exact Y⟩
instance {a0:List Az}:OK (Vr a0) fun r=>Ar Tryz.prog 97 [Rb (Ix.mk a0 [] [] [])] (Ao r):=⟨fun {r} h=>by
 refine pw C0 Tryz.func97 ?_
 exact Y⟩
instance {a0:Int}:OK (Wd a0) fun r=>Ar Tryz.prog 213 [(O .i64) a0] (Ao r):=⟨fun {r} h=>by
 refine pw C0 Tryz.func213 ?_
 exact Y⟩
instance {a0 a1:Int}:OK (Ki a0 a1) fun r=>Ar Tryz.prog 138 [(O .i64) a0,(O .i64) a1] ((O .i64) r):=⟨fun {r} h=>by
 refine pw C0 Tryz.func138 ?_
 exact Y⟩
instance {a0:List Int}:OK (L9 a0) fun r=>Ar Tryz.prog 141 [(Au 1 (O .i64)) a0] ((O .i64) r):=⟨fun {r} h=>by
 refine pw C0 Tryz.func141 ?_
 refine Z ?_
 refine A3 h (fun v2=>[(2,(O .i64 0)),(8,(O .i64 v2))]) (fun v2=>[]) ?_
 rintro v2 _ _ _ h _ _
 exact Y⟩
instance {a0:Int}:OK (Zx a0) fun r=>Ar Tryz.prog 270 [(O .i64) a0] (Ao r):=⟨fun {r} h=>by
 refine pw C0 Tryz.func270 ?_
 exact Y⟩
instance {a0 a1:Int}:OK (Wg a0 a1) fun r=>Ar Tryz.prog 217 [(O .i64) a0,(O .i64) a1] ((O .i64) r):=⟨fun {r} h=>by
 refine pw C0 Tryz.func217 ?_
 exact Y⟩
instance {a0 a1:Dk}:OK (Wf a0 a1) fun r=>Ar Tryz.prog 216 [G2 a0,G2 a1] ((O .i64) r):=⟨fun {r} h=>by
 refine pw C0 Tryz.func216 ?_
 exact Y⟩
instance {a0 a1:List Dk}:OK (Zt a0 a1) fun r=>Ar Tryz.prog 215 [(Au 2 G2) a0,(Au 2 G2) a1,(.fn 216 [])] ((O .i64) r):=⟨fun {r} h=>by
 refine pw C0 Tryz.func215 ?_
 refine Z ?_
 refine A3 h (fun v6=>[(6,(O .i64 0)),(13,(O .i64 v6))]) (fun v6=>[]) ?_
 rintro v6 _ _ _ h _ _
 exact Y⟩
instance {a0 a1:Ca}:OK (Kj a0 a1) fun r=>Ar Tryz.prog 145 [Gk a0,Gk a1] ((O .i64) r):=⟨fun {r} h=>by
 refine pw C0 Tryz.func145 ?_
 exact Y⟩
instance {a0 a1:Ba}:OK (V2 a0 a1) fun r=>Ar Tryz.prog 144 [Dc a0,Dc a1] ((O .i64) r):=⟨fun {r} h=>by
 refine pw C0 Tryz.func144 ?_
 exact Y⟩
instance {a0 a1:List Ba}:OK (Zo a0 a1) fun r=>Ar Tryz.prog 143 [(Au 3 Dc) a0,(Au 3 Dc) a1,(.fn 144 [])] ((O .i64) r):=⟨fun {r} h=>by
 refine pw C0 Tryz.func143 ?_
 refine Z ?_
 refine A3 h (fun v6=>[(6,(O .i64 0)),(13,(O .i64 v6))]) (fun v6=>[]) ?_
 rintro v6 _ _ _ h _ _
 exact Y⟩
abbrev Akl (k:Nat):Prop:=∀{a0 a1:A9},OK (Of k a0 a1) fun r=>Ar Tryz.prog 142 [Ev a0,Ev a1] ((O .i64) r)
abbrev Akm (k:Nat):Prop:=∀{a0 a1:List A9},OK (We k a0 a1) fun r=>Ar Tryz.prog 214 [(Gj 2 Hr) a0,(Gj 2 Hr) a1,(.fn 142 [])] ((O .i64) r)
theorem Akn (k:Nat):Akl k/\Akm k:=by
 induction k with
 | zero=>exact ⟨okz,okz⟩
 | succ k ih=>
  obtain ⟨i0_,i1_⟩:=ih
  refine ⟨@fun a0 a1=>⟨fun {r} h=>?_⟩,@fun a0 a1=>⟨fun {r} h=>?_⟩⟩
  .unfold Of at h
   refine pw C0 Tryz.func142 ?_
   exact Y
  .unfold We at h
   refine pw C0 Tryz.func214 ?_
   refine Z ?_
   refine A3 h (fun v6=>[(6,(O .i64 0)),(13,(O .i64 v6))]) (fun v6=>[]) ?_
   rintro v6 _ _ _ h _ _
   exact Y
instance {k:Nat}:Akl k:=(Akn k).1
instance {k:Nat}:Akm k:=(Akn k).2
instance {a0 a1:Bh}:OK (V1 a0 a1) fun r=>Ar Tryz.prog 140 [De a0,De a1] ((O .i64) r):=⟨fun {r} h=>by
 refine pw C0 Tryz.func140 ?_
 exact Y⟩
instance {a0 a1:List Bh}:OK (Zn a0 a1) fun r=>Ar Tryz.prog 139 [(Au 3 De) a0,(Au 3 De) a1,(.fn 140 [])] ((O .i64) r):=⟨fun {r} h=>by
 refine pw C0 Tryz.func139 ?_
 refine Z ?_
 refine A3 h (fun v6=>[(6,(O .i64 0)),(13,(O .i64 v6))]) (fun v6=>[]) ?_
 rintro v6 _ _ _ h _ _
 exact Y⟩
instance {a0 a1:A8}:OK (N9 a0 a1) fun r=>Ar Tryz.prog 84 [F0 a0,F0 a1] ((O .i64) r):=⟨fun {r} h=>by
 refine pw C0 Tryz.func84 ?_
 exact Y⟩
instance {a0:Int}:OK (Hc a0) fun r=>Ar Tryz.prog 166 [(O .i64) a0] (Dl r):=⟨fun {r} h=>by
 exact Atx h⟩
instance {b1:List Int}:OK (T3 b1) fun r=>Bw Tryz.prog 233 [(.loc 0 0)] [.cells 199 [(.loc 0 0),(.arr 1 b1.length 0 b1.length)],.rows 5 1 (List.map (O .u8) b1)] (.tup []) [.cells 199 [(.loc 0 0),(.arr 1 b1.length 0 b1.length)],.rows 5 1 (List.map (O .u8) b1)]:=⟨fun {r} h=>by
 cases h
 exact At0 _ _⟩
end Go.Ab
namespace Go.Ab
open Go Go.Proofs
set_option maxRecDepth 10000
set_option maxHeartbeats 4000000
set_option linter.unusedVariables false
instance {a0:Int} {b1:List Int}:OK (To a0 b1) fun r=>Bw Tryz.prog 235 [(.loc 0 0),(O .u8) a0] [.cells 199 [(.loc 0 0),(.arr 1 b1.length 0 b1.length)],.rows 5 1 (List.map (O .u8) b1)] (.val .nilIface) [.cells 199 [(.loc 0 0),(.arr 1 r.length 0 r.length)],.rows 5 1 (List.map (O .u8) r)]:=⟨fun {r} h=>by
 refine aw C0 true Tryz.func235 ?_
 refine Z ?_
 refine Bb [0,1] h (fun _ h=>?_)
 exact Y⟩
instance {a0:ByteArray} {b1:List Int}:OK (Fx a0 b1) fun r=>Bw Tryz.prog 165 [(.loc 0 0),Dl a0] [.cells 199 [(.loc 0 0),(.arr 1 b1.length 0 b1.length)],.rows 5 1 (List.map (O .u8) b1)] (.tup [(O .i64) r.1,.val .nilIface]) [.cells 199 [(.loc 0 0),(.arr 1 r.2.length 0 r.2.length)],.rows 5 1 (List.map (O .u8) r.2)]:=⟨fun {r} h=>by
 refine aw C0 true Tryz.func165 ?_
 refine Z ?_
 refine Bb [0,1] h (fun _ h=>?_)
 exact Y⟩
abbrev Ako (k:Nat):Prop:=∀{a0:A9} {b1:List Int},OK (Qj k a0 b1) fun r=>Bw Tryz.prog 167 [(.loc 0 0),Ev a0] [.cells 199 [(.loc 0 0),(.arr 1 b1.length 0 b1.length)],.rows 5 1 (List.map (O .u8) b1)] (.tup []) [.cells 199 [(.loc 0 0),(.arr 1 r.length 0 r.length)],.rows 5 1 (List.map (O .u8) r)]
theorem Aun (k:Nat):Ako k:=by
 induction k with
 | zero=>exact okz
 | succ k ih=>
  refine @fun a0 b1=>⟨fun {r} h=>?_⟩
  .unfold Qj at h
   refine aw C0 true Tryz.func167 ?_
   refine Z ?_
   refine Be h (fun _ h=>?_)
   refine Z ?_
   refine Bb [0,1] h (fun _ h=>?_)
   refine Z ?_
   refine Am h (fun _ h=>?_) (fun _ h=>?_)
   refine Z ?_
   refine Bb [0,1] h (fun _ h=>?_)
   refine Z ?_
   refine A3 h (fun (v15,o16)=>[(20,(O .i64 v15))]) (fun (v15,o16)=>[(0,.cells 199 [(.loc 0 0),(.arr 1 o16.length 0 o16.length)]),(1,.rows 5 1 (List.map (O .u8) o16))]) ?_
   rintro ⟨v15,o16⟩ _ _ _ h _ _
   refine Z ?_
   refine Am h (fun _ h=>?_) (fun _ h=>?_)
   refine Z ?_
   refine Bt h (fun _ _ _ _ h=>?_)
   refine Z ?_
   refine Bb [0,1] h (fun _ h=>?_)
   refine Z ?_
   refine Bb [0,1] h (fun _ h=>?_)
   exact Y
   replace h:=Cj h
   refine Z ?_
   refine Bb [0,1] h (fun _ h=>?_)
   exact Y
   exact Y
instance {k:Nat}:Ako k:=(Aun k)
instance {b1:List Int}:OK (J3 b1) fun r=>Bw Tryz.prog 168 [(.loc 0 0)] [.cells 199 [(.loc 0 0),(.arr 1 b1.length 0 b1.length)],.rows 5 1 (List.map (O .u8) b1)] (Dl r) [.cells 199 [(.loc 0 0),(.fb r)],.dead]:=⟨fun {r} h=>by
 exact Ajz h⟩
instance {b1:List Int}:OK (Wk b1) fun r=>Bw Tryz.prog 233 [(.loc 0 0)] [.cells 199 [(.val (.pointer none)),(.arr 1 b1.length 0 b1.length)],.rows 5 1 (List.map (O .u8) b1)] (.tup []) [.cells 199 [(.loc 0 0),(.arr 1 b1.length 0 b1.length)],.rows 5 1 (List.map (O .u8) b1)]:=⟨fun {r} h=>by
 cases h
 exact At1 _ _⟩
instance {a0:ByteArray} {b1:List Int}:OK (Hq a0 b1) fun r=>Bw Tryz.prog 165 [(.loc 0 0),Dl a0] [.cells 199 [(.val (.pointer none)),(.arr 1 b1.length 0 b1.length)],.rows 5 1 (List.map (O .u8) b1)] (.tup [(O .i64) r.1,(.val .nilIface)]) [.cells 199 [(.loc 0 0),(.arr 1 r.2.length 0 r.2.length)],.rows 5 1 (List.map (O .u8) r.2)]:=⟨fun {r} h=>by
 refine aw C0 true Tryz.func165 ?_
 refine Z ?_
 refine Bb [0,1] h (fun _ h=>?_)
 exact Y⟩
instance {a0:Int} {a1:A9}:OK (J2 a0 a1) fun r=>Ar Tryz.prog 100 [(O .i64) a0,Ev a1] (Dl r):=⟨fun {r} h=>by
 refine pw C0 Tryz.func100 ?_
 refine ZS ?_
 refine B1 ?_
 refine ZS ?_
 refine B1 ?_
 refine ZO ?_
 refine As ?_
 refine Db [.own 5 1 5 1] ?_
 refine Z ?_
 refine Be h (fun _ h=>?_)
 refine Z ?_
 refine Gd h (fun h=>?_)
 refine Z ?_
 refine Gd h (fun h=>?_)
 refine Z ?_
 refine Bb [1,2] h (fun _ h=>?_)
 refine Z ?_
 refine Bb [1,2] h (fun _ h=>?_)
 refine Z ?_
 refine Bb [1,2] h (fun _ h=>?_)
 exact Y⟩
abbrev Akp (k:Nat):Prop:=∀{a0:Ah},OK (Q2 k a0) fun r=>Ar Tryz.prog 286 [Dw a0] ((O .i64) r)
theorem Auo (k:Nat):Akp k:=by
 induction k with
 | zero=>exact okz
 | succ k ih=>
  refine @fun a0=>⟨fun {r} h=>?_⟩
  .unfold Q2 at h
   refine pw C0 Tryz.func286 ?_
   refine Z ?_
   refine A3 h (fun (v5,v6)=>[(3,(O .i64 v5)),(9,(O .i64 v6))]) (fun (v5,v6)=>[]) ?_
   rintro ⟨v5,v6⟩ _ _ _ h _ _
   exact Y
instance {k:Nat}:Akp k:=(Auo k)
abbrev Akq (k:Nat):Prop:=∀{a0:Ah} {a1:List Ah},OK (Ot k a0 a1) fun r=>Ar Tryz.prog 288 [Dw a0,(Gj 3 Bl) a1] (Dw r)
theorem Aup (k:Nat):Akq k:=by
 induction k with
 | zero=>exact okz
 | succ k ih=>
  refine @fun a0 a1=>⟨fun {r} h=>?_⟩
  .unfold Ot at h
   refine pw {T:=Cf,an:=(fun _=>.ask),nl:=(fun s=>bif Nat.beq s 42 then [(0,3)] else [])} Tryz.func288 ?_
   refine ZS ?_
   refine B1 ?_
   refine ZO ?_
   refine As (As ?_)
   refine Bx h (fun v3=>[(22,(Ao v3))]) (fun v3=>[]) ?_ ?_
   intro _ h _ _ _
   exact Y
   rintro v3 _ h
   refine Am h (fun _ h=>?_) (fun _ h=>?_)
   exact Y
   refine ZS ?_
   refine B1 ?_
   refine ZO ?_
   refine As (As ?_)
   refine Db [.own 5 2 25 3] ?_
   refine Z ?_
   refine A3 h (fun (v18,o19)=>[(37,(O .i64 v18))]) (fun (v18,o19)=>[(2,.cells 25 [(O .i64 a0.Kind),(O .i64 a0.Num),(.arr 3 o19.length 0 o19.length)]),(3,.rows 25 3 (Bl o19))]) ?_
   rintro ⟨v18,o19⟩ _ _ _ h _ _
   exact Y
instance {k:Nat}:Akq k:=(Aup k)
abbrev Akr (k:Nat):Prop:=∀{a0:Ah} {a1:List Int},OK (Q3 k a0 a1) fun r=>Ar Tryz.prog 287 [Dw a0,(Au 1 (O .i64)) a1] ((O .i64) r)
theorem Auq (k:Nat):Akr k:=by
 induction k with
 | zero=>exact okz
 | succ k ih=>
  refine @fun a0 a1=>⟨fun {r} h=>?_⟩
  .unfold Q3 at h
   refine pw C0 Tryz.func287 ?_
   refine ZS ?_
   refine B1 ?_
   refine ZO ?_
   refine As (As ?_)
   refine Bx h (fun v2=>[(22,(Ao v2))]) (fun v2=>[]) ?_ ?_
   intro _ h _ _ _
   exact Y
   rintro v2 _ h
   refine Am h (fun _ h=>?_) (fun _ h=>?_)
   exact Y
   refine Z ?_
   refine A3 h (fun (v7,v8)=>[(5,(O .i64 v7)),(31,(O .i64 v8))]) (fun (v7,v8)=>[]) ?_
   rintro ⟨v7,v8⟩ _ _ _ h _ _
   exact Y
instance {k:Nat}:Akr k:=(Auq k)
instance {a0:List Az} {a1:Ah} {a2:Int}:OK (Wl a0 a1 a2) fun r=>Ar Tryz.prog 236 [(Au 3 Cn) a0,Dw a1,(O .i64) a2] (.tup [(Gj 3 Bl) r.1,Ao r.2]):=⟨fun {r} h=>by
 refine pw {T:=Cf,an:=(fun s=>bif Nat.beq s 14 then .own else .ask),nl:=(fun s=>bif Nat.beq s 14 then [(0,3)] else bif Nat.beq s 6 then [(0,3)] else [])} Tryz.func236 ?_
 refine ZS ?_
 refine B1 ?_
 refine ZO ?_
 refine As (As ?_)
 refine Bx h (fun v2=>[(31,(Ao v2))]) (fun v2=>[]) ?_ ?_
 intro _ h _ _ _
 exact Y
 rintro v2 _ h
 refine Am h (fun _ h=>?_) (fun _ h=>?_)
 exact Y
 refine Z ?_
 refine Bt h (fun _ _ _ _ h=>?_)
 refine ZO ?_
 refine As (As ?_)
 refine Bx h (fun v5=>[(53,(Ao v5))]) (fun v5=>[]) ?_ ?_
 intro _ h _ _ _
 exact Y
 rintro v5 _ h
 refine Am h (fun _ h=>?_) (fun _ h=>?_)
 exact Y
 refine Z ?_
 refine G3 h (fun o6 h=>?_)
 refine Z ?_
 refine Ff h (fun (v12,o13)=>[(61,(O .i64 v12))]) (fun (v12,o13)=>[(2,.rows 3 1 (List.map (O .i64) o13))]) (fun (v12,o13)=>o6.length=o13.length) ?_
 rintro ⟨v12,o13⟩ _ _ _ h _ _ q13
 refine Z ?_
 refine Am h (fun _ h=>?_) (fun _ h=>?_)
 exact Y
 replace h:=Cj h
 refine Z ?_
 refine Bt h (fun _ _ _ _ h=>?_)
 refine ZO ?_
 refine Iw ?_
 refine Db [.fz 9] ?_
 refine Z ?_
 refine A3 h (fun v23=>[(6,(.sl 3 (Bl []))),(7,(Ao false)),(79,(O .i64 v23))]) (fun v23=>[]) ?_
 rintro v23 _ _ _ h _ _
 refine Z ?_
 refine Am h (fun _ h=>?_) (fun _ h=>?_)
 exact Y
 replace h:=Cj h
 refine Z ?_
 refine Bt h (fun _ _ _ _ h=>?_)
 refine Z ?_
 refine A3 h (fun (v41,o42)=>[(14,(.arr 3 o42.length 0 o42.length)),(95,(O .i64 v41))]) (fun (v41,o42)=>[(3,.rows 25 3 (Bl o42))]) ?_
 rintro ⟨v41,o42⟩ _ _ _ h _ _
 exact Y⟩
abbrev Aks (k:Nat):Prop:=∀{a0:Ah} {a1:A9} {b1:List (ByteArray×Int)} {b2:List (ByteArray×(List Co))} {b0_0:List Az} {b0_1:List Ah} {b0_2 b0_3:Int} {b0_4:List Ah},OK (Ql k a0 a1 b1 b2 b0_0 b0_1 b0_2 b0_3 b0_4) fun r=>Bw Tryz.prog 170 [(.loc 0 0),Dw a0,Ev a1] [.cells 143 [(.sl 3 (List.map Cn b0_0)),(.sl 3 (Bl b0_1)),(O .i64 b0_2),(O .i64 b0_3),(.sl 3 (Bl b0_4)),(.mp 1),(.mp 2)],.map (Bk (O .i64) b1),.map (Bk (Au 5 Df) b2)] ((O .i64) r) [.cells 143 [(.sl 3 (List.map Cn b0_0)),(.sl 3 (Bl b0_1)),(O .i64 b0_2),(O .i64 b0_3),(.sl 3 (Bl b0_4)),(.mp 1),(.mp 2)],.map (Bk (O .i64) b1),.map (Bk (Au 5 Df) b2)]
abbrev Akt (k:Nat):Prop:=∀{a0:Ah} {a1:A9} {b1:List (ByteArray×Int)} {b2:List (ByteArray×(List Co))} {b0_0:List Az} {b0_1:List Ah} {b0_2 b0_3:Int} {b0_4:List Ah},OK (Oc k a0 a1 b1 b2 b0_0 b0_1 b0_2 b0_3 b0_4) fun r=>Bw Tryz.prog 101 [(.loc 0 0),Dw a0,Ev a1] [.cells 143 [(.sl 3 (List.map Cn b0_0)),(.sl 3 (Bl b0_1)),(O .i64 b0_2),(O .i64 b0_3),(.sl 3 (Bl b0_4)),(.mp 1),(.mp 2)],.map (Bk (O .i64) b1),.map (Bk (Au 5 Df) b2)] ((O .i64) r) [.cells 143 [(.sl 3 (List.map Cn b0_0)),(.sl 3 (Bl b0_1)),(O .i64 b0_2),(O .i64 b0_3),(.sl 3 (Bl b0_4)),(.mp 1),(.mp 2)],.map (Bk (O .i64) b1),.map (Bk (Au 5 Df) b2)]
abbrev Aku (k:Nat):Prop:=∀{a0:List Ah} {a1:List A9} {b1:List (ByteArray×Int)} {b2:List (ByteArray×(List Co))} {b0_0:List Az} {b0_1:List Ah} {b0_2 b0_3:Int} {b0_4:List Ah},OK (Qk k a0 a1 b1 b2 b0_0 b0_1 b0_2 b0_3 b0_4) fun r=>Bw Tryz.prog 169 [(.loc 0 0),(Gj 3 Bl) a0,(Gj 2 Hr) a1] [.cells 143 [(.sl 3 (List.map Cn b0_0)),(.sl 3 (Bl b0_1)),(O .i64 b0_2),(O .i64 b0_3),(.sl 3 (Bl b0_4)),(.mp 1),(.mp 2)],.map (Bk (O .i64) b1),.map (Bk (Au 5 Df) b2)] ((O .i64) r) [.cells 143 [(.sl 3 (List.map Cn b0_0)),(.sl 3 (Bl b0_1)),(O .i64 b0_2),(O .i64 b0_3),(.sl 3 (Bl b0_4)),(.mp 1),(.mp 2)],.map (Bk (O .i64) b1),.map (Bk (Au 5 Df) b2)]
theorem Aer (k:Nat):Aks k/\Akt k/\Aku k:=by
 induction k with
 | zero=>exact ⟨okz,okz,okz⟩
 | succ k ih=>
  obtain ⟨i0_,i1_,i2_⟩:=ih
  refine ⟨@fun a0 a1 b1 b2 b0_0 b0_1 b0_2 b0_3 b0_4=>⟨fun {r} h=>?_⟩,@fun a0 a1 b1 b2 b0_0 b0_1 b0_2 b0_3 b0_4=>⟨fun {r} h=>?_⟩,@fun a0 a1 b1 b2 b0_0 b0_1 b0_2 b0_3 b0_4=>⟨fun {r} h=>?_⟩⟩
  .unfold Ql at h
   refine aw {T:=Cf,an:=(fun s=>bif Nat.beq s 9 then .own else .ask),nl:=(fun s=>bif Nat.beq s 9 then [(0,3)] else [])} true Tryz.func170 ?_
   refine Z ?_
   refine Be h (fun _ h=>?_)
   refine Z ?_
   refine Am h (fun _ h=>?_) (fun _ h=>?_)
   exact Y
   refine Z ?_
   refine Be h (fun _ h=>?_)
   refine Z ?_
   refine A3 h (fun (v14,o15)=>[(9,(.arr 5 o15.length 0 o15.length)),(38,(O .i64 v14))]) (fun (v14,o15)=>[(5,.rows 25 3 (Bl o15))]) ?_
   rintro ⟨v14,o15⟩ _ _ _ h _ _
   refine Z ?_
   refine Am h (fun _ h=>?_) (fun _ h=>?_)
   exact Y
   replace h:=Cj h
   refine E8 (E6 rfl (As ?_))
   refine Db [.fz 9] ?_
   refine Z ?_
   refine Bb [0,1,2] h (fun _ h=>?_)
   exact Y
  .unfold Oc at h
   refine aw C0 true Tryz.func101 ?_
   refine Z ?_
   refine Am h (fun _ h=>?_) (fun _ h=>?_)
   refine Z ?_
   refine Am h (fun _ h=>?_) (fun _ h=>?_)
   refine Z ?_
   refine Bb [0,1,2] h (fun _ h=>?_)
   exact Y
   exact Y
   refine Z ?_
   refine Am h (fun _ h=>?_) (fun _ h=>?_)
   exact Y
   refine Z ?_
   refine Am h (fun _ h=>?_) (fun _ h=>?_)
   refine Z ?_
   refine Am h (fun _ h=>?_) (fun _ h=>?_)
   exact Y
   refine Z ?_
   refine A3 h (fun (v7,v8)=>[(6,(O .i64 0)),(7,(O .i64 v7)),(50,(O .i64 v8))]) (fun (v7,v8)=>[]) ?_
   rintro ⟨v7,v8⟩ _ _ _ h _ _
   refine Z ?_
   refine Am h (fun _ h=>?_) (fun _ h=>?_)
   refine Z ?_
   refine Bt h (fun _ _ _ _ h=>?_)
   refine Z ?_
   refine Bb [0,1,2] h (fun _ h=>?_)
   exact Y
   exact Y
   exact Y
  .unfold Qk at h
   refine aw C0 true Tryz.func169 ?_
   refine Z ?_
   refine Am h (fun _ h=>?_) (fun _ h=>?_)
   exact Y
   refine Z ?_
   refine A3 h (fun (v5,v6)=>[(6,(O .i64 0)),(7,(O .i64 v5)),(18,(O .i64 v6))]) (fun (v5,v6)=>[]) ?_
   rintro ⟨v5,v6⟩ _ _ _ h _ _
   refine Z ?_
   refine Am h (fun _ h=>?_) (fun _ h=>?_)
   refine Z ?_
   refine Bt h (fun _ _ _ _ h=>?_)
   refine Z ?_
   refine Bt h (fun _ _ _ _ h=>?_)
   refine Z ?_
   refine Bb [0,1,2] h (fun _ h=>?_)
   exact Y
   exact Y
instance {k:Nat}:Aks k:=(Aer k).1
instance {k:Nat}:Akt k:=(Aer k).2.1
instance {k:Nat}:Aku k:=(Aer k).2.2
instance {a0:Int} {b1:List (ByteArray×Int)} {b2:List (ByteArray×(List Co))} {b0_0:List Az} {b0_1:List Ah} {b0_2 b0_3:Int} {b0_4:List Ah}:OK (Lk a0 b1 b2 b0_0 b0_1 b0_2 b0_3 b0_4) fun r=>Bw Tryz.prog 102 [(.loc 0 0),(O .i64) a0] [.cells 143 [(.sl 3 (List.map Cn b0_0)),(.sl 3 (Bl b0_1)),(O .i64 b0_2),(O .i64 b0_3),(.sl 3 (Bl b0_4)),(.mp 1),(.mp 2)],.map (Bk (O .i64) b1),.map (Bk (Au 5 Df) b2)] (Dw r) [.cells 143 [(.sl 3 (List.map Cn b0_0)),(.sl 3 (Bl b0_1)),(O .i64 b0_2),(O .i64 b0_3),(.sl 3 (Bl b0_4)),(.mp 1),(.mp 2)],.map (Bk (O .i64) b1),.map (Bk (Au 5 Df) b2)]:=⟨fun {r} h=>by
 refine aw C0 true Tryz.func102 ?_
 exact Y⟩
instance {a0:Int} {a1:A9} {b1:List (ByteArray×Int)} {b2:List (ByteArray×(List Co))} {b0_0:List Az} {b0_1:List Ah} {b0_2 b0_3:Int} {b0_4:List Ah}:OK (J1 a0 a1 b1 b2 b0_0 b0_1 b0_2 b0_3 b0_4) fun r=>Bw Tryz.prog 50 [(.loc 0 0),(O .i64) a0,Ev a1] [.cells 143 [(.sl 3 (List.map Cn b0_0)),(.sl 3 (Bl b0_1)),(O .i64 b0_2),(O .i64 b0_3),(.sl 3 (Bl b0_4)),(.mp 1),(.mp 2)],.map (Bk (O .i64) b1),.map (Bk (Au 5 Df) b2)] ((O .i64) r.1) [.cells 143 [(.sl 3 (List.map Cn b0_0)),(.sl 3 (Bl b0_1)),(O .i64 b0_2),(O .i64 b0_3),(.sl 3 (Bl b0_4)),(.mp 1),(.mp 2)],.map (Bk (O .i64) r.2),.map (Bk (Au 5 Df) b2)]:=⟨fun {r} h=>by
 refine aw C0 true Tryz.func50 ?_
 refine Z ?_
 refine Be h (fun _ h=>?_)
 refine ZO ?_
 refine As ?_
 refine Bx h (fun (v3,v4)=>[(8,(O .i64 v3)),(9,(Ao v4))]) (fun (v3,v4)=>[]) ?_ ?_
 intro _ h _ _ _
 refine Z ?_
 refine Sv (f:=(O .i64)) (l:=b1) rfl (0:Int) h (fun j_ hb h=>?_) (fun hb h=>?_)
 exact Y
 exact Y
 rintro ⟨v3,v4⟩ _ h
 refine Z ?_
 refine Am h (fun _ h=>?_) (fun _ h=>?_)
 refine Z ?_
 refine Bb [0,1,2] h (fun _ h=>?_)
 refine Z ?_
 refine Bb [0,1,2] h (fun _ h=>?_)
 refine ZS ?_
 refine B1 ?_
 refine ZO ?_
 refine Bx h (fun v7=>[(8,(O .i64 v7))]) (fun v7=>[]) ?_ ?_
 intro _ h _ _ _
 exact Y
 rintro v7 _ h
 refine Z ?_
 refine P1 (f:=(O .i64)) (l:=b1) (x:=v7) rfl rfl ?_
 exact Y
 exact Y⟩
instance {a0:A8} {b1:List (ByteArray×Int)} {b2:List (ByteArray×(List Co))} {b0_0:List Az} {b0_1:List Ah} {b0_2 b0_3:Int} {b0_4:List Ah}:OK (Wj a0 b1 b2 b0_0 b0_1 b0_2 b0_3 b0_4) fun r=>Bw Tryz.prog 232 [(.loc 0 0),F0 a0] [.cells 143 [(.sl 3 (List.map Cn b0_0)),(.sl 3 (Bl b0_1)),(O .i64 b0_2),(O .i64 b0_3),(.sl 3 (Bl b0_4)),(.mp 1),(.mp 2)],.map (Bk (O .i64) b1),.map (Bk (Au 5 Df) b2)] ((O .i64) r.1) [.cells 143 [(.sl 3 (List.map Cn b0_0)),(.sl 3 (Bl b0_1)),(O .i64 b0_2),(O .i64 b0_3),(.sl 3 (Bl b0_4)),(.mp 1),(.mp 2)],.map (Bk (O .i64) r.2),.map (Bk (Au 5 Df) b2)]:=⟨fun {r} h=>by
 refine aw C0 true Tryz.func232 ?_
 refine Z ?_
 refine A3 h (fun (v5,v6,o7)=>[(5,(O .i64 v5)),(13,(O .i64 v6))]) (fun (v5,v6,o7)=>[(1,.map (Bk (O .i64) o7))]) ?_
 rintro ⟨v5,v6,o7⟩ _ _ _ h _ _
 refine Z ?_
 refine Am h (fun _ h=>?_) (fun _ h=>?_)
 refine Z ?_
 refine Bt h (fun _ _ _ _ h=>?_)
 refine Z ?_
 refine Am h (fun _ h=>?_) (fun _ h=>?_)
 refine Z ?_
 refine Bb [0,1,2] h (fun _ h=>?_)
 exact Y
 exact Y
 replace h:=Cj h
 refine Z ?_
 refine A3 h (fun (v15,v16)=>[(5,(O .i64 v15)),(31,(O .i64 v16))]) (fun (v15,v16)=>[]) ?_
 rintro ⟨v15,v16⟩ _ _ _ h _ _
 exact Y⟩
instance {a0:Int} {b1:List (ByteArray×Int)} {b2:List (ByteArray×(List Co))} {b0_0:List Az} {b0_1:List Ah} {b0_2 b0_3:Int} {b0_4:List Ah}:OK (Mw a0 b1 b2 b0_0 b0_1 b0_2 b0_3 b0_4) fun r=>Bw Tryz.prog 49 [(.loc 0 0),(O .i64) a0] [.cells 143 [(.sl 3 (List.map Cn b0_0)),(.sl 3 (Bl b0_1)),(O .i64 b0_2),(O .i64 b0_3),(.sl 3 (Bl b0_4)),(.mp 1),(.mp 2)],.map (Bk (O .i64) b1),.map (Bk (Au 5 Df) b2)] (Ao r) [.cells 143 [(.sl 3 (List.map Cn b0_0)),(.sl 3 (Bl b0_1)),(O .i64 b0_2),(O .i64 b0_3),(.sl 3 (Bl b0_4)),(.mp 1),(.mp 2)],.map (Bk (O .i64) b1),.map (Bk (Au 5 Df) b2)]:=⟨fun {r} h=>by
 refine aw C0 true Tryz.func49 ?_
 exact Y⟩
instance {a0:Dk} {b2:List (ByteArray×Int)} {b3:List (ByteArray×(List Co))} {b1_0:List Az} {b1_1:List Ah} {b1_2 b1_3:Int} {b1_4:List Ah}:OK (S8 a0 b2 b3 b1_0 b1_1 b1_2 b1_3 b1_4) fun r=>Bw Tryz.prog 113 [G2 a0,(.loc 0 0)] [.cells 78 [(.loc 1 0)],.cells 143 [(.sl 3 (List.map Cn b1_0)),(.sl 3 (Bl b1_1)),(O .i64 b1_2),(O .i64 b1_3),(.sl 3 (Bl b1_4)),(.mp 2),(.mp 3)],.map (Bk (O .i64) b2),.map (Bk (Au 5 Df) b3)] (Ao r) [.cells 78 [(.loc 1 0)],.cells 143 [(.sl 3 (List.map Cn b1_0)),(.sl 3 (Bl b1_1)),(O .i64 b1_2),(O .i64 b1_3),(.sl 3 (Bl b1_4)),(.mp 2),(.mp 3)],.map (Bk (O .i64) b2),.map (Bk (Au 5 Df) b3)]:=⟨fun {r} h=>by
 refine aw C0 true Tryz.func113 ?_
 refine Z ?_
 refine Bb [1,2,3] h (fun _ h=>?_)
 refine Z ?_
 refine Fh h (fun _ h=>?_) (fun _ h=>?_)
 exact Y
 refine Z ?_
 refine Bb [1,2,3] h (fun _ h=>?_)
 refine Z ?_
 refine Ac7.mk 3 (by kernel_rfl) ?_
 exact Y⟩
instance {a0:List Dk} {b2:List (ByteArray×Int)} {b3:List (ByteArray×(List Co))} {b1_0:List Az} {b1_1:List Ah} {b1_2 b1_3:Int} {b1_4:List Ah}:OK (Zq a0 b2 b3 b1_0 b1_1 b1_2 b1_3 b1_4) fun r=>Bw Tryz.prog 193 [(Au 2 G2) a0,(.fn 113 [(.loc 0 0)])] [.cells 78 [(.loc 1 0)],.cells 143 [(.sl 3 (List.map Cn b1_0)),(.sl 3 (Bl b1_1)),(O .i64 b1_2),(O .i64 b1_3),(.sl 3 (Bl b1_4)),(.mp 2),(.mp 3)],.map (Bk (O .i64) b2),.map (Bk (Au 5 Df) b3)] ((O .i64) r) [.cells 78 [(.loc 1 0)],.cells 143 [(.sl 3 (List.map Cn b1_0)),(.sl 3 (Bl b1_1)),(O .i64 b1_2),(O .i64 b1_3),(.sl 3 (Bl b1_4)),(.mp 2),(.mp 3)],.map (Bk (O .i64) b2),.map (Bk (Au 5 Df) b3)]:=⟨fun {r} h=>by
 refine aw C0 true Tryz.func193 ?_
 refine Z ?_
 refine A3 h (fun v3=>[(4,(O .i64 0)),(8,(O .i64 v3))]) (fun v3=>[]) ?_
 rintro v3 _ _ _ h _ _
 refine Z ?_
 refine Am h (fun _ h=>?_) (fun _ h=>?_)
 refine Z ?_
 refine Bt h (fun _ _ _ _ h=>?_)
 refine Z ?_
 refine Bb [0,1,2,3] h (fun _ h=>?_)
 exact Y
 exact Y⟩
instance {a0:List Dk} {b2:List (ByteArray×Int)} {b3:List (ByteArray×(List Co))} {b1_0:List Az} {b1_1:List Ah} {b1_2 b1_3:Int} {b1_4:List Ah}:OK (Zm a0 b2 b3 b1_0 b1_1 b1_2 b1_3 b1_4) fun r=>Bw Tryz.prog 112 [(Au 2 G2) a0,(.fn 113 [(.loc 0 0)])] [.cells 78 [(.loc 1 0)],.cells 143 [(.sl 3 (List.map Cn b1_0)),(.sl 3 (Bl b1_1)),(O .i64 b1_2),(O .i64 b1_3),(.sl 3 (Bl b1_4)),(.mp 2),(.mp 3)],.map (Bk (O .i64) b2),.map (Bk (Au 5 Df) b3)] (Ao r) [.cells 78 [(.loc 1 0)],.cells 143 [(.sl 3 (List.map Cn b1_0)),(.sl 3 (Bl b1_1)),(O .i64 b1_2),(O .i64 b1_3),(.sl 3 (Bl b1_4)),(.mp 2),(.mp 3)],.map (Bk (O .i64) b2),.map (Bk (Au 5 Df) b3)]:=⟨fun {r} h=>by
 refine aw C0 true Tryz.func112 ?_
 refine Z ?_
 refine Bb [0,1,2,3] h (fun _ h=>?_)
 exact Y⟩
instance {a0:Ca} {b1:List (ByteArray×Int)} {b2:List (ByteArray×(List Co))} {b0_0:List Az} {b0_1:List Ah} {b0_2 b0_3:Int} {b0_4:List Ah}:OK (Qa a0 b1 b2 b0_0 b0_1 b0_2 b0_3 b0_4) fun r=>Bw Tryz.prog 57 [(.loc 0 0),Gk a0] [.cells 143 [(.sl 3 (List.map Cn b0_0)),(.sl 3 (Bl b0_1)),(O .i64 b0_2),(O .i64 b0_3),(.sl 3 (Bl b0_4)),(.mp 1),(.mp 2)],.map (Bk (O .i64) b1),.map (Bk (Au 5 Df) b2)] (Ao r) [.cells 143 [(.sl 3 (List.map Cn b0_0)),(.sl 3 (Bl b0_1)),(O .i64 b0_2),(O .i64 b0_3),(.sl 3 (Bl b0_4)),(.mp 1),(.mp 2)],.map (Bk (O .i64) b1),.map (Bk (Au 5 Df) b2)]:=⟨fun {r} h=>by
 refine aw C0 true Tryz.func57 ?_
 refine Z ?_
 refine Bb [3,0,1,2] h (fun _ h=>?_)
 exact Y⟩
instance {a0:A8} {b1:List (ByteArray×Int)} {b2:List (ByteArray×(List Co))} {b0_0:List Az} {b0_1:List Ah} {b0_2 b0_3:Int} {b0_4:List Ah}:OK (Wi a0 b1 b2 b0_0 b0_1 b0_2 b0_3 b0_4) fun r=>Bw Tryz.prog 231 [(.loc 0 0),F0 a0] [.cells 143 [(.sl 3 (List.map Cn b0_0)),(.sl 3 (Bl b0_1)),(O .i64 b0_2),(O .i64 b0_3),(.sl 3 (Bl b0_4)),(.mp 1),(.mp 2)],.map (Bk (O .i64) b1),.map (Bk (Au 5 Df) b2)] (Ao r.1) [.cells 143 [(.sl 3 (List.map Cn b0_0)),(.sl 3 (Bl b0_1)),(O .i64 b0_2),(O .i64 b0_3),(.sl 3 (Bl b0_4)),(.mp 1),(.mp 2)],.map (Bk (O .i64) r.2),.map (Bk (Au 5 Df) b2)]:=⟨fun {r} h=>by
 refine aw C0 true Tryz.func231 ?_
 refine Z ?_
 refine A3 h (fun (v6,o7)=>[(4,(Ao false)),(12,(O .i64 v6))]) (fun (v6,o7)=>[(1,.map (Bk (O .i64) o7))]) ?_
 rintro ⟨v6,o7⟩ _ _ _ h _ _
 refine Z ?_
 refine Am h (fun _ h=>?_) (fun _ h=>?_)
 refine Z ?_
 refine Bt h (fun _ _ _ _ h=>?_)
 refine Z ?_
 refine Bb [0,1,2] h (fun _ h=>?_)
 refine Z ?_
 refine Fh h (fun _ h=>?_) (fun _ h=>?_)
 exact Y
 refine Z ?_
 refine Bb [0,1,2] h (fun _ h=>?_)
 exact Y
 replace h:=Cj h
 refine Z ?_
 refine A3 h (fun v18=>[(4,(Ao false)),(34,(O .i64 v18))]) (fun v18=>[]) ?_
 rintro v18 _ _ _ h _ _
 refine Z ?_
 refine Am h (fun _ h=>?_) (fun _ h=>?_)
 refine Z ?_
 refine Bt h (fun _ _ _ _ h=>?_)
 refine Z ?_
 refine Fh h (fun _ h=>?_) (fun _ h=>?_)
 exact Y
 refine Z ?_
 refine Bb [0,1,2] h (fun _ h=>?_)
 exact Y
 exact Y⟩
instance {a0:A8} {b1:List (ByteArray×Int)} {b2:List (ByteArray×(List Co))} {b0_0:List Az} {b0_1:List Ah} {b0_2 b0_3:Int} {b0_4:List Ah}:OK (Tf a0 b1 b2 b0_0 b0_1 b0_2 b0_3 b0_4) fun r=>Bw Tryz.prog 164 [(.loc 0 0),F0 a0] [.cells 143 [(.sl 3 (List.map Cn b0_0)),(.sl 3 (Bl b0_1)),(O .i64 b0_2),(O .i64 b0_3),(.sl 3 (Bl b0_4)),(.mp 1),(.mp 2)],.map (Bk (O .i64) b1),.map (Bk (Au 5 Df) b2)] (Ao r.1) [.cells 143 [(.sl 3 (List.map Cn b0_0)),(.sl 3 (Bl b0_1)),(O .i64 b0_2),(O .i64 b0_3),(.sl 3 (Bl b0_4)),(.mp 1),(.mp 2)],.map (Bk (O .i64) r.2),.map (Bk (Au 5 Df) b2)]:=⟨fun {r} h=>by
 refine aw C0 true Tryz.func164 ?_
 refine ZS ?_
 refine B1 ?_
 refine ZO ?_
 refine As (As ?_)
 refine Bx h (fun (v4,o5)=>[(18,(Ao v4))]) (fun (v4,o5)=>[(1,.map (Bk (O .i64) o5))]) ?_ ?_
 intro _ h _ _ _
 refine Z ?_
 refine Bb [0,1,2] h (fun _ h=>?_)
 refine Z ?_
 refine Fh h (fun _ h=>?_) (fun _ h=>?_)
 exact Y
 refine Z ?_
 refine Bb [0,1,2] h (fun _ h=>?_)
 exact Y
 rintro ⟨v4,o5⟩ _ h
 refine Am h (fun _ h=>?_) (fun _ h=>?_)
 exact Y
 refine Z ?_
 refine A3 h (fun (v9,o10)=>[(4,(Ao false)),(22,(O .i64 v9))]) (fun (v9,o10)=>[(1,.map (Bk (O .i64) o10))]) ?_
 rintro ⟨v9,o10⟩ _ _ _ h _ _
 refine Z ?_
 refine Am h (fun _ h=>?_) (fun _ h=>?_)
 refine Z ?_
 refine Bt h (fun _ _ _ _ h=>?_)
 refine Z ?_
 refine Bb [0,1,2] h (fun _ h=>?_)
 exact Y
 replace h:=Cj h
 refine Z ?_
 refine A3 h (fun v22=>[(4,(Ao false)),(54,(O .i64 v22))]) (fun v22=>[]) ?_
 rintro v22 _ _ _ h _ _
 refine Z ?_
 refine Am h (fun _ h=>?_) (fun _ h=>?_)
 refine Z ?_
 refine Bt h (fun _ _ _ _ h=>?_)
 refine ZO ?_
 refine As (As ?_)
 refine Bx h (fun v26=>[(74,(Ao v26))]) (fun v26=>[]) ?_ ?_
 intro _ h _ _ _
 exact Y
 rintro v26 _ h
 exact Y
 exact Y⟩
instance {a0 a1:List Int}:OK (Qb a0 a1) fun r=>Ar Tryz.prog 86 [(Au 1 (O .u32)) a0,(Au 1 (O .u32)) a1] ((O .i64) r):=⟨fun {r} h=>by
 refine pw C0 Tryz.func86 ?_
 refine Z ?_
 refine Am h (fun _ h=>?_) (fun _ h=>?_)
 exact Y
 refine Z ?_
 refine A3 h (fun v5=>[(4,(O .i64 0)),(5,(O .i64 v5))]) (fun v5=>[]) ?_
 rintro v5 _ _ _ h _ _
 exact Y⟩
instance {a0:List Int}:OK (Jc a0) fun r=>Ar Tryz.prog 148 [(Au 1 (O .u32)) a0] ((Au 1 (O .u32)) r):=⟨fun {r} h=>by
 refine pw {T:=Cf,an:=(fun _=>.ask),nl:=(fun s=>bif Nat.beq s 2 then [(0,1)] else [])} Tryz.func148 ?_
 refine Z ?_
 refine A3 h (fun v2=>[(3,(O .i64 v2))]) (fun v2=>[]) ?_
 rintro v2 _ _ _ h _ _
 exact Y⟩
instance {a0:List Int} {a1:Int}:OK (Q5 a0 a1) fun r=>Ar Tryz.prog 317 [(Au 1 (O .u32)) a0,(O .u64) a1] (.tup [(Au 1 (O .u32)) r.1,(O .u64) r.2]):=⟨fun {r} h=>by
 refine pw {T:=Cf,an:=(fun _=>.ask),nl:=(fun s=>bif Nat.beq s 4 then [(0,1)] else [])} Tryz.func317 ?_
 refine Z ?_
 refine G3 h (fun o1 h=>?_)
 refine Z ?_
 refine Ff h (fun (v7,v8,o9)=>[(7,(O .u64 v7)),(8,(O .i64 v8))]) (fun (v7,v8,o9)=>[(0,.rows 106 1 (List.map (O .u32) o9))]) (fun (v7,v8,o9)=>o1.length=o9.length) ?_
 rintro ⟨v7,v8,o9⟩ _ _ _ h _ _ q9
 refine Z ?_
 refine Am h (fun _ h=>?_) (fun _ h=>?_)
 exact Y
 replace h:=Cj h
 refine E8 (E6 rfl (As ?_))
 refine Db [.fz 6] ?_
 exact Y⟩
instance {a0:Int}:OK (M7 a0) fun r=>Ar Tryz.prog 207 [(O .u64) a0] ((Au 1 (O .u32)) r):=⟨fun {r} h=>by
 refine pw {T:=Cf,an:=(fun s=>bif Nat.beq s 3 then .own else .ask),nl:=(fun s=>bif Nat.beq s 3 then [(0,1)] else bif Nat.beq s 2 then [(0,1)] else [])} Tryz.func207 ?_
 refine Z ?_
 refine A3 h (fun (v10,o11)=>[(0,(O .u64 v10)),(3,(.arr 0 o11.length 0 o11.length))]) (fun (v10,o11)=>[(0,.rows 106 1 (List.map (O .u32) o11))]) ?_
 rintro ⟨v10,o11⟩ _ _ _ h _ _
 exact Y⟩
instance {a0:List Int} {a1:Int}:OK (Ty a0 a1) fun r=>Bw Tryz.prog 318 [(Au 1 (O .u32)) a0,(O .u64) a1] [] (.arr 0 r.length 0 r.length) [.rows 106 1 (List.map (O .u32) r)]:=⟨fun {r} h=>by
 refine aw {T:=Cf,an:=(fun _=>.ask),nl:=(fun s=>bif Nat.beq s 4 then [(0,1)] else [])} false Tryz.func318 ?_
 refine Z ?_
 refine G3 h (fun o1 h=>?_)
 refine Z ?_
 refine Ff h (fun (v7,v8,o9)=>[(6,(O .u64 v7)),(15,(O .i64 v8))]) (fun (v7,v8,o9)=>[(0,.rows 106 1 (List.map (O .u32) o9))]) (fun (v7,v8,o9)=>o1.length=o9.length) ?_
 rintro ⟨v7,v8,o9⟩ _ _ _ h _ _ q9
 refine Z ?_
 refine Am h (fun _ h=>?_) (fun _ h=>?_)
 exact Y
 replace h:=Cj h
 refine Z ?_
 refine Hs h (fun _ _ hiv16 _ h=>?_)
 refine Z ?_
 refine H6 (f:=(O .u32)) (x:=(Cd v7)) (j:=(a0.length:Int)) rfl rfl (Nat.zero_add _) hiv16 ?_
 refine Z ?_
 cases h
 exact ⟨congrArg (fun q_=>AV.arr 0 q_ 0 q_) (Fy (l:=o9) q9 (a0.length:Int) (Cd v7)),rfl,trivial⟩⟩
instance {a0:List Int} {a1:Int}:OK (Aej a0 a1) fun r=>Ar Tryz.prog 318 [(Au 1 (O .u32)) a0,(O .u64) a1] ((Au 1 (O .u32)) r):=⟨fun {r} h=>by
 refine pw {T:=Cf,an:=(fun _=>.ask),nl:=(fun s=>bif Nat.beq s 4 then [(0,1)] else [])} Tryz.func318 ?_
 refine Z ?_
 refine G3 h (fun o1 h=>?_)
 refine Z ?_
 refine Ff h (fun (v7,v8,o9)=>[(6,(O .u64 v7)),(15,(O .i64 v8))]) (fun (v7,v8,o9)=>[(0,.rows 106 1 (List.map (O .u32) o9))]) (fun (v7,v8,o9)=>o1.length=o9.length) ?_
 rintro ⟨v7,v8,o9⟩ _ _ _ h _ _ q9
 exact Y⟩
instance {a0 a1:Nat} {a2 b0:List Int}:OK (Wx a0 a1 a2 b0) fun r=>Bw Tryz.prog 319 [(.arr 0 b0.length a0 a1),(Au 1 (O .u32)) a2] [.rows 106 1 (List.map (O .u32) b0)] ((O .u32) r.1) [.rows 106 1 (List.map (O .u32) r.2)]:=⟨fun {r} h=>by
 refine aw C0 true Tryz.func319 ?_
 refine Z ?_
 refine Bt h (fun _ _ _ _ h=>?_)
 refine Z ?_
 refine Bt h (fun _ _ _ _ h=>?_)
 refine Z ?_
 refine Mc h (fun _ _ _ _ h=>?_)
 refine Z ?_
 refine Mc h (fun _ _ _ _ h=>?_)
 refine Z ?_
 refine Ve h (fun _ h=>?_)
 refine Z ?_
 refine Zh h (fun _ h=>?_)
 refine Z ?_
 refine A3 h (fun (v9,v10)=>[(9,(O .u64 v9)),(10,(O .u64 v10))]) (fun (v9,v10)=>[]) ?_
 rintro ⟨v9,v10⟩ _ _ _ h _ _
 refine As (As ?_)
 refine Bx h (fun v12=>[(71,(Ao v12))]) (fun v12=>[]) ?_ ?_
 intro _ h _ _ _
 exact Y
 rintro v12 _ h
 refine Am h (fun _ h=>?_) (fun _ h=>?_)
 exact Y
 replace h:=Cj h
 refine Z ?_
 refine Ff h (fun (v24,v25,o26)=>[(11,(O .i64 v24)),(78,(O .i64 v25))]) (fun (v24,v25,o26)=>[(0,.rows 106 1 (List.map (O .u32) o26))]) (fun (v24,v25,o26)=>b0.length=o26.length) ?_
 rintro ⟨v24,v25,o26⟩ _ _ _ h _ _ q26
 refine Z ?_
 refine Am h (fun _ h=>?_) (fun _ h=>?_)
 refine Z ?_
 refine Mc h (fun _ _ _ _ h=>?_)
 refine Z ?_
 refine Bt h (fun _ _ _ _ h=>?_)
 refine Z ?_
 refine Zh h (fun _ h=>?_)
 refine Z ?_
 refine Bt h (fun _ _ _ _ h=>?_)
 refine Z ?_
 refine Ve h (fun _ h=>?_)
 refine Z ?_
 refine A3 h (fun (v32,v33)=>[(11,(O .i64 v32)),(13,(O .i64 v33))]) (fun (v32,v33)=>[]) ?_
 rintro ⟨v32,v33⟩ _ _ _ h _ _
 exact Y
 replace h:=Cj h
 refine Z ?_
 refine Mc h (fun _ _ _ _ h=>?_)
 refine Z ?_
 refine Am h (fun _ h=>?_) (fun _ h=>?_)
 exact Y
 refine Z ?_
 refine Ff h (fun (v46,v47,o48)=>[(15,(O .u32 v46)),(136,(O .i64 v47))]) (fun (v46,v47,o48)=>[(0,.rows 106 1 (List.map (O .u32) o48))]) (fun (v46,v47,o48)=>b0.length=o48.length) ?_
 rintro ⟨v46,v47,o48⟩ _ _ _ h _ _ q48
 exact Y⟩
end Go.Ab
namespace Go.Ab
open Go Go.Proofs
set_option maxRecDepth 10000
set_option maxHeartbeats 4000000
set_option linter.unusedVariables false
instance {a0 a1:List Int}:OK (Qw a0 a1) fun r=>Ar Tryz.prog 252 [(Au 1 (O .u32)) a0,(Au 1 (O .u32)) a1] (.tup [(Au 1 (O .u32)) r.1,(Au 1 (O .u32)) r.2]):=⟨fun {r} h=>by
 refine pw {T:=Cf,an:=(fun _=>.ask),nl:=(fun s=>bif Nat.beq s 5 then [(0,1)] else bif Nat.beq s 4 then [(0,1)] else [])} Tryz.func252 ?_
 refine Z ?_
 refine Be h (fun _ h=>?_)
 refine Z ?_
 refine Am h (fun _ h=>?_) (fun _ h=>?_)
 exact Y
 refine Z ?_
 refine Am h (fun _ h=>?_) (fun _ h=>?_)
 exact Y
 refine Z ?_
 refine Bt h (fun _ _ _ _ h=>?_)
 refine Z ?_
 refine Ve h (fun _ h=>?_)
 refine Z ?_
 refine Bb [] h (fun v9 h=>?_)
 refine Z ?_
 refine Be h (fun _ h=>?_)
 refine Z ?_
 refine Lq h (fun v12 h=>?_)
 refine Z ?_
 refine G3 h (fun o13 h=>?_)
 refine Z ?_
 refine Ff h (fun (v19,o20,o21)=>[(13,(O .i64 v19))]) (fun (v19,o20,o21)=>[(0,.rows 106 1 (List.map (O .u32) o20)),(1,.rows 106 1 (List.map (O .u32) o21))]) (fun (v19,o20,o21)=>v9.length=o20.length/\o13.length=o21.length) ?_ (h0:=(⟨rfl,rfl⟩))
 rintro ⟨v19,o20,o21⟩ _ _ _ h _ hn1 ⟨q20,q21⟩
 refine Z ?_
 refine Am h (fun _ h=>?_) (fun _ h=>?_)
 refine Z ?_
 refine Jz (f:=(O .u32)) rfl q20 h (fun v22 h=>?_)
 refine Z ?_
 refine C9 h (fun v23 hcv23 h=>?_)
 have okv23:=(OK.ok hcv23 :)
 rw [<-q20] at okv23
 refine F6.act [0] _ _ _ _ okv23 rfl rfl ⟨rfl,trivial⟩ ?_
 refine C9 h (fun v24 hgv24 h=>?_)
 refine Z ?_
 refine Hs h (fun _ _ hiv25 _ h=>?_)
 refine Z ?_
 refine H6 (f:=(O .u32)) (x:=v23.1) (j:=v19) rfl rfl (Nat.zero_add _) hiv25 ?_
 refine Z ?_
 exact hn1 _ _ _ _ (Option.some.inj h) ⟨rfl,trivial⟩ ⟨⟨rfl,rfl⟩,⟨rfl,rfl⟩,trivial⟩ (⟨Iv hgv24,Fy (l:=o21) q21 v19 v23.1⟩)
 replace h:=Cj h
 refine E8 (E6 rfl (As ?_))
 refine Db [.fz 10] ?_
 refine Z ?_
 refine Be h (fun _ h=>?_)
 refine Z ?_
 refine Be h (fun _ h=>?_)
 refine ZO ?_
 refine As ?_
 refine Db [.fz 12] ?_
 exact Y⟩
instance {a0:List Int}:OK (Tx a0) fun r=>Ar Tryz.prog 316 [(Au 1 (O .u32)) a0] (.tup [(O .u64) r.1,Ao r.2]):=⟨fun {r} h=>by
 refine pw C0 Tryz.func316 ?_
 refine Z ?_
 refine A3 h (fun (v3,v4)=>[(2,(O .u64 0)),(3,(Ao false)),(4,(O .u64 v3)),(9,(O .i64 v4))]) (fun (v3,v4)=>[]) ?_
 rintro ⟨v3,v4⟩ _ _ _ h _ _
 exact Y⟩
instance {a0 a1:List Int}:OK (Wq a0 a1) fun r=>Ar Tryz.prog 251 [(Au 1 (O .u32)) a0,(Au 1 (O .u32)) a1] ((Au 1 (O .u32)) r):=⟨fun {r} h=>by
 refine pw {T:=Cf,an:=(fun _=>.ask),nl:=(fun s=>bif Nat.beq s 4 then [(0,1)] else [])} Tryz.func251 ?_
 refine Z ?_
 refine A3 h (fun (v12,v13)=>[(0,(.sl 1 (List.map (O .u32) v12))),(1,(.sl 1 (List.map (O .u32) v13))),(4,(.sl 1 (List.map (O .u32) [])))]) (fun (v12,v13)=>[]) ?_
 rintro ⟨v12,v13⟩ _ _ _ h _ _
 refine Z ?_
 refine Am h (fun _ h=>?_) (fun _ h=>?_)
 refine J0 (Iw (As (As ?_)))
 refine Bx h (fun v14=>[(21,(Ao v14))]) (fun v14=>[]) ?_ ?_
 intro _ h _ _ _
 exact Y
 rintro v14 _ h
 refine Am h (fun _ h=>?_) (fun _ h=>?_)
 refine Z ?_
 refine Be h (fun _ h=>?_)
 refine Z ?_
 refine Be h (fun _ h=>?_)
 refine Z ?_
 refine A3 h (fun (v18,v19)=>[(5,(O .u64 v18)),(7,(O .u64 v19))]) (fun (v18,v19)=>[]) ?_
 rintro ⟨v18,v19⟩ _ _ _ h _ _
 exact Y
 exact Y
 exact Y⟩
instance {a0:List Int}:OK (Qv a0) fun r=>Ar Tryz.prog 250 [(Au 1 (O .u32)) a0] (Ao r):=⟨fun {r} h=>by
 refine pw C0 Tryz.func250 ?_
 exact Y⟩
instance {a0:Ge}:OK (Zr a0) fun r=>Ar Tryz.prog 198 [Ow a0] (Ow r):=⟨fun {r} h=>by
 refine pw {T:=Cf,an:=(fun _=>.ask),nl:=(fun s=>bif Nat.beq s 13 then [(1,1)] else [])} Tryz.func198 ?_
 exact Y⟩
instance {a0:Ge}:OK (M2 a0) fun r=>Ar Tryz.prog 119 [Ow a0] (B9 r):=⟨fun {r} h=>by
 refine pw C0 Tryz.func119 ?_
 exact Y⟩
instance {a0:List Int}:OK (Td a0) fun r=>Ar Tryz.prog 135 [(Au 1 (O .u32)) a0] ((Au 1 (O .u32)) r):=⟨fun {r} h=>by
 refine pw {T:=Cf,an:=(fun _=>.ask),nl:=(fun s=>bif Nat.beq s 2 then [(0,1)] else [])} Tryz.func135 ?_
 refine Z ?_
 refine G3 h (fun _ h=>?_)
 refine Z ?_
 refine A3 h (fun (v14,v15,o16)=>[(3,(.arr 0 o16.length 0 o16.length)),(4,(O .u64 v14)),(13,(O .i64 v15))]) (fun (v14,v15,o16)=>[(0,.rows 106 1 (List.map (O .u32) o16))]) ?_
 rintro ⟨v14,v15,o16⟩ _ _ _ h _ _
 refine Z ?_
 refine Am h (fun _ h=>?_) (fun _ h=>?_)
 exact Y
 replace h:=Cj h
 refine Z ?_
 refine Am h (fun _ h=>?_) (fun _ h=>?_)
 refine Z ?_
 refine J4 h (fun _ h=>?_)
 refine ZO ?_
 refine As ?_
 refine Db [.fz 3] ?_
 exact Y
 refine J0 (As ?_)
 refine Db [.fz 3] ?_
 exact Y⟩
instance {a0:Aq}:OK (L8 a0) fun r=>Ar Tryz.prog 78 [B9 a0] (Ow r):=⟨fun {r} h=>by
 refine pw {T:=Cf,an:=(fun _=>.ask),nl:=(fun s=>bif Nat.beq s 20 then [(1,1)] else [])} Tryz.func78 ?_
 refine Z ?_
 refine Be h (fun _ h=>?_)
 refine Z ?_
 refine Be h (fun _ h=>?_)
 refine ZO ?_
 refine As (As ?_)
 refine Bx h (fun v5=>[(18,(Ao v5))]) (fun v5=>[]) ?_ ?_
 intro _ h _ _ _
 exact Y
 rintro v5 _ h
 exact Y⟩
instance {a0:Aq}:OK (Li a0) fun r=>Ar Tryz.prog 63 [B9 a0] (B9 r):=⟨fun {r} h=>by
 refine pw C0 Tryz.func63 ?_
 exact Y⟩
instance {a0:Ge}:OK (Vn a0) fun r=>Ar Tryz.prog 79 [Ow a0] ((O .i64) r):=⟨fun {r} h=>by
 refine pw C0 Tryz.func79 ?_
 exact Y⟩
instance {a0:Aq}:OK (Ho a0) fun r=>Ar Tryz.prog 35 [B9 a0] ((O .i64) r):=⟨fun {r} h=>by
 refine pw C0 Tryz.func35 ?_
 exact Y⟩
instance {a0 a1:List Int}:OK (Ma a0 a1) fun r=>Ar Tryz.prog 163 [(Au 1 (O .u32)) a0,(Au 1 (O .u32)) a1] (Ao r):=⟨fun {r} h=>by
 refine pw C0 Tryz.func163 ?_
 refine Z ?_
 refine Am h (fun _ h=>?_) (fun _ h=>?_)
 exact Y
 refine Z ?_
 refine A3 h (fun v3=>[(4,(Ao false)),(13,(O .i64 v3))]) (fun v3=>[]) ?_
 rintro v3 _ _ _ h _ _
 exact Y⟩
instance {a0:List Aj} {b1:List (ByteArray×Int)} {b2:List (ByteArray×(List Co))} {b0_0:List Az} {b0_1:List Ah} {b0_2 b0_3:Int} {b0_4:List Ah}:OK (Vs a0 b1 b2 b0_0 b0_1 b0_2 b0_3 b0_4) fun r=>Bw Tryz.prog 99 [(.loc 0 0),(Au 5 Bv) a0] [.cells 143 [(.sl 3 (List.map Cn b0_0)),(.sl 3 (Bl b0_1)),(O .i64 b0_2),(O .i64 b0_3),(.sl 3 (Bl b0_4)),(.mp 1),(.mp 2)],.map (Bk (O .i64) b1),.map (Bk (Au 5 Df) b2)] (Ao r.1) [.cells 143 [(.sl 3 (List.map Cn b0_0)),(.sl 3 (Bl b0_1)),(O .i64 b0_2),(O .i64 b0_3),(.sl 3 (Bl b0_4)),(.mp 1),(.mp 2)],.map (Bk (O .i64) r.2),.map (Bk (Au 5 Df) b2)]:=⟨fun {r} h=>by
 refine aw C0 true Tryz.func99 ?_
 refine Z ?_
 refine Am h (fun _ h=>?_) (fun _ h=>?_)
 exact Y
 refine Z ?_
 refine A3 h (fun (v10,o11)=>[(4,(Ao false)),(14,(O .i64 v10))]) (fun (v10,o11)=>[(1,.map (Bk (O .i64) o11))]) ?_
 rintro ⟨v10,o11⟩ _ _ _ h _ _
 refine Z ?_
 refine Am h (fun _ h=>?_) (fun _ h=>?_)
 refine Z ?_
 refine Bt h (fun _ _ _ _ h=>?_)
 refine Z ?_
 refine Be h (fun _ h=>?_)
 refine ZO ?_
 refine As ?_
 refine Bx h (fun v18=>[(8,(Ao v18))]) (fun v18=>[]) ?_ ?_
 intro _ h _ _ _
 exact Y
 rintro v18 _ h
 refine Z ?_
 refine Fh h (fun _ h=>?_) (fun _ h=>?_)
 exact Y
 refine Z ?_
 refine Be h (fun _ h=>?_)
 refine Z ?_
 refine Fh h (fun _ h=>?_) (fun _ h=>?_)
 exact Y
 refine Z ?_
 refine Bb [0,1,2] h (fun _ h=>?_)
 exact Y
 exact Y⟩
theorem Aes {a0:Ce} {a1:List (List Aj)} {r:(Bool×Ce×(List (ByteArray×Int))×(List (ByteArray×(List Co)))×(List Az)×(List Ah)×Int×Int×(List Ah))} (h:L7 a0 a1=some (.inl r)):Bw Tryz.prog 48 [Ij a0,(Au 1 (Au 5 Bv)) a1] [] (.tup [.loc 3 0,Ao r.1]) [.cells 27 [(.sl 3 (List.map Cn r.2.1.Data)),(.sl 3 (Bl r.2.1.Vars)),(O .i64 r.2.1.Res.Kind),(O .i64 r.2.1.Res.Num),(.sl 3 (Bl r.2.1.Res.Args))],.map (Bk (O .i64) r.2.2.1),.map (Bk (Au 5 Df) r.2.2.2.1),.cells 143 [(.sl 3 (List.map Cn r.2.2.2.2.1)),(.sl 3 (Bl r.2.2.2.2.2.1)),(O .i64 r.2.2.2.2.2.2.1),(O .i64 r.2.2.2.2.2.2.2.1),(.sl 3 (Bl r.2.2.2.2.2.2.2.2)),(.mp 1),(.mp 2)]]:=by
 refine aw {T:=Cf,an:=(fun _=>.ask),nl:=(fun s=>bif Nat.beq s 18 then [(1,7),(2,3),(3,8)] else [])} true Tryz.func48 ?_
 refine ZS ?_
 refine B1 ?_
 refine ZO ?_
 refine As (As ?_)
 refine Bx h (fun v4=>[(29,(Ao v4))]) (fun v4=>[]) ?_ ?_
 intro _ h _ _ _
 exact Y
 rintro v4 _ h
 refine Am h (fun _ h=>?_) (fun _ h=>?_)
 exact Y
 refine Z ?_
 refine A3 h (fun v8=>[(4,(.val (.pointer none))),(5,(Ao false)),(33,(O .i64 v8))]) (fun v8=>[]) ?_
 rintro v8 _ _ _ h _ _
 refine Z ?_
 refine Am h (fun _ h=>?_) (fun _ h=>?_)
 exact Y
 replace h:=Cj h
 refine Z ?_
 refine A3 h (fun (v18,o19)=>[(4,(.val (.pointer none))),(5,(Ao false)),(50,(O .i64 v18))]) (fun (v18,o19)=>[(1,.map (Bk (O .i64) o19))]) ?_
 rintro ⟨v18,o19⟩ _ _ _ h _ _
 refine Z ?_
 refine Am h (fun _ h=>?_) (fun _ h=>?_)
 refine Z ?_
 refine Bt h (fun _ _ _ _ h=>?_)
 refine Z ?_
 refine Bb [3,1,2] h (fun _ h=>?_)
 exact Y
 exact Y
theorem Aet {a0:Ce} {a1:List (List Aj)} {r:Bool} (h:L7 a0 a1=some (.inr r)):Bw Tryz.prog 48 [Ij a0,(Au 1 (Au 5 Bv)) a1] [] (.tup [.val (.pointer none),Ao r]) []:=by
 refine aw {T:=Cf,an:=(fun _=>.ask),nl:=(fun s=>bif Nat.beq s 18 then [(1,7),(2,3),(3,8)] else [])} true Tryz.func48 ?_
 refine ZS ?_
 refine B1 ?_
 refine ZO ?_
 refine As (As ?_)
 refine Bx h (fun v4=>[(29,(Ao v4))]) (fun v4=>[]) ?_ ?_
 intro _ h _ _ _
 exact Y
 rintro v4 _ h
 refine Am h (fun _ h=>?_) (fun _ h=>?_)
 exact Y
 refine Z ?_
 refine A3 h (fun v8=>[(4,(.val (.pointer none))),(5,(Ao false)),(33,(O .i64 v8))]) (fun v8=>[]) ?_
 rintro v8 _ _ _ h _ _
 refine Z ?_
 refine Am h (fun _ h=>?_) (fun _ h=>?_)
 exact Y
 replace h:=Cj h
 refine Z ?_
 refine A3 h (fun (v18,o19)=>[(4,(.val (.pointer none))),(5,(Ao false)),(50,(O .i64 v18))]) (fun (v18,o19)=>[(1,.map (Bk (O .i64) o19))]) ?_
 rintro ⟨v18,o19⟩ _ _ _ h _ _
 refine Z ?_
 refine Am h (fun _ h=>?_) (fun _ h=>?_)
 refine Z ?_
 refine Bt h (fun _ _ _ _ h=>?_)
 refine Z ?_
 refine Bb [3,1,2] h (fun _ h=>?_)
 exact Y
 exact Y
instance {a0:Int}:OK (Ajn a0) fun r=>Ar Tryz.prog 102 [(.val (.pointer none)),(O .i64) a0] (Dw r):=⟨fun {r} h=>by
 refine pw C0 Tryz.func102 ?_
 exact Y⟩
instance {a0:Int}:OK (Ael a0) fun r=>Ar Tryz.prog 49 [(.val (.pointer none)),(O .i64) a0] (Ao r):=⟨fun {r} h=>by
 refine pw C0 Tryz.func49 ?_
 exact Y⟩
instance {a0:Dk}:OK (Ajo a0) fun r=>Bw Tryz.prog 113 [G2 a0,(.loc 0 0)] [.cells 78 [(.val (.pointer none))]] (Ao r) [.cells 78 [(.val (.pointer none))]]:=⟨fun {r} h=>by
 refine aw C0 true Tryz.func113 ?_
 refine Z ?_
 refine Be h (fun _ h=>?_)
 refine Z ?_
 refine Fh h (fun _ h=>?_) (fun _ h=>?_)
 exact Y
 refine Z ?_
 refine Be h (fun _ h=>?_)
 refine Z ?_
 refine Ac7.mk 3 (by kernel_rfl) ?_
 exact Y⟩
instance {a0:List Dk}:OK (Ajp a0) fun r=>Bw Tryz.prog 193 [(Au 2 G2) a0,(.fn 113 [(.loc 0 0)])] [.cells 78 [(.val (.pointer none))]] ((O .i64) r) [.cells 78 [(.val (.pointer none))]]:=⟨fun {r} h=>by
 refine aw C0 true Tryz.func193 ?_
 refine Z ?_
 refine A3 h (fun v3=>[(4,(O .i64 0)),(8,(O .i64 v3))]) (fun v3=>[]) ?_
 rintro v3 _ _ _ h _ _
 refine Z ?_
 refine Am h (fun _ h=>?_) (fun _ h=>?_)
 refine Z ?_
 refine Bt h (fun _ _ _ _ h=>?_)
 refine Z ?_
 refine Bb [0] h (fun _ h=>?_)
 exact Y
 exact Y⟩
instance {a0:List Dk}:OK (Ajq a0) fun r=>Bw Tryz.prog 112 [(Au 2 G2) a0,(.fn 113 [(.loc 0 0)])] [.cells 78 [(.val (.pointer none))]] (Ao r) [.cells 78 [(.val (.pointer none))]]:=⟨fun {r} h=>by
 refine aw C0 true Tryz.func112 ?_
 refine Z ?_
 refine Bb [0] h (fun _ h=>?_)
 exact Y⟩
instance {a0:Ca}:OK (Ajr a0) fun r=>Ar Tryz.prog 57 [(.val (.pointer none)),Gk a0] (Ao r):=⟨fun {r} h=>by
 refine pw C0 Tryz.func57 ?_
 refine Z ?_
 refine Bb [0] h (fun _ h=>?_)
 exact Y⟩
instance  : OK (S4) fun r=>Bw Tryz.prog 74 [] [] (.loc 1 0) [.map (Bk (O .i64) r.1),.cells 172 [(.mp 0),(.arr 2 r.2.length 0 r.2.length)],.rows 61 5 (List.map Bv r.2)]:=⟨fun {r} h=>by
 refine aw C0 true Tryz.func74 ?_
 refine ZS ?_
 refine B1 ?_
 refine ZS ?_
 refine B1 ?_
 refine ZO ?_
 refine Db [.own 3 1 61 5] ?_
 exact Y⟩
instance {a0:Ca} {a1:Int}:OK (Qp a0 a1) fun r=>Ar Tryz.prog 181 [Gk a0,(O .i64) a1] ((Au 3 Dc) r):=⟨fun {r} h=>by
 refine pw {T:=Cf,an:=(fun _=>.ask),nl:=(fun s=>bif Nat.beq s 4 then [(0,3)] else [])} Tryz.func181 ?_
 exact Y⟩
instance {a0:Int}:OK (Qh a0) fun r=>Ar Tryz.prog 126 [(O .i64) a0] ((Au 1 (O .u32)) r):=⟨fun {r} h=>by
 refine pw {T:=Cf,an:=(fun _=>.ask),nl:=(fun s=>bif Nat.beq s 2 then [(0,1)] else [])} Tryz.func126 ?_
 exact Y⟩
instance {a0:Int}:OK (Fz a0) fun r=>Ar Tryz.prog 70 [(O .i64) a0] (B9 r):=⟨fun {r} h=>by
 refine pw C0 Tryz.func70 ?_
 exact Y⟩
instance {a0 a1:List Int}:OK (Mz a0 a1) fun r=>Ar Tryz.prog 87 [(Au 1 (O .u32)) a0,(Au 1 (O .u32)) a1] ((Au 1 (O .u32)) r):=⟨fun {r} h=>by
 refine pw {T:=Cf,an:=(fun _=>.ask),nl:=(fun s=>bif Nat.beq s 4 then [(0,1)] else [])} Tryz.func87 ?_
 refine ZS ?_
 refine B1 ?_
 refine ZO ?_
 refine As (As ?_)
 refine Bx h (fun v1=>[(17,(Ao v1))]) (fun v1=>[]) ?_ ?_
 intro _ h _ _ _
 exact Y
 rintro v1 _ h
 refine Am h (fun _ h=>?_) (fun _ h=>?_)
 exact Y
 refine Z ?_
 refine G3 h (fun o2 h=>?_)
 refine Z ?_
 refine Ff h (fun (v23,o24)=>[(26,(O .i64 v23))]) (fun (v23,o24)=>[(0,.rows 106 1 (List.map (O .u32) o24))]) (fun (v23,o24)=>o2.length=o24.length) ?_
 rintro ⟨v23,o24⟩ _ _ _ h _ _ q24
 refine Z ?_
 refine Am h (fun _ h=>?_) (fun _ h=>?_)
 refine Z ?_
 refine Ff h (fun (v31,v32,o33)=>[(7,(O .u64 v31)),(31,(O .i64 v32))]) (fun (v31,v32,o33)=>[(0,.rows 106 1 (List.map (O .u32) o33))]) (fun (v31,v32,o33)=>o2.length=o33.length) ?_
 rintro ⟨v31,v32,o33⟩ _ _ _ h _ _ q33
 exact Y
 replace h:=Cj h
 refine E8 (E6 rfl (As ?_))
 refine Db [.fz 5] ?_
 exact Y⟩
instance {a0 a1:Aq}:OK (H7 a0 a1) fun r=>Ar Tryz.prog 131 [B9 a0,B9 a1] (B9 r):=⟨fun {r} h=>by
 refine pw C0 Tryz.func131 ?_
 exact Y⟩
instance {a0 a1:Int}:OK (Q6 a0 a1) fun r=>Ar Tryz.prog 351 [(O .i64) a0,(O .i64) a1] (B9 r):=⟨fun {r} h=>by
 refine pw C0 Tryz.func351 ?_
 exact Y⟩
instance {a0 a1:Int}:OK (Ts a0 a1) fun r=>Ar Tryz.prog 302 [(O .i64) a0,(O .i64) a1] (B9 r):=⟨fun {r} h=>by
 refine pw C0 Tryz.func302 ?_
 refine Z ?_
 refine Be h (fun _ h=>?_)
 refine Z ?_
 refine A3 h (fun (v7,v8,v9,v10)=>[(9,(O .i64 v7))]) (fun (v7,v8,v9,v10)=>[(1,.cells 39 [(Ao v8),(.sl 1 (List.map (O .u32) v9)),(.sl 1 (List.map (O .u32) v10))])]) ?_
 rintro ⟨v7,v8,v9,v10⟩ _ _ _ h _ _
 exact Y⟩
instance {a0 a1:Int}:OK (M9 a0 a1) fun r=>Ar Tryz.prog 242 [(O .i64) a0,(O .i64) a1] (.tup [B9 r.1,Ao r.2]):=⟨fun {r} h=>by
 refine pw C0 Tryz.func242 ?_
 refine ZS ?_
 refine B1 ?_
 refine ZO ?_
 refine As (As ?_)
 refine Bx h (fun v2=>[(11,(Ao v2))]) (fun v2=>[]) ?_ ?_
 intro _ h _ _ _
 exact Y
 rintro v2 _ h
 exact Y⟩
instance {a0:List Aq}:OK (Mb a0) fun r=>Ar Tryz.prog 303 [(Au 3 B9) a0] ((Au 3 B9) r):=⟨fun {r} h=>by
 refine pw {T:=Cf,an:=(fun _=>.ask),nl:=(fun s=>bif Nat.beq s 2 then [(0,3)] else [])} Tryz.func303 ?_
 refine Z ?_
 refine A3 h (fun v3=>[(3,(O .i64 v3))]) (fun v3=>[]) ?_
 rintro v3 _ _ _ h _ _
 refine Z ?_
 refine Fh h (fun _ h=>?_) (fun _ h=>?_)
 refine Z ?_
 refine Bt h (fun _ _ _ _ h=>?_)
 refine Z ?_
 refine Be h (fun _ h=>?_)
 refine Z ?_
 refine Am h (fun _ h=>?_) (fun _ h=>?_)
 exact Y
 replace h:=Cj h
 refine Z ?_
 refine Su (f:=B9) (z:=((Aq.mk false [] []):Aq)) (by repeat (first | exact Fp.nil | apply Fp.sl | apply Fp.same)) h (fun o7 h=>?_)
 refine Z ?_
 refine Ff h (fun (v12,o13)=>[(25,(O .i64 v12))]) (fun (v12,o13)=>[(0,.rows 39 3 (List.map B9 o13))]) (fun (v12,o13)=>o7.length=o13.length) ?_
 rintro ⟨v12,o13⟩ _ _ _ h _ _ q13
 exact Y
 replace h:=Cj h
 refine Z ?_
 refine Su (f:=B9) (z:=((Aq.mk false [] []):Aq)) (by repeat (first | exact Fp.nil | apply Fp.sl | apply Fp.same)) h (fun o7 h=>?_)
 refine Z ?_
 refine Ff h (fun (v12,o13)=>[(25,(O .i64 v12))]) (fun (v12,o13)=>[(0,.rows 39 3 (List.map B9 o13))]) (fun (v12,o13)=>o7.length=o13.length) ?_
 rintro ⟨v12,o13⟩ _ _ _ h _ _ q13
 exact Y⟩
instance {a0 a1:List Int}:OK (Wr a0 a1) fun r=>Ar Tryz.prog 257 [(Au 1 (O .u32)) a0,(Au 1 (O .u32)) a1] ((Au 1 (O .u32)) r):=⟨fun {r} h=>by
 refine pw {T:=Cf,an:=(fun _=>.ask),nl:=(fun s=>bif Nat.beq s 4 then [(0,1)] else [])} Tryz.func257 ?_
 refine ZS ?_
 refine B1 ?_
 refine ZS ?_
 refine B1 ?_
 refine ZO ?_
 refine Bx h (fun (v1,v2)=>[(0,(.sl 1 (List.map (O .u32) v1))),(1,(.sl 1 (List.map (O .u32) v2)))]) (fun (v1,v2)=>[]) ?_ ?_
 intro _ h _ _ _
 exact Y
 rintro ⟨v1,v2⟩ _ h
 refine Z ?_
 refine G3 h (fun _ h=>?_)
 refine Z ?_
 refine A3 h (fun (v20,v21,o22)=>[(5,(.arr 0 o22.length 0 o22.length)),(6,(O .u32 v20)),(22,(O .i64 v21))]) (fun (v20,v21,o22)=>[(0,.rows 106 1 (List.map (O .u32) o22))]) ?_
 rintro ⟨v20,v21,o22⟩ _ _ _ h _ _
 refine Z ?_
 refine Am h (fun _ h=>?_) (fun _ h=>?_)
 refine Z ?_
 refine Bt h (fun _ _ _ _ h=>?_)
 refine ZS ?_
 refine B1 ?_
 refine ZO ?_
 refine Bx h (fun v25=>[(8,(O .u32 v25))]) (fun v25=>[]) ?_ ?_
 intro _ h _ _ _
 exact Y
 rintro v25 _ h
 exact Y
 exact Y⟩
instance {a0 a1:List Int}:OK (Tq a0 a1) fun r=>Ar Tryz.prog 258 [(Au 1 (O .u32)) a0,(Au 1 (O .u32)) a1] ((Au 1 (O .u32)) r):=⟨fun {r} h=>by
 refine pw {T:=Cf,an:=(fun _=>.ask),nl:=(fun s=>bif Nat.beq s 4 then [(0,1)] else [])} Tryz.func258 ?_
 refine Z ?_
 refine G3 h (fun _ h=>?_)
 refine Z ?_
 refine A3 h (fun (v8,v9,o10)=>[(5,(.arr 0 o10.length 0 o10.length)),(6,(O .i64 v8)),(14,(O .i64 v9))]) (fun (v8,v9,o10)=>[(0,.rows 106 1 (List.map (O .u32) o10))]) ?_
 rintro ⟨v8,v9,o10⟩ _ _ _ h _ _
 refine Z ?_
 refine Am h (fun _ h=>?_) (fun _ h=>?_)
 refine Z ?_
 refine Bt h (fun _ _ _ _ h=>?_)
 refine ZS ?_
 refine B1 ?_
 refine ZO ?_
 refine Bx h (fun v13=>[(8,(O .i64 v13))]) (fun v13=>[]) ?_ ?_
 intro _ h _ _ _
 exact Y
 rintro v13 _ h
 exact Y
 replace h:=Cj h
 refine E8 (E6 rfl (As ?_))
 refine Db [.fz 5] ?_
 exact Y⟩
instance {a0 a1:Ge}:OK (Zs a0 a1) fun r=>Ar Tryz.prog 209 [Ow a0,Ow a1] (Ow r):=⟨fun {r} h=>by
 refine pw C0 Tryz.func209 ?_
 exact Y⟩
instance {a0 a1:Aq}:OK (M3 a0 a1) fun r=>Ar Tryz.prog 130 [B9 a0,B9 a1] (B9 r):=⟨fun {r} h=>by
 refine pw C0 Tryz.func130 ?_
 exact Y⟩
instance {a0 a1 b0:Aq}:OK (Wt a0 a1 b0) fun r=>Bw Tryz.prog 306 [B9 a0,B9 a1,(.loc 0 0)] [.cells 39 [(Ao b0.Neg),(.sl 1 (List.map (O .u32) b0.Num)),(.sl 1 (List.map (O .u32) b0.Den))]] (B9 r) [.cells 39 [(Ao b0.Neg),(.sl 1 (List.map (O .u32) b0.Num)),(.sl 1 (List.map (O .u32) b0.Den))]]:=⟨fun {r} h=>by
 refine aw C0 true Tryz.func306 ?_
 exact Y⟩
instance {a0 a1:List Aq} {b0:Aq}:OK (Q4 a0 a1 b0) fun r=>Bw Tryz.prog 304 [(Au 3 B9) a0,(Au 3 B9) a1,(.fn 306 [(.loc 0 0)])] [.cells 39 [(Ao b0.Neg),(.sl 1 (List.map (O .u32) b0.Num)),(.sl 1 (List.map (O .u32) b0.Den))]] ((Au 3 B9) r) [.cells 39 [(Ao b0.Neg),(.sl 1 (List.map (O .u32) b0.Num)),(.sl 1 (List.map (O .u32) b0.Den))]]:=⟨fun {r} h=>by
 refine aw {T:=Cf,an:=(fun _=>.ask),nl:=(fun s=>bif Nat.beq s 6 then [(0,3)] else [])} true Tryz.func304 ?_
 refine Z ?_
 refine Su (f:=B9) (z:=((Aq.mk false [] []):Aq)) (by repeat (first | exact Fp.nil | apply Fp.sl | apply Fp.same)) h (fun o1 h=>?_)
 refine Z ?_
 refine Ff h (fun (v15,o16)=>[(19,(O .i64 v15))]) (fun (v15,o16)=>[(1,.rows 39 3 (List.map B9 o16))]) (fun (v15,o16)=>o1.length=o16.length) ?_
 rintro ⟨v15,o16⟩ _ _ _ h _ _ q16
 refine Z ?_
 refine Am h (fun _ h=>?_) (fun _ h=>?_)
 refine ZS ?_
 refine B1 ?_
 refine ZS ?_
 refine B1 ?_
 refine ZO ?_
 refine As (As ?_)
 refine Db [.nil 9 1 1,.nil 9 2 1,.nil 10 1 1,.nil 10 2 1] ?_
 refine ZS ?_
 refine B1 ?_
 refine ZO ?_
 refine Bx h (fun (v20,v21,v22)=>[]) (fun (v20,v21,v22)=>[(2,.cells 39 [(Ao v20),(.sl 1 (List.map (O .u32) v21)),(.sl 1 (List.map (O .u32) v22))])]) ?_ ?_
 intro _ h _ _ _
 exact Y
 rintro ⟨v20,v21,v22⟩ _ h
 refine ZS ?_
 refine B1 ?_
 refine ZO ?_
 refine Bx h (fun (v24,v25,v26)=>[]) (fun (v24,v25,v26)=>[(3,.cells 39 [(Ao v24),(.sl 1 (List.map (O .u32) v25)),(.sl 1 (List.map (O .u32) v26))])]) ?_ ?_
 intro _ h _ _ _
 exact Y
 rintro ⟨v24,v25,v26⟩ _ h
 refine Z ?_
 refine Bb [0] h (fun _ h=>?_)
 exact Y
 exact Y⟩
instance {a0 a1:Int}:OK (Aaa a0 a1) fun r=>Ar Tryz.prog 302 [(O .i64) a0,(O .i64) a1] (B9 r):=⟨fun {r} h=>by
 refine pw C0 Tryz.func302 ?_
 refine Z ?_
 refine Be h (fun _ h=>?_)
 refine Z ?_
 refine A3 h (fun (v7,v8,v9,v10)=>[(9,(O .i64 v7))]) (fun (v7,v8,v9,v10)=>[(1,.cells 39 [(Ao v8),(.sl 1 (List.map (O .u32) v9)),(.sl 1 (List.map (O .u32) v10))])]) ?_
 rintro ⟨v7,v8,v9,v10⟩ _ _ _ h _ _
 exact Y⟩
instance {a0:Int}:OK (W1 a0) fun r=>Bw Tryz.prog 352 [(O .i64) a0] [] (.arr 0 r.length 0 r.length) [.rows 39 3 (List.map B9 r)]:=⟨fun {r} h=>by
 refine aw {T:=Cf,an:=(fun _=>.ask),nl:=(fun s=>bif Nat.beq s 2 then [(0,3)] else [])} false Tryz.func352 ?_
 refine Z ?_
 refine Su (f:=B9) (z:=((Aq.mk false [] []):Aq)) (by repeat (first | exact Fp.nil | apply Fp.sl | apply Fp.same)) h (fun o1 h=>?_)
 refine Z ?_
 refine Ff h (fun (v5,o6)=>[(9,(O .i64 v5))]) (fun (v5,o6)=>[(0,.rows 39 3 (List.map B9 o6))]) (fun (v5,o6)=>o1.length=o6.length) ?_
 rintro ⟨v5,o6⟩ _ _ _ h _ _ q6
 refine Z ?_
 refine Am h (fun _ h=>?_) (fun _ h=>?_)
 exact Y
 replace h:=Cj h
 refine Z ?_
 cases h
 exact ⟨congrArg (fun q_=>AV.arr 0 q_ 0 q_) q6,rfl,trivial⟩⟩
instance {a0 a1:Int}:OK (Tt a0 a1) fun r=>Ar Tryz.prog 305 [(O .i64) a0,(O .i64) a1] ((Au 3 B9) r):=⟨fun {r} h=>by
 refine pw {T:=Cf,an:=(fun _=>.ask),nl:=(fun s=>bif Nat.beq s 4 then [(0,3)] else [])} Tryz.func305 ?_
 refine Z ?_
 refine Bb [] h (fun v1 h=>?_)
 refine Z ?_
 refine Ff h (fun (v7,o8)=>[(6,(O .i64 v7))]) (fun (v7,o8)=>[(0,.rows 39 3 (List.map B9 o8))]) (fun (v7,o8)=>v1.length=o8.length) ?_
 rintro ⟨v7,o8⟩ _ _ _ h _ _ q8
 exact Y⟩
instance {a0 a1:List Aq}:OK (Wo a0 a1) fun r=>Ar Tryz.prog 243 [(Au 3 B9) a0,(Au 3 B9) a1] (.tup [(Au 3 B9) r.1,Ao r.2]):=⟨fun {r} h=>by
 refine pw {T:=Cf,an:=(fun _=>.ask),nl:=(fun s=>bif Nat.beq s 6 then [(0,3)] else bif Nat.beq s 4 then [(0,3)] else [])} Tryz.func243 ?_
 refine ZS ?_
 refine B1 ?_
 refine ZO ?_
 refine As (As ?_)
 refine Bx h (fun v1=>[(19,(Ao v1))]) (fun v1=>[]) ?_ ?_
 intro _ h _ _ _
 exact Y
 rintro v1 _ h
 refine Am h (fun _ h=>?_) (fun _ h=>?_)
 exact Y
 refine Z ?_
 refine Be h (fun _ h=>?_)
 refine Z ?_
 refine Be h (fun _ h=>?_)
 refine ZO ?_
 refine As (As ?_)
 refine Bx h (fun v4=>[(31,(Ao v4))]) (fun v4=>[]) ?_ ?_
 intro _ h _ _ _
 exact Y
 rintro v4 _ h
 refine Am h (fun _ h=>?_) (fun _ h=>?_)
 exact Y
 refine Z ?_
 refine Am h (fun _ h=>?_) (fun _ h=>?_)
 exact Y
 refine Z ?_
 refine A3 h (fun (v25,v26)=>[(6,(.sl 3 (List.map B9 v25))),(40,(O .i64 v26))]) (fun (v25,v26)=>[]) ?_
 rintro ⟨v25,v26⟩ _ _ _ h _ _
 refine Z ?_
 refine Am h (fun _ h=>?_) (fun _ h=>?_)
 refine Z ?_
 refine Bt h (fun _ _ _ _ h=>?_)
 refine Z ?_
 refine A3 h (fun (v36,v37)=>[(6,(.sl 3 (List.map B9 v36))),(47,(O .i64 v37))]) (fun (v36,v37)=>[]) ?_
 rintro ⟨v36,v37⟩ _ _ _ h _ _
 refine Z ?_
 refine Am h (fun _ h=>?_) (fun _ h=>?_)
 refine Z ?_
 refine Bt h (fun _ _ _ _ h=>?_)
 refine Z ?_
 refine Be h (fun _ h=>?_)
 refine Z ?_
 refine Be h (fun _ h=>?_)
 refine Z ?_
 refine Am h (fun _ h=>?_) (fun _ h=>?_)
 exact Y
 refine Z ?_
 refine Be h (fun _ h=>?_)
 refine Z ?_
 refine Bb [2] h (fun _ h=>?_)
 exact Y
 exact Y
 exact Y⟩
theorem Aur {a0:List Ba} {r:(List Aq)} (h:Aab a0=some r):Ar Tryz.prog 180 [(Au 3 Dc) a0] ((Au 3 B9) r):=by
 refine pw {T:=Cf,an:=(fun s=>bif Nat.beq s 10 then .own else .ask),nl:=(fun s=>bif Nat.beq s 2 then [(0,3)] else [])} Tryz.func180 ?_
 refine Z ?_
 refine Be h (fun _ h=>?_)
 refine Z ?_
 refine Ff h (fun (v14,o15)=>[(3,(.arr 0 1 0 1)),(13,(O .i64 v14))]) (fun (v14,o15)=>[(0,.rows 39 3 (List.map B9 o15))]) (fun (v14,o15)=>1=o15.length) ?_
 rintro ⟨v14,o15⟩ _ _ _ h _ _ q15
 refine Z ?_
 refine Am h (fun _ h=>?_) (fun _ h=>?_)
 refine Z ?_
 refine Bt h (fun _ _ _ _ h=>?_)
 refine Z ?_
 refine Am h (fun _ h=>?_) (fun _ h=>?_)
 exact Y
 refine Z ?_
 refine Su (f:=B9) (z:=((Aq.mk false [] []):Aq)) (by repeat (first | exact Fp.nil | apply Fp.sl | apply Fp.same)) h (fun o23 h=>?_)
 exact Y
 exact Y
theorem Aus {a0:List Ba} {r:(List Aq)} (h:Aac a0=some r):Ar Tryz.prog 180 [(Au 3 Dc) a0] ((Au 3 B9) r):=by
 refine pw {T:=Cf,an:=(fun _=>.ask),nl:=(fun s=>bif Nat.beq s 2 then [(0,3)] else [])} Tryz.func180 ?_
 refine Z ?_
 refine Be h (fun _ h=>?_)
 refine Z ?_
 refine A3 h (fun (v9,v10)=>[(3,(.sl 3 (List.map B9 v9))),(13,(O .i64 v10))]) (fun (v9,v10)=>[]) ?_
 rintro ⟨v9,v10⟩ _ _ _ h _ _
 refine Z ?_
 refine Am h (fun _ h=>?_) (fun _ h=>?_)
 refine Z ?_
 refine Bt h (fun _ v11 _ _ h=>?_)
 refine Z ?_
 refine Am h (fun _ h=>?_) (fun _ h=>?_)
 exact Y
 refine Z ?_
 refine Su (f:=B9) (z:=((Aq.mk false [] []):Aq)) (by repeat (first | exact Fp.nil | apply Fp.sl | apply Fp.same)) h (fun o13 h=>?_)
 refine Z ?_
 refine Be h (fun v15 h=>?_)
 refine Z ?_
 refine Hs h (fun _ _ hiv16 _ h=>?_)
 refine Z ?_
 refine H6 (f:=B9) (x:=v15) (j:=v11.Deg) rfl rfl (Nat.zero_add _) hiv16 ?_
 refine ZO ?_
 refine Db [.fz 8] ?_
 exact Y
 exact Y
instance {a0:List Ba}:OK (Ln a0) fun r=>Ar Tryz.prog 180 [(Au 3 Dc) a0] ((Au 3 B9) r):=⟨fun {r} h=>by
 unfold Ln at h
 cases hv:Aad a0 with
 | true=>rw [hv] at h; exact Aur h
 | false=>rw [hv] at h; exact Aus h⟩
instance {a0:Int} {a1:A9} {b1:List (ByteArray×Int)} {b2:List (ByteArray×(List Co))} {b0_0:List Az} {b0_1:List Ah} {b0_2 b0_3:Int} {b0_4:List Ah}:OK (V6 a0 a1 b1 b2 b0_0 b0_1 b0_2 b0_3 b0_4) fun r=>Bw Tryz.prog 176 [(.loc 0 0),(O .i64) a0,Ev a1] [.cells 143 [(.sl 3 (List.map Cn b0_0)),(.sl 3 (Bl b0_1)),(O .i64 b0_2),(O .i64 b0_3),(.sl 3 (Bl b0_4)),(.mp 1),(.mp 2)],.map (Bk (O .i64) b1),.map (Bk (Au 5 Df) b2)] ((Au 3 De) r.1) [.cells 143 [(.sl 3 (List.map Cn b0_0)),(.sl 3 (Bl b0_1)),(O .i64 b0_2),(O .i64 b0_3),(.sl 3 (Bl b0_4)),(.mp 1),(.mp 2)],.map (Bk (O .i64) r.2),.map (Bk (Au 5 Df) b2)]:=⟨fun {r} h=>by
 refine aw {T:=Cf,an:=(fun _=>.ask),nl:=(fun s=>bif Nat.beq s 6 then [(0,3)] else [])} true Tryz.func176 ?_
 refine Z ?_
 refine Bb [0,1,2] h (fun _ h=>?_)
 exact Y⟩
instance {b0_0:ByteArray}:OK (Aem b0_0) fun r=>Bw Tryz.prog 168 [(.loc 0 0)] [.cells 199 [(.loc 0 0),(.fb b0_0)]] (Dl r) [.cells 199 [(.loc 0 0),(.fb b0_0)]]:=⟨fun {r} h=>by
 exact Aj0 h⟩
instance {b0_0:ByteArray}:OK (Ajs b0_0) fun r=>Bw Tryz.prog 168 [(.loc 0 0)] [.cells 199 [(.val (.pointer none)),(.fb b0_0)]] (Dl r) [.cells 199 [(.val (.pointer none)),(.fb b0_0)]]:=⟨fun {r} h=>by
 exact Aj0 h⟩
instance {b1:List Int}:OK (W8 b1) fun r=>Bw Tryz.prog 168 [(.loc 0 0)] [.cells 199 [(.val (.pointer none)),(.arr 1 b1.length 0 b1.length)],.rows 5 1 (List.map (O .u8) b1)] (Dl r) [.cells 199 [(.val (.pointer none)),(.fb r)],.dead]:=⟨fun {r} h=>by
 exact Ajz h⟩
end Go.Ab
namespace Go.Ab
open Go Go.Proofs
set_option maxRecDepth 10000
set_option maxHeartbeats 4000000
set_option linter.unusedVariables false
instance {a0:List Bh} {b1:List (ByteArray×Int)} {b2:List (ByteArray×(List Co))} {b0_0:List Az} {b0_1:List Ah} {b0_2 b0_3:Int} {b0_4:List Ah}:OK (V5 a0 b1 b2 b0_0 b0_1 b0_2 b0_3 b0_4) fun r=>Bw Tryz.prog 174 [(.loc 0 0),(Au 3 De) a0] [.cells 143 [(.sl 3 (List.map Cn b0_0)),(.sl 3 (Bl b0_1)),(O .i64 b0_2),(O .i64 b0_3),(.sl 3 (Bl b0_4)),(.mp 1),(.mp 2)],.map (Bk (O .i64) b1),.map (Bk (Au 5 Df) b2)] (.tup [(Au 5 Df) r.1,(O .i64) r.2.1]) [.cells 143 [(.sl 3 (List.map Cn b0_0)),(.sl 3 (Bl b0_1)),(O .i64 b0_2),(O .i64 b0_3),(.sl 3 (Bl b0_4)),(.mp 1),(.mp 2)],.map (Bk (O .i64) b1),.map (Bk (Au 5 Df) r.2.2)]:=⟨fun {r} h=>by
 refine aw {T:=Cf,an:=(fun _=>.ask),nl:=(fun s=>bif Nat.beq s 9 then [(0,5)] else bif Nat.beq s 4 then [(0,5)] else [])} true Tryz.func174 ?_
 refine ZS ?_
 refine B1 ?_
 refine ZS ?_
 refine B1 ?_
 refine ZO ?_
 refine As (As ?_)
 refine Db [.own 6 1 5 1] ?_
 refine Z ?_
 refine Sw ?_
 refine Z ?_
 refine Am h (fun _ h=>?_) (fun _ h=>?_)
 refine Z ?_
 refine Bt h (fun _ _ _ _ h=>?_)
 refine Z ?_
 refine Be h (fun _ h=>?_)
 refine Z ?_
 refine Bb [3,4] h (fun _ h=>?_)
 refine Z ?_
 refine A3 h (fun (v17,o18)=>[(18,(O .i64 v17))]) (fun (v17,o18)=>[(3,.cells 199 [(.loc 3 0),(.arr 4 o18.length 0 o18.length)]),(4,.rows 5 1 (List.map (O .u8) o18))]) ?_
 rintro ⟨v17,o18⟩ _ _ _ h _ _
 refine Z ?_
 refine Am h (fun _ h=>?_) (fun _ h=>?_)
 refine Z ?_
 refine Bt h (fun _ _ _ _ h=>?_)
 refine Z ?_
 refine Be h (fun _ h=>?_)
 refine Z ?_
 refine Bb [3,4] h (fun _ h=>?_)
 exact Y
 replace h:=Cj h
 refine E8 (E6 rfl (As (As ?_)))
 refine Bx h (fun (v25,v26,v27)=>[(9,(.sl 5 (List.map Df v25))),(10,(Ao v26))]) (fun (v25,v26,v27)=>[(3,.cells 199 [(.loc 3 0),(.fb v27)]),(4,.dead)]) ?_ ?_
 intro _ h _ _ _
 refine Z ?_
 refine Bb [3,4] h (fun _ h=>?_)
 refine Z ?_
 refine Sv (f:=(Au 5 Df)) (l:=b2) rfl ([]:(List Co)) h (fun j_ hb h=>?_) (fun hb h=>?_)
 exact Y
 exact Y
 rintro ⟨v25,v26,v27⟩ _ h
 refine Z ?_
 refine Am h (fun _ h=>?_) (fun _ h=>?_)
 exact Y
 refine Z ?_
 refine Bt h (fun _ _ _ _ h=>?_)
 refine Z ?_
 refine Bb [0,1,2] h (fun _ h=>?_)
 refine Z ?_
 refine Bt h (fun _ v31 _ _ h=>?_)
 refine Z ?_
 refine Be h (fun v32 h=>?_)
 refine Z ?_
 refine Aae h (fun _ h=>?_)
 refine Z ?_
 refine A3 h (fun _=>[(4,(.sl 5 (List.map Df []))),(5,(O .i64 0)),(12,(.sl 5 (List.map Df [(Co.mk v31.Index v32)]))),(56,(O .i64 0))]) (fun _=>[]) ?_
 rintro _ _ _ _ h _ _
 refine Z ?_
 refine Am h (fun _ h=>?_) (fun _ h=>?_)
 exact Y
 replace h:=Cj h
 refine Z ?_
 refine Bb [3] h (fun _ h=>?_)
 refine Z ?_
 refine P1 (f:=(Au 5 Df)) (l:=b2) (x:=[(Co.mk v31.Index v32)]) rfl rfl ?_
 exact Y
 refine E8 (E6 rfl (As (As ?_)))
 refine Bx h (fun (v39,v40,v41)=>[(9,(.sl 5 (List.map Df v39))),(10,(Ao v40))]) (fun (v39,v40,v41)=>[(3,.cells 199 [(.val (.pointer none)),(.fb v41)]),(4,.dead)]) ?_ ?_
 intro _ h _ _ _
 refine Z ?_
 refine Bb [3,4] h (fun _ h=>?_)
 refine Z ?_
 refine Sv (f:=(Au 5 Df)) (l:=b2) rfl ([]:(List Co)) h (fun j_ hb h=>?_) (fun hb h=>?_)
 exact Y
 exact Y
 rintro ⟨v39,v40,v41⟩ _ h
 refine Z ?_
 refine Am h (fun _ h=>?_) (fun _ h=>?_)
 exact Y
 refine Z ?_
 refine Bt h (fun _ _ _ _ h=>?_)
 refine Z ?_
 refine Bb [0,1,2] h (fun _ h=>?_)
 refine Z ?_
 refine Bt h (fun _ v45 _ _ h=>?_)
 refine Z ?_
 refine Be h (fun v46 h=>?_)
 refine Z ?_
 refine Aae h (fun _ h=>?_)
 refine Z ?_
 refine A3 h (fun _=>[(4,(.sl 5 (List.map Df []))),(5,(O .i64 0)),(12,(.sl 5 (List.map Df [(Co.mk v45.Index v46)]))),(56,(O .i64 0))]) (fun _=>[]) ?_
 rintro _ _ _ _ h _ _
 refine Z ?_
 refine Am h (fun _ h=>?_) (fun _ h=>?_)
 exact Y
 replace h:=Cj h
 refine Z ?_
 refine Bb [3] h (fun _ h=>?_)
 refine Z ?_
 refine P1 (f:=(Au 5 Df)) (l:=b2) (x:=[(Co.mk v45.Index v46)]) rfl rfl ?_
 exact Y⟩
instance {a0:Int}:OK (Z5 a0) fun r=>Bw Tryz.prog 349 [(.val (.slice none 0 0)),(O .i64) a0] [] (.arr 0 r.length 0 r.length) [.rows 91 3 (List.map Dc r)]:=⟨fun {r} h=>by
 exact Auk h⟩
instance {a0:List (List Ba)}:OK (Z1 a0) fun r=>Ar Tryz.prog 299 [(Au 1 (Au 3 Dc)) a0] ((Au 3 Dc) r):=⟨fun {r} h=>by
 refine pw {T:=Cf,an:=(fun _=>.ask),nl:=(fun s=>bif Nat.beq s 2 then [(0,3)] else [])} Tryz.func299 ?_
 refine Z ?_
 refine A3 h (fun (v2,v3)=>[(3,(O .i64 v2)),(11,(O .i64 v3))]) (fun (v2,v3)=>[]) ?_
 rintro ⟨v2,v3⟩ _ _ _ h _ _
 refine Z ?_
 refine Am h (fun _ h=>?_) (fun _ h=>?_)
 exact Y
 replace h:=Cj h
 refine Z ?_
 refine Bb [] h (fun _ h=>?_)
 refine Z ?_
 refine A3 h (fun (v14,o15)=>[(6,(.arr 0 o15.length 0 o15.length)),(27,(O .i64 v14))]) (fun (v14,o15)=>[(0,.rows 91 3 (List.map Dc o15))]) ?_
 rintro ⟨v14,o15⟩ _ _ _ h _ _
 exact Y⟩
instance {a0:Int}:OK (Z4 a0) fun r=>Bw Tryz.prog 348 [(.val (.slice none 0 0)),(O .i64) a0] [] (.arr 0 r.length 0 r.length) [.rows 85 3 (List.map De r)]:=⟨fun {r} h=>by
 exact Auh h⟩
instance {a0:List (List Bh)}:OK (Z0 a0) fun r=>Ar Tryz.prog 298 [(Au 1 (Au 3 De)) a0] ((Au 3 De) r):=⟨fun {r} h=>by
 refine pw {T:=Cf,an:=(fun _=>.ask),nl:=(fun s=>bif Nat.beq s 2 then [(0,3)] else [])} Tryz.func298 ?_
 refine Z ?_
 refine A3 h (fun (v2,v3)=>[(3,(O .i64 v2)),(11,(O .i64 v3))]) (fun (v2,v3)=>[]) ?_
 rintro ⟨v2,v3⟩ _ _ _ h _ _
 refine Z ?_
 refine Am h (fun _ h=>?_) (fun _ h=>?_)
 exact Y
 replace h:=Cj h
 refine Z ?_
 refine Bb [] h (fun _ h=>?_)
 refine Z ?_
 refine A3 h (fun (v14,o15)=>[(6,(.arr 0 o15.length 0 o15.length)),(27,(O .i64 v14))]) (fun (v14,o15)=>[(0,.rows 85 3 (List.map De o15))]) ?_
 rintro ⟨v14,o15⟩ _ _ _ h _ _
 exact Y⟩
instance {a0 a1:A8}:OK (Wn a0 a1) fun r=>Ar Tryz.prog 240 [F0 a0,F0 a1] (F0 r):=⟨fun {r} h=>by
 refine pw C0 Tryz.func240 ?_
 exact Y⟩
instance {a0:Aj} {a1:Aq} {a2:A8}:OK (Lm a0 a1 a2) fun r=>Ar Tryz.prog 175 [Bv a0,B9 a1,F0 a2] (Bv r):=⟨fun {r} h=>by
 refine pw C0 Tryz.func175 ?_
 exact Y⟩
instance {a0:List Ba}:OK (Qo a0) fun r=>Bw Tryz.prog 177 [(Au 3 Dc) a0] [] (.arr 1 r.2.length 0 r.2.length) [.rows 91 3 (List.map Dc r.1),.rows 91 3 (List.map Dc r.2)]:=⟨fun {r} h=>by
 exact At6 h⟩
instance {a0:List Bh}:OK (Qm a0) fun r=>Bw Tryz.prog 171 [(Au 3 De) a0] [] (.arr 1 r.2.length 0 r.2.length) [.rows 85 3 (List.map De r.1),.rows 85 3 (List.map De r.2)]:=⟨fun {r} h=>by
 exact At5 h⟩
instance {a0 a1:Ba}:OK (Th a0 a1) fun r=>Ar Tryz.prog 179 [Dc a0,Dc a1] ((O .i64) r):=⟨fun {r} h=>by
 refine pw C0 Tryz.func179 ?_
 exact Y⟩
instance {a0 a1:Int} {b0:List Ba}:OK (Z2 a0 a1 b0) fun r=>Bw Tryz.prog 300 [(.arr 0 b0.length 0 b0.length),(O .i64) a0,(O .i64) a1,(.fn 179 [])] [.rows 91 3 (List.map Dc b0)] (.tup []) [.rows 91 3 (List.map Dc r)]:=⟨fun {r} h=>by
 refine aw C0 true Tryz.func300 ?_
 refine Z ?_
 refine Ff h (fun (v21,o22)=>[(8,(O .i64 v21))]) (fun (v21,o22)=>[(0,.rows 91 3 (List.map Dc o22))]) (fun (v21,o22)=>b0.length=o22.length) ?_
 rintro ⟨v21,o22⟩ _ _ _ h _ _ q22
 refine Z ?_
 refine Am h (fun _ h=>?_) (fun _ h=>?_)
 refine Z ?_
 refine Ff h (fun (v31,o32)=>[(9,(O .i64 v31))]) (fun (v31,o32)=>[(0,.rows 91 3 (List.map Dc o32))]) (fun (v31,o32)=>b0.length=o32.length) ?_
 rintro ⟨v31,o32⟩ _ _ _ h _ _ q32
 refine As (As ?_)
 refine Bx h (fun v36=>[(34,(Ao v36))]) (fun v36=>[]) ?_ ?_
 intro _ h _ _ _
 exact Y
 rintro v36 _ h
 exact Y
 exact Y⟩
instance {a0:Int} {b0:List Ba}:OK (Zu a0 b0) fun r=>Bw Tryz.prog 241 [(.arr 0 b0.length 0 b0.length),(O .i64) a0,(.fn 179 [])] [.rows 91 3 (List.map Dc b0)] (.tup []) [.rows 91 3 (List.map Dc r)]:=⟨fun {r} h=>by
 refine aw C0 true Tryz.func241 ?_
 refine Z ?_
 refine Ff h (fun (v3,v4,o5)=>[(7,(O .i64 v3)),(8,(O .i64 v4))]) (fun (v3,v4,o5)=>[(0,.rows 91 3 (List.map Dc o5))]) (fun (v3,v4,o5)=>b0.length=o5.length) ?_
 rintro ⟨v3,v4,o5⟩ _ _ _ h _ hn1 q5
 refine Z ?_
 refine Am h (fun _ h=>?_) (fun _ h=>?_)
 refine Z ?_
 refine C9 h (fun v6 hcv6 h=>?_)
 have okv6:=(OK.ok hcv6 :)
 rw [<-q5] at okv6
 refine F6.act [0] _ _ _ _ okv6 rfl rfl ⟨rfl,trivial⟩ ?_
 refine C9 h (fun v7 hgv7 h=>?_)
 refine Z ?_
 exact hn1 _ _ _ _ (Option.some.inj h) ⟨rfl,rfl,trivial⟩ ⟨⟨rfl,rfl⟩,trivial⟩ (Iv hgv7)
 replace h:=Cj h
 refine Z ?_
 refine C9 h (fun v11 hcv11 h=>?_)
 have okv11:=(OK.ok hcv11 :)
 rw [<-q5] at okv11
 refine F6.act [0] _ _ _ _ okv11 rfl rfl ⟨rfl,trivial⟩ ?_
 refine C9 h (fun v12 hgv12 h=>?_)
 refine Z ?_
 refine A3 h (fun (v13,v14,v15)=>[(6,(O .i64 v13)),(7,(O .i64 v14)),(8,(O .i64 v15))]) (fun (v13,v14,v15)=>[]) ?_
 rintro ⟨v13,v14,v15⟩ _ _ _ h _ _
 refine Z ?_
 refine Am h (fun _ h=>?_) (fun _ h=>?_)
 refine Z ?_
 refine A3 h (fun _=>[(7,(O .i64 0)),(8,(O .i64 (Ac (2*v13))))]) (fun _=>[]) ?_
 rintro _ _ _ _ h _ _
 exact Y
 exact Y⟩
instance {b0:List Ba}:OK (Tg b0) fun r=>Bw Tryz.prog 178 [(.arr 0 b0.length 0 b0.length),(.fn 179 [])] [.rows 91 3 (List.map Dc b0)] (.tup []) [.rows 91 3 (List.map Dc r)]:=⟨fun {r} h=>by
 refine aw C0 true Tryz.func178 ?_
 refine Z ?_
 refine Bb [0] h (fun _ h=>?_)
 refine C9 h (fun v2 hgv2 h=>?_)
 exact Y⟩
instance {a0 a1:Bh}:OK (Oi a0 a1) fun r=>Ar Tryz.prog 173 [De a0,De a1] ((O .i64) r):=⟨fun {r} h=>by
 refine pw C0 Tryz.func173 ?_
 exact Y⟩
instance {a0 a1:Int} {b0:List Bh}:OK (Zz a0 a1 b0) fun r=>Bw Tryz.prog 289 [(.arr 0 b0.length 0 b0.length),(O .i64) a0,(O .i64) a1,(.fn 173 [])] [.rows 85 3 (List.map De b0)] (.tup []) [.rows 85 3 (List.map De r)]:=⟨fun {r} h=>by
 refine aw C0 true Tryz.func289 ?_
 refine Z ?_
 refine Ff h (fun (v21,o22)=>[(8,(O .i64 v21))]) (fun (v21,o22)=>[(0,.rows 85 3 (List.map De o22))]) (fun (v21,o22)=>b0.length=o22.length) ?_
 rintro ⟨v21,o22⟩ _ _ _ h _ _ q22
 refine Z ?_
 refine Am h (fun _ h=>?_) (fun _ h=>?_)
 refine Z ?_
 refine Ff h (fun (v31,o32)=>[(9,(O .i64 v31))]) (fun (v31,o32)=>[(0,.rows 85 3 (List.map De o32))]) (fun (v31,o32)=>b0.length=o32.length) ?_
 rintro ⟨v31,o32⟩ _ _ _ h _ _ q32
 refine As (As ?_)
 refine Bx h (fun v36=>[(34,(Ao v36))]) (fun v36=>[]) ?_ ?_
 intro _ h _ _ _
 exact Y
 rintro v36 _ h
 exact Y
 exact Y⟩
instance {a0:Int} {b0:List Bh}:OK (Wm a0 b0) fun r=>Bw Tryz.prog 238 [(.arr 0 b0.length 0 b0.length),(O .i64) a0,(.fn 173 [])] [.rows 85 3 (List.map De b0)] (.tup []) [.rows 85 3 (List.map De r)]:=⟨fun {r} h=>by
 refine aw C0 true Tryz.func238 ?_
 refine Z ?_
 refine Ff h (fun (v3,v4,o5)=>[(7,(O .i64 v3)),(8,(O .i64 v4))]) (fun (v3,v4,o5)=>[(0,.rows 85 3 (List.map De o5))]) (fun (v3,v4,o5)=>b0.length=o5.length) ?_
 rintro ⟨v3,v4,o5⟩ _ _ _ h _ hn1 q5
 refine Z ?_
 refine Am h (fun _ h=>?_) (fun _ h=>?_)
 refine Z ?_
 refine C9 h (fun v6 hcv6 h=>?_)
 have okv6:=(OK.ok hcv6 :)
 rw [<-q5] at okv6
 refine F6.act [0] _ _ _ _ okv6 rfl rfl ⟨rfl,trivial⟩ ?_
 refine C9 h (fun v7 hgv7 h=>?_)
 refine Z ?_
 exact hn1 _ _ _ _ (Option.some.inj h) ⟨rfl,rfl,trivial⟩ ⟨⟨rfl,rfl⟩,trivial⟩ (Iv hgv7)
 replace h:=Cj h
 refine Z ?_
 refine C9 h (fun v11 hcv11 h=>?_)
 have okv11:=(OK.ok hcv11 :)
 rw [<-q5] at okv11
 refine F6.act [0] _ _ _ _ okv11 rfl rfl ⟨rfl,trivial⟩ ?_
 refine C9 h (fun v12 hgv12 h=>?_)
 refine Z ?_
 refine A3 h (fun (v13,v14,v15)=>[(6,(O .i64 v13)),(7,(O .i64 v14)),(8,(O .i64 v15))]) (fun (v13,v14,v15)=>[]) ?_
 rintro ⟨v13,v14,v15⟩ _ _ _ h _ _
 refine Z ?_
 refine Am h (fun _ h=>?_) (fun _ h=>?_)
 refine Z ?_
 refine A3 h (fun _=>[(7,(O .i64 0)),(8,(O .i64 (Ac (2*v13))))]) (fun _=>[]) ?_
 rintro _ _ _ _ h _ _
 exact Y
 exact Y⟩
instance {b0:List Bh}:OK (Oh b0) fun r=>Bw Tryz.prog 172 [(.arr 0 b0.length 0 b0.length),(.fn 173 [])] [.rows 85 3 (List.map De b0)] (.tup []) [.rows 85 3 (List.map De r)]:=⟨fun {r} h=>by
 refine aw C0 true Tryz.func172 ?_
 refine Z ?_
 refine Bb [0] h (fun _ h=>?_)
 refine C9 h (fun v2 hgv2 h=>?_)
 exact Y⟩
instance {a0:Aq} {a1:A8} {b1:List (ByteArray×Int)} {b2:List (ByteArray×(List Co))} {b0_0:List Az} {b0_1:List Ah} {b0_2 b0_3:Int} {b0_4:List Ah}:OK (Qd a0 a1 b1 b2 b0_0 b0_1 b0_2 b0_3 b0_4) fun r=>Bw Tryz.prog 103 [(.loc 0 0),B9 a0,F0 a1] [.cells 143 [(.sl 3 (List.map Cn b0_0)),(.sl 3 (Bl b0_1)),(O .i64 b0_2),(O .i64 b0_3),(.sl 3 (Bl b0_4)),(.mp 1),(.mp 2)],.map (Bk (O .i64) b1),.map (Bk (Au 5 Df) b2)] (.tup [(Au 5 Bv) r.1,(O .i64) r.2.1]) [.cells 143 [(.sl 3 (List.map Cn b0_0)),(.sl 3 (Bl b0_1)),(O .i64 b0_2),(O .i64 b0_3),(.sl 3 (Bl b0_4)),(.mp 1),(.mp 2)],.map (Bk (O .i64) r.2.2.1),.map (Bk (Au 5 Df) r.2.2.2)]:=⟨fun {r} h=>by
 refine aw {T:=Cf,an:=(fun s=>bif Nat.beq s 22 then .own else bif Nat.beq s 14 then .own else .ask),nl:=(fun s=>bif Nat.beq s 155 then [(0,3)] else bif Nat.beq s 92 then [(1,3)] else bif Nat.beq s 31 then [(3,3),(4,3)] else bif Nat.beq s 22 then [(0,5)] else bif Nat.beq s 14 then [(0,5)] else bif Nat.beq s 6 then [(0,5)] else [])} true Tryz.func103 ?_
 refine Z ?_
 refine Be h (fun _ h=>?_)
 refine Z ?_
 refine Am h (fun _ h=>?_) (fun _ h=>?_)
 exact Y
 refine Z ?_
 refine Bb [] h (fun _ h=>?_)
 refine Z ?_
 refine Bb [6] h (fun _ h=>?_)
 refine C9 h (fun v8 hgv8 h=>?_)
 refine ZO ?_
 refine As (Iw ?_)
 refine Db [.fz 9] ?_
 refine Z ?_
 refine A3 h (fun (v105,v106,o107,o108)=>[(6,(.sl 5 (List.map Bv []))),(7,(O .i64 0)),(8,(.sl 5 (List.map Bv v105))),(9,(.sl 3 (List.map De v106)))]) (fun (v105,v106,o107,o108)=>[(1,.map (Bk (O .i64) o107)),(2,.map (Bk (Au 5 Df) o108))]) ?_
 rintro ⟨v105,v106,o107,o108⟩ _ _ _ h _ _
 refine Z ?_
 refine Am h (fun _ h=>?_) (fun _ h=>?_)
 refine Z ?_
 refine Bt h (fun _ _ _ _ h=>?_)
 refine Z ?_
 refine A3 h (fun v111=>[(11,(O .i64 v111))]) (fun v111=>[]) ?_
 rintro v111 _ _ _ h _ _
 refine Z ?_
 refine Fh h (fun _ h=>?_) (fun _ h=>?_)
 refine Z ?_
 refine Bt h (fun _ _ _ _ h=>?_)
 refine Z ?_
 refine Am h (fun _ h=>?_) (fun _ h=>?_)
 exact Y
 replace h:=Cj h
 refine Z ?_
 refine Lq h (fun _ h=>?_)
 refine Z ?_
 refine Bb [0,1,2] h (fun _ h=>?_)
 refine Z ?_
 refine Am h (fun _ h=>?_) (fun _ h=>?_)
 exact Y
 refine Z ?_
 refine A3 h (fun (v172,o173,o174)=>[(14,(.arr 7 o174.length 0 o174.length)),(73,(O .i64 v172))]) (fun (v172,o173,o174)=>[(1,.map (Bk (O .i64) o173)),(7,.rows 61 5 (List.map Bv o174))]) ?_
 rintro ⟨v172,o173,o174⟩ _ _ _ h _ _
 refine Z ?_
 refine Am h (fun _ h=>?_) (fun _ h=>?_)
 refine Z ?_
 refine Bt h (fun _ _ _ _ h=>?_)
 refine Z ?_
 refine A3 h (fun (v190,o191,o192)=>[(14,(.arr 7 o192.length 0 o192.length)),(79,(O .i64 v190))]) (fun (v190,o191,o192)=>[(1,.map (Bk (O .i64) o191)),(7,.rows 61 5 (List.map Bv o192))]) ?_
 rintro ⟨v190,o191,o192⟩ _ _ _ h _ _
 refine Z ?_
 refine Am h (fun _ h=>?_) (fun _ h=>?_)
 refine Z ?_
 refine Bt h (fun _ _ _ _ h=>?_)
 refine Z ?_
 refine Bb [0,1,2] h (fun _ h=>?_)
 exact Y
 exact Y
 replace h:=Cj h
 refine E8 (E6 rfl ?_)
 refine Db [.fz 14] ?_
 exact Y
 replace h:=Cj h
 refine Z ?_
 refine Lq h (fun _ h=>?_)
 refine Z ?_
 refine Bb [0,1,2] h (fun _ h=>?_)
 refine Z ?_
 refine Am h (fun _ h=>?_) (fun _ h=>?_)
 exact Y
 refine Z ?_
 refine A3 h (fun (v172,o173,o174)=>[(14,(.arr 7 o174.length 0 o174.length)),(73,(O .i64 v172))]) (fun (v172,o173,o174)=>[(1,.map (Bk (O .i64) o173)),(7,.rows 61 5 (List.map Bv o174))]) ?_
 rintro ⟨v172,o173,o174⟩ _ _ _ h _ _
 refine Z ?_
 refine Am h (fun _ h=>?_) (fun _ h=>?_)
 refine Z ?_
 refine Bt h (fun _ _ _ _ h=>?_)
 refine Z ?_
 refine A3 h (fun (v190,o191,o192)=>[(14,(.arr 7 o192.length 0 o192.length)),(79,(O .i64 v190))]) (fun (v190,o191,o192)=>[(1,.map (Bk (O .i64) o191)),(7,.rows 61 5 (List.map Bv o192))]) ?_
 rintro ⟨v190,o191,o192⟩ _ _ _ h _ _
 refine Z ?_
 refine Am h (fun _ h=>?_) (fun _ h=>?_)
 refine Z ?_
 refine Bt h (fun _ _ _ _ h=>?_)
 refine Z ?_
 refine Bb [0,1,2] h (fun _ h=>?_)
 exact Y
 exact Y
 replace h:=Cj h
 refine E8 (E6 rfl ?_)
 refine Db [.fz 14] ?_
 exact Y
 replace h:=Cj h
 refine Z ?_
 refine Bb [] h (fun _ h=>?_)
 refine Z ?_
 refine Bb [8] h (fun _ h=>?_)
 refine C9 h (fun v216 hgv216 h=>?_)
 refine ZO ?_
 refine As (Iw ?_)
 refine Db [.fz 19] ?_
 refine Z ?_
 refine A3 h (fun (v307,v308)=>[(8,(.sl 5 (List.map Bv v307))),(19,(.sl 3 (List.map Dc v308)))]) (fun (v307,v308)=>[]) ?_
 rintro ⟨v307,v308⟩ _ _ _ h _ _
 refine Z ?_
 refine Am h (fun _ h=>?_) (fun _ h=>?_)
 refine Z ?_
 refine Bt h (fun _ _ _ _ h=>?_)
 refine Z ?_
 refine A3 h (fun v313=>[(21,(O .i64 v313))]) (fun v313=>[]) ?_
 rintro v313 _ _ _ h _ _
 refine Z ?_
 refine Fh h (fun _ h=>?_) (fun _ h=>?_)
 refine Z ?_
 refine Bt h (fun _ _ _ _ h=>?_)
 refine Z ?_
 refine Be h (fun _ h=>?_)
 refine Z ?_
 refine Am h (fun _ h=>?_) (fun _ h=>?_)
 exact Y
 replace h:=Cj h
 refine Z ?_
 refine Lq h (fun _ h=>?_)
 refine Z ?_
 refine Be h (fun _ h=>?_)
 refine Z ?_
 refine A3 h (fun (v370,o371)=>[(22,(.arr 10 o371.length 0 o371.length)),(135,(O .i64 v370))]) (fun (v370,o371)=>[(10,.rows 61 5 (List.map Bv o371))]) ?_
 rintro ⟨v370,o371⟩ _ _ _ h _ _
 refine Z ?_
 refine Am h (fun _ h=>?_) (fun _ h=>?_)
 refine Z ?_
 refine Bt h (fun _ _ _ _ h=>?_)
 refine Z ?_
 refine Be h (fun _ h=>?_)
 refine Z ?_
 refine Am h (fun _ h=>?_) (fun _ h=>?_)
 exact Y
 refine Z ?_
 refine A3 h (fun (v387,o388)=>[(22,(.arr 10 o388.length 0 o388.length)),(145,(O .i64 v387))]) (fun (v387,o388)=>[(10,.rows 61 5 (List.map Bv o388))]) ?_
 rintro ⟨v387,o388⟩ _ _ _ h _ _
 exact Y
 replace h:=Cj h
 refine E8 (E6 rfl ?_)
 refine Db [.fz 22] ?_
 exact Y
 replace h:=Cj h
 refine Z ?_
 refine Lq h (fun _ h=>?_)
 refine Z ?_
 refine Be h (fun _ h=>?_)
 refine Z ?_
 refine A3 h (fun (v370,o371)=>[(22,(.arr 10 o371.length 0 o371.length)),(135,(O .i64 v370))]) (fun (v370,o371)=>[(10,.rows 61 5 (List.map Bv o371))]) ?_
 rintro ⟨v370,o371⟩ _ _ _ h _ _
 refine Z ?_
 refine Am h (fun _ h=>?_) (fun _ h=>?_)
 refine Z ?_
 refine Bt h (fun _ _ _ _ h=>?_)
 refine Z ?_
 refine Be h (fun _ h=>?_)
 refine Z ?_
 refine Am h (fun _ h=>?_) (fun _ h=>?_)
 exact Y
 refine Z ?_
 refine A3 h (fun (v387,o388)=>[(22,(.arr 10 o388.length 0 o388.length)),(145,(O .i64 v387))]) (fun (v387,o388)=>[(10,.rows 61 5 (List.map Bv o388))]) ?_
 rintro ⟨v387,o388⟩ _ _ _ h _ _
 exact Y
 replace h:=Cj h
 refine E8 (E6 rfl ?_)
 refine Db [.fz 22] ?_
 exact Y
 exact Y⟩
theorem Akv {a0:Int} {a1:Bool} {b1:List Int} {r:(Int×(List Int))} (h:Qx a0 a1 b1=some (.inl r)):Bw Tryz.prog 255 [(.loc 0 0),(O .i64) a0,Ao a1] [.cells 199 [(.val (.pointer none)),(.arr 1 b1.length 0 b1.length)],.rows 5 1 (List.map (O .u8) b1)] ((O .i64) r.1) [.cells 199 [(.loc 0 0),(.arr 1 r.2.length 0 r.2.length)],.rows 5 1 (List.map (O .u8) r.2)]:=by
 refine aw C0 true Tryz.func255 ?_
 refine ZS ?_
 refine B1 ?_
 refine ZO ?_
 refine As (Iw (As ?_))
 refine Bx h (fun v1=>[(7,(Ao v1))]) (fun v1=>[]) ?_ ?_
 intro _ h _ _ _
 exact Y
 rintro v1 _ h
 refine Am h (fun _ h=>?_) (fun _ h=>?_)
 refine Z ?_
 refine Bb [0,1] h (fun _ h=>?_)
 exact Y
 refine Z ?_
 refine Am h (fun _ h=>?_) (fun _ h=>?_)
 refine Z ?_
 refine Bb [0,1] h (fun _ h=>?_)
 exact Y
 refine Z ?_
 refine Am h (fun _ h=>?_) (fun _ h=>?_)
 refine Z ?_
 refine Bb [0,1] h (fun _ h=>?_)
 exact Y
 exact Y
theorem Akw {a0:Int} {a1:Bool} {b1:List Int} {r:(Int×(List Int))} (h:Qx a0 a1 b1=some (.inr r)):Bw Tryz.prog 255 [(.loc 0 0),(O .i64) a0,Ao a1] [.cells 199 [(.val (.pointer none)),(.arr 1 b1.length 0 b1.length)],.rows 5 1 (List.map (O .u8) b1)] ((O .i64) r.1) [.cells 199 [(.val (.pointer none)),(.arr 1 r.2.length 0 r.2.length)],.rows 5 1 (List.map (O .u8) r.2)]:=by
 refine aw C0 true Tryz.func255 ?_
 refine ZS ?_
 refine B1 ?_
 refine ZO ?_
 refine As (Iw (As ?_))
 refine Bx h (fun v1=>[(7,(Ao v1))]) (fun v1=>[]) ?_ ?_
 intro _ h _ _ _
 exact Y
 rintro v1 _ h
 refine Am h (fun _ h=>?_) (fun _ h=>?_)
 refine Z ?_
 refine Bb [0,1] h (fun _ h=>?_)
 exact Y
 refine Z ?_
 refine Am h (fun _ h=>?_) (fun _ h=>?_)
 refine Z ?_
 refine Bb [0,1] h (fun _ h=>?_)
 exact Y
 refine Z ?_
 refine Am h (fun _ h=>?_) (fun _ h=>?_)
 refine Z ?_
 refine Bb [0,1] h (fun _ h=>?_)
 exact Y
 exact Y
instance {a0:Int} {a1:Bool} {b1:List Int}:OK (W7 a0 a1 b1) fun r=>Bw Tryz.prog 255 [(.loc 0 0),(O .i64) a0,Ao a1] [.cells 199 [(.loc 0 0),(.arr 1 b1.length 0 b1.length)],.rows 5 1 (List.map (O .u8) b1)] ((O .i64) r.1) [.cells 199 [(.loc 0 0),(.arr 1 r.2.length 0 r.2.length)],.rows 5 1 (List.map (O .u8) r.2)]:=⟨fun {r} h=>by
 refine aw C0 true Tryz.func255 ?_
 refine ZS ?_
 refine B1 ?_
 refine ZO ?_
 refine As (Iw (As ?_))
 refine Bx h (fun v1=>[(7,(Ao v1))]) (fun v1=>[]) ?_ ?_
 intro _ h _ _ _
 exact Y
 rintro v1 _ h
 refine Am h (fun _ h=>?_) (fun _ h=>?_)
 refine Z ?_
 refine Bb [0,1] h (fun _ h=>?_)
 exact Y
 refine Z ?_
 refine Am h (fun _ h=>?_) (fun _ h=>?_)
 refine Z ?_
 refine Bb [0,1] h (fun _ h=>?_)
 exact Y
 refine Z ?_
 refine Am h (fun _ h=>?_) (fun _ h=>?_)
 refine Z ?_
 refine Bb [0,1] h (fun _ h=>?_)
 exact Y
 exact Y⟩
instance {a0 a1:Int}:OK (Lo a0 a1) fun r=>Ar Tryz.prog 256 [(O .i64) a0,(O .i64) a1] (Dl r):=⟨fun {r} h=>by
 exact Atz h⟩
instance {a0:Ca}:OK (M8 a0) fun r=>Ar Tryz.prog 208 [Gk a0] (Dl r):=⟨fun {r} h=>by
 refine pw C0 Tryz.func208 ?_
 refine Z ?_
 refine Be h (fun _ h=>?_)
 refine Z ?_
 refine Am h (fun _ h=>?_) (fun _ h=>?_)
 exact Y
 refine ZS ?_
 refine B1 ?_
 refine ZO ?_
 refine As (As ?_)
 refine Db [.own 3 1 5 1] ?_
 refine Z ?_
 refine Sw ?_
 refine Z ?_
 refine Am h (fun _ h=>?_) (fun _ h=>?_)
 refine J0 (As ?_)
 refine Bx h (fun (v30,o31)=>[(4,(O .i64 0)),(6,(O .i64 v30))]) (fun (v30,o31)=>[(1,.cells 199 [(.loc 1 0),(.arr 2 o31.length 0 o31.length)]),(2,.rows 5 1 (List.map (O .u8) o31))]) ?_ ?_
 intro _ h _ _ _
 refine Z ?_
 refine Bt h (fun _ v5 _ _ h=>?_)
 refine Z ?_
 refine C9 h (fun v7 hcv7 h=>?_)
 rcases v7 with v8 | v9
 refine F6.act [1,2] _ _ _ _ (Akv (a0:=v5.Coef) (a1:=true) (b1:=[]) hcv7) rfl rfl ⟨rfl,rfl,trivial⟩ ?_
 refine ZS ?_
 refine B1 ?_
 refine ZO ?_
 refine Bx h (fun o14=>[]) (fun o14=>[(1,.cells 199 [(.loc 1 0),(.arr 2 o14.length 0 o14.length)]),(2,.rows 5 1 (List.map (O .u8) o14))]) ?_ ?_
 intro _ h _ _ _
 refine Am h (fun _ h=>?_) (fun _ h=>?_)
 refine Z ?_
 refine Be h (fun _ h=>?_)
 refine Z ?_
 refine Gd h (fun h=>?_)
 refine Z ?_
 refine Bb [1,2] h (fun _ h=>?_)
 exact Y
 exact Y
 rintro o14 _ h
 refine Z ?_
 refine Am h (fun _ h=>?_) (fun _ h=>?_)
 refine Z ?_
 refine Bb [1,2] h (fun _ h=>?_)
 exact Y
 refine Z ?_
 refine Be h (fun _ h=>?_)
 refine Z ?_
 refine Gd h (fun h=>?_)
 refine Z ?_
 refine Bb [1,2] h (fun _ h=>?_)
 exact Y
 refine F6.act [1,2] _ _ _ _ (Akw (a0:=v5.Coef) (a1:=true) (b1:=[]) hcv7) rfl rfl ⟨rfl,rfl,trivial⟩ ?_
 refine Z ?_
 refine Am h (fun _ h=>?_) (fun _ h=>?_)
 refine Z ?_
 refine Be h (fun _ h=>?_)
 refine Z ?_
 refine Gd h (fun h=>?_)
 refine Z ?_
 refine Bb [1,2] h (fun _ h=>?_)
 refine Z ?_
 refine Am h (fun _ h=>?_) (fun _ h=>?_)
 refine Z ?_
 refine Bb [1,2] h (fun _ h=>?_)
 exact Y
 refine Z ?_
 refine Be h (fun _ h=>?_)
 refine Z ?_
 refine Gd h (fun h=>?_)
 refine Z ?_
 refine Bb [1,2] h (fun _ h=>?_)
 exact Y
 refine Z ?_
 refine Am h (fun _ h=>?_) (fun _ h=>?_)
 refine Z ?_
 refine Bb [1,2] h (fun _ h=>?_)
 exact Y
 refine Z ?_
 refine Be h (fun _ h=>?_)
 refine Z ?_
 refine Gd h (fun h=>?_)
 refine Z ?_
 refine Bb [1,2] h (fun _ h=>?_)
 exact Y
 rintro ⟨v30,o31⟩ _ h
 refine Z ?_
 refine A3 h (fun (v43,o44)=>[(13,(O .i64 v43))]) (fun (v43,o44)=>[(1,.cells 199 [(.loc 1 0),(.arr 2 o44.length 0 o44.length)]),(2,.rows 5 1 (List.map (O .u8) o44))]) ?_
 rintro ⟨v43,o44⟩ _ _ _ h _ _
 refine Z ?_
 refine Am h (fun _ h=>?_) (fun _ h=>?_)
 refine Z ?_
 refine Bt h (fun _ _ _ _ h=>?_)
 refine Z ?_
 refine Bb [1,2] h (fun _ h=>?_)
 refine ZS ?_
 refine B1 ?_
 refine ZO ?_
 refine Bx h (fun o51=>[]) (fun o51=>[(1,.cells 199 [(.loc 1 0),(.arr 2 o51.length 0 o51.length)]),(2,.rows 5 1 (List.map (O .u8) o51))]) ?_ ?_
 intro _ h _ _ _
 refine Am h (fun _ h=>?_) (fun _ h=>?_)
 refine Z ?_
 refine Be h (fun _ h=>?_)
 refine Z ?_
 refine Gd h (fun h=>?_)
 refine Z ?_
 refine Bb [1,2] h (fun _ h=>?_)
 exact Y
 exact Y
 rintro o51 _ h
 refine Z ?_
 refine Am h (fun _ h=>?_) (fun _ h=>?_)
 refine Z ?_
 refine Bb [1,2] h (fun _ h=>?_)
 exact Y
 refine Z ?_
 refine Be h (fun _ h=>?_)
 refine Z ?_
 refine Gd h (fun h=>?_)
 refine Z ?_
 refine Bb [1,2] h (fun _ h=>?_)
 exact Y
 replace h:=Cj h
 refine E8 (E6 rfl (As (As ?_)))
 refine Bx h (fun v57=>[(47,(Ao v57))]) (fun v57=>[]) ?_ ?_
 intro _ h _ _ _
 exact Y
 rintro v57 _ h
 refine Am h (fun _ h=>?_) (fun _ h=>?_)
 refine Z ?_
 refine Bb [1,2] h (fun _ h=>?_)
 refine Z ?_
 refine Be h (fun _ h=>?_)
 refine Z ?_
 refine Bb [1,2] h (fun _ h=>?_)
 refine Z ?_
 refine Bb [1,2] h (fun _ h=>?_)
 exact Y
 refine Z ?_
 refine Bb [1,2] h (fun _ h=>?_)
 exact Y
 refine E8 (E6 rfl (As (As ?_)))
 refine Bx h (fun v63=>[(47,(Ao v63))]) (fun v63=>[]) ?_ ?_
 intro _ h _ _ _
 exact Y
 rintro v63 _ h
 refine Am h (fun _ h=>?_) (fun _ h=>?_)
 refine Z ?_
 refine C9 h (fun v64 hcv64 h=>?_)
 rcases v64 with v65 | v66
 refine F6.act [1,2] _ _ _ _ (Akv (a0:=a0.Const) (a1:=((a0.Terms.length:Int)==(0:Int))) (b1:=[]) hcv64) rfl rfl ⟨rfl,rfl,trivial⟩ ?_
 refine Z ?_
 refine Be h (fun _ h=>?_)
 refine Z ?_
 refine Bb [1,2] h (fun _ h=>?_)
 refine Z ?_
 refine Bb [1,2] h (fun _ h=>?_)
 exact Y
 refine F6.act [1,2] _ _ _ _ (Akw (a0:=a0.Const) (a1:=((a0.Terms.length:Int)==(0:Int))) (b1:=[]) hcv64) rfl rfl ⟨rfl,rfl,trivial⟩ ?_
 refine Z ?_
 refine Be h (fun _ h=>?_)
 refine Z ?_
 refine Bb [1,2] h (fun _ h=>?_)
 refine Z ?_
 refine Bb [1,2] h (fun _ h=>?_)
 exact Y
 refine Z ?_
 refine Bb [1,2] h (fun _ h=>?_)
 exact Y⟩
instance {a0:A8}:OK (Vy a0) fun r=>Ar Tryz.prog 129 [F0 a0] (Dl r):=⟨fun {r} h=>by
 refine pw C0 Tryz.func129 ?_
 refine ZS ?_
 refine B1 ?_
 refine ZS ?_
 refine B1 ?_
 refine ZO ?_
 refine As (As ?_)
 refine Db [.own 3 1 5 1] ?_
 refine Z ?_
 refine Sw ?_
 refine Z ?_
 refine Am h (fun _ h=>?_) (fun _ h=>?_)
 refine Z ?_
 refine Bt h (fun _ _ _ _ h=>?_)
 refine Z ?_
 refine Be h (fun _ h=>?_)
 refine Z ?_
 refine Bb [1,2] h (fun _ h=>?_)
 refine Z ?_
 refine A3 h (fun (v18,o19)=>[(11,(O .i64 v18))]) (fun (v18,o19)=>[(1,.cells 199 [(.loc 1 0),(.arr 2 o19.length 0 o19.length)]),(2,.rows 5 1 (List.map (O .u8) o19))]) ?_
 rintro ⟨v18,o19⟩ _ _ _ h _ _
 refine Z ?_
 refine Am h (fun _ h=>?_) (fun _ h=>?_)
 refine Z ?_
 refine Bt h (fun _ _ _ _ h=>?_)
 refine Z ?_
 refine Be h (fun _ h=>?_)
 refine Z ?_
 refine Bb [1,2] h (fun _ h=>?_)
 exact Y
 replace h:=Cj h
 refine Z ?_
 refine Sw ?_
 refine Z ?_
 refine Am h (fun _ h=>?_) (fun _ h=>?_)
 refine Z ?_
 refine Bt h (fun _ _ _ _ h=>?_)
 refine Z ?_
 refine Be h (fun _ h=>?_)
 refine Z ?_
 refine Gd h (fun h=>?_)
 refine Z ?_
 refine Gd h (fun h=>?_)
 refine Z ?_
 refine Be h (fun _ h=>?_)
 refine Z ?_
 refine Gd h (fun h=>?_)
 refine Z ?_
 refine Bb [1,2] h (fun _ h=>?_)
 refine Z ?_
 refine A3 h (fun (v51,o52)=>[(25,(O .i64 v51))]) (fun (v51,o52)=>[(1,.cells 199 [(.loc 1 0),(.arr 2 o52.length 0 o52.length)]),(2,.rows 5 1 (List.map (O .u8) o52))]) ?_
 rintro ⟨v51,o52⟩ _ _ _ h _ _
 refine Z ?_
 refine Am h (fun _ h=>?_) (fun _ h=>?_)
 refine Z ?_
 refine Bt h (fun _ _ _ _ h=>?_)
 refine Z ?_
 refine Be h (fun _ h=>?_)
 refine Z ?_
 refine Gd h (fun h=>?_)
 refine Z ?_
 refine Gd h (fun h=>?_)
 refine Z ?_
 refine Be h (fun _ h=>?_)
 refine Z ?_
 refine Gd h (fun h=>?_)
 refine Z ?_
 refine Bb [1,2] h (fun _ h=>?_)
 exact Y
 replace h:=Cj h
 refine Z ?_
 refine Bb [1,2] h (fun _ h=>?_)
 exact Y
 refine Z ?_
 refine Bb [1,2] h (fun _ h=>?_)
 exact Y
 refine Z ?_
 refine Sw ?_
 refine Z ?_
 refine Am h (fun _ h=>?_) (fun _ h=>?_)
 refine Z ?_
 refine Bt h (fun _ _ _ _ h=>?_)
 refine Z ?_
 refine Be h (fun _ h=>?_)
 refine Z ?_
 refine Gd h (fun h=>?_)
 refine Z ?_
 refine Gd h (fun h=>?_)
 refine Z ?_
 refine Be h (fun _ h=>?_)
 refine Z ?_
 refine Gd h (fun h=>?_)
 refine Z ?_
 refine Bb [1,2] h (fun _ h=>?_)
 refine Z ?_
 refine A3 h (fun (v90,o91)=>[(25,(O .i64 v90))]) (fun (v90,o91)=>[(1,.cells 199 [(.loc 1 0),(.arr 2 o91.length 0 o91.length)]),(2,.rows 5 1 (List.map (O .u8) o91))]) ?_
 rintro ⟨v90,o91⟩ _ _ _ h _ _
 refine Z ?_
 refine Am h (fun _ h=>?_) (fun _ h=>?_)
 refine Z ?_
 refine Bt h (fun _ _ _ _ h=>?_)
 refine Z ?_
 refine Be h (fun _ h=>?_)
 refine Z ?_
 refine Gd h (fun h=>?_)
 refine Z ?_
 refine Gd h (fun h=>?_)
 refine Z ?_
 refine Be h (fun _ h=>?_)
 refine Z ?_
 refine Gd h (fun h=>?_)
 refine Z ?_
 refine Bb [1,2] h (fun _ h=>?_)
 exact Y
 replace h:=Cj h
 refine Z ?_
 refine Bb [1,2] h (fun _ h=>?_)
 exact Y
 refine Z ?_
 refine Bb [1,2] h (fun _ h=>?_)
 exact Y⟩
end Go.Ab
