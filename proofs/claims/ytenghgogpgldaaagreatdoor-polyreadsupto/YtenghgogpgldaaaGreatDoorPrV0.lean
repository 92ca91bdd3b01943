/- The contracts of the functions, each by its walk (made by a program). -/
import Derived.Test.YtenghgogpgldaaaGreatDoorPrHand
import Derived.Test.YtenghgogpgldaaaGreatDoorPrDef
namespace Go.Ab
open Go Go.Proofs
set_option maxRecDepth 10000
set_option maxHeartbeats 4000000
set_option linter.unusedVariables false
abbrev Aap (k:Nat):Prop:=∀{a0:Bl} {b0:Int},OK (Kk k a0 b0) fun r=>Bp Tryz.prog 97 [D6 a0,(.loc 0 0)] [.cells 3 [(O .i64 b0)]] (Ao r.1) [.cells 3 [(O .i64 r.2)]]
theorem Ahf (k:Nat):Aap k:=by
 induction k with
 | zero=>exact okz
 | succ k ih=>
  refine @fun a0 b0=>⟨fun {r} h=>?_⟩
  .unfold Kk at h
   refine aw C0 true Tryz.func97 ?_
   refine Z ?_
   refine Al h (fun _ h=>?_) (fun _ h=>?_)
   exact Y
   refine Z ?_
   refine Ax h (fun (v4,v5)=>[(4,(Ao false)),(5,(O .i64 v4))]) (fun (v4,v5)=>[(0,.cells 3 [(O .i64 v5)])]) ?_
   rintro ⟨v4,v5⟩ _ _ _ h _ _
   refine Z ?_
   refine Al h (fun _ h=>?_) (fun _ h=>?_)
   refine Z ?_
   refine Bq h (fun _ _ _ _ h=>?_)
   refine Z ?_
   refine A5 [0] h (fun _ h=>?_)
   exact Y
   exact Y
instance {k:Nat}:Aap k:=(Ahf k)
instance {a0:Bl}:OK (Nn a0) fun r=>Aq Tryz.prog 49 [D6 a0] (Ao r):=⟨fun {r} h=>by
 refine pw C0 Tryz.func49 ?_
 refine Z ?_
 refine A5 [1] h (fun _ h=>?_)
 exact Y⟩
instance {a0:Dc}:OK (Qk a0) fun r=>Aq Tryz.prog 50 [F8 a0] (Ao r):=⟨fun {r} h=>by
 refine pw C0 Tryz.func50 ?_
 exact Y⟩
instance {a0:Bh}:OK (Lt a0) fun r=>Aq Tryz.prog 20 [Du a0] (Ao r):=⟨fun {r} h=>by
 refine pw C0 Tryz.func20 ?_
 refine ZS ?_
 refine Bw ?_
 refine ZO ?_
 refine Ay (Ay ?_)
 refine Br h (fun v2=>[(16,(Ao v2))]) (fun v2=>[]) ?_ ?_
 intro _ h _ _ _
 exact Y
 rintro v2 _ h
 refine Al h (fun _ h=>?_) (fun _ h=>?_)
 exact Y
 refine Z ?_
 refine Ax h (fun v6=>[(2,(Ao false)),(20,(O .i64 v6))]) (fun v6=>[]) ?_
 rintro v6 _ _ _ h _ _
 refine Z ?_
 refine Al h (fun _ h=>?_) (fun _ h=>?_)
 exact Y
 replace h:=Bz h
 refine Z ?_
 refine Ax h (fun v14=>[(2,(Ao false)),(32,(O .i64 v14))]) (fun v14=>[]) ?_
 rintro v14 _ _ _ h _ _
 exact Y⟩
instance {a0 a1:List Int}:OK (Nj a0 a1) fun r=>Aq Tryz.prog 28 [(Ap 1 (O .i64)) a0,(Ap 1 (O .i64)) a1] (Ao r):=⟨fun {r} h=>by
 refine pw C0 Tryz.func28 ?_
 refine Z ?_
 refine Al h (fun _ h=>?_) (fun _ h=>?_)
 exact Y
 refine Z ?_
 refine Ax h (fun v3=>[(4,(Ao false)),(13,(O .i64 v3))]) (fun v3=>[]) ?_
 rintro v3 _ _ _ h _ _
 exact Y⟩
instance {a0 a1:List Int}:OK (Lw a0 a1) fun r=>Aq Tryz.prog 51 [(Ap 1 (O .u32)) a0,(Ap 1 (O .u32)) a1] (Ao r):=⟨fun {r} h=>by
 refine pw C0 Tryz.func51 ?_
 refine Z ?_
 refine Al h (fun _ h=>?_) (fun _ h=>?_)
 exact Y
 refine Z ?_
 refine Ax h (fun v3=>[(4,(Ao false)),(13,(O .i64 v3))]) (fun v3=>[]) ?_
 rintro v3 _ _ _ h _ _
 exact Y⟩
instance {a0 a1:A3}:OK (Lu a0 a1) fun r=>Aq Tryz.prog 21 [C1 a0,C1 a1] (Ao r):=⟨fun {r} h=>by
 refine pw C0 Tryz.func21 ?_
 exact Y⟩
instance {a0:A3}:OK (Na a0) fun r=>Aq Tryz.prog 11 [C1 a0] (Ao r):=⟨fun {r} h=>by
 refine pw C0 Tryz.func11 ?_
 exact Y⟩
instance {a0:List Aw} {a1:Int}:OK (Nb a0 a1) fun r=>Aq Tryz.prog 19 [(Ap 5 Bx) a0,(O .i64) a1] (Ao r):=⟨fun {r} h=>by
 refine pw C0 Tryz.func19 ?_
 refine Z ?_
 refine Ax h (fun v6=>[(4,(Ao false)),(5,(O .i64 v6))]) (fun v6=>[]) ?_
 rintro v6 _ _ _ h _ _
 refine Ay (Ay ?_)
 refine Br h (fun v7=>[(14,(Ao v7))]) (fun v7=>[]) ?_ ?_
 intro _ h _ _ _
 exact Y
 rintro v7 _ h
 exact Y⟩
instance {a0:Int}:OK (Qx a0) fun r=>Aq Tryz.prog 158 [(O .i64) a0] (Ao r):=⟨fun {r} h=>by
 refine pw C0 Tryz.func158 ?_
 exact Y⟩
instance {a0:Int}:OK (U7 a0) fun r=>Aq Tryz.prog 159 [(O .i64) a0] (Ao r):=⟨fun {r} h=>by
 refine pw C0 Tryz.func159 ?_
 exact Y⟩
instance {a0:Dc}:OK (L1 a0) fun r=>Aq Tryz.prog 89 [F8 a0] (Ao r):=⟨fun {r} h=>by
 refine pw C0 Tryz.func89 ?_
 refine ZS ?_
 refine Bw ?_
 refine ZO ?_
 refine Ay (Ay ?_)
 refine Br h (fun v3=>[(14,(Ao v3))]) (fun v3=>[]) ?_ ?_
 intro _ h _ _ _
 exact Y
 rintro v3 _ h
 refine Al h (fun _ h=>?_) (fun _ h=>?_)
 exact Y
 refine Z ?_
 refine Ax h (fun v8=>[(2,(Ao false)),(18,(O .i64 v8))]) (fun v8=>[]) ?_
 rintro v8 _ _ _ h _ _
 exact Y⟩
instance {a0:List Bk}:OK (U3 a0) fun r=>Aq Tryz.prog 136 [Kw (Fq.mk a0 [] [] [])] (Ao r):=⟨fun {r} h=>by
 refine pw C0 Tryz.func136 ?_
 refine Z ?_
 refine Em h (fun _ h=>?_)
 refine Z ?_
 refine Ax h (fun _=>[(2,(Ao false)),(20,(O .i64 0))]) (fun _=>[]) ?_
 rintro _ _ _ _ h _ _
 replace h:=Bz h
 refine Z ?_
 refine Ax h (fun _=>[(2,(Ao false)),(40,(O .i64 0))]) (fun _=>[]) ?_
 rintro _ _ _ _ h _ _
 exact Y⟩
instance {a0:List Bk}:OK (U1 a0) fun r=>Aq Tryz.prog 134 [Kw (Fq.mk a0 [] [] [])] (Ao r):=⟨fun {r} h=>by
 refine pw C0 Tryz.func134 ?_
 refine Z ?_
 refine Ax h (fun _=>[(2,(Ao false)),(4,(Ao false)),(21,(O .i64 0))]) (fun _=>[]) ?_
 rintro _ _ _ _ h _ _
 exact Y⟩
instance {a0:Int}:OK (Vt a0) fun r=>Aq Tryz.prog 308 [(O .u8) a0] (Ao r):=⟨fun {r} h=>by
 refine pw C0 Tryz.func308 ?_
 exact Y⟩
instance {a0:ByteArray}:OK (V1 a0) fun r=>Aq Tryz.prog 350 [Dk a0] (Ao r):=⟨fun {r} h=>by
 refine pw C0 Tryz.func350 ?_
 exact Y⟩
instance {a0:Int}:OK (Ol a0) fun r=>Aq Tryz.prog 351 [(O .u8) a0] (Ao r):=⟨fun {r} h=>by
 refine pw C0 Tryz.func351 ?_
 exact Y⟩
instance {a0:Int}:OK (Rh a0) fun r=>Aq Tryz.prog 346 [(O .u8) a0] (Ao r):=⟨fun {r} h=>by
 refine pw C0 Tryz.func346 ?_
 exact Y⟩
instance {a0:Int}:OK (Ok a0) fun r=>Aq Tryz.prog 347 [(O .u8) a0] (Ao r):=⟨fun {r} h=>by
 refine pw C0 Tryz.func347 ?_
 exact Y⟩
instance {a0:Int}:OK (Vz a0) fun r=>Aq Tryz.prog 349 [(O .u8) a0] (Ao r):=⟨fun {r} h=>by
 refine pw C0 Tryz.func349 ?_
 exact Y⟩
instance {a0:ByteArray}:OK (Vy a0) fun r=>Aq Tryz.prog 348 [Dk a0,(.fn 349 [])] (Dk r):=⟨fun {r} h=>by
 refine pw C0 Tryz.func348 ?_
 refine Z ?_
 refine Ax h (fun v3=>[(5,(O .i64 v3))]) (fun v3=>[]) ?_
 rintro v3 _ _ _ h _ _
 exact Y⟩
instance {a0:ByteArray}:OK (Z2 a0) fun r=>Aq Tryz.prog 348 [Dk a0,(.fn 351 [])] (Dk r):=⟨fun {r} h=>by
 refine pw C0 Tryz.func348 ?_
 refine Z ?_
 refine Ax h (fun v3=>[(5,(O .i64 v3))]) (fun v3=>[]) ?_
 rintro v3 _ _ _ h _ _
 exact Y⟩
instance {a0:ByteArray}:OK (V4 a0) fun r=>Aq Tryz.prog 353 [Dk a0] (Dk r):=⟨fun {r} h=>by
 refine pw C0 Tryz.func353 ?_
 refine ZS ?_
 refine Bw ?_
 refine ZS ?_
 refine Bw ?_
 refine ZO ?_
 refine Wk (fun (x:Unit)=>(.inr x)) h (fun _=>[(2,(Dk (ByteArray.mk #[])))]) (fun _=>[]) ?_ ?_
 intro _ h _ _ _
 exact Y
 rintro _ _ h
 exact Y⟩
instance {a0:ByteArray}:OK (V3 a0) fun r=>Aq Tryz.prog 352 [Dk a0] (Ao r):=⟨fun {r} h=>by
 refine pw C0 Tryz.func352 ?_
 refine Z ?_
 refine Ax h (fun (v2,v3)=>[(2,(Ao false)),(3,(O .i64 v2)),(7,(O .i64 v3))]) (fun (v2,v3)=>[]) ?_
 rintro ⟨v2,v3⟩ _ _ _ h _ _
 exact Y⟩
instance {a0:ByteArray} {a1:Int}:OK (Vu a0 a1) fun r=>Aq Tryz.prog 309 [Dk a0,(O .i64) a1] (.tup [Rk r.1,(O .i64) r.2]):=⟨fun {r} h=>by
 refine pw C0 Tryz.func309 ?_
 refine Z ?_
 refine M8 h (fun _ h=>?_)
 refine ZO ?_
 refine Ii (Ay ?_)
 refine Br h (fun v6=>[(23,(Ao v6))]) (fun v6=>[]) ?_ ?_
 intro _ h _ _ _
 exact Y
 rintro v6 _ h
 refine Al h (fun _ h=>?_) (fun _ h=>?_)
 exact Y
 refine Z ?_
 refine Bc h (fun _ h=>?_)
 refine Z ?_
 refine Al h (fun _ h=>?_) (fun _ h=>?_)
 refine Z ?_
 refine Uf h (fun _ _ _ _ h=>?_)
 refine Z ?_
 refine Bc h (fun _ h=>?_)
 refine ZO ?_
 refine Ay (Ay ?_)
 refine Br h (fun v14=>[(67,(Ao v14))]) (fun v14=>[]) ?_ ?_
 intro _ h _ _ _
 exact Y
 rintro v14 _ h
 exact Y
 exact Y⟩
instance {a0:ByteArray}:OK (Vo a0) fun r=>Aq Tryz.prog 273 [Dk a0] (.tup [(Ap 3 Rk) r.1,(O .i64) r.2.1,(O .i64) r.2.2]):=⟨fun {r} h=>by
 refine pw {T:=B5,an:=(fun s=>bif Nat.beq s 5 then .own else .ask),nl:=(fun s=>bif Nat.beq s 5 then [(0,3)] else bif Nat.beq s 2 then [(0,3)] else [])} Tryz.func273 ?_
 refine Z ?_
 refine Al h (fun _ h=>?_) (fun _ h=>?_)
 exact Y
 refine Z ?_
 refine Ax h (fun (v26,o27)=>[(2,(.sl 3 (List.map Rk []))),(3,(O .i64 0)),(4,(O .i64 0)),(5,(.arr 0 o27.length 0 o27.length)),(6,(O .i64 v26))]) (fun (v26,o27)=>[(0,.rows 313 3 (List.map Rk o27))]) ?_
 rintro ⟨v26,o27⟩ _ _ _ h _ _
 refine Z ?_
 refine Al h (fun _ h=>?_) (fun _ h=>?_)
 refine Z ?_
 refine M8 h (fun _ h=>?_)
 refine Z ?_
 refine Bc h (fun _ h=>?_)
 refine Z ?_
 refine Al h (fun _ h=>?_) (fun _ h=>?_)
 exact Y
 refine Z ?_
 refine M8 h (fun _ h=>?_)
 refine Z ?_
 refine Al h (fun _ h=>?_) (fun _ h=>?_)
 refine Z ?_
 refine Ax h (fun v32=>[(6,(O .i64 v32))]) (fun v32=>[]) ?_
 rintro v32 _ _ _ h _ _
 exact Y
 exact Y
 exact Y⟩
instance {a0:ByteArray}:OK (Q0 a0) fun r=>Aq Tryz.prog 199 [Dk a0] (Ao r):=⟨fun {r} h=>by
 refine pw C0 Tryz.func199 ?_
 exact Y⟩
abbrev Aaq (k:Nat):Prop:=∀{a0:Ar} {a1:Int},OK (Of k a0 a1) fun r=>Aq Tryz.prog 274 [Et a0,(O .i64) a1] (Ao r)
abbrev Aar (k:Nat):Prop:=∀{a0:Ar} {b0:Int},OK (Rc k a0 b0) fun r=>Bp Tryz.prog 310 [Et a0,(.loc 0 0)] [.cells 3 [(O .i64 b0)]] (Ao r) [.cells 3 [(O .i64 b0)]]
abbrev Aas (k:Nat):Prop:=∀{a0:List Ar} {b0:Int},OK (Rl k a0 b0) fun r=>Bp Tryz.prog 201 [(F6 3 Bb) a0,(.fn 310 [(.loc 0 0)])] [.cells 3 [(O .i64 b0)]] (Ao r) [.cells 3 [(O .i64 b0)]]
abbrev Aat (k:Nat):Prop:=∀{a0:List Ar} {b0:Int},OK (Wd k a0 b0) fun r=>Bp Tryz.prog 275 [(F6 3 Bb) a0,(.fn 310 [(.loc 0 0)])] [.cells 3 [(O .i64 b0)]] ((O .i64) r) [.cells 3 [(O .i64 b0)]]
theorem Rn (k:Nat):Aaq k/\Aar k/\Aas k/\Aat k:=by
 induction k with
 | zero=>exact ⟨okz,okz,okz,okz⟩
 | succ k ih=>
  obtain ⟨i0_,i1_,i2_,i3_⟩:=ih
  refine ⟨@fun a0 a1=>⟨fun {r} h=>?_⟩,@fun a0 b0=>⟨fun {r} h=>?_⟩,@fun a0 b0=>⟨fun {r} h=>?_⟩,@fun a0 b0=>⟨fun {r} h=>?_⟩⟩
  .unfold Of at h
   refine pw C0 Tryz.func274 ?_
   refine Z ?_
   refine El h (fun _ h=>?_) (fun _ h=>?_)
   refine Z ?_
   refine El h (fun _ h=>?_) (fun _ h=>?_)
   exact Y
   refine Z ?_
   refine A5 [1] h (fun _ h=>?_)
   exact Y
   refine Z ?_
   refine A5 [1] h (fun _ h=>?_)
   exact Y
  .unfold Rc at h
   refine aw C0 true Tryz.func310 ?_
   exact Y
  .unfold Rl at h
   refine aw C0 true Tryz.func201 ?_
   refine Z ?_
   refine A5 [0] h (fun _ h=>?_)
   exact Y
  .unfold Wd at h
   refine aw C0 true Tryz.func275 ?_
   refine Z ?_
   refine Ax h (fun v3=>[(4,(O .i64 0)),(8,(O .i64 v3))]) (fun v3=>[]) ?_
   rintro v3 _ _ _ h _ _
   refine Z ?_
   refine Al h (fun _ h=>?_) (fun _ h=>?_)
   refine Z ?_
   refine Bq h (fun _ _ _ _ h=>?_)
   refine Z ?_
   refine A5 [0] h (fun _ h=>?_)
   exact Y
   exact Y
instance {k:Nat}:Aaq k:=(Rn k).1
instance {k:Nat}:Aar k:=(Rn k).2.1
instance {k:Nat}:Aas k:=(Rn k).2.2.1
instance {k:Nat}:Aat k:=(Rn k).2.2.2
instance {a0:List Bk} {a1 a2:Int}:OK (Rb a0 a1 a2) fun r=>Aq Tryz.prog 271 [(Ap 3 B8) a0,(O .i64) a1,(O .i64) a2] ((Ap 1 Ao) r):=⟨fun {r} h=>by
 refine pw {T:=B5,an:=(fun _=>.ask),nl:=(fun s=>bif Nat.beq s 6 then [(0,1)] else [])} Tryz.func271 ?_
 refine ZS ?_
 refine Bw ?_
 refine ZO ?_
 refine Ay (Ay ?_)
 refine Br h (fun v2=>[(34,(Ao v2))]) (fun v2=>[]) ?_ ?_
 intro _ h _ _ _
 exact Y
 rintro v2 _ h
 refine Al h (fun _ h=>?_) (fun _ h=>?_)
 exact Y
 refine Z ?_
 refine Bq h (fun _ _ _ _ h=>?_)
 refine Z ?_
 refine Bq h (fun _ _ _ _ h=>?_)
 refine Z ?_
 refine Em h (fun o5 h=>?_)
 refine Z ?_
 refine Ea h (fun (v28,o29)=>[(49,(O .i64 v28))]) (fun (v28,o29)=>[(0,.rows 4 1 (List.map Ao o29))]) (fun (v28,o29)=>o5.length=o29.length) ?_
 rintro ⟨v28,o29⟩ _ _ _ h _ _ q29
 refine Z ?_
 refine Al h (fun _ h=>?_) (fun _ h=>?_)
 refine Z ?_
 refine Bq h (fun _ v30 _ _ h=>?_)
 refine ZO ?_
 refine Ay ?_
 refine P7 h (fun o3_ h hj3=>?_)
 refine Kf (fun (o36:(List Bool))=>o36=o3_/\o5.length=o36.length) (fun o36=>[]) (fun o36=>[(0,.rows 4 1 (List.map Ao o36))]) (fun _=>rfl) ?_ ?_
 intro K3 hK3
 refine Z ?_
 refine El h (fun _ h=>?_) (fun _ h=>?_)
 refine Z ?_
 refine El h (fun _ h=>?_) (fun _ h=>?_)
 refine Z ?_
 refine Bq h (fun _ v32 _ _ h=>?_)
 refine Z ?_
 refine H6 h (fun _ _ hiv33 _ h=>?_)
 refine Z ?_
 refine Hx (f:=Ao) (x:=((v30.Args.length:Int)==v32.Vars)) (j:=v28) rfl rfl (Nat.zero_add _) hiv33 ?_
 refine Z ?_
 exact hK3 (Ch o29 v28 ((v30.Args.length:Int)==v32.Vars)) _ _ _ ⟨(Option.some.inj h),Ef (l:=o29) q29 v28 ((v30.Args.length:Int)==v32.Vars)⟩ trivial ⟨⟨rfl,rfl⟩,⟨rfl,rfl⟩,trivial⟩
 refine Z ?_
 refine H6 h (fun _ _ hiv34 _ h=>?_)
 refine Z ?_
 refine Hx (f:=Ao) (x:=false) (j:=v28) rfl rfl (Nat.zero_add _) hiv34 ?_
 refine Z ?_
 exact hK3 (Ch o29 v28 false) _ _ _ ⟨(Option.some.inj h),Ef (l:=o29) q29 v28 false⟩ trivial ⟨⟨rfl,rfl⟩,⟨rfl,rfl⟩,trivial⟩
 refine Z ?_
 refine H6 h (fun _ _ hiv35 _ h=>?_)
 refine Z ?_
 refine Hx (f:=Ao) (x:=false) (j:=v28) rfl rfl (Nat.zero_add _) hiv35 ?_
 refine Z ?_
 exact hK3 (Ch o29 v28 false) _ _ _ ⟨(Option.some.inj h),Ef (l:=o29) q29 v28 false⟩ trivial ⟨⟨rfl,rfl⟩,⟨rfl,rfl⟩,trivial⟩
 rintro o36 u3 ⟨hJ3,q36⟩
 have h:=hj3 _ hJ3
 refine Z ?_
 refine Ea h (fun (v42,o43)=>[(80,(O .i64 v42))]) (fun (v42,o43)=>[(0,.rows 4 1 (List.map Ao o43))]) (fun (v42,o43)=>o5.length=o43.length) ?_
 rintro ⟨v42,o43⟩ _ _ _ h _ _ q43
 exact Y
 exact Y⟩
abbrev Aau (k:Nat):Prop:=∀{a0:List Ar} {b1:Dv},OK (We k a0 b1) fun r=>Bp Tryz.prog 201 [(F6 3 Bb) a0,(.fn 209 [(.loc 0 0)])] [.cells 181 [(.loc 1 0)],.cells 183 [(.sl 3 (List.map B8 b1.data)),(O .i64 b1.vars),(O .i64 b1.left)]] (Ao r.1) [.cells 181 [(.loc 1 0)],.cells 183 [(.sl 3 (List.map B8 r.2.data)),(O .i64 r.2.vars),(O .i64 r.2.left)]]
abbrev Aav (k:Nat):Prop:=∀{a0:List Ar} {b1:Dv},OK (Wf k a0 b1) fun r=>Bp Tryz.prog 275 [(F6 3 Bb) a0,(.fn 209 [(.loc 0 0)])] [.cells 181 [(.loc 1 0)],.cells 183 [(.sl 3 (List.map B8 b1.data)),(O .i64 b1.vars),(O .i64 b1.left)]] ((O .i64) r.1) [.cells 181 [(.loc 1 0)],.cells 183 [(.sl 3 (List.map B8 r.2.data)),(O .i64 r.2.vars),(O .i64 r.2.left)]]
abbrev Aaw (k:Nat):Prop:=∀{a0:Ar} {b0:Dv},OK (Ny k a0 b0) fun r=>Bp Tryz.prog 139 [(.loc 0 0),Et a0] [.cells 183 [(.sl 3 (List.map B8 b0.data)),(O .i64 b0.vars),(O .i64 b0.left)]] (Ao r.1) [.cells 183 [(.sl 3 (List.map B8 r.2.data)),(O .i64 r.2.vars),(O .i64 r.2.left)]]
abbrev Aax (k:Nat):Prop:=∀{a0:Ar} {b1:Dv},OK (Q2 k a0 b1) fun r=>Bp Tryz.prog 209 [Et a0,(.loc 0 0)] [.cells 181 [(.loc 1 0)],.cells 183 [(.sl 3 (List.map B8 b1.data)),(O .i64 b1.vars),(O .i64 b1.left)]] (Ao r.1) [.cells 181 [(.loc 1 0)],.cells 183 [(.sl 3 (List.map B8 r.2.data)),(O .i64 r.2.vars),(O .i64 r.2.left)]]
theorem Ro (k:Nat):Aau k/\Aav k/\Aaw k/\Aax k:=by
 induction k with
 | zero=>exact ⟨okz,okz,okz,okz⟩
 | succ k ih=>
  obtain ⟨i0_,i1_,i2_,i3_⟩:=ih
  refine ⟨@fun a0 b1=>⟨fun {r} h=>?_⟩,@fun a0 b1=>⟨fun {r} h=>?_⟩,@fun a0 b0=>⟨fun {r} h=>?_⟩,@fun a0 b1=>⟨fun {r} h=>?_⟩⟩
  .unfold We at h
   refine aw C0 true Tryz.func201 ?_
   refine Z ?_
   refine A5 [0,1] h (fun _ h=>?_)
   exact Y
  .unfold Wf at h
   refine aw C0 true Tryz.func275 ?_
   refine Z ?_
   refine Ax h (fun (v3,v4,v5,v6)=>[(4,(O .i64 0)),(8,(O .i64 v3))]) (fun (v3,v4,v5,v6)=>[(1,.cells 183 [(.sl 3 (List.map B8 v4)),(O .i64 v5),(O .i64 v6)])]) ?_
   rintro ⟨v3,v4,v5,v6⟩ _ _ _ h _ _
   refine Z ?_
   refine Al h (fun _ h=>?_) (fun _ h=>?_)
   refine Z ?_
   refine Bq h (fun _ _ _ _ h=>?_)
   refine Z ?_
   refine A5 [0,1] h (fun _ h=>?_)
   exact Y
   exact Y
  .unfold Ny at h
   refine aw C0 true Tryz.func139 ?_
   refine Z ?_
   refine Al h (fun _ h=>?_) (fun _ h=>?_)
   exact Y
   refine ZS ?_
   refine Bw ?_
   refine ZS ?_
   refine Bw ?_
   refine ZO ?_
   refine Wk (fun (x:(Int×Int))=>(.inl x)) h (fun (v8,v9)=>[(4,(Ao false)),(5,(O .i64 v8)),(6,(O .i64 v9))]) (fun (v8,v9)=>[]) ?_ ?_
   intro _ h _ _ _
   refine ZS ?_
   refine Bw ?_
   refine ZO ?_
   refine Br h (fun v3=>[(21,(Ao v3))]) (fun v3=>[]) ?_ ?_
   intro _ h _ _ _
   exact Y
   rintro v3 _ h
   refine Al h (fun _ h=>?_) (fun _ h=>?_)
   exact Y
   refine Z ?_
   refine Al h (fun _ h=>?_) (fun _ h=>?_)
   exact Y
   refine Z ?_
   refine Al h (fun _ h=>?_) (fun _ h=>?_)
   refine Ay (Ay ?_)
   refine Br h (fun v4=>[(53,(Ao v4))]) (fun v4=>[]) ?_ ?_
   intro _ h _ _ _
   exact Y
   rintro v4 _ h
   exact Y
   refine Z ?_
   refine Al h (fun _ h=>?_) (fun _ h=>?_)
   exact Y
   refine ZS ?_
   refine Bw ?_
   refine ZO ?_
   refine Br h (fun v7=>[(74,(Ao v7))]) (fun v7=>[]) ?_ ?_
   intro _ h _ _ _
   exact Y
   rintro v7 _ h
   exact Y
   rintro ⟨v8,v9⟩ _ h
   refine Ay (Ay ?_)
   refine Br h (fun v10=>[(91,(Ao v10))]) (fun v10=>[]) ?_ ?_
   intro _ h _ _ _
   exact Y
   rintro v10 _ h
   refine Al h (fun _ h=>?_) (fun _ h=>?_)
   exact Y
   refine Hy (Ay (Ay ?_))
   refine Br h (fun v11=>[(103,(Ao v11))]) (fun v11=>[]) ?_ ?_
   intro _ h _ _ _
   exact Y
   rintro v11 _ h
   refine Al h (fun _ h=>?_) (fun _ h=>?_)
   exact Y
   refine Z ?_
   refine A5 [1,0] h (fun _ h=>?_)
   exact Y
  .unfold Q2 at h
   refine aw C0 true Tryz.func209 ?_
   refine Z ?_
   refine A5 [1] h (fun _ h=>?_)
   exact Y
instance {k:Nat}:Aau k:=(Ro k).1
instance {k:Nat}:Aav k:=(Ro k).2.1
instance {k:Nat}:Aaw k:=(Ro k).2.2.1
instance {k:Nat}:Aax k:=(Ro k).2.2.2
instance {a0:List Bk} {a1:Ar} {a2:Int}:OK (L0 a0 a1 a2) fun r=>Aq Tryz.prog 78 [(Ap 3 B8) a0,Et a1,(O .i64) a2] (Ao r):=⟨fun {r} h=>by
 refine pw C0 Tryz.func78 ?_
 refine Z ?_
 refine A5 [1] h (fun _ h=>?_)
 exact Y⟩
instance {a0:List Bk} {a1 a2:Int}:OK (Q1 a0 a1 a2) fun r=>Aq Tryz.prog 200 [(Ap 3 B8) a0,(O .i64) a1,(O .i64) a2] (Ao r):=⟨fun {r} h=>by
 refine pw C0 Tryz.func200 ?_
 refine Z ?_
 refine Bq h (fun _ _ _ _ h=>?_)
 refine Z ?_
 refine Bq h (fun _ _ _ _ h=>?_)
 refine Z ?_
 refine Al h (fun _ h=>?_) (fun _ h=>?_)
 exact Y
 refine Z ?_
 refine Bc h (fun _ h=>?_)
 refine Z ?_
 refine Ax h (fun v11=>[(6,(Ao false)),(29,(O .i64 v11))]) (fun v11=>[]) ?_
 rintro v11 _ _ _ h _ _
 exact Y⟩
instance {a0:List Bk}:OK (Uy a0) fun r=>Aq Tryz.prog 132 [(Ap 3 B8) a0] (Ao r):=⟨fun {r} h=>by
 refine pw C0 Tryz.func132 ?_
 refine Z ?_
 refine Al h (fun _ h=>?_) (fun _ h=>?_)
 exact Y
 refine Z ?_
 refine Ax h (fun (v31,o32,o33)=>[(2,(Ao false)),(15,(O .i64 v31))]) (fun (v31,o32,o33)=>[(0,.map (A7 Ao o32)),(1,.map (A7 Ao o33))]) ?_
 rintro ⟨v31,o32,o33⟩ _ _ _ h _ _
 refine Z ?_
 refine Al h (fun _ h=>?_) (fun _ h=>?_)
 refine ZS ?_
 refine Bw ?_
 refine ZO ?_
 refine Ay (Ay ?_)
 refine Br h (fun v41=>[(49,(Ao v41))]) (fun v41=>[]) ?_ ?_
 intro _ h _ _ _
 refine Z ?_
 refine Bq h (fun _ _ _ _ h=>?_)
 refine Z ?_
 refine Bc h (fun _ h=>?_)
 refine Z ?_
 refine El h (fun _ h=>?_) (fun _ h=>?_)
 exact Y
 refine Z ?_
 refine Bq h (fun _ _ _ _ h=>?_)
 refine Z ?_
 refine P8 (f:=Ao) (l:=o32) rfl (false:Bool) h (fun j_ hb h=>?_) (fun hb h=>?_)
 exact Y
 exact Y
 rintro v41 _ h
 refine Al h (fun _ h=>?_) (fun _ h=>?_)
 exact Y
 refine Z ?_
 refine Bq h (fun _ _ _ _ h=>?_)
 refine Z ?_
 refine M6 (f:=Ao) (l:=o32) (x:=true) rfl rfl ?_
 refine ZO ?_
 refine Ay (Ay ?_)
 refine Br h (fun v45=>[(71,(Ao v45))]) (fun v45=>[]) ?_ ?_
 intro _ h _ _ _
 exact Y
 rintro v45 _ h
 refine Al h (fun _ h=>?_) (fun _ h=>?_)
 exact Y
 refine Z ?_
 refine Bq h (fun _ _ _ _ h=>?_)
 refine Z ?_
 refine Ax h (fun (v52,o53)=>[(2,(Ao false)),(78,(O .i64 v52))]) (fun (v52,o53)=>[(1,.map (A7 Ao o53))]) ?_
 rintro ⟨v52,o53⟩ _ _ _ h _ _
 refine Z ?_
 refine Al h (fun _ h=>?_) (fun _ h=>?_)
 refine Z ?_
 refine Bq h (fun _ _ _ _ h=>?_)
 refine Z ?_
 refine Bc h (fun _ h=>?_)
 refine Z ?_
 refine El h (fun _ h=>?_) (fun _ h=>?_)
 exact Y
 refine Z ?_
 refine P8 (f:=Ao) (l:=o53) rfl (false:Bool) h (fun j_ hb h=>?_) (fun hb h=>?_)
 refine Z ?_
 refine El h (fun _ h=>?_) (fun _ h=>?_)
 exact Y
 refine Z ?_
 refine Bc h (fun _ h=>?_)
 refine Z ?_
 refine Al h (fun _ h=>?_) (fun _ h=>?_)
 exact Y
 refine Z ?_
 refine M6 (f:=Ao) (l:=o53) (x:=true) rfl rfl ?_
 exact Y
 refine Z ?_
 refine Bc h (fun _ h=>?_)
 refine Z ?_
 refine Al h (fun _ h=>?_) (fun _ h=>?_)
 exact Y
 refine Z ?_
 refine M6 (f:=Ao) (l:=o53) (x:=true) rfl rfl ?_
 exact Y
 exact Y
 exact Y⟩
instance {a0:List Bk}:OK (U5 a0) fun r=>Aq Tryz.prog 138 [Kw (Fq.mk a0 [] [] [])] (Ao r):=⟨fun {r} h=>by
 refine pw C0 Tryz.func138 ?_
 refine Z ?_
 refine Em h (fun _ h=>?_)
 refine Z ?_
 refine Ax h (fun _=>[(2,(Ao false)),(18,(O .i64 0))]) (fun _=>[]) ?_
 rintro _ _ _ _ h _ _
 replace h:=Bz h
 refine Z ?_
 refine Ax h (fun _=>[(2,(Ao false)),(30,(O .i64 0))]) (fun _=>[]) ?_
 rintro _ _ _ _ h _ _
 exact Y⟩
instance {a0:List Bk}:OK (U4 a0) fun r=>Aq Tryz.prog 137 [Kw (Fq.mk a0 [] [] [])] (Ao r):=⟨fun {r} h=>by
 refine pw C0 Tryz.func137 ?_
 refine Z ?_
 refine Em h (fun _ h=>?_)
 refine Z ?_
 refine Ax h (fun _=>[(2,(Ao false)),(17,(O .i64 0))]) (fun _=>[]) ?_
 rintro _ _ _ _ h _ _
 exact Y⟩
instance {a0:List Bk}:OK (U2 a0) fun r=>Aq Tryz.prog 135 [Kw (Fq.mk a0 [] [] [])] (Ao r):=⟨fun {r} h=>by
 refine pw C0 Tryz.func135 ?_
 refine Z ?_
 refine Em h (fun _ h=>?_)
 refine Z ?_
 refine Ax h (fun _=>[(2,(Ao false)),(20,(O .i64 0))]) (fun _=>[]) ?_
 rintro _ _ _ _ h _ _
 replace h:=Bz h
 refine Z ?_
 refine Ax h (fun _=>[(2,(Ao false)),(33,(O .i64 0))]) (fun _=>[]) ?_
 rintro _ _ _ _ h _ _
 exact Y⟩
instance {a0:Ar} {b0:Fq}:OK (Vg a0 b0) fun r=>Bp Tryz.prog 202 [Et a0,(.loc 0 0)] [.cells 125 [(.sl 3 (List.map B8 b0.Data)),(.sl 7 (List.map Ku b0.Codes)),(.sl 3 (Bb b0.Vars)),(.sl 8 (List.map Kv b0.Exprs))]] (Ao r) [.cells 125 [(.sl 3 (List.map B8 b0.Data)),(.sl 7 (List.map Ku b0.Codes)),(.sl 3 (Bb b0.Vars)),(.sl 8 (List.map Kv b0.Exprs))]]:=⟨fun {r} h=>by
 refine aw C0 true Tryz.func202 ?_
 exact Y⟩
instance {a0:List Ar} {b0:Fq}:OK (Vp a0 b0) fun r=>Bp Tryz.prog 275 [(F6 3 Bb) a0,(.fn 202 [(.loc 0 0)])] [.cells 125 [(.sl 3 (List.map B8 b0.Data)),(.sl 7 (List.map Ku b0.Codes)),(.sl 3 (Bb b0.Vars)),(.sl 8 (List.map Kv b0.Exprs))]] ((O .i64) r) [.cells 125 [(.sl 3 (List.map B8 b0.Data)),(.sl 7 (List.map Ku b0.Codes)),(.sl 3 (Bb b0.Vars)),(.sl 8 (List.map Kv b0.Exprs))]]:=⟨fun {r} h=>by
 refine aw C0 true Tryz.func275 ?_
 refine Z ?_
 refine Ax h (fun v3=>[(4,(O .i64 0)),(8,(O .i64 v3))]) (fun v3=>[]) ?_
 rintro v3 _ _ _ h _ _
 refine Z ?_
 refine Al h (fun _ h=>?_) (fun _ h=>?_)
 refine Z ?_
 refine Bq h (fun _ _ _ _ h=>?_)
 refine Z ?_
 refine A5 [0] h (fun _ h=>?_)
 exact Y
 exact Y⟩
instance {a0:List Ar} {b0:Fq}:OK (Vf a0 b0) fun r=>Bp Tryz.prog 201 [(F6 3 Bb) a0,(.fn 202 [(.loc 0 0)])] [.cells 125 [(.sl 3 (List.map B8 b0.Data)),(.sl 7 (List.map Ku b0.Codes)),(.sl 3 (Bb b0.Vars)),(.sl 8 (List.map Kv b0.Exprs))]] (Ao r) [.cells 125 [(.sl 3 (List.map B8 b0.Data)),(.sl 7 (List.map Ku b0.Codes)),(.sl 3 (Bb b0.Vars)),(.sl 8 (List.map Kv b0.Exprs))]]:=⟨fun {r} h=>by
 refine aw C0 true Tryz.func201 ?_
 refine Z ?_
 refine A5 [0] h (fun _ h=>?_)
 exact Y⟩
instance {a0:List Bk}:OK (Uz a0) fun r=>Aq Tryz.prog 133 [Kw (Fq.mk a0 [] [] [])] (Ao r):=⟨fun {r} h=>by
 refine pw C0 Tryz.func133 ?_
 refine Z ?_
 refine A5 [0] h (fun _ h=>?_)
 exact Y⟩
instance {a0:List Bk}:OK (Up a0) fun r=>Aq Tryz.prog 77 [Kw (Fq.mk a0 [] [] [])] (Ao r):=⟨fun {r} h=>by
 refine pw C0 Tryz.func77 ?_
 exact Y⟩
instance {a0:Int}:OK (Jf a0) fun r=>Aq Tryz.prog 167 [(O .i64) a0] (Ao r):=⟨fun {r} h=>by
 refine pw C0 Tryz.func167 ?_
 exact Y⟩
instance {a0 a1:Int}:OK (Gv a0 a1) fun r=>Aq Tryz.prog 98 [(O .i64) a0,(O .i64) a1] ((O .i64) r):=⟨fun {r} h=>by
 refine pw C0 Tryz.func98 ?_
 exact Y⟩
instance {a0:List Int}:OK (Hz a0) fun r=>Aq Tryz.prog 101 [(Ap 1 (O .i64)) a0] ((O .i64) r):=⟨fun {r} h=>by
 refine pw C0 Tryz.func101 ?_
 refine Z ?_
 refine Ax h (fun v2=>[(2,(O .i64 0)),(8,(O .i64 v2))]) (fun v2=>[]) ?_
 rintro v2 _ _ _ h _ _
 exact Y⟩
instance {a0:Int}:OK (Ra a0) fun r=>Aq Tryz.prog 256 [(O .i64) a0] (Ao r):=⟨fun {r} h=>by
 refine pw C0 Tryz.func256 ?_
 exact Y⟩
instance {a0 a1:Int}:OK (N3 a0 a1) fun r=>Aq Tryz.prog 171 [(O .i64) a0,(O .i64) a1] ((O .i64) r):=⟨fun {r} h=>by
 refine pw C0 Tryz.func171 ?_
 exact Y⟩
instance {a0 a1:Ct}:OK (N2 a0 a1) fun r=>Aq Tryz.prog 170 [Ek a0,Ek a1] ((O .i64) r):=⟨fun {r} h=>by
 refine pw C0 Tryz.func170 ?_
 exact Y⟩
instance {a0 a1:List Ct}:OK (Qz a0 a1) fun r=>Aq Tryz.prog 169 [(Ap 2 Ek) a0,(Ap 2 Ek) a1,(.fn 170 [])] ((O .i64) r):=⟨fun {r} h=>by
 refine pw C0 Tryz.func169 ?_
 refine Z ?_
 refine Ax h (fun v6=>[(6,(O .i64 0)),(13,(O .i64 v6))]) (fun v6=>[]) ?_
 rintro v6 _ _ _ h _ _
 exact Y⟩
instance {a0 a1:Dc}:OK (Im a0 a1) fun r=>Aq Tryz.prog 105 [F8 a0,F8 a1] ((O .i64) r):=⟨fun {r} h=>by
 refine pw C0 Tryz.func105 ?_
 exact Y⟩
instance {a0 a1:B6}:OK (Ns a0 a1) fun r=>Aq Tryz.prog 104 [Df a0,Df a1] ((O .i64) r):=⟨fun {r} h=>by
 refine pw C0 Tryz.func104 ?_
 exact Y⟩
instance {a0 a1:List B6}:OK (Qq a0 a1) fun r=>Aq Tryz.prog 103 [(Ap 3 Df) a0,(Ap 3 Df) a1,(.fn 104 [])] ((O .i64) r):=⟨fun {r} h=>by
 refine pw C0 Tryz.func103 ?_
 refine Z ?_
 refine Ax h (fun v6=>[(6,(O .i64 0)),(13,(O .i64 v6))]) (fun v6=>[]) ?_
 rintro v6 _ _ _ h _ _
 exact Y⟩
abbrev Aay (k:Nat):Prop:=∀{a0 a1:Bl},OK (Jb k a0 a1) fun r=>Aq Tryz.prog 102 [D6 a0,D6 a1] ((O .i64) r)
abbrev Aaz (k:Nat):Prop:=∀{a0 a1:List Bl},OK (N1 k a0 a1) fun r=>Aq Tryz.prog 168 [(F6 2 F7) a0,(F6 2 F7) a1,(.fn 102 [])] ((O .i64) r)
theorem Aa0 (k:Nat):Aay k/\Aaz k:=by
 induction k with
 | zero=>exact ⟨okz,okz⟩
 | succ k ih=>
  obtain ⟨i0_,i1_⟩:=ih
  refine ⟨@fun a0 a1=>⟨fun {r} h=>?_⟩,@fun a0 a1=>⟨fun {r} h=>?_⟩⟩
  .unfold Jb at h
   refine pw C0 Tryz.func102 ?_
   exact Y
  .unfold N1 at h
   refine pw C0 Tryz.func168 ?_
   refine Z ?_
   refine Ax h (fun v6=>[(6,(O .i64 0)),(13,(O .i64 v6))]) (fun v6=>[]) ?_
   rintro v6 _ _ _ h _ _
   exact Y
instance {k:Nat}:Aay k:=(Aa0 k).1
instance {k:Nat}:Aaz k:=(Aa0 k).2
instance {a0 a1:Cl}:OK (Nr a0 a1) fun r=>Aq Tryz.prog 100 [Dl a0,Dl a1] ((O .i64) r):=⟨fun {r} h=>by
 refine pw C0 Tryz.func100 ?_
 exact Y⟩
instance {a0 a1:List Cl}:OK (Qp a0 a1) fun r=>Aq Tryz.prog 99 [(Ap 3 Dl) a0,(Ap 3 Dl) a1,(.fn 100 [])] ((O .i64) r):=⟨fun {r} h=>by
 refine pw C0 Tryz.func99 ?_
 refine Z ?_
 refine Ax h (fun v6=>[(6,(O .i64 0)),(13,(O .i64 v6))]) (fun v6=>[]) ?_
 rintro v6 _ _ _ h _ _
 exact Y⟩
instance {a0 a1:Bh}:OK (I9 a0 a1) fun r=>Aq Tryz.prog 52 [Du a0,Du a1] ((O .i64) r):=⟨fun {r} h=>by
 refine pw C0 Tryz.func52 ?_
 exact Y⟩
instance {a0:Int}:OK (Gx a0) fun r=>Aq Tryz.prog 145 [(O .i64) a0] (Dk r):=⟨fun {r} h=>by
 exact Ag0 h⟩
instance {b1:List Int}:OK (Wg b1) fun r=>Bp Tryz.prog 213 [(.loc 0 0)] [.cells 187 [(.loc 0 0),(.arr 1 b1.length 0 b1.length)],.rows 5 1 (List.map (O .u8) b1)] (.tup []) [.cells 187 [(.loc 0 0),(.arr 1 b1.length 0 b1.length)],.rows 5 1 (List.map (O .u8) b1)]:=⟨fun {r} h=>by
 cases h
 exact Ag4 _ _⟩
instance {a0:Int} {b1:List Int}:OK (Oh a0 b1) fun r=>Bp Tryz.prog 288 [(.loc 0 0),(O .u8) a0] [.cells 187 [(.loc 0 0),(.arr 1 b1.length 0 b1.length)],.rows 5 1 (List.map (O .u8) b1)] (.val .nilIface) [.cells 187 [(.loc 0 0),(.arr 1 r.length 0 r.length)],.rows 5 1 (List.map (O .u8) r)]:=⟨fun {r} h=>by
 refine aw C0 true Tryz.func288 ?_
 refine Z ?_
 refine A5 [0,1] h (fun _ h=>?_)
 exact Y⟩
instance {a0:ByteArray} {b1:List Int}:OK (Eu a0 b1) fun r=>Bp Tryz.prog 143 [(.loc 0 0),Dk a0] [.cells 187 [(.loc 0 0),(.arr 1 b1.length 0 b1.length)],.rows 5 1 (List.map (O .u8) b1)] (.tup [(O .i64) r.1,.val .nilIface]) [.cells 187 [(.loc 0 0),(.arr 1 r.2.length 0 r.2.length)],.rows 5 1 (List.map (O .u8) r.2)]:=⟨fun {r} h=>by
 refine aw C0 true Tryz.func143 ?_
 refine Z ?_
 refine A5 [0,1] h (fun _ h=>?_)
 exact Y⟩
end Go.Ab
namespace Go.Ab
open Go Go.Proofs
set_option maxRecDepth 10000
set_option maxHeartbeats 4000000
set_option linter.unusedVariables false
abbrev Aa1 (k:Nat):Prop:=∀{a0:Bl} {b1:List Int},OK (N7 k a0 b1) fun r=>Bp Tryz.prog 214 [(.loc 0 0),D6 a0] [.cells 187 [(.loc 0 0),(.arr 1 b1.length 0 b1.length)],.rows 5 1 (List.map (O .u8) b1)] (.tup []) [.cells 187 [(.loc 0 0),(.arr 1 r.length 0 r.length)],.rows 5 1 (List.map (O .u8) r)]
theorem Ahg (k:Nat):Aa1 k:=by
 induction k with
 | zero=>exact okz
 | succ k ih=>
  refine @fun a0 b1=>⟨fun {r} h=>?_⟩
  .unfold N7 at h
   refine aw C0 true Tryz.func214 ?_
   refine Z ?_
   refine Bc h (fun _ h=>?_)
   refine Z ?_
   refine A5 [0,1] h (fun _ h=>?_)
   refine Z ?_
   refine Al h (fun _ h=>?_) (fun _ h=>?_)
   refine Z ?_
   refine A5 [0,1] h (fun _ h=>?_)
   refine Z ?_
   refine Ax h (fun (v15,o16)=>[(20,(O .i64 v15))]) (fun (v15,o16)=>[(0,.cells 187 [(.loc 0 0),(.arr 1 o16.length 0 o16.length)]),(1,.rows 5 1 (List.map (O .u8) o16))]) ?_
   rintro ⟨v15,o16⟩ _ _ _ h _ _
   refine Z ?_
   refine Al h (fun _ h=>?_) (fun _ h=>?_)
   refine Z ?_
   refine Bq h (fun _ _ _ _ h=>?_)
   refine Z ?_
   refine A5 [0,1] h (fun _ h=>?_)
   refine Z ?_
   refine A5 [0,1] h (fun _ h=>?_)
   exact Y
   replace h:=Bz h
   refine Z ?_
   refine A5 [0,1] h (fun _ h=>?_)
   exact Y
   exact Y
instance {k:Nat}:Aa1 k:=(Ahg k)
instance {b1:List Int}:OK (H5 b1) fun r=>Bp Tryz.prog 147 [(.loc 0 0)] [.cells 187 [(.loc 0 0),(.arr 1 b1.length 0 b1.length)],.rows 5 1 (List.map (O .u8) b1)] (Dk r) [.cells 187 [(.loc 0 0),(.arr 1 b1.length 0 b1.length)],.dead]:=⟨fun {r} h=>by
 exact Aah h⟩
instance {b1:List Int}:OK (Vj b1) fun r=>Bp Tryz.prog 213 [(.loc 0 0)] [.cells 187 [(.val (.pointer none)),(.arr 1 b1.length 0 b1.length)],.rows 5 1 (List.map (O .u8) b1)] (.tup []) [.cells 187 [(.loc 0 0),(.arr 1 b1.length 0 b1.length)],.rows 5 1 (List.map (O .u8) b1)]:=⟨fun {r} h=>by
 cases h
 exact Ag5 _ _⟩
instance {a0:ByteArray} {b1:List Int}:OK (Gw a0 b1) fun r=>Bp Tryz.prog 143 [(.loc 0 0),Dk a0] [.cells 187 [(.val (.pointer none)),(.arr 1 b1.length 0 b1.length)],.rows 5 1 (List.map (O .u8) b1)] (.tup [(O .i64) r.1,(.val .nilIface)]) [.cells 187 [(.loc 0 0),(.arr 1 r.2.length 0 r.2.length)],.rows 5 1 (List.map (O .u8) r.2)]:=⟨fun {r} h=>by
 refine aw C0 true Tryz.func143 ?_
 refine Z ?_
 refine A5 [0,1] h (fun _ h=>?_)
 exact Y⟩
instance {a0:Int} {a1:Bl}:OK (Nz a0 a1) fun r=>Aq Tryz.prog 144 [(O .i64) a0,D6 a1] (Dk r):=⟨fun {r} h=>by
 refine pw C0 Tryz.func144 ?_
 refine ZS ?_
 refine Bw ?_
 refine ZS ?_
 refine Bw ?_
 refine ZO ?_
 refine Ay ?_
 refine Dm [.own 5 1 5 1] ?_
 refine Z ?_
 refine Bc h (fun _ h=>?_)
 refine Z ?_
 refine D5 h (fun h=>?_)
 refine Z ?_
 refine D5 h (fun h=>?_)
 refine Z ?_
 refine A5 [1,2] h (fun _ h=>?_)
 refine Z ?_
 refine A5 [1,2] h (fun _ h=>?_)
 refine Z ?_
 refine A5 [1,2] h (fun _ h=>?_)
 exact Y⟩
abbrev Aa2 (k:Nat):Prop:=∀{a0:Ar},OK (Od k a0) fun r=>Aq Tryz.prog 265 [Et a0] ((O .i64) r)
theorem Ahh (k:Nat):Aa2 k:=by
 induction k with
 | zero=>exact okz
 | succ k ih=>
  refine @fun a0=>⟨fun {r} h=>?_⟩
  .unfold Od at h
   refine pw C0 Tryz.func265 ?_
   refine Z ?_
   refine Ax h (fun (v5,v6)=>[(3,(O .i64 v5)),(9,(O .i64 v6))]) (fun (v5,v6)=>[]) ?_
   rintro ⟨v5,v6⟩ _ _ _ h _ _
   exact Y
instance {k:Nat}:Aa2 k:=(Ahh k)
abbrev Aa3 (k:Nat):Prop:=∀{a0:Ar} {a1:List Ar},OK (Mb k a0 a1) fun r=>Aq Tryz.prog 267 [Et a0,(F6 3 Bb) a1] (Et r)
theorem Ahi (k:Nat):Aa3 k:=by
 induction k with
 | zero=>exact okz
 | succ k ih=>
  refine @fun a0 a1=>⟨fun {r} h=>?_⟩
  .unfold Mb at h
   refine pw {T:=B5,an:=(fun _=>.ask),nl:=(fun s=>bif Nat.beq s 42 then [(0,3)] else [])} Tryz.func267 ?_
   refine ZS ?_
   refine Bw ?_
   refine ZO ?_
   refine Ay (Ay ?_)
   refine Br h (fun v3=>[(22,(Ao v3))]) (fun v3=>[]) ?_ ?_
   intro _ h _ _ _
   exact Y
   rintro v3 _ h
   refine Al h (fun _ h=>?_) (fun _ h=>?_)
   exact Y
   refine ZS ?_
   refine Bw ?_
   refine ZO ?_
   refine Ay (Ay ?_)
   refine Dm [.own 5 2 25 3] ?_
   refine Z ?_
   refine Ax h (fun (v18,o19)=>[(37,(O .i64 v18))]) (fun (v18,o19)=>[(2,.cells 25 [(O .i64 a0.Kind),(O .i64 a0.Num),(.arr 3 o19.length 0 o19.length)]),(3,.rows 25 3 (Bb o19))]) ?_
   rintro ⟨v18,o19⟩ _ _ _ h _ _
   exact Y
instance {k:Nat}:Aa3 k:=(Ahi k)
abbrev Aa4 (k:Nat):Prop:=∀{a0:Ar} {a1:List Int},OK (Oe k a0 a1) fun r=>Aq Tryz.prog 266 [Et a0,(Ap 1 (O .i64)) a1] ((O .i64) r)
theorem Ahj (k:Nat):Aa4 k:=by
 induction k with
 | zero=>exact okz
 | succ k ih=>
  refine @fun a0 a1=>⟨fun {r} h=>?_⟩
  .unfold Oe at h
   refine pw C0 Tryz.func266 ?_
   refine ZS ?_
   refine Bw ?_
   refine ZO ?_
   refine Ay (Ay ?_)
   refine Br h (fun v2=>[(22,(Ao v2))]) (fun v2=>[]) ?_ ?_
   intro _ h _ _ _
   exact Y
   rintro v2 _ h
   refine Al h (fun _ h=>?_) (fun _ h=>?_)
   exact Y
   refine Z ?_
   refine Ax h (fun (v7,v8)=>[(5,(O .i64 v7)),(31,(O .i64 v8))]) (fun (v7,v8)=>[]) ?_
   rintro ⟨v7,v8⟩ _ _ _ h _ _
   exact Y
instance {k:Nat}:Aa4 k:=(Ahj k)
instance {a0:List Bk} {a1:Ar} {a2:Int}:OK (Z3 a0 a1 a2) fun r=>Aq Tryz.prog 193 [(Ap 3 B8) a0,Et a1,(O .i64) a2] (.tup [(F6 3 Bb) r.1,Ao r.2]):=⟨fun {r} h=>by
 refine pw {T:=B5,an:=(fun s=>bif Nat.beq s 14 then .own else .ask),nl:=(fun s=>bif Nat.beq s 14 then [(0,3)] else bif Nat.beq s 6 then [(0,3)] else [])} Tryz.func193 ?_
 refine ZS ?_
 refine Bw ?_
 refine ZO ?_
 refine Ay (Ay ?_)
 refine Br h (fun v2=>[(31,(Ao v2))]) (fun v2=>[]) ?_ ?_
 intro _ h _ _ _
 exact Y
 rintro v2 _ h
 refine Al h (fun _ h=>?_) (fun _ h=>?_)
 exact Y
 refine Z ?_
 refine Bq h (fun _ _ _ _ h=>?_)
 refine ZO ?_
 refine Ay (Ay ?_)
 refine Br h (fun v5=>[(53,(Ao v5))]) (fun v5=>[]) ?_ ?_
 intro _ h _ _ _
 exact Y
 rintro v5 _ h
 refine Al h (fun _ h=>?_) (fun _ h=>?_)
 exact Y
 refine Z ?_
 refine Em h (fun o6 h=>?_)
 refine Z ?_
 refine Ea h (fun (v12,o13)=>[(61,(O .i64 v12))]) (fun (v12,o13)=>[(2,.rows 3 1 (List.map (O .i64) o13))]) (fun (v12,o13)=>o6.length=o13.length) ?_
 rintro ⟨v12,o13⟩ _ _ _ h _ _ q13
 refine Z ?_
 refine Al h (fun _ h=>?_) (fun _ h=>?_)
 exact Y
 replace h:=Bz h
 refine Z ?_
 refine Bq h (fun _ _ _ _ h=>?_)
 refine ZO ?_
 refine Ii ?_
 refine Dm [.fz 9] ?_
 refine Z ?_
 refine Ax h (fun v23=>[(6,(.sl 3 (Bb []))),(7,(Ao false)),(79,(O .i64 v23))]) (fun v23=>[]) ?_
 rintro v23 _ _ _ h _ _
 refine Z ?_
 refine Al h (fun _ h=>?_) (fun _ h=>?_)
 exact Y
 replace h:=Bz h
 refine Z ?_
 refine Bq h (fun _ _ _ _ h=>?_)
 refine Z ?_
 refine Ax h (fun (v41,o42)=>[(14,(.arr 3 o42.length 0 o42.length)),(95,(O .i64 v41))]) (fun (v41,o42)=>[(3,.rows 25 3 (Bb o42))]) ?_
 rintro ⟨v41,o42⟩ _ _ _ h _ _
 exact Y⟩
abbrev Aa5 (k:Nat):Prop:=∀{a0:Ar} {a1:Bl} {b1:List (ByteArray×Int)} {b2:List (ByteArray×(List C2))} {b0_0:List Bk} {b0_1:List Ar} {b0_2 b0_3:Int} {b0_4:List Ar},OK (Re k a0 a1 b1 b2 b0_0 b0_1 b0_2 b0_3 b0_4) fun r=>Bp Tryz.prog 315 [(.loc 0 0),Et a0,D6 a1] [.cells 129 [(.sl 3 (List.map B8 b0_0)),(.sl 3 (Bb b0_1)),(O .i64 b0_2),(O .i64 b0_3),(.sl 3 (Bb b0_4)),(.mp 1),(.mp 2)],.map (A7 (O .i64) b1),.map (A7 (Ap 5 Dd) b2)] ((O .i64) r) [.cells 129 [(.sl 3 (List.map B8 b0_0)),(.sl 3 (Bb b0_1)),(O .i64 b0_2),(O .i64 b0_3),(.sl 3 (Bb b0_4)),(.mp 1),(.mp 2)],.map (A7 (O .i64) b1),.map (A7 (Ap 5 Dd) b2)]
abbrev Aa6 (k:Nat):Prop:=∀{a0:Ar} {a1:Bl} {b1:List (ByteArray×Int)} {b2:List (ByteArray×(List C2))} {b0_0:List Bk} {b0_1:List Ar} {b0_2 b0_3:Int} {b0_4:List Ar},OK (Og k a0 a1 b1 b2 b0_0 b0_1 b0_2 b0_3 b0_4) fun r=>Bp Tryz.prog 286 [(.loc 0 0),Et a0,D6 a1] [.cells 129 [(.sl 3 (List.map B8 b0_0)),(.sl 3 (Bb b0_1)),(O .i64 b0_2),(O .i64 b0_3),(.sl 3 (Bb b0_4)),(.mp 1),(.mp 2)],.map (A7 (O .i64) b1),.map (A7 (Ap 5 Dd) b2)] ((O .i64) r) [.cells 129 [(.sl 3 (List.map B8 b0_0)),(.sl 3 (Bb b0_1)),(O .i64 b0_2),(O .i64 b0_3),(.sl 3 (Bb b0_4)),(.mp 1),(.mp 2)],.map (A7 (O .i64) b1),.map (A7 (Ap 5 Dd) b2)]
abbrev Aa7 (k:Nat):Prop:=∀{a0:List Ar} {a1:List Bl} {b1:List (ByteArray×Int)} {b2:List (ByteArray×(List C2))} {b0_0:List Bk} {b0_1:List Ar} {b0_2 b0_3:Int} {b0_4:List Ar},OK (Oj k a0 a1 b1 b2 b0_0 b0_1 b0_2 b0_3 b0_4) fun r=>Bp Tryz.prog 314 [(.loc 0 0),(F6 3 Bb) a0,(F6 2 F7) a1] [.cells 129 [(.sl 3 (List.map B8 b0_0)),(.sl 3 (Bb b0_1)),(O .i64 b0_2),(O .i64 b0_3),(.sl 3 (Bb b0_4)),(.mp 1),(.mp 2)],.map (A7 (O .i64) b1),.map (A7 (Ap 5 Dd) b2)] ((O .i64) r) [.cells 129 [(.sl 3 (List.map B8 b0_0)),(.sl 3 (Bb b0_1)),(O .i64 b0_2),(O .i64 b0_3),(.sl 3 (Bb b0_4)),(.mp 1),(.mp 2)],.map (A7 (O .i64) b1),.map (A7 (Ap 5 Dd) b2)]
theorem Wl (k:Nat):Aa5 k/\Aa6 k/\Aa7 k:=by
 induction k with
 | zero=>exact ⟨okz,okz,okz⟩
 | succ k ih=>
  obtain ⟨i0_,i1_,i2_⟩:=ih
  refine ⟨@fun a0 a1 b1 b2 b0_0 b0_1 b0_2 b0_3 b0_4=>⟨fun {r} h=>?_⟩,@fun a0 a1 b1 b2 b0_0 b0_1 b0_2 b0_3 b0_4=>⟨fun {r} h=>?_⟩,@fun a0 a1 b1 b2 b0_0 b0_1 b0_2 b0_3 b0_4=>⟨fun {r} h=>?_⟩⟩
  .unfold Re at h
   refine aw {T:=B5,an:=(fun s=>bif Nat.beq s 9 then .own else .ask),nl:=(fun s=>bif Nat.beq s 9 then [(0,3)] else [])} true Tryz.func315 ?_
   refine Z ?_
   refine Bc h (fun _ h=>?_)
   refine Z ?_
   refine Al h (fun _ h=>?_) (fun _ h=>?_)
   exact Y
   refine Z ?_
   refine Bc h (fun _ h=>?_)
   refine Z ?_
   refine Ax h (fun (v14,o15)=>[(9,(.arr 5 o15.length 0 o15.length)),(38,(O .i64 v14))]) (fun (v14,o15)=>[(5,.rows 25 3 (Bb o15))]) ?_
   rintro ⟨v14,o15⟩ _ _ _ h _ _
   refine Z ?_
   refine Al h (fun _ h=>?_) (fun _ h=>?_)
   exact Y
   replace h:=Bz h
   refine Ej (Ei rfl (Ay ?_))
   refine Dm [.fz 9] ?_
   refine Z ?_
   refine A5 [0,1,2] h (fun _ h=>?_)
   exact Y
  .unfold Og at h
   refine aw C0 true Tryz.func286 ?_
   refine Z ?_
   refine Al h (fun _ h=>?_) (fun _ h=>?_)
   refine Z ?_
   refine Al h (fun _ h=>?_) (fun _ h=>?_)
   refine Z ?_
   refine A5 [0,1,2] h (fun _ h=>?_)
   exact Y
   exact Y
   refine Z ?_
   refine Al h (fun _ h=>?_) (fun _ h=>?_)
   exact Y
   refine Z ?_
   refine Al h (fun _ h=>?_) (fun _ h=>?_)
   refine Z ?_
   refine Al h (fun _ h=>?_) (fun _ h=>?_)
   exact Y
   refine Z ?_
   refine Ax h (fun (v7,v8)=>[(6,(O .i64 0)),(7,(O .i64 v7)),(50,(O .i64 v8))]) (fun (v7,v8)=>[]) ?_
   rintro ⟨v7,v8⟩ _ _ _ h _ _
   refine Z ?_
   refine Al h (fun _ h=>?_) (fun _ h=>?_)
   refine Z ?_
   refine Bq h (fun _ _ _ _ h=>?_)
   refine Z ?_
   refine A5 [0,1,2] h (fun _ h=>?_)
   exact Y
   exact Y
   exact Y
  .unfold Oj at h
   refine aw C0 true Tryz.func314 ?_
   refine Z ?_
   refine Al h (fun _ h=>?_) (fun _ h=>?_)
   exact Y
   refine Z ?_
   refine Ax h (fun (v5,v6)=>[(6,(O .i64 0)),(7,(O .i64 v5)),(18,(O .i64 v6))]) (fun (v5,v6)=>[]) ?_
   rintro ⟨v5,v6⟩ _ _ _ h _ _
   refine Z ?_
   refine Al h (fun _ h=>?_) (fun _ h=>?_)
   refine Z ?_
   refine Bq h (fun _ _ _ _ h=>?_)
   refine Z ?_
   refine Bq h (fun _ _ _ _ h=>?_)
   refine Z ?_
   refine A5 [0,1,2] h (fun _ h=>?_)
   exact Y
   exact Y
instance {k:Nat}:Aa5 k:=(Wl k).1
instance {k:Nat}:Aa6 k:=(Wl k).2.1
instance {k:Nat}:Aa7 k:=(Wl k).2.2
instance {a0:Int} {b1:List (ByteArray×Int)} {b2:List (ByteArray×(List C2))} {b0_0:List Bk} {b0_1:List Ar} {b0_2 b0_3:Int} {b0_4:List Ar}:OK (Qm a0 b1 b2 b0_0 b0_1 b0_2 b0_3 b0_4) fun r=>Bp Tryz.prog 68 [(.loc 0 0),(O .i64) a0] [.cells 129 [(.sl 3 (List.map B8 b0_0)),(.sl 3 (Bb b0_1)),(O .i64 b0_2),(O .i64 b0_3),(.sl 3 (Bb b0_4)),(.mp 1),(.mp 2)],.map (A7 (O .i64) b1),.map (A7 (Ap 5 Dd) b2)] (Et r) [.cells 129 [(.sl 3 (List.map B8 b0_0)),(.sl 3 (Bb b0_1)),(O .i64 b0_2),(O .i64 b0_3),(.sl 3 (Bb b0_4)),(.mp 1),(.mp 2)],.map (A7 (O .i64) b1),.map (A7 (Ap 5 Dd) b2)]:=⟨fun {r} h=>by
 refine aw C0 true Tryz.func68 ?_
 exact Y⟩
instance {a0:Int} {a1:Bl} {b1:List (ByteArray×Int)} {b2:List (ByteArray×(List C2))} {b0_0:List Bk} {b0_1:List Ar} {b0_2 b0_3:Int} {b0_4:List Ar}:OK (N6 a0 a1 b1 b2 b0_0 b0_1 b0_2 b0_3 b0_4) fun r=>Bp Tryz.prog 212 [(.loc 0 0),(O .i64) a0,D6 a1] [.cells 129 [(.sl 3 (List.map B8 b0_0)),(.sl 3 (Bb b0_1)),(O .i64 b0_2),(O .i64 b0_3),(.sl 3 (Bb b0_4)),(.mp 1),(.mp 2)],.map (A7 (O .i64) b1),.map (A7 (Ap 5 Dd) b2)] ((O .i64) r.1) [.cells 129 [(.sl 3 (List.map B8 b0_0)),(.sl 3 (Bb b0_1)),(O .i64 b0_2),(O .i64 b0_3),(.sl 3 (Bb b0_4)),(.mp 1),(.mp 2)],.map (A7 (O .i64) r.2),.map (A7 (Ap 5 Dd) b2)]:=⟨fun {r} h=>by
 refine aw C0 true Tryz.func212 ?_
 refine Z ?_
 refine Bc h (fun _ h=>?_)
 refine ZO ?_
 refine Ay ?_
 refine Br h (fun (v3,v4)=>[(8,(O .i64 v3)),(9,(Ao v4))]) (fun (v3,v4)=>[]) ?_ ?_
 intro _ h _ _ _
 refine Z ?_
 refine P8 (f:=(O .i64)) (l:=b1) rfl (0:Int) h (fun j_ hb h=>?_) (fun hb h=>?_)
 exact Y
 exact Y
 rintro ⟨v3,v4⟩ _ h
 refine Z ?_
 refine Al h (fun _ h=>?_) (fun _ h=>?_)
 refine Z ?_
 refine A5 [0,1,2] h (fun _ h=>?_)
 refine Z ?_
 refine A5 [0,1,2] h (fun _ h=>?_)
 refine ZS ?_
 refine Bw ?_
 refine ZO ?_
 refine Br h (fun v7=>[(8,(O .i64 v7))]) (fun v7=>[]) ?_ ?_
 intro _ h _ _ _
 exact Y
 rintro v7 _ h
 refine Z ?_
 refine M6 (f:=(O .i64)) (l:=b1) (x:=v7) rfl rfl ?_
 exact Y
 exact Y⟩
instance {a0:Bh} {b1:List (ByteArray×Int)} {b2:List (ByteArray×(List C2))} {b0_0:List Bk} {b0_1:List Ar} {b0_2 b0_3:Int} {b0_4:List Ar}:OK (Vi a0 b1 b2 b0_0 b0_1 b0_2 b0_3 b0_4) fun r=>Bp Tryz.prog 211 [(.loc 0 0),Du a0] [.cells 129 [(.sl 3 (List.map B8 b0_0)),(.sl 3 (Bb b0_1)),(O .i64 b0_2),(O .i64 b0_3),(.sl 3 (Bb b0_4)),(.mp 1),(.mp 2)],.map (A7 (O .i64) b1),.map (A7 (Ap 5 Dd) b2)] ((O .i64) r.1) [.cells 129 [(.sl 3 (List.map B8 b0_0)),(.sl 3 (Bb b0_1)),(O .i64 b0_2),(O .i64 b0_3),(.sl 3 (Bb b0_4)),(.mp 1),(.mp 2)],.map (A7 (O .i64) r.2),.map (A7 (Ap 5 Dd) b2)]:=⟨fun {r} h=>by
 refine aw C0 true Tryz.func211 ?_
 refine Z ?_
 refine Ax h (fun (v5,v6,o7)=>[(5,(O .i64 v5)),(13,(O .i64 v6))]) (fun (v5,v6,o7)=>[(1,.map (A7 (O .i64) o7))]) ?_
 rintro ⟨v5,v6,o7⟩ _ _ _ h _ _
 refine Z ?_
 refine Al h (fun _ h=>?_) (fun _ h=>?_)
 refine Z ?_
 refine Bq h (fun _ _ _ _ h=>?_)
 refine Z ?_
 refine Al h (fun _ h=>?_) (fun _ h=>?_)
 refine Z ?_
 refine A5 [0,1,2] h (fun _ h=>?_)
 exact Y
 exact Y
 replace h:=Bz h
 refine Z ?_
 refine Ax h (fun (v15,v16)=>[(5,(O .i64 v15)),(31,(O .i64 v16))]) (fun (v15,v16)=>[]) ?_
 rintro ⟨v15,v16⟩ _ _ _ h _ _
 exact Y⟩
instance {a0:Int} {b1:List (ByteArray×Int)} {b2:List (ByteArray×(List C2))} {b0_0:List Bk} {b0_1:List Ar} {b0_2 b0_3:Int} {b0_4:List Ar}:OK (Qy a0 b1 b2 b0_0 b0_1 b0_2 b0_3 b0_4) fun r=>Bp Tryz.prog 162 [(.loc 0 0),(O .i64) a0] [.cells 129 [(.sl 3 (List.map B8 b0_0)),(.sl 3 (Bb b0_1)),(O .i64 b0_2),(O .i64 b0_3),(.sl 3 (Bb b0_4)),(.mp 1),(.mp 2)],.map (A7 (O .i64) b1),.map (A7 (Ap 5 Dd) b2)] (Ao r) [.cells 129 [(.sl 3 (List.map B8 b0_0)),(.sl 3 (Bb b0_1)),(O .i64 b0_2),(O .i64 b0_3),(.sl 3 (Bb b0_4)),(.mp 1),(.mp 2)],.map (A7 (O .i64) b1),.map (A7 (Ap 5 Dd) b2)]:=⟨fun {r} h=>by
 refine aw C0 true Tryz.func162 ?_
 exact Y⟩
instance {a0:Ct} {b2:List (ByteArray×Int)} {b3:List (ByteArray×(List C2))} {b1_0:List Bk} {b1_1:List Ar} {b1_2 b1_3:Int} {b1_4:List Ar}:OK (U9 a0 b2 b3 b1_0 b1_1 b1_2 b1_3 b1_4) fun r=>Bp Tryz.prog 161 [Ek a0,(.loc 0 0)] [.cells 66 [(.loc 1 0)],.cells 129 [(.sl 3 (List.map B8 b1_0)),(.sl 3 (Bb b1_1)),(O .i64 b1_2),(O .i64 b1_3),(.sl 3 (Bb b1_4)),(.mp 2),(.mp 3)],.map (A7 (O .i64) b2),.map (A7 (Ap 5 Dd) b3)] (Ao r) [.cells 66 [(.loc 1 0)],.cells 129 [(.sl 3 (List.map B8 b1_0)),(.sl 3 (Bb b1_1)),(O .i64 b1_2),(O .i64 b1_3),(.sl 3 (Bb b1_4)),(.mp 2),(.mp 3)],.map (A7 (O .i64) b2),.map (A7 (Ap 5 Dd) b3)]:=⟨fun {r} h=>by
 refine aw C0 true Tryz.func161 ?_
 refine Z ?_
 refine A5 [1,2,3] h (fun _ h=>?_)
 refine Z ?_
 refine El h (fun _ h=>?_) (fun _ h=>?_)
 exact Y
 refine Z ?_
 refine A5 [1,2,3] h (fun _ h=>?_)
 refine Z ?_
 refine Tl.mk 3 (by kernel_rfl) ?_
 exact Y⟩
instance {a0:List Ct} {b2:List (ByteArray×Int)} {b3:List (ByteArray×(List C2))} {b1_0:List Bk} {b1_1:List Ar} {b1_2 b1_3:Int} {b1_4:List Ar}:OK (Vk a0 b2 b3 b1_0 b1_1 b1_2 b1_3 b1_4) fun r=>Bp Tryz.prog 234 [(Ap 2 Ek) a0,(.fn 161 [(.loc 0 0)])] [.cells 66 [(.loc 1 0)],.cells 129 [(.sl 3 (List.map B8 b1_0)),(.sl 3 (Bb b1_1)),(O .i64 b1_2),(O .i64 b1_3),(.sl 3 (Bb b1_4)),(.mp 2),(.mp 3)],.map (A7 (O .i64) b2),.map (A7 (Ap 5 Dd) b3)] ((O .i64) r) [.cells 66 [(.loc 1 0)],.cells 129 [(.sl 3 (List.map B8 b1_0)),(.sl 3 (Bb b1_1)),(O .i64 b1_2),(O .i64 b1_3),(.sl 3 (Bb b1_4)),(.mp 2),(.mp 3)],.map (A7 (O .i64) b2),.map (A7 (Ap 5 Dd) b3)]:=⟨fun {r} h=>by
 refine aw C0 true Tryz.func234 ?_
 refine Z ?_
 refine Ax h (fun v3=>[(4,(O .i64 0)),(8,(O .i64 v3))]) (fun v3=>[]) ?_
 rintro v3 _ _ _ h _ _
 refine Z ?_
 refine Al h (fun _ h=>?_) (fun _ h=>?_)
 refine Z ?_
 refine Bq h (fun _ _ _ _ h=>?_)
 refine Z ?_
 refine A5 [0,1,2,3] h (fun _ h=>?_)
 exact Y
 exact Y⟩
instance {a0:List Ct} {b2:List (ByteArray×Int)} {b3:List (ByteArray×(List C2))} {b1_0:List Bk} {b1_1:List Ar} {b1_2 b1_3:Int} {b1_4:List Ar}:OK (U8 a0 b2 b3 b1_0 b1_1 b1_2 b1_3 b1_4) fun r=>Bp Tryz.prog 160 [(Ap 2 Ek) a0,(.fn 161 [(.loc 0 0)])] [.cells 66 [(.loc 1 0)],.cells 129 [(.sl 3 (List.map B8 b1_0)),(.sl 3 (Bb b1_1)),(O .i64 b1_2),(O .i64 b1_3),(.sl 3 (Bb b1_4)),(.mp 2),(.mp 3)],.map (A7 (O .i64) b2),.map (A7 (Ap 5 Dd) b3)] (Ao r) [.cells 66 [(.loc 1 0)],.cells 129 [(.sl 3 (List.map B8 b1_0)),(.sl 3 (Bb b1_1)),(O .i64 b1_2),(O .i64 b1_3),(.sl 3 (Bb b1_4)),(.mp 2),(.mp 3)],.map (A7 (O .i64) b2),.map (A7 (Ap 5 Dd) b3)]:=⟨fun {r} h=>by
 refine aw C0 true Tryz.func160 ?_
 refine Z ?_
 refine A5 [0,1,2,3] h (fun _ h=>?_)
 exact Y⟩
instance {a0:Dc} {b1:List (ByteArray×Int)} {b2:List (ByteArray×(List C2))} {b0_0:List Bk} {b0_1:List Ar} {b0_2 b0_3:Int} {b0_4:List Ar}:OK (Qo a0 b1 b2 b0_0 b0_1 b0_2 b0_3 b0_4) fun r=>Bp Tryz.prog 90 [(.loc 0 0),F8 a0] [.cells 129 [(.sl 3 (List.map B8 b0_0)),(.sl 3 (Bb b0_1)),(O .i64 b0_2),(O .i64 b0_3),(.sl 3 (Bb b0_4)),(.mp 1),(.mp 2)],.map (A7 (O .i64) b1),.map (A7 (Ap 5 Dd) b2)] (Ao r) [.cells 129 [(.sl 3 (List.map B8 b0_0)),(.sl 3 (Bb b0_1)),(O .i64 b0_2),(O .i64 b0_3),(.sl 3 (Bb b0_4)),(.mp 1),(.mp 2)],.map (A7 (O .i64) b1),.map (A7 (Ap 5 Dd) b2)]:=⟨fun {r} h=>by
 refine aw C0 true Tryz.func90 ?_
 refine Z ?_
 refine A5 [3,0,1,2] h (fun _ h=>?_)
 exact Y⟩
instance {a0:Bh} {b1:List (ByteArray×Int)} {b2:List (ByteArray×(List C2))} {b0_0:List Bk} {b0_1:List Ar} {b0_2 b0_3:Int} {b0_4:List Ar}:OK (Vh a0 b1 b2 b0_0 b0_1 b0_2 b0_3 b0_4) fun r=>Bp Tryz.prog 210 [(.loc 0 0),Du a0] [.cells 129 [(.sl 3 (List.map B8 b0_0)),(.sl 3 (Bb b0_1)),(O .i64 b0_2),(O .i64 b0_3),(.sl 3 (Bb b0_4)),(.mp 1),(.mp 2)],.map (A7 (O .i64) b1),.map (A7 (Ap 5 Dd) b2)] (Ao r.1) [.cells 129 [(.sl 3 (List.map B8 b0_0)),(.sl 3 (Bb b0_1)),(O .i64 b0_2),(O .i64 b0_3),(.sl 3 (Bb b0_4)),(.mp 1),(.mp 2)],.map (A7 (O .i64) r.2),.map (A7 (Ap 5 Dd) b2)]:=⟨fun {r} h=>by
 refine aw C0 true Tryz.func210 ?_
 refine Z ?_
 refine Ax h (fun (v6,o7)=>[(4,(Ao false)),(12,(O .i64 v6))]) (fun (v6,o7)=>[(1,.map (A7 (O .i64) o7))]) ?_
 rintro ⟨v6,o7⟩ _ _ _ h _ _
 refine Z ?_
 refine Al h (fun _ h=>?_) (fun _ h=>?_)
 refine Z ?_
 refine Bq h (fun _ _ _ _ h=>?_)
 refine Z ?_
 refine A5 [0,1,2] h (fun _ h=>?_)
 refine Z ?_
 refine El h (fun _ h=>?_) (fun _ h=>?_)
 exact Y
 refine Z ?_
 refine A5 [0,1,2] h (fun _ h=>?_)
 exact Y
 replace h:=Bz h
 refine Z ?_
 refine Ax h (fun v18=>[(4,(Ao false)),(34,(O .i64 v18))]) (fun v18=>[]) ?_
 rintro v18 _ _ _ h _ _
 refine Z ?_
 refine Al h (fun _ h=>?_) (fun _ h=>?_)
 refine Z ?_
 refine Bq h (fun _ _ _ _ h=>?_)
 refine Z ?_
 refine El h (fun _ h=>?_) (fun _ h=>?_)
 exact Y
 refine Z ?_
 refine A5 [0,1,2] h (fun _ h=>?_)
 exact Y
 exact Y⟩
instance {a0:Bh} {b1:List (ByteArray×Int)} {b2:List (ByteArray×(List C2))} {b0_0:List Bk} {b0_1:List Ar} {b0_2 b0_3:Int} {b0_4:List Ar}:OK (U6 a0 b1 b2 b0_0 b0_1 b0_2 b0_3 b0_4) fun r=>Bp Tryz.prog 142 [(.loc 0 0),Du a0] [.cells 129 [(.sl 3 (List.map B8 b0_0)),(.sl 3 (Bb b0_1)),(O .i64 b0_2),(O .i64 b0_3),(.sl 3 (Bb b0_4)),(.mp 1),(.mp 2)],.map (A7 (O .i64) b1),.map (A7 (Ap 5 Dd) b2)] (Ao r.1) [.cells 129 [(.sl 3 (List.map B8 b0_0)),(.sl 3 (Bb b0_1)),(O .i64 b0_2),(O .i64 b0_3),(.sl 3 (Bb b0_4)),(.mp 1),(.mp 2)],.map (A7 (O .i64) r.2),.map (A7 (Ap 5 Dd) b2)]:=⟨fun {r} h=>by
 refine aw C0 true Tryz.func142 ?_
 refine ZS ?_
 refine Bw ?_
 refine ZO ?_
 refine Ay (Ay ?_)
 refine Br h (fun (v4,o5)=>[(18,(Ao v4))]) (fun (v4,o5)=>[(1,.map (A7 (O .i64) o5))]) ?_ ?_
 intro _ h _ _ _
 refine Z ?_
 refine A5 [0,1,2] h (fun _ h=>?_)
 refine Z ?_
 refine El h (fun _ h=>?_) (fun _ h=>?_)
 exact Y
 refine Z ?_
 refine A5 [0,1,2] h (fun _ h=>?_)
 exact Y
 rintro ⟨v4,o5⟩ _ h
 refine Al h (fun _ h=>?_) (fun _ h=>?_)
 exact Y
 refine Z ?_
 refine Ax h (fun (v9,o10)=>[(4,(Ao false)),(22,(O .i64 v9))]) (fun (v9,o10)=>[(1,.map (A7 (O .i64) o10))]) ?_
 rintro ⟨v9,o10⟩ _ _ _ h _ _
 refine Z ?_
 refine Al h (fun _ h=>?_) (fun _ h=>?_)
 refine Z ?_
 refine Bq h (fun _ _ _ _ h=>?_)
 refine Z ?_
 refine A5 [0,1,2] h (fun _ h=>?_)
 exact Y
 replace h:=Bz h
 refine Z ?_
 refine Ax h (fun v22=>[(4,(Ao false)),(54,(O .i64 v22))]) (fun v22=>[]) ?_
 rintro v22 _ _ _ h _ _
 refine Z ?_
 refine Al h (fun _ h=>?_) (fun _ h=>?_)
 refine Z ?_
 refine Bq h (fun _ _ _ _ h=>?_)
 refine ZO ?_
 refine Ay (Ay ?_)
 refine Br h (fun v26=>[(74,(Ao v26))]) (fun v26=>[]) ?_ ?_
 intro _ h _ _ _
 exact Y
 rintro v26 _ h
 exact Y
 exact Y⟩
instance {a0 a1:List Int}:OK (Kn a0 a1) fun r=>Aq Tryz.prog 174 [(Ap 1 (O .u32)) a0,(Ap 1 (O .u32)) a1] ((O .i64) r):=⟨fun {r} h=>by
 refine pw C0 Tryz.func174 ?_
 refine Z ?_
 refine Al h (fun _ h=>?_) (fun _ h=>?_)
 exact Y
 refine Z ?_
 refine Ax h (fun v5=>[(4,(O .i64 0)),(5,(O .i64 v5))]) (fun v5=>[]) ?_
 rintro v5 _ _ _ h _ _
 exact Y⟩
instance {a0:List Int}:OK (F5 a0) fun r=>Aq Tryz.prog 198 [(Ap 1 (O .u32)) a0] ((Ap 1 (O .u32)) r):=⟨fun {r} h=>by
 refine pw {T:=B5,an:=(fun _=>.ask),nl:=(fun s=>bif Nat.beq s 2 then [(0,1)] else [])} Tryz.func198 ?_
 refine Z ?_
 refine Ax h (fun v2=>[(3,(O .i64 v2))]) (fun v2=>[]) ?_
 rintro v2 _ _ _ h _ _
 exact Y⟩
instance {a0:List Int} {a1:Int}:OK (Kr a0 a1) fun r=>Aq Tryz.prog 291 [(Ap 1 (O .u32)) a0,(O .u64) a1] (.tup [(Ap 1 (O .u32)) r.1,(O .u64) r.2]):=⟨fun {r} h=>by
 refine pw {T:=B5,an:=(fun _=>.ask),nl:=(fun s=>bif Nat.beq s 4 then [(0,1)] else [])} Tryz.func291 ?_
 refine Z ?_
 refine Em h (fun o1 h=>?_)
 refine Z ?_
 refine Ea h (fun (v7,v8,o9)=>[(7,(O .u64 v7)),(8,(O .i64 v8))]) (fun (v7,v8,o9)=>[(0,.rows 133 1 (List.map (O .u32) o9))]) (fun (v7,v8,o9)=>o1.length=o9.length) ?_
 rintro ⟨v7,v8,o9⟩ _ _ _ h _ _ q9
 refine Z ?_
 refine Al h (fun _ h=>?_) (fun _ h=>?_)
 exact Y
 replace h:=Bz h
 refine Ej (Ei rfl (Ay ?_))
 refine Dm [.fz 6] ?_
 exact Y⟩
instance {a0:Int}:OK (Iq a0) fun r=>Aq Tryz.prog 148 [(O .u64) a0] ((Ap 1 (O .u32)) r):=⟨fun {r} h=>by
 refine pw {T:=B5,an:=(fun s=>bif Nat.beq s 3 then .own else .ask),nl:=(fun s=>bif Nat.beq s 3 then [(0,1)] else bif Nat.beq s 2 then [(0,1)] else [])} Tryz.func148 ?_
 refine Z ?_
 refine Ax h (fun (v10,o11)=>[(0,(O .u64 v10)),(3,(.arr 0 o11.length 0 o11.length))]) (fun (v10,o11)=>[(0,.rows 133 1 (List.map (O .u32) o11))]) ?_
 rintro ⟨v10,o11⟩ _ _ _ h _ _
 exact Y⟩
instance {a0:List Int} {a1:Int}:OK (Md a0 a1) fun r=>Bp Tryz.prog 292 [(Ap 1 (O .u32)) a0,(O .u64) a1] [] (.arr 0 r.length 0 r.length) [.rows 133 1 (List.map (O .u32) r)]:=⟨fun {r} h=>by
 refine aw {T:=B5,an:=(fun _=>.ask),nl:=(fun s=>bif Nat.beq s 4 then [(0,1)] else [])} false Tryz.func292 ?_
 refine Z ?_
 refine Em h (fun o1 h=>?_)
 refine Z ?_
 refine Ea h (fun (v7,v8,o9)=>[(6,(O .u64 v7)),(15,(O .i64 v8))]) (fun (v7,v8,o9)=>[(0,.rows 133 1 (List.map (O .u32) o9))]) (fun (v7,v8,o9)=>o1.length=o9.length) ?_
 rintro ⟨v7,v8,o9⟩ _ _ _ h _ _ q9
 refine Z ?_
 refine Al h (fun _ h=>?_) (fun _ h=>?_)
 exact Y
 replace h:=Bz h
 refine Z ?_
 refine H6 h (fun _ _ hiv16 _ h=>?_)
 refine Z ?_
 refine Hx (f:=(O .u32)) (x:=(Bg v7)) (j:=(a0.length:Int)) rfl rfl (Nat.zero_add _) hiv16 ?_
 refine Z ?_
 cases h
 exact ⟨congrArg (fun q_=>AV.arr 0 q_ 0 q_) (Ef (l:=o9) q9 (a0.length:Int) (Bg v7)),rfl,trivial⟩⟩
instance {a0:List Int} {a1:Int}:OK (Wh a0 a1) fun r=>Aq Tryz.prog 292 [(Ap 1 (O .u32)) a0,(O .u64) a1] ((Ap 1 (O .u32)) r):=⟨fun {r} h=>by
 refine pw {T:=B5,an:=(fun _=>.ask),nl:=(fun s=>bif Nat.beq s 4 then [(0,1)] else [])} Tryz.func292 ?_
 refine Z ?_
 refine Em h (fun o1 h=>?_)
 refine Z ?_
 refine Ea h (fun (v7,v8,o9)=>[(6,(O .u64 v7)),(15,(O .i64 v8))]) (fun (v7,v8,o9)=>[(0,.rows 133 1 (List.map (O .u32) o9))]) (fun (v7,v8,o9)=>o1.length=o9.length) ?_
 rintro ⟨v7,v8,o9⟩ _ _ _ h _ _ q9
 exact Y⟩
instance {a0 a1:Nat} {a2 b0:List Int}:OK (Oi a0 a1 a2 b0) fun r=>Bp Tryz.prog 293 [(.arr 0 b0.length a0 a1),(Ap 1 (O .u32)) a2] [.rows 133 1 (List.map (O .u32) b0)] ((O .u32) r.1) [.rows 133 1 (List.map (O .u32) r.2)]:=⟨fun {r} h=>by
 refine aw C0 true Tryz.func293 ?_
 refine Z ?_
 refine Bq h (fun _ _ _ _ h=>?_)
 refine Z ?_
 refine Bq h (fun _ _ _ _ h=>?_)
 refine Z ?_
 refine Fr h (fun _ _ _ _ h=>?_)
 refine Z ?_
 refine Fr h (fun _ _ _ _ h=>?_)
 refine Z ?_
 refine M7 h (fun _ h=>?_)
 refine Z ?_
 refine P9 h (fun _ h=>?_)
 refine Z ?_
 refine Ax h (fun (v9,v10)=>[(9,(O .u64 v9)),(10,(O .u64 v10))]) (fun (v9,v10)=>[]) ?_
 rintro ⟨v9,v10⟩ _ _ _ h _ _
 refine Ay (Ay ?_)
 refine Br h (fun v12=>[(71,(Ao v12))]) (fun v12=>[]) ?_ ?_
 intro _ h _ _ _
 exact Y
 rintro v12 _ h
 refine Al h (fun _ h=>?_) (fun _ h=>?_)
 exact Y
 replace h:=Bz h
 refine Z ?_
 refine Ea h (fun (v24,v25,o26)=>[(11,(O .i64 v24)),(78,(O .i64 v25))]) (fun (v24,v25,o26)=>[(0,.rows 133 1 (List.map (O .u32) o26))]) (fun (v24,v25,o26)=>b0.length=o26.length) ?_
 rintro ⟨v24,v25,o26⟩ _ _ _ h _ _ q26
 refine Z ?_
 refine Al h (fun _ h=>?_) (fun _ h=>?_)
 refine Z ?_
 refine Fr h (fun _ _ _ _ h=>?_)
 refine Z ?_
 refine Bq h (fun _ _ _ _ h=>?_)
 refine Z ?_
 refine P9 h (fun _ h=>?_)
 refine Z ?_
 refine Bq h (fun _ _ _ _ h=>?_)
 refine Z ?_
 refine M7 h (fun _ h=>?_)
 refine Z ?_
 refine Ax h (fun (v32,v33)=>[(11,(O .i64 v32)),(13,(O .i64 v33))]) (fun (v32,v33)=>[]) ?_
 rintro ⟨v32,v33⟩ _ _ _ h _ _
 exact Y
 replace h:=Bz h
 refine Z ?_
 refine Fr h (fun _ _ _ _ h=>?_)
 refine Z ?_
 refine Al h (fun _ h=>?_) (fun _ h=>?_)
 exact Y
 refine Z ?_
 refine Ea h (fun (v46,v47,o48)=>[(15,(O .u32 v46)),(136,(O .i64 v47))]) (fun (v46,v47,o48)=>[(0,.rows 133 1 (List.map (O .u32) o48))]) (fun (v46,v47,o48)=>b0.length=o48.length) ?_
 rintro ⟨v46,v47,o48⟩ _ _ _ h _ _ q48
 exact Y⟩
instance {a0 a1:List Int}:OK (Kq a0 a1) fun r=>Aq Tryz.prog 220 [(Ap 1 (O .u32)) a0,(Ap 1 (O .u32)) a1] (.tup [(Ap 1 (O .u32)) r.1,(Ap 1 (O .u32)) r.2]):=⟨fun {r} h=>by
 refine pw {T:=B5,an:=(fun _=>.ask),nl:=(fun s=>bif Nat.beq s 5 then [(0,1)] else bif Nat.beq s 4 then [(0,1)] else [])} Tryz.func220 ?_
 refine Z ?_
 refine Bc h (fun _ h=>?_)
 refine Z ?_
 refine Al h (fun _ h=>?_) (fun _ h=>?_)
 exact Y
 refine Z ?_
 refine Al h (fun _ h=>?_) (fun _ h=>?_)
 exact Y
 refine Z ?_
 refine Bq h (fun _ _ _ _ h=>?_)
 refine Z ?_
 refine M7 h (fun _ h=>?_)
 refine Z ?_
 refine A5 [] h (fun v9 h=>?_)
 refine Z ?_
 refine Bc h (fun _ h=>?_)
 refine Z ?_
 refine Kx h (fun v12 h=>?_)
 refine Z ?_
 refine Em h (fun o13 h=>?_)
 refine Z ?_
 refine Ea h (fun (v19,o20,o21)=>[(13,(O .i64 v19))]) (fun (v19,o20,o21)=>[(0,.rows 133 1 (List.map (O .u32) o20)),(1,.rows 133 1 (List.map (O .u32) o21))]) (fun (v19,o20,o21)=>v9.length=o20.length/\o13.length=o21.length) ?_ (h0:=(⟨rfl,rfl⟩))
 rintro ⟨v19,o20,o21⟩ _ _ _ h _ hn1 ⟨q20,q21⟩
 refine Z ?_
 refine Al h (fun _ h=>?_) (fun _ h=>?_)
 refine Z ?_
 refine Ls (f:=(O .u32)) rfl q20 h (fun v22 h=>?_)
 refine Z ?_
 refine Cn h (fun v23 hcv23 h=>?_)
 have okv23:=(OK.ok hcv23 :)
 rw [<-q20] at okv23
 refine Er.act [0] _ _ _ _ okv23 rfl rfl ⟨rfl,trivial⟩ ?_
 refine Cn h (fun v24 hgv24 h=>?_)
 refine Z ?_
 refine H6 h (fun _ _ hiv25 _ h=>?_)
 refine Z ?_
 refine Hx (f:=(O .u32)) (x:=v23.1) (j:=v19) rfl rfl (Nat.zero_add _) hiv25 ?_
 refine Z ?_
 exact hn1 _ _ _ _ (Option.some.inj h) ⟨rfl,trivial⟩ ⟨⟨rfl,rfl⟩,⟨rfl,rfl⟩,trivial⟩ (⟨F2 hgv24,Ef (l:=o21) q21 v19 v23.1⟩)
 replace h:=Bz h
 refine Ej (Ei rfl (Ay ?_))
 refine Dm [.fz 10] ?_
 refine Z ?_
 refine Bc h (fun _ h=>?_)
 refine Z ?_
 refine Bc h (fun _ h=>?_)
 refine ZO ?_
 refine Ay ?_
 refine Dm [.fz 12] ?_
 exact Y⟩
instance {a0:List Int}:OK (Mc a0) fun r=>Aq Tryz.prog 290 [(Ap 1 (O .u32)) a0] (.tup [(O .u64) r.1,Ao r.2]):=⟨fun {r} h=>by
 refine pw C0 Tryz.func290 ?_
 refine Z ?_
 refine Ax h (fun (v3,v4)=>[(2,(O .u64 0)),(3,(Ao false)),(4,(O .u64 v3)),(9,(O .i64 v4))]) (fun (v3,v4)=>[]) ?_
 rintro ⟨v3,v4⟩ _ _ _ h _ _
 exact Y⟩
end Go.Ab
namespace Go.Ab
open Go Go.Proofs
set_option maxRecDepth 10000
set_option maxHeartbeats 4000000
set_option linter.unusedVariables false
instance {a0 a1:List Int}:OK (N9 a0 a1) fun r=>Aq Tryz.prog 219 [(Ap 1 (O .u32)) a0,(Ap 1 (O .u32)) a1] ((Ap 1 (O .u32)) r):=⟨fun {r} h=>by
 refine pw {T:=B5,an:=(fun _=>.ask),nl:=(fun s=>bif Nat.beq s 4 then [(0,1)] else [])} Tryz.func219 ?_
 refine Z ?_
 refine Ax h (fun (v12,v13)=>[(0,(.sl 1 (List.map (O .u32) v12))),(1,(.sl 1 (List.map (O .u32) v13))),(4,(.sl 1 (List.map (O .u32) [])))]) (fun (v12,v13)=>[]) ?_
 rintro ⟨v12,v13⟩ _ _ _ h _ _
 refine Z ?_
 refine Al h (fun _ h=>?_) (fun _ h=>?_)
 refine Hy (Ii (Ay (Ay ?_)))
 refine Br h (fun v14=>[(21,(Ao v14))]) (fun v14=>[]) ?_ ?_
 intro _ h _ _ _
 exact Y
 rintro v14 _ h
 refine Al h (fun _ h=>?_) (fun _ h=>?_)
 refine Z ?_
 refine Bc h (fun _ h=>?_)
 refine Z ?_
 refine Bc h (fun _ h=>?_)
 refine Z ?_
 refine Ax h (fun (v18,v19)=>[(5,(O .u64 v18)),(7,(O .u64 v19))]) (fun (v18,v19)=>[]) ?_
 rintro ⟨v18,v19⟩ _ _ _ h _ _
 exact Y
 exact Y
 exact Y⟩
instance {a0:List Int}:OK (Kp a0) fun r=>Aq Tryz.prog 218 [(Ap 1 (O .u32)) a0] (Ao r):=⟨fun {r} h=>by
 refine pw C0 Tryz.func218 ?_
 exact Y⟩
instance {a0:D7}:OK (Qw a0) fun r=>Aq Tryz.prog 149 [Jh a0] (Jh r):=⟨fun {r} h=>by
 refine pw {T:=B5,an:=(fun _=>.ask),nl:=(fun s=>bif Nat.beq s 13 then [(1,1)] else [])} Tryz.func149 ?_
 exact Y⟩
instance {a0:D7}:OK (Ik a0) fun r=>Aq Tryz.prog 82 [Jh a0] (C1 r):=⟨fun {r} h=>by
 refine pw C0 Tryz.func82 ?_
 exact Y⟩
instance {a0:List Int}:OK (L6 a0) fun r=>Aq Tryz.prog 172 [(Ap 1 (O .u32)) a0] ((Ap 1 (O .u32)) r):=⟨fun {r} h=>by
 refine pw {T:=B5,an:=(fun _=>.ask),nl:=(fun s=>bif Nat.beq s 2 then [(0,1)] else [])} Tryz.func172 ?_
 refine Z ?_
 refine Em h (fun _ h=>?_)
 refine Z ?_
 refine Ax h (fun (v14,v15,o16)=>[(3,(.arr 0 o16.length 0 o16.length)),(4,(O .u64 v14)),(13,(O .i64 v15))]) (fun (v14,v15,o16)=>[(0,.rows 133 1 (List.map (O .u32) o16))]) ?_
 rintro ⟨v14,v15,o16⟩ _ _ _ h _ _
 refine Z ?_
 refine Al h (fun _ h=>?_) (fun _ h=>?_)
 exact Y
 replace h:=Bz h
 refine Z ?_
 refine Al h (fun _ h=>?_) (fun _ h=>?_)
 refine Z ?_
 refine Oo h (fun _ h=>?_)
 refine ZO ?_
 refine Ay ?_
 refine Dm [.fz 3] ?_
 exact Y
 refine Hy (Ay ?_)
 refine Dm [.fz 3] ?_
 exact Y⟩
instance {a0:A3}:OK (H3 a0) fun r=>Aq Tryz.prog 106 [C1 a0] (Jh r):=⟨fun {r} h=>by
 refine pw {T:=B5,an:=(fun _=>.ask),nl:=(fun s=>bif Nat.beq s 20 then [(1,1)] else [])} Tryz.func106 ?_
 refine Z ?_
 refine Bc h (fun _ h=>?_)
 refine Z ?_
 refine Bc h (fun _ h=>?_)
 refine ZO ?_
 refine Ay (Ay ?_)
 refine Br h (fun v5=>[(18,(Ao v5))]) (fun v5=>[]) ?_ ?_
 intro _ h _ _ _
 exact Y
 rintro v5 _ h
 exact Y⟩
instance {a0:A3}:OK (Qu a0) fun r=>Aq Tryz.prog 140 [C1 a0] (C1 r):=⟨fun {r} h=>by
 refine pw C0 Tryz.func140 ?_
 exact Y⟩
instance {a0:D7}:OK (Nw a0) fun r=>Aq Tryz.prog 116 [Jh a0] ((O .i64) r):=⟨fun {r} h=>by
 refine pw C0 Tryz.func116 ?_
 exact Y⟩
instance {a0:A3}:OK (Hg a0) fun r=>Aq Tryz.prog 58 [C1 a0] ((O .i64) r):=⟨fun {r} h=>by
 refine pw C0 Tryz.func58 ?_
 exact Y⟩
instance {a0 a1:List Int}:OK (Qv a0 a1) fun r=>Aq Tryz.prog 141 [(Ap 1 (O .u32)) a0,(Ap 1 (O .u32)) a1] (Ao r):=⟨fun {r} h=>by
 refine pw C0 Tryz.func141 ?_
 refine Z ?_
 refine Al h (fun _ h=>?_) (fun _ h=>?_)
 exact Y
 refine Z ?_
 refine Ax h (fun v3=>[(4,(Ao false)),(13,(O .i64 v3))]) (fun v3=>[]) ?_
 rintro v3 _ _ _ h _ _
 exact Y⟩
instance {a0:List Aw} {b1:List (ByteArray×Int)} {b2:List (ByteArray×(List C2))} {b0_0:List Bk} {b0_1:List Ar} {b0_2 b0_3:Int} {b0_4:List Ar}:OK (Uq a0 b1 b2 b0_0 b0_1 b0_2 b0_3 b0_4) fun r=>Bp Tryz.prog 79 [(.loc 0 0),(Ap 5 Bx) a0] [.cells 129 [(.sl 3 (List.map B8 b0_0)),(.sl 3 (Bb b0_1)),(O .i64 b0_2),(O .i64 b0_3),(.sl 3 (Bb b0_4)),(.mp 1),(.mp 2)],.map (A7 (O .i64) b1),.map (A7 (Ap 5 Dd) b2)] (Ao r.1) [.cells 129 [(.sl 3 (List.map B8 b0_0)),(.sl 3 (Bb b0_1)),(O .i64 b0_2),(O .i64 b0_3),(.sl 3 (Bb b0_4)),(.mp 1),(.mp 2)],.map (A7 (O .i64) r.2),.map (A7 (Ap 5 Dd) b2)]:=⟨fun {r} h=>by
 refine aw C0 true Tryz.func79 ?_
 refine Z ?_
 refine Al h (fun _ h=>?_) (fun _ h=>?_)
 exact Y
 refine Z ?_
 refine Ax h (fun (v10,o11)=>[(4,(Ao false)),(14,(O .i64 v10))]) (fun (v10,o11)=>[(1,.map (A7 (O .i64) o11))]) ?_
 rintro ⟨v10,o11⟩ _ _ _ h _ _
 refine Z ?_
 refine Al h (fun _ h=>?_) (fun _ h=>?_)
 refine Z ?_
 refine Bq h (fun _ _ _ _ h=>?_)
 refine Z ?_
 refine Bc h (fun _ h=>?_)
 refine ZO ?_
 refine Ay ?_
 refine Br h (fun v18=>[(8,(Ao v18))]) (fun v18=>[]) ?_ ?_
 intro _ h _ _ _
 exact Y
 rintro v18 _ h
 refine Z ?_
 refine El h (fun _ h=>?_) (fun _ h=>?_)
 exact Y
 refine Z ?_
 refine Bc h (fun _ h=>?_)
 refine Z ?_
 refine El h (fun _ h=>?_) (fun _ h=>?_)
 exact Y
 refine Z ?_
 refine A5 [0,1,2] h (fun _ h=>?_)
 exact Y
 exact Y⟩
theorem Aa8 {a0:Fg} {a1:List (List Aw)} {r:(Bool×Fg×(List (ByteArray×Int))×(List (ByteArray×(List C2)))×(List Bk)×(List Ar)×Int×Int×(List Ar))} (h:Nm a0 a1=some (.inl r)):Bp Tryz.prog 36 [Ri a0,(Ap 1 (Ap 5 Bx)) a1] [] (.tup [.loc 3 0,Ao r.1]) [.cells 27 [(.sl 3 (List.map B8 r.2.1.Data)),(.sl 3 (Bb r.2.1.Vars)),(O .i64 r.2.1.Res.Kind),(O .i64 r.2.1.Res.Num),(.sl 3 (Bb r.2.1.Res.Args))],.map (A7 (O .i64) r.2.2.1),.map (A7 (Ap 5 Dd) r.2.2.2.1),.cells 129 [(.sl 3 (List.map B8 r.2.2.2.2.1)),(.sl 3 (Bb r.2.2.2.2.2.1)),(O .i64 r.2.2.2.2.2.2.1),(O .i64 r.2.2.2.2.2.2.2.1),(.sl 3 (Bb r.2.2.2.2.2.2.2.2)),(.mp 1),(.mp 2)]]:=by
 refine aw {T:=B5,an:=(fun _=>.ask),nl:=(fun s=>bif Nat.beq s 18 then [(1,7),(2,3),(3,8)] else [])} true Tryz.func36 ?_
 refine ZS ?_
 refine Bw ?_
 refine ZO ?_
 refine Ay (Ay ?_)
 refine Br h (fun v4=>[(29,(Ao v4))]) (fun v4=>[]) ?_ ?_
 intro _ h _ _ _
 exact Y
 rintro v4 _ h
 refine Al h (fun _ h=>?_) (fun _ h=>?_)
 exact Y
 refine Z ?_
 refine Ax h (fun v8=>[(4,(.val (.pointer none))),(5,(Ao false)),(33,(O .i64 v8))]) (fun v8=>[]) ?_
 rintro v8 _ _ _ h _ _
 refine Z ?_
 refine Al h (fun _ h=>?_) (fun _ h=>?_)
 exact Y
 replace h:=Bz h
 refine Z ?_
 refine Ax h (fun (v18,o19)=>[(4,(.val (.pointer none))),(5,(Ao false)),(50,(O .i64 v18))]) (fun (v18,o19)=>[(1,.map (A7 (O .i64) o19))]) ?_
 rintro ⟨v18,o19⟩ _ _ _ h _ _
 refine Z ?_
 refine Al h (fun _ h=>?_) (fun _ h=>?_)
 refine Z ?_
 refine Bq h (fun _ _ _ _ h=>?_)
 refine Z ?_
 refine A5 [3,1,2] h (fun _ h=>?_)
 exact Y
 exact Y
theorem Aa9 {a0:Fg} {a1:List (List Aw)} {r:Bool} (h:Nm a0 a1=some (.inr r)):Bp Tryz.prog 36 [Ri a0,(Ap 1 (Ap 5 Bx)) a1] [] (.tup [.val (.pointer none),Ao r]) []:=by
 refine aw {T:=B5,an:=(fun _=>.ask),nl:=(fun s=>bif Nat.beq s 18 then [(1,7),(2,3),(3,8)] else [])} true Tryz.func36 ?_
 refine ZS ?_
 refine Bw ?_
 refine ZO ?_
 refine Ay (Ay ?_)
 refine Br h (fun v4=>[(29,(Ao v4))]) (fun v4=>[]) ?_ ?_
 intro _ h _ _ _
 exact Y
 rintro v4 _ h
 refine Al h (fun _ h=>?_) (fun _ h=>?_)
 exact Y
 refine Z ?_
 refine Ax h (fun v8=>[(4,(.val (.pointer none))),(5,(Ao false)),(33,(O .i64 v8))]) (fun v8=>[]) ?_
 rintro v8 _ _ _ h _ _
 refine Z ?_
 refine Al h (fun _ h=>?_) (fun _ h=>?_)
 exact Y
 replace h:=Bz h
 refine Z ?_
 refine Ax h (fun (v18,o19)=>[(4,(.val (.pointer none))),(5,(Ao false)),(50,(O .i64 v18))]) (fun (v18,o19)=>[(1,.map (A7 (O .i64) o19))]) ?_
 rintro ⟨v18,o19⟩ _ _ _ h _ _
 refine Z ?_
 refine Al h (fun _ h=>?_) (fun _ h=>?_)
 refine Z ?_
 refine Bq h (fun _ _ _ _ h=>?_)
 refine Z ?_
 refine A5 [3,1,2] h (fun _ h=>?_)
 exact Y
 exact Y
instance {a0:Int}:OK (Z4 a0) fun r=>Aq Tryz.prog 68 [(.val (.pointer none)),(O .i64) a0] (Et r):=⟨fun {r} h=>by
 refine pw C0 Tryz.func68 ?_
 exact Y⟩
instance {a0:Int}:OK (Z5 a0) fun r=>Aq Tryz.prog 162 [(.val (.pointer none)),(O .i64) a0] (Ao r):=⟨fun {r} h=>by
 refine pw C0 Tryz.func162 ?_
 exact Y⟩
instance {a0:Ct}:OK (Z6 a0) fun r=>Bp Tryz.prog 161 [Ek a0,(.loc 0 0)] [.cells 66 [(.val (.pointer none))]] (Ao r) [.cells 66 [(.val (.pointer none))]]:=⟨fun {r} h=>by
 refine aw C0 true Tryz.func161 ?_
 refine Z ?_
 refine Bc h (fun _ h=>?_)
 refine Z ?_
 refine El h (fun _ h=>?_) (fun _ h=>?_)
 exact Y
 refine Z ?_
 refine Bc h (fun _ h=>?_)
 refine Z ?_
 refine Tl.mk 3 (by kernel_rfl) ?_
 exact Y⟩
instance {a0:List Ct}:OK (Z7 a0) fun r=>Bp Tryz.prog 234 [(Ap 2 Ek) a0,(.fn 161 [(.loc 0 0)])] [.cells 66 [(.val (.pointer none))]] ((O .i64) r) [.cells 66 [(.val (.pointer none))]]:=⟨fun {r} h=>by
 refine aw C0 true Tryz.func234 ?_
 refine Z ?_
 refine Ax h (fun v3=>[(4,(O .i64 0)),(8,(O .i64 v3))]) (fun v3=>[]) ?_
 rintro v3 _ _ _ h _ _
 refine Z ?_
 refine Al h (fun _ h=>?_) (fun _ h=>?_)
 refine Z ?_
 refine Bq h (fun _ _ _ _ h=>?_)
 refine Z ?_
 refine A5 [0] h (fun _ h=>?_)
 exact Y
 exact Y⟩
instance {a0:List Ct}:OK (Z8 a0) fun r=>Bp Tryz.prog 160 [(Ap 2 Ek) a0,(.fn 161 [(.loc 0 0)])] [.cells 66 [(.val (.pointer none))]] (Ao r) [.cells 66 [(.val (.pointer none))]]:=⟨fun {r} h=>by
 refine aw C0 true Tryz.func160 ?_
 refine Z ?_
 refine A5 [0] h (fun _ h=>?_)
 exact Y⟩
instance {a0:Dc}:OK (Z9 a0) fun r=>Aq Tryz.prog 90 [(.val (.pointer none)),F8 a0] (Ao r):=⟨fun {r} h=>by
 refine pw C0 Tryz.func90 ?_
 refine Z ?_
 refine A5 [0] h (fun _ h=>?_)
 exact Y⟩
instance  : OK (Qh) fun r=>Bp Tryz.prog 37 [] [] (.loc 1 0) [.map (A7 (O .i64) r.1),.cells 76 [(.mp 0),(.arr 2 r.2.length 0 r.2.length)],.rows 84 5 (List.map Bx r.2)]:=⟨fun {r} h=>by
 refine aw C0 true Tryz.func37 ?_
 refine ZS ?_
 refine Bw ?_
 refine ZS ?_
 refine Bw ?_
 refine ZO ?_
 refine Dm [.own 3 1 84 5] ?_
 exact Y⟩
instance {a0:Dc} {a1:Int}:OK (Q9 a0 a1) fun r=>Aq Tryz.prog 245 [F8 a0,(O .i64) a1] ((Ap 3 Df) r):=⟨fun {r} h=>by
 refine pw {T:=B5,an:=(fun _=>.ask),nl:=(fun s=>bif Nat.beq s 4 then [(0,3)] else [])} Tryz.func245 ?_
 exact Y⟩
instance {a0:Int}:OK (Kj a0) fun r=>Aq Tryz.prog 81 [(O .i64) a0] ((Ap 1 (O .u32)) r):=⟨fun {r} h=>by
 refine pw {T:=B5,an:=(fun _=>.ask),nl:=(fun s=>bif Nat.beq s 2 then [(0,1)] else [])} Tryz.func81 ?_
 exact Y⟩
instance {a0:Int}:OK (F3 a0) fun r=>Aq Tryz.prog 40 [(O .i64) a0] (C1 r):=⟨fun {r} h=>by
 refine pw C0 Tryz.func40 ?_
 exact Y⟩
instance {a0 a1:List Int}:OK (Ip a0 a1) fun r=>Aq Tryz.prog 127 [(Ap 1 (O .u32)) a0,(Ap 1 (O .u32)) a1] ((Ap 1 (O .u32)) r):=⟨fun {r} h=>by
 refine pw {T:=B5,an:=(fun _=>.ask),nl:=(fun s=>bif Nat.beq s 4 then [(0,1)] else [])} Tryz.func127 ?_
 refine ZS ?_
 refine Bw ?_
 refine ZO ?_
 refine Ay (Ay ?_)
 refine Br h (fun v1=>[(17,(Ao v1))]) (fun v1=>[]) ?_ ?_
 intro _ h _ _ _
 exact Y
 rintro v1 _ h
 refine Al h (fun _ h=>?_) (fun _ h=>?_)
 exact Y
 refine Z ?_
 refine Em h (fun o2 h=>?_)
 refine Z ?_
 refine Ea h (fun (v23,o24)=>[(26,(O .i64 v23))]) (fun (v23,o24)=>[(0,.rows 133 1 (List.map (O .u32) o24))]) (fun (v23,o24)=>o2.length=o24.length) ?_
 rintro ⟨v23,o24⟩ _ _ _ h _ _ q24
 refine Z ?_
 refine Al h (fun _ h=>?_) (fun _ h=>?_)
 refine Z ?_
 refine Ea h (fun (v31,v32,o33)=>[(7,(O .u64 v31)),(31,(O .i64 v32))]) (fun (v31,v32,o33)=>[(0,.rows 133 1 (List.map (O .u32) o33))]) (fun (v31,v32,o33)=>o2.length=o33.length) ?_
 rintro ⟨v31,v32,o33⟩ _ _ _ h _ _ q33
 exact Y
 replace h:=Bz h
 refine Ej (Ei rfl (Ay ?_))
 refine Dm [.fz 5] ?_
 exact Y⟩
instance {a0 a1:A3}:OK (Nq a0 a1) fun r=>Aq Tryz.prog 70 [C1 a0,C1 a1] (C1 r):=⟨fun {r} h=>by
 refine pw C0 Tryz.func70 ?_
 exact Y⟩
instance {a0 a1:Int}:OK (Ux a0 a1) fun r=>Aq Tryz.prog 129 [(O .i64) a0,(O .i64) a1] (C1 r):=⟨fun {r} h=>by
 refine pw C0 Tryz.func129 ?_
 exact Y⟩
instance {a0 a1:Int}:OK (Vn a0 a1) fun r=>Aq Tryz.prog 270 [(O .i64) a0,(O .i64) a1] (C1 r):=⟨fun {r} h=>by
 refine pw C0 Tryz.func270 ?_
 refine Z ?_
 refine Bc h (fun _ h=>?_)
 refine Z ?_
 refine Ax h (fun (v7,v8,v9,v10)=>[(9,(O .i64 v7))]) (fun (v7,v8,v9,v10)=>[(1,.cells 34 [(Ao v8),(.sl 1 (List.map (O .u32) v9)),(.sl 1 (List.map (O .u32) v10))])]) ?_
 rintro ⟨v7,v8,v9,v10⟩ _ _ _ h _ _
 exact Y⟩
instance {a0 a1:Int}:OK (Aaa a0 a1) fun r=>Aq Tryz.prog 196 [(O .i64) a0,(O .i64) a1] (.tup [C1 r.1,Ao r.2]):=⟨fun {r} h=>by
 refine pw C0 Tryz.func196 ?_
 refine ZS ?_
 refine Bw ?_
 refine ZO ?_
 refine Ay (Ay ?_)
 refine Br h (fun v2=>[(11,(Ao v2))]) (fun v2=>[]) ?_ ?_
 intro _ h _ _ _
 exact Y
 rintro v2 _ h
 exact Y⟩
instance {a0:List B6}:OK (Q8 a0) fun r=>Aq Tryz.prog 244 [(Ap 3 Df) a0] ((Ap 3 C1) r):=⟨fun {r} h=>by
 refine pw {T:=B5,an:=(fun s=>bif Nat.beq s 10 then .own else .ask),nl:=(fun s=>bif Nat.beq s 2 then [(0,3)] else [])} Tryz.func244 ?_
 refine Z ?_
 refine Bc h (fun _ h=>?_)
 refine Z ?_
 refine Ea h (fun (v14,o15)=>[(3,(.arr 0 1 0 1)),(13,(O .i64 v14))]) (fun (v14,o15)=>[(0,.rows 34 3 (List.map C1 o15))]) (fun (v14,o15)=>1=o15.length) ?_
 rintro ⟨v14,o15⟩ _ _ _ h _ _ q15
 refine Z ?_
 refine Al h (fun _ h=>?_) (fun _ h=>?_)
 refine Z ?_
 refine Bq h (fun _ _ _ _ h=>?_)
 refine Z ?_
 refine Al h (fun _ h=>?_) (fun _ h=>?_)
 exact Y
 refine Z ?_
 refine Ago (f:=C1) (z:=((A3.mk false [] []):A3)) (by repeat (first | exact Ge.nil | apply Ge.sl | apply Ge.same)) h (fun o23 h=>?_)
 exact Y
 exact Y⟩
instance {a0:Int}:OK (V7 a0) fun r=>Aq Tryz.prog 375 [(.val (.slice none 0 0)),(O .i64) a0] ((Ap 3 Df) r):=⟨fun {r} h=>by
 refine pw {T:=B5,an:=(fun _=>.ask),nl:=(fun s=>bif Nat.beq s 4 then [(0,3)] else [])} Tryz.func375 ?_
 exact Y⟩
instance {a0:List (List B6)}:OK (Vx a0) fun r=>Aq Tryz.prog 338 [(Ap 1 (Ap 3 Df)) a0] ((Ap 3 Df) r):=⟨fun {r} h=>by
 refine pw {T:=B5,an:=(fun _=>.ask),nl:=(fun s=>bif Nat.beq s 2 then [(0,3)] else [])} Tryz.func338 ?_
 refine Z ?_
 refine Ax h (fun (v2,v3)=>[(3,(O .i64 v2)),(11,(O .i64 v3))]) (fun (v2,v3)=>[]) ?_
 rintro ⟨v2,v3⟩ _ _ _ h _ _
 refine Z ?_
 refine Al h (fun _ h=>?_) (fun _ h=>?_)
 exact Y
 replace h:=Bz h
 refine Z ?_
 refine Bc h (fun v6 h=>?_)
 refine Z ?_
 refine Ax h (fun v10=>[(6,(.sl 3 (List.map Df v6))),(27,(O .i64 v10))]) (fun v10=>[]) ?_
 rintro v10 _ _ _ h _ _
 refine Z ?_
 refine Al h (fun _ h=>?_) (fun _ h=>?_)
 refine Z ?_
 refine Bq h (fun _ v11 _ _ h=>?_)
 refine Z ?_
 refine Zp (f:=Df) (l:=v11) rfl h (fun h=>?_)
 exact Y
 exact Y⟩
instance {a0:Int}:OK (V6 a0) fun r=>Aq Tryz.prog 374 [(.val (.slice none 0 0)),(O .i64) a0] ((Ap 3 Dl) r):=⟨fun {r} h=>by
 refine pw {T:=B5,an:=(fun _=>.ask),nl:=(fun s=>bif Nat.beq s 4 then [(0,3)] else [])} Tryz.func374 ?_
 exact Y⟩
instance {a0:List (List Cl)}:OK (Vv a0) fun r=>Aq Tryz.prog 337 [(Ap 1 (Ap 3 Dl)) a0] ((Ap 3 Dl) r):=⟨fun {r} h=>by
 refine pw {T:=B5,an:=(fun _=>.ask),nl:=(fun s=>bif Nat.beq s 2 then [(0,3)] else [])} Tryz.func337 ?_
 refine Z ?_
 refine Ax h (fun (v2,v3)=>[(3,(O .i64 v2)),(11,(O .i64 v3))]) (fun (v2,v3)=>[]) ?_
 rintro ⟨v2,v3⟩ _ _ _ h _ _
 refine Z ?_
 refine Al h (fun _ h=>?_) (fun _ h=>?_)
 exact Y
 replace h:=Bz h
 refine Z ?_
 refine Bc h (fun v6 h=>?_)
 refine Z ?_
 refine Ax h (fun v10=>[(6,(.sl 3 (List.map Dl v6))),(27,(O .i64 v10))]) (fun v10=>[]) ?_
 rintro v10 _ _ _ h _ _
 refine Z ?_
 refine Al h (fun _ h=>?_) (fun _ h=>?_)
 refine Z ?_
 refine Bq h (fun _ v11 _ _ h=>?_)
 refine Z ?_
 refine Zp (f:=Dl) (l:=v11) rfl h (fun h=>?_)
 exact Y
 exact Y⟩
instance {a0 a1:Bh}:OK (Vr a0 a1) fun r=>Aq Tryz.prog 298 [Du a0,Du a1] (Du r):=⟨fun {r} h=>by
 refine pw C0 Tryz.func298 ?_
 exact Y⟩
instance {a0:Aw} {a1:A3} {a2:Bh}:OK (Q5 a0 a1 a2) fun r=>Aq Tryz.prog 239 [Bx a0,C1 a1,Du a2] (Bx r):=⟨fun {r} h=>by
 refine pw C0 Tryz.func239 ?_
 exact Y⟩
instance {a0:List B6}:OK (Q6 a0) fun r=>Aq Tryz.prog 241 [(Ap 3 Df) a0] ((Ap 3 Df) r):=⟨fun {r} h=>by
 exact Aha h⟩
instance {a0:List Cl}:OK (Q3 a0) fun r=>Aq Tryz.prog 235 [(Ap 3 Dl) a0] ((Ap 3 Dl) r):=⟨fun {r} h=>by
 exact Ag9 h⟩
instance {a0 a1:B6}:OK (Ma a0 a1) fun r=>Aq Tryz.prog 243 [Df a0,Df a1] ((O .i64) r):=⟨fun {r} h=>by
 refine pw C0 Tryz.func243 ?_
 exact Y⟩
instance {a0:List B6} {a1 a2:Int}:OK (Rg a0 a1 a2) fun r=>Aq Tryz.prog 339 [(Ap 3 Df) a0,(O .i64) a1,(O .i64) a2,(.fn 243 [])] (.tup []):=⟨fun {r} h=>by
 refine pw C0 Tryz.func339 ?_
 refine Z ?_
 refine Ax h (fun v8=>[(8,(O .i64 v8))]) (fun v8=>[]) ?_
 rintro v8 _ _ _ h _ _
 refine Z ?_
 refine Al h (fun _ h=>?_) (fun _ h=>?_)
 refine Z ?_
 refine Ax h (fun _=>[(9,(O .i64 v8))]) (fun _=>[]) ?_
 rintro _ _ _ _ h _ _
 refine Ay (Ay ?_)
 refine Br h (fun v12=>[(34,(Ao v12))]) (fun v12=>[]) ?_ ?_
 intro _ h _ _ _
 exact Y
 rintro v12 _ h
 exact Y
 exact Y⟩
instance {a0:List B6} {a1 a2 a3:Int}:OK (On a0 a1 a2 a3) fun r=>Aq Tryz.prog 391 [(Ap 3 Df) a0,(O .i64) a1,(O .i64) a2,(O .i64) a3,(.fn 243 [])] (.tup []):=⟨fun {r} h=>by
 refine pw C0 Tryz.func391 ?_
 refine Z ?_
 refine Ax h (fun _=>[(10,(O .i64 0))]) (fun _=>[]) ?_
 rintro _ _ _ _ h _ _
 exact Y⟩
instance {a0:List B6} {a1 a2 a3:Int}:OK (V8 a0 a1 a2 a3) fun r=>Aq Tryz.prog 376 [(Ap 3 Df) a0,(O .i64) a1,(O .i64) a2,(O .i64) a3,(.fn 243 [])] (.tup []):=⟨fun {r} h=>by
 refine pw C0 Tryz.func376 ?_
 refine Z ?_
 refine Ax h (fun (v3,v4)=>[(10,(O .i64 v3)),(11,(O .i64 v4))]) (fun (v3,v4)=>[]) ?_
 rintro ⟨v3,v4⟩ _ _ _ h _ _
 exact Y⟩
abbrev Aba (k:Nat):Prop:=∀{a0:List B6} {a1 a2 a3:Int},OK (Kt k a0 a1 a2 a3) fun r=>Aq Tryz.prog 340 [(Ap 3 Df) a0,(O .i64) a1,(O .i64) a2,(O .i64) a3,(.fn 243 [])] (.tup [])
theorem Ahk (k:Nat):Aba k:=by
 induction k with
 | zero=>exact okz
 | succ k ih=>
  refine @fun a0 a1 a2 a3=>⟨fun {r} h=>?_⟩
  .unfold Kt at h
   refine pw C0 Tryz.func340 ?_
   refine Z ?_
   refine Al h (fun _ h=>?_) (fun _ h=>?_)
   refine Z ?_
   refine Ax h (fun (v5,v6)=>[(10,(O .i64 v5)),(11,(O .i64 v6))]) (fun (v5,v6)=>[]) ?_
   rintro ⟨v5,v6⟩ _ _ _ h _ _
   refine Z ?_
   refine Al h (fun _ h=>?_) (fun _ h=>?_)
   exact Y
   replace h:=Bz h
   refine Z ?_
   refine Ax h (fun _=>[(13,(O .i64 a1))]) (fun _=>[]) ?_
   rintro _ _ _ _ h _ _
   exact Y
   refine Z ?_
   refine Al h (fun _ h=>?_) (fun _ h=>?_)
   refine Z ?_
   refine Ax h (fun (v19,v20)=>[(14,(O .i64 v19)),(15,(O .i64 v20))]) (fun (v19,v20)=>[]) ?_
   rintro ⟨v19,v20⟩ _ _ _ h _ _
   refine Z ?_
   refine Al h (fun _ h=>?_) (fun _ h=>?_)
   exact Y
   replace h:=Bz h
   refine Z ?_
   refine Ax h (fun _=>[(17,(O .i64 a2))]) (fun _=>[]) ?_
   rintro _ _ _ _ h _ _
   exact Y
   refine Z ?_
   refine Qa h (fun _ h=>?_)
   refine ZS ?_
   refine Bw ?_
   refine ZS ?_
   refine Bw ?_
   refine ZS ?_
   refine Bw ?_
   refine ZO ?_
   refine Br h (fun (v30,v31)=>[(20,(O .i64 v30)),(21,(O .i64 v31))]) (fun (v30,v31)=>[]) ?_ ?_
   intro _ h _ _ _
   exact Y
   rintro ⟨v30,v31⟩ _ h
   refine Z ?_
   refine Ax h (fun (v36,v37)=>[(20,(O .i64 v36)),(21,(O .i64 v37))]) (fun (v36,v37)=>[]) ?_
   rintro ⟨v36,v37⟩ _ _ _ h _ _
   refine Z ?_
   refine Al h (fun _ h=>?_) (fun _ h=>?_)
   exact Y
   replace h:=Bz h
   refine ZS ?_
   refine Bw ?_
   refine ZO ?_
   refine Ay (Ay ?_)
   refine Br h (fun v43=>[(185,(Ao v43))]) (fun v43=>[]) ?_ ?_
   intro _ h _ _ _
   exact Y
   rintro v43 _ h
   refine Br h (fun _=>[]) (fun _=>[]) ?_ ?_
   intro _ h _ _ _
   exact Y
   rintro _ _ h
   refine Ay (Ay ?_)
   refine Br h (fun v45=>[(199,(Ao v45))]) (fun v45=>[]) ?_ ?_
   intro _ h _ _ _
   exact Y
   rintro v45 _ h
   refine Br h (fun _=>[]) (fun _=>[]) ?_ ?_
   intro _ h _ _ _
   exact Y
   rintro _ _ h
   exact Y
instance {k:Nat}:Aba k:=(Ahk k)
instance {a0:List B6} {a1:Int}:OK (Vs a0 a1) fun r=>Aq Tryz.prog 299 [(Ap 3 Df) a0,(O .i64) a1,(.fn 243 [])] (.tup []):=⟨fun {r} h=>by
 refine pw C0 Tryz.func299 ?_
 refine Z ?_
 refine Ax h (fun (v2,v3)=>[(7,(O .i64 v2)),(8,(O .i64 v3))]) (fun (v2,v3)=>[]) ?_
 rintro ⟨v2,v3⟩ _ _ _ h _ _
 refine Z ?_
 refine Al h (fun _ h=>?_) (fun _ h=>?_)
 exact Y
 replace h:=Bz h
 refine Z ?_
 refine Bc h (fun _ h=>?_)
 refine Z ?_
 refine Ax h (fun (v15,v16,v17)=>[(6,(O .i64 v15)),(7,(O .i64 v16)),(8,(O .i64 v17))]) (fun (v15,v16,v17)=>[]) ?_
 rintro ⟨v15,v16,v17⟩ _ _ _ h _ _
 refine Z ?_
 refine Al h (fun _ h=>?_) (fun _ h=>?_)
 refine Z ?_
 refine Ax h (fun (v19,v20)=>[(7,(O .i64 v19)),(8,(O .i64 v20))]) (fun (v19,v20)=>[]) ?_
 rintro ⟨v19,v20⟩ _ _ _ h _ _
 exact Y
 exact Y⟩
instance {a0:List B6}:OK (Q7 a0) fun r=>Aq Tryz.prog 242 [(Ap 3 Df) a0,(.fn 243 [])] (.tup []):=⟨fun {r} h=>by
 refine pw C0 Tryz.func242 ?_
 exact Y⟩
instance {a0 a1:Cl}:OK (L9 a0 a1) fun r=>Aq Tryz.prog 237 [Dl a0,Dl a1] ((O .i64) r):=⟨fun {r} h=>by
 refine pw C0 Tryz.func237 ?_
 exact Y⟩
instance {a0:List Cl} {a1 a2:Int}:OK (Rf a0 a1 a2) fun r=>Aq Tryz.prog 328 [(Ap 3 Dl) a0,(O .i64) a1,(O .i64) a2,(.fn 237 [])] (.tup []):=⟨fun {r} h=>by
 refine pw C0 Tryz.func328 ?_
 refine Z ?_
 refine Ax h (fun v8=>[(8,(O .i64 v8))]) (fun v8=>[]) ?_
 rintro v8 _ _ _ h _ _
 refine Z ?_
 refine Al h (fun _ h=>?_) (fun _ h=>?_)
 refine Z ?_
 refine Ax h (fun _=>[(9,(O .i64 v8))]) (fun _=>[]) ?_
 rintro _ _ _ _ h _ _
 refine Ay (Ay ?_)
 refine Br h (fun v12=>[(34,(Ao v12))]) (fun v12=>[]) ?_ ?_
 intro _ h _ _ _
 exact Y
 rintro v12 _ h
 exact Y
 exact Y⟩
instance {a0:List Cl} {a1 a2 a3:Int}:OK (Om a0 a1 a2 a3) fun r=>Aq Tryz.prog 382 [(Ap 3 Dl) a0,(O .i64) a1,(O .i64) a2,(O .i64) a3,(.fn 237 [])] (.tup []):=⟨fun {r} h=>by
 refine pw C0 Tryz.func382 ?_
 refine Z ?_
 refine Ax h (fun _=>[(10,(O .i64 0))]) (fun _=>[]) ?_
 rintro _ _ _ _ h _ _
 exact Y⟩
instance {a0:List Cl} {a1 a2 a3:Int}:OK (V5 a0 a1 a2 a3) fun r=>Aq Tryz.prog 362 [(Ap 3 Dl) a0,(O .i64) a1,(O .i64) a2,(O .i64) a3,(.fn 237 [])] (.tup []):=⟨fun {r} h=>by
 refine pw C0 Tryz.func362 ?_
 refine Z ?_
 refine Ax h (fun (v3,v4)=>[(10,(O .i64 v3)),(11,(O .i64 v4))]) (fun (v3,v4)=>[]) ?_
 rintro ⟨v3,v4⟩ _ _ _ h _ _
 exact Y⟩
abbrev Abb (k:Nat):Prop:=∀{a0:List Cl} {a1 a2 a3:Int},OK (Ks k a0 a1 a2 a3) fun r=>Aq Tryz.prog 329 [(Ap 3 Dl) a0,(O .i64) a1,(O .i64) a2,(O .i64) a3,(.fn 237 [])] (.tup [])
theorem Ahl (k:Nat):Abb k:=by
 induction k with
 | zero=>exact okz
 | succ k ih=>
  refine @fun a0 a1 a2 a3=>⟨fun {r} h=>?_⟩
  .unfold Ks at h
   refine pw C0 Tryz.func329 ?_
   refine Z ?_
   refine Al h (fun _ h=>?_) (fun _ h=>?_)
   refine Z ?_
   refine Ax h (fun (v5,v6)=>[(10,(O .i64 v5)),(11,(O .i64 v6))]) (fun (v5,v6)=>[]) ?_
   rintro ⟨v5,v6⟩ _ _ _ h _ _
   refine Z ?_
   refine Al h (fun _ h=>?_) (fun _ h=>?_)
   exact Y
   replace h:=Bz h
   refine Z ?_
   refine Ax h (fun _=>[(13,(O .i64 a1))]) (fun _=>[]) ?_
   rintro _ _ _ _ h _ _
   exact Y
   refine Z ?_
   refine Al h (fun _ h=>?_) (fun _ h=>?_)
   refine Z ?_
   refine Ax h (fun (v19,v20)=>[(14,(O .i64 v19)),(15,(O .i64 v20))]) (fun (v19,v20)=>[]) ?_
   rintro ⟨v19,v20⟩ _ _ _ h _ _
   refine Z ?_
   refine Al h (fun _ h=>?_) (fun _ h=>?_)
   exact Y
   replace h:=Bz h
   refine Z ?_
   refine Ax h (fun _=>[(17,(O .i64 a2))]) (fun _=>[]) ?_
   rintro _ _ _ _ h _ _
   exact Y
   refine Z ?_
   refine Qa h (fun _ h=>?_)
   refine ZS ?_
   refine Bw ?_
   refine ZS ?_
   refine Bw ?_
   refine ZS ?_
   refine Bw ?_
   refine ZO ?_
   refine Br h (fun (v30,v31)=>[(20,(O .i64 v30)),(21,(O .i64 v31))]) (fun (v30,v31)=>[]) ?_ ?_
   intro _ h _ _ _
   exact Y
   rintro ⟨v30,v31⟩ _ h
   refine Z ?_
   refine Ax h (fun (v36,v37)=>[(20,(O .i64 v36)),(21,(O .i64 v37))]) (fun (v36,v37)=>[]) ?_
   rintro ⟨v36,v37⟩ _ _ _ h _ _
   refine Z ?_
   refine Al h (fun _ h=>?_) (fun _ h=>?_)
   exact Y
   replace h:=Bz h
   refine ZS ?_
   refine Bw ?_
   refine ZO ?_
   refine Ay (Ay ?_)
   refine Br h (fun v43=>[(185,(Ao v43))]) (fun v43=>[]) ?_ ?_
   intro _ h _ _ _
   exact Y
   rintro v43 _ h
   refine Br h (fun _=>[]) (fun _=>[]) ?_ ?_
   intro _ h _ _ _
   exact Y
   rintro _ _ h
   refine Ay (Ay ?_)
   refine Br h (fun v45=>[(199,(Ao v45))]) (fun v45=>[]) ?_ ?_
   intro _ h _ _ _
   exact Y
   rintro v45 _ h
   refine Br h (fun _=>[]) (fun _=>[]) ?_ ?_
   intro _ h _ _ _
   exact Y
   rintro _ _ h
   exact Y
instance {k:Nat}:Abb k:=(Ahl k)
instance {a0:List Cl} {a1:Int}:OK (Vq a0 a1) fun r=>Aq Tryz.prog 296 [(Ap 3 Dl) a0,(O .i64) a1,(.fn 237 [])] (.tup []):=⟨fun {r} h=>by
 refine pw C0 Tryz.func296 ?_
 refine Z ?_
 refine Ax h (fun (v2,v3)=>[(7,(O .i64 v2)),(8,(O .i64 v3))]) (fun (v2,v3)=>[]) ?_
 rintro ⟨v2,v3⟩ _ _ _ h _ _
 refine Z ?_
 refine Al h (fun _ h=>?_) (fun _ h=>?_)
 exact Y
 replace h:=Bz h
 refine Z ?_
 refine Bc h (fun _ h=>?_)
 refine Z ?_
 refine Ax h (fun (v15,v16,v17)=>[(6,(O .i64 v15)),(7,(O .i64 v16)),(8,(O .i64 v17))]) (fun (v15,v16,v17)=>[]) ?_
 rintro ⟨v15,v16,v17⟩ _ _ _ h _ _
 refine Z ?_
 refine Al h (fun _ h=>?_) (fun _ h=>?_)
 refine Z ?_
 refine Ax h (fun (v19,v20)=>[(7,(O .i64 v19)),(8,(O .i64 v20))]) (fun (v19,v20)=>[]) ?_
 rintro ⟨v19,v20⟩ _ _ _ h _ _
 exact Y
 exact Y⟩
instance {a0:List Cl}:OK (Q4 a0) fun r=>Aq Tryz.prog 236 [(Ap 3 Dl) a0,(.fn 237 [])] (.tup []):=⟨fun {r} h=>by
 refine pw C0 Tryz.func236 ?_
 exact Y⟩
instance {a0:A3} {a1:Bh} {b1:List (ByteArray×Int)} {b2:List (ByteArray×(List C2))} {b0_0:List Bk} {b0_1:List Ar} {b0_2 b0_3:Int} {b0_4:List Ar}:OK (Va a0 a1 b1 b2 b0_0 b0_1 b0_2 b0_3 b0_4) fun r=>Bp Tryz.prog 163 [(.loc 0 0),C1 a0,Du a1] [.cells 129 [(.sl 3 (List.map B8 b0_0)),(.sl 3 (Bb b0_1)),(O .i64 b0_2),(O .i64 b0_3),(.sl 3 (Bb b0_4)),(.mp 1),(.mp 2)],.map (A7 (O .i64) b1),.map (A7 (Ap 5 Dd) b2)] (.tup [(Ap 5 Bx) r.1,(O .i64) r.2]) [.cells 129 [(.sl 3 (List.map B8 b0_0)),(.sl 3 (Bb b0_1)),(O .i64 b0_2),(O .i64 b0_3),(.sl 3 (Bb b0_4)),(.mp 1),(.mp 2)],.map (A7 (O .i64) b1),.map (A7 (Ap 5 Dd) b2)]:=⟨fun {r} h=>by
 refine aw {T:=B5,an:=(fun s=>bif Nat.beq s 22 then .own else .ask),nl:=(fun s=>bif Nat.beq s 155 then [(0,3)] else bif Nat.beq s 31 then [(3,3),(4,3)] else bif Nat.beq s 22 then [(0,5)] else bif Nat.beq s 6 then [(0,5)] else [])} true Tryz.func163 ?_
 refine Z ?_
 refine Bc h (fun _ h=>?_)
 refine Z ?_
 refine Al h (fun _ h=>?_) (fun _ h=>?_)
 exact Y
 refine Z ?_
 refine Bc h (fun v4 h=>?_)
 refine Z ?_
 refine Bc h (fun _ h=>?_)
 refine Z ?_
 refine Ax h (fun _=>[(6,(.sl 5 (List.map Bx []))),(7,(O .i64 0)),(8,(.sl 5 (List.map Bx [(Aw.mk a0 (Bh.mk [] []))]))),(9,(.sl 3 (List.map Dl v4)))]) (fun _=>[]) ?_
 rintro _ _ _ _ h _ _
 refine Z ?_
 refine Al h (fun _ h=>?_) (fun _ h=>?_)
 refine Z ?_
 refine Bq h (fun _ _ _ _ h=>?_)
 refine Z ?_
 refine Ax h (fun v8=>[(11,(O .i64 v8))]) (fun v8=>[]) ?_
 rintro v8 _ _ _ h _ _
 exact Y
 replace h:=Bz h
 refine Z ?_
 refine Bc h (fun _ h=>?_)
 refine Z ?_
 refine Bc h (fun _ h=>?_)
 refine Z ?_
 refine Ax h (fun (v104,v105)=>[(8,(.sl 5 (List.map Bx v104))),(19,(.sl 3 (List.map Df v105)))]) (fun (v104,v105)=>[]) ?_
 rintro ⟨v104,v105⟩ _ _ _ h _ _
 refine Z ?_
 refine Al h (fun _ h=>?_) (fun _ h=>?_)
 refine Z ?_
 refine Bq h (fun _ _ _ _ h=>?_)
 refine Z ?_
 refine Ax h (fun v110=>[(21,(O .i64 v110))]) (fun v110=>[]) ?_
 rintro v110 _ _ _ h _ _
 refine Z ?_
 refine El h (fun _ h=>?_) (fun _ h=>?_)
 refine Z ?_
 refine Bq h (fun _ _ _ _ h=>?_)
 refine Z ?_
 refine Bc h (fun _ h=>?_)
 refine Z ?_
 refine Al h (fun _ h=>?_) (fun _ h=>?_)
 exact Y
 replace h:=Bz h
 refine Z ?_
 refine Kx h (fun _ h=>?_)
 refine Z ?_
 refine Bc h (fun _ h=>?_)
 refine Z ?_
 refine Ax h (fun (v167,o168)=>[(22,(.arr 6 o168.length 0 o168.length)),(135,(O .i64 v167))]) (fun (v167,o168)=>[(6,.rows 84 5 (List.map Bx o168))]) ?_
 rintro ⟨v167,o168⟩ _ _ _ h _ _
 refine Z ?_
 refine Al h (fun _ h=>?_) (fun _ h=>?_)
 refine Z ?_
 refine Bq h (fun _ _ _ _ h=>?_)
 refine Z ?_
 refine Bc h (fun _ h=>?_)
 refine Z ?_
 refine Al h (fun _ h=>?_) (fun _ h=>?_)
 exact Y
 refine Z ?_
 refine Ax h (fun (v184,o185)=>[(22,(.arr 6 o185.length 0 o185.length)),(145,(O .i64 v184))]) (fun (v184,o185)=>[(6,.rows 84 5 (List.map Bx o185))]) ?_
 rintro ⟨v184,o185⟩ _ _ _ h _ _
 exact Y
 replace h:=Bz h
 refine Ej (Ei rfl ?_)
 refine Dm [.fz 22] ?_
 exact Y
 replace h:=Bz h
 refine Z ?_
 refine Kx h (fun _ h=>?_)
 refine Z ?_
 refine Bc h (fun _ h=>?_)
 refine Z ?_
 refine Ax h (fun (v167,o168)=>[(22,(.arr 6 o168.length 0 o168.length)),(135,(O .i64 v167))]) (fun (v167,o168)=>[(6,.rows 84 5 (List.map Bx o168))]) ?_
 rintro ⟨v167,o168⟩ _ _ _ h _ _
 refine Z ?_
 refine Al h (fun _ h=>?_) (fun _ h=>?_)
 refine Z ?_
 refine Bq h (fun _ _ _ _ h=>?_)
 refine Z ?_
 refine Bc h (fun _ h=>?_)
 refine Z ?_
 refine Al h (fun _ h=>?_) (fun _ h=>?_)
 exact Y
 refine Z ?_
 refine Ax h (fun (v184,o185)=>[(22,(.arr 6 o185.length 0 o185.length)),(145,(O .i64 v184))]) (fun (v184,o185)=>[(6,.rows 84 5 (List.map Bx o185))]) ?_
 rintro ⟨v184,o185⟩ _ _ _ h _ _
 exact Y
 replace h:=Bz h
 refine Ej (Ei rfl ?_)
 refine Dm [.fz 22] ?_
 exact Y
 exact Y⟩
end Go.Ab
namespace Go.Ab
open Go Go.Proofs
set_option maxRecDepth 10000
set_option maxHeartbeats 4000000
set_option linter.unusedVariables false
theorem Abc {a0:Int} {a1:Bool} {b1:List Int} {r:(Int×(List Int))} (h:N8 a0 a1 b1=some (.inl r)):Bp Tryz.prog 216 [(.loc 0 0),(O .i64) a0,Ao a1] [.cells 187 [(.val (.pointer none)),(.arr 1 b1.length 0 b1.length)],.rows 5 1 (List.map (O .u8) b1)] ((O .i64) r.1) [.cells 187 [(.loc 0 0),(.arr 1 r.2.length 0 r.2.length)],.rows 5 1 (List.map (O .u8) r.2)]:=by
 refine aw C0 true Tryz.func216 ?_
 refine ZS ?_
 refine Bw ?_
 refine ZO ?_
 refine Ay (Ii (Ay ?_))
 refine Br h (fun v1=>[(7,(Ao v1))]) (fun v1=>[]) ?_ ?_
 intro _ h _ _ _
 exact Y
 rintro v1 _ h
 refine Al h (fun _ h=>?_) (fun _ h=>?_)
 refine Z ?_
 refine A5 [0,1] h (fun _ h=>?_)
 exact Y
 refine Z ?_
 refine Al h (fun _ h=>?_) (fun _ h=>?_)
 refine Z ?_
 refine A5 [0,1] h (fun _ h=>?_)
 exact Y
 refine Z ?_
 refine Al h (fun _ h=>?_) (fun _ h=>?_)
 refine Z ?_
 refine A5 [0,1] h (fun _ h=>?_)
 exact Y
 exact Y
theorem Abd {a0:Int} {a1:Bool} {b1:List Int} {r:(Int×(List Int))} (h:N8 a0 a1 b1=some (.inr r)):Bp Tryz.prog 216 [(.loc 0 0),(O .i64) a0,Ao a1] [.cells 187 [(.val (.pointer none)),(.arr 1 b1.length 0 b1.length)],.rows 5 1 (List.map (O .u8) b1)] ((O .i64) r.1) [.cells 187 [(.val (.pointer none)),(.arr 1 r.2.length 0 r.2.length)],.rows 5 1 (List.map (O .u8) r.2)]:=by
 refine aw C0 true Tryz.func216 ?_
 refine ZS ?_
 refine Bw ?_
 refine ZO ?_
 refine Ay (Ii (Ay ?_))
 refine Br h (fun v1=>[(7,(Ao v1))]) (fun v1=>[]) ?_ ?_
 intro _ h _ _ _
 exact Y
 rintro v1 _ h
 refine Al h (fun _ h=>?_) (fun _ h=>?_)
 refine Z ?_
 refine A5 [0,1] h (fun _ h=>?_)
 exact Y
 refine Z ?_
 refine Al h (fun _ h=>?_) (fun _ h=>?_)
 refine Z ?_
 refine A5 [0,1] h (fun _ h=>?_)
 exact Y
 refine Z ?_
 refine Al h (fun _ h=>?_) (fun _ h=>?_)
 refine Z ?_
 refine A5 [0,1] h (fun _ h=>?_)
 exact Y
 exact Y
instance {a0:Int} {a1:Bool} {b1:List Int}:OK (Wi a0 a1 b1) fun r=>Bp Tryz.prog 216 [(.loc 0 0),(O .i64) a0,Ao a1] [.cells 187 [(.loc 0 0),(.arr 1 b1.length 0 b1.length)],.rows 5 1 (List.map (O .u8) b1)] ((O .i64) r.1) [.cells 187 [(.loc 0 0),(.arr 1 r.2.length 0 r.2.length)],.rows 5 1 (List.map (O .u8) r.2)]:=⟨fun {r} h=>by
 refine aw C0 true Tryz.func216 ?_
 refine ZS ?_
 refine Bw ?_
 refine ZO ?_
 refine Ay (Ii (Ay ?_))
 refine Br h (fun v1=>[(7,(Ao v1))]) (fun v1=>[]) ?_ ?_
 intro _ h _ _ _
 exact Y
 rintro v1 _ h
 refine Al h (fun _ h=>?_) (fun _ h=>?_)
 refine Z ?_
 refine A5 [0,1] h (fun _ h=>?_)
 exact Y
 refine Z ?_
 refine Al h (fun _ h=>?_) (fun _ h=>?_)
 refine Z ?_
 refine A5 [0,1] h (fun _ h=>?_)
 exact Y
 refine Z ?_
 refine Al h (fun _ h=>?_) (fun _ h=>?_)
 refine Z ?_
 refine A5 [0,1] h (fun _ h=>?_)
 exact Y
 exact Y⟩
instance {a0 a1:Int}:OK (Jg a0 a1) fun r=>Aq Tryz.prog 217 [(O .i64) a0,(O .i64) a1] (Dk r):=⟨fun {r} h=>by
 exact Ag3 h⟩
instance {b1:List Int}:OK (Wj b1) fun r=>Bp Tryz.prog 147 [(.loc 0 0)] [.cells 187 [(.val (.pointer none)),(.arr 1 b1.length 0 b1.length)],.rows 5 1 (List.map (O .u8) b1)] (Dk r) [.cells 187 [(.val (.pointer none)),(.arr 1 b1.length 0 b1.length)],.dead]:=⟨fun {r} h=>by
 exact Aah h⟩
instance {a0:Dc}:OK (L3 a0) fun r=>Aq Tryz.prog 146 [F8 a0] (Dk r):=⟨fun {r} h=>by
 refine pw C0 Tryz.func146 ?_
 refine Z ?_
 refine Bc h (fun _ h=>?_)
 refine Z ?_
 refine Al h (fun _ h=>?_) (fun _ h=>?_)
 exact Y
 refine ZS ?_
 refine Bw ?_
 refine ZO ?_
 refine Ay (Ay ?_)
 refine Dm [.own 3 1 5 1] ?_
 refine Z ?_
 refine Qd ?_
 refine Z ?_
 refine Al h (fun _ h=>?_) (fun _ h=>?_)
 refine Hy (Ay ?_)
 refine Br h (fun (v30,o31)=>[(4,(O .i64 0)),(6,(O .i64 v30))]) (fun (v30,o31)=>[(1,.cells 187 [(.loc 1 0),(.arr 2 o31.length 0 o31.length)]),(2,.rows 5 1 (List.map (O .u8) o31))]) ?_ ?_
 intro _ h _ _ _
 refine Z ?_
 refine Bq h (fun _ v5 _ _ h=>?_)
 refine Z ?_
 refine Cn h (fun v7 hcv7 h=>?_)
 rcases v7 with v8 | v9
 refine Er.act [1,2] _ _ _ _ (Abc (a0:=v5.Coef) (a1:=true) (b1:=[]) hcv7) rfl rfl ⟨rfl,rfl,trivial⟩ ?_
 refine ZS ?_
 refine Bw ?_
 refine ZO ?_
 refine Br h (fun o14=>[]) (fun o14=>[(1,.cells 187 [(.loc 1 0),(.arr 2 o14.length 0 o14.length)]),(2,.rows 5 1 (List.map (O .u8) o14))]) ?_ ?_
 intro _ h _ _ _
 refine Al h (fun _ h=>?_) (fun _ h=>?_)
 refine Z ?_
 refine Bc h (fun _ h=>?_)
 refine Z ?_
 refine D5 h (fun h=>?_)
 refine Z ?_
 refine A5 [1,2] h (fun _ h=>?_)
 exact Y
 exact Y
 rintro o14 _ h
 refine Z ?_
 refine Al h (fun _ h=>?_) (fun _ h=>?_)
 refine Z ?_
 refine A5 [1,2] h (fun _ h=>?_)
 exact Y
 refine Z ?_
 refine Bc h (fun _ h=>?_)
 refine Z ?_
 refine D5 h (fun h=>?_)
 refine Z ?_
 refine A5 [1,2] h (fun _ h=>?_)
 exact Y
 refine Er.act [1,2] _ _ _ _ (Abd (a0:=v5.Coef) (a1:=true) (b1:=[]) hcv7) rfl rfl ⟨rfl,rfl,trivial⟩ ?_
 refine Z ?_
 refine Al h (fun _ h=>?_) (fun _ h=>?_)
 refine Z ?_
 refine Bc h (fun _ h=>?_)
 refine Z ?_
 refine D5 h (fun h=>?_)
 refine Z ?_
 refine A5 [1,2] h (fun _ h=>?_)
 refine Z ?_
 refine Al h (fun _ h=>?_) (fun _ h=>?_)
 refine Z ?_
 refine A5 [1,2] h (fun _ h=>?_)
 exact Y
 refine Z ?_
 refine Bc h (fun _ h=>?_)
 refine Z ?_
 refine D5 h (fun h=>?_)
 refine Z ?_
 refine A5 [1,2] h (fun _ h=>?_)
 exact Y
 refine Z ?_
 refine Al h (fun _ h=>?_) (fun _ h=>?_)
 refine Z ?_
 refine A5 [1,2] h (fun _ h=>?_)
 exact Y
 refine Z ?_
 refine Bc h (fun _ h=>?_)
 refine Z ?_
 refine D5 h (fun h=>?_)
 refine Z ?_
 refine A5 [1,2] h (fun _ h=>?_)
 exact Y
 rintro ⟨v30,o31⟩ _ h
 refine Z ?_
 refine Ax h (fun (v43,o44)=>[(13,(O .i64 v43))]) (fun (v43,o44)=>[(1,.cells 187 [(.loc 1 0),(.arr 2 o44.length 0 o44.length)]),(2,.rows 5 1 (List.map (O .u8) o44))]) ?_
 rintro ⟨v43,o44⟩ _ _ _ h _ _
 refine Z ?_
 refine Al h (fun _ h=>?_) (fun _ h=>?_)
 refine Z ?_
 refine Bq h (fun _ _ _ _ h=>?_)
 refine Z ?_
 refine A5 [1,2] h (fun _ h=>?_)
 refine ZS ?_
 refine Bw ?_
 refine ZO ?_
 refine Br h (fun o51=>[]) (fun o51=>[(1,.cells 187 [(.loc 1 0),(.arr 2 o51.length 0 o51.length)]),(2,.rows 5 1 (List.map (O .u8) o51))]) ?_ ?_
 intro _ h _ _ _
 refine Al h (fun _ h=>?_) (fun _ h=>?_)
 refine Z ?_
 refine Bc h (fun _ h=>?_)
 refine Z ?_
 refine D5 h (fun h=>?_)
 refine Z ?_
 refine A5 [1,2] h (fun _ h=>?_)
 exact Y
 exact Y
 rintro o51 _ h
 refine Z ?_
 refine Al h (fun _ h=>?_) (fun _ h=>?_)
 refine Z ?_
 refine A5 [1,2] h (fun _ h=>?_)
 exact Y
 refine Z ?_
 refine Bc h (fun _ h=>?_)
 refine Z ?_
 refine D5 h (fun h=>?_)
 refine Z ?_
 refine A5 [1,2] h (fun _ h=>?_)
 exact Y
 replace h:=Bz h
 refine Ej (Ei rfl (Ay (Ay ?_)))
 refine Br h (fun v57=>[(47,(Ao v57))]) (fun v57=>[]) ?_ ?_
 intro _ h _ _ _
 exact Y
 rintro v57 _ h
 refine Al h (fun _ h=>?_) (fun _ h=>?_)
 refine Z ?_
 refine A5 [1,2] h (fun _ h=>?_)
 refine Z ?_
 refine Bc h (fun _ h=>?_)
 refine Z ?_
 refine A5 [1,2] h (fun _ h=>?_)
 refine Z ?_
 refine A5 [1,2] h (fun _ h=>?_)
 exact Y
 refine Z ?_
 refine A5 [1,2] h (fun _ h=>?_)
 exact Y
 refine Ej (Ei rfl (Ay (Ay ?_)))
 refine Br h (fun v63=>[(47,(Ao v63))]) (fun v63=>[]) ?_ ?_
 intro _ h _ _ _
 exact Y
 rintro v63 _ h
 refine Al h (fun _ h=>?_) (fun _ h=>?_)
 refine Z ?_
 refine Cn h (fun v64 hcv64 h=>?_)
 rcases v64 with v65 | v66
 refine Er.act [1,2] _ _ _ _ (Abc (a0:=a0.Const) (a1:=((a0.Terms.length:Int)==(0:Int))) (b1:=[]) hcv64) rfl rfl ⟨rfl,rfl,trivial⟩ ?_
 refine Z ?_
 refine Bc h (fun _ h=>?_)
 refine Z ?_
 refine A5 [1,2] h (fun _ h=>?_)
 refine Z ?_
 refine A5 [1,2] h (fun _ h=>?_)
 exact Y
 refine Er.act [1,2] _ _ _ _ (Abd (a0:=a0.Const) (a1:=((a0.Terms.length:Int)==(0:Int))) (b1:=[]) hcv64) rfl rfl ⟨rfl,rfl,trivial⟩ ?_
 refine Z ?_
 refine Bc h (fun _ h=>?_)
 refine Z ?_
 refine A5 [1,2] h (fun _ h=>?_)
 refine Z ?_
 refine A5 [1,2] h (fun _ h=>?_)
 exact Y
 refine Z ?_
 refine A5 [1,2] h (fun _ h=>?_)
 exact Y⟩
instance {a0:Bh}:OK (Ur a0) fun r=>Aq Tryz.prog 80 [Du a0] (Dk r):=⟨fun {r} h=>by
 refine pw C0 Tryz.func80 ?_
 refine ZS ?_
 refine Bw ?_
 refine ZS ?_
 refine Bw ?_
 refine ZO ?_
 refine Ay (Ay ?_)
 refine Dm [.own 3 1 5 1] ?_
 refine Z ?_
 refine Qd ?_
 refine Z ?_
 refine Al h (fun _ h=>?_) (fun _ h=>?_)
 refine Z ?_
 refine Bq h (fun _ _ _ _ h=>?_)
 refine Z ?_
 refine Bc h (fun _ h=>?_)
 refine Z ?_
 refine A5 [1,2] h (fun _ h=>?_)
 refine Z ?_
 refine Ax h (fun (v18,o19)=>[(11,(O .i64 v18))]) (fun (v18,o19)=>[(1,.cells 187 [(.loc 1 0),(.arr 2 o19.length 0 o19.length)]),(2,.rows 5 1 (List.map (O .u8) o19))]) ?_
 rintro ⟨v18,o19⟩ _ _ _ h _ _
 refine Z ?_
 refine Al h (fun _ h=>?_) (fun _ h=>?_)
 refine Z ?_
 refine Bq h (fun _ _ _ _ h=>?_)
 refine Z ?_
 refine Bc h (fun _ h=>?_)
 refine Z ?_
 refine A5 [1,2] h (fun _ h=>?_)
 exact Y
 replace h:=Bz h
 refine Z ?_
 refine Qd ?_
 refine Z ?_
 refine Al h (fun _ h=>?_) (fun _ h=>?_)
 refine Z ?_
 refine Bq h (fun _ _ _ _ h=>?_)
 refine Z ?_
 refine Bc h (fun _ h=>?_)
 refine Z ?_
 refine D5 h (fun h=>?_)
 refine Z ?_
 refine D5 h (fun h=>?_)
 refine Z ?_
 refine Bc h (fun _ h=>?_)
 refine Z ?_
 refine D5 h (fun h=>?_)
 refine Z ?_
 refine A5 [1,2] h (fun _ h=>?_)
 refine Z ?_
 refine Ax h (fun (v51,o52)=>[(25,(O .i64 v51))]) (fun (v51,o52)=>[(1,.cells 187 [(.loc 1 0),(.arr 2 o52.length 0 o52.length)]),(2,.rows 5 1 (List.map (O .u8) o52))]) ?_
 rintro ⟨v51,o52⟩ _ _ _ h _ _
 refine Z ?_
 refine Al h (fun _ h=>?_) (fun _ h=>?_)
 refine Z ?_
 refine Bq h (fun _ _ _ _ h=>?_)
 refine Z ?_
 refine Bc h (fun _ h=>?_)
 refine Z ?_
 refine D5 h (fun h=>?_)
 refine Z ?_
 refine D5 h (fun h=>?_)
 refine Z ?_
 refine Bc h (fun _ h=>?_)
 refine Z ?_
 refine D5 h (fun h=>?_)
 refine Z ?_
 refine A5 [1,2] h (fun _ h=>?_)
 exact Y
 replace h:=Bz h
 refine Z ?_
 refine A5 [1,2] h (fun _ h=>?_)
 exact Y
 refine Z ?_
 refine A5 [1,2] h (fun _ h=>?_)
 exact Y
 refine Z ?_
 refine Qd ?_
 refine Z ?_
 refine Al h (fun _ h=>?_) (fun _ h=>?_)
 refine Z ?_
 refine Bq h (fun _ _ _ _ h=>?_)
 refine Z ?_
 refine Bc h (fun _ h=>?_)
 refine Z ?_
 refine D5 h (fun h=>?_)
 refine Z ?_
 refine D5 h (fun h=>?_)
 refine Z ?_
 refine Bc h (fun _ h=>?_)
 refine Z ?_
 refine D5 h (fun h=>?_)
 refine Z ?_
 refine A5 [1,2] h (fun _ h=>?_)
 refine Z ?_
 refine Ax h (fun (v90,o91)=>[(25,(O .i64 v90))]) (fun (v90,o91)=>[(1,.cells 187 [(.loc 1 0),(.arr 2 o91.length 0 o91.length)]),(2,.rows 5 1 (List.map (O .u8) o91))]) ?_
 rintro ⟨v90,o91⟩ _ _ _ h _ _
 refine Z ?_
 refine Al h (fun _ h=>?_) (fun _ h=>?_)
 refine Z ?_
 refine Bq h (fun _ _ _ _ h=>?_)
 refine Z ?_
 refine Bc h (fun _ h=>?_)
 refine Z ?_
 refine D5 h (fun h=>?_)
 refine Z ?_
 refine D5 h (fun h=>?_)
 refine Z ?_
 refine Bc h (fun _ h=>?_)
 refine Z ?_
 refine D5 h (fun h=>?_)
 refine Z ?_
 refine A5 [1,2] h (fun _ h=>?_)
 exact Y
 replace h:=Bz h
 refine Z ?_
 refine A5 [1,2] h (fun _ h=>?_)
 exact Y
 refine Z ?_
 refine A5 [1,2] h (fun _ h=>?_)
 exact Y⟩
instance {a0 a1:List Int}:OK (N4 a0 a1) fun r=>Aq Tryz.prog 173 [(Ap 1 (O .u32)) a0,(Ap 1 (O .u32)) a1] ((Ap 1 (O .u32)) r):=⟨fun {r} h=>by
 refine pw {T:=B5,an:=(fun _=>.ask),nl:=(fun s=>bif Nat.beq s 4 then [(0,1)] else [])} Tryz.func173 ?_
 refine ZS ?_
 refine Bw ?_
 refine ZS ?_
 refine Bw ?_
 refine ZO ?_
 refine Br h (fun (v1,v2)=>[(0,(.sl 1 (List.map (O .u32) v1))),(1,(.sl 1 (List.map (O .u32) v2)))]) (fun (v1,v2)=>[]) ?_ ?_
 intro _ h _ _ _
 exact Y
 rintro ⟨v1,v2⟩ _ h
 refine Z ?_
 refine Em h (fun _ h=>?_)
 refine Z ?_
 refine Ax h (fun (v20,v21,o22)=>[(5,(.arr 0 o22.length 0 o22.length)),(6,(O .u32 v20)),(22,(O .i64 v21))]) (fun (v20,v21,o22)=>[(0,.rows 133 1 (List.map (O .u32) o22))]) ?_
 rintro ⟨v20,v21,o22⟩ _ _ _ h _ _
 refine Z ?_
 refine Al h (fun _ h=>?_) (fun _ h=>?_)
 refine Z ?_
 refine Bq h (fun _ _ _ _ h=>?_)
 refine ZS ?_
 refine Bw ?_
 refine ZO ?_
 refine Br h (fun v25=>[(8,(O .u32 v25))]) (fun v25=>[]) ?_ ?_
 intro _ h _ _ _
 exact Y
 rintro v25 _ h
 exact Y
 exact Y⟩
instance {a0 a1:List Int}:OK (L7 a0 a1) fun r=>Aq Tryz.prog 175 [(Ap 1 (O .u32)) a0,(Ap 1 (O .u32)) a1] ((Ap 1 (O .u32)) r):=⟨fun {r} h=>by
 refine pw {T:=B5,an:=(fun _=>.ask),nl:=(fun s=>bif Nat.beq s 4 then [(0,1)] else [])} Tryz.func175 ?_
 refine Z ?_
 refine Em h (fun _ h=>?_)
 refine Z ?_
 refine Ax h (fun (v8,v9,o10)=>[(5,(.arr 0 o10.length 0 o10.length)),(6,(O .i64 v8)),(14,(O .i64 v9))]) (fun (v8,v9,o10)=>[(0,.rows 133 1 (List.map (O .u32) o10))]) ?_
 rintro ⟨v8,v9,o10⟩ _ _ _ h _ _
 refine Z ?_
 refine Al h (fun _ h=>?_) (fun _ h=>?_)
 refine Z ?_
 refine Bq h (fun _ _ _ _ h=>?_)
 refine ZS ?_
 refine Bw ?_
 refine ZO ?_
 refine Br h (fun v13=>[(8,(O .i64 v13))]) (fun v13=>[]) ?_ ?_
 intro _ h _ _ _
 exact Y
 rintro v13 _ h
 exact Y
 replace h:=Bz h
 refine Ej (Ei rfl (Ay ?_))
 refine Dm [.fz 5] ?_
 exact Y⟩
instance {a0 a1:D7}:OK (Qs a0 a1) fun r=>Aq Tryz.prog 107 [Jh a0,Jh a1] (Jh r):=⟨fun {r} h=>by
 refine pw C0 Tryz.func107 ?_
 exact Y⟩
instance {a0 a1:A3}:OK (Ij a0 a1) fun r=>Aq Tryz.prog 53 [C1 a0,C1 a1] (C1 r):=⟨fun {r} h=>by
 refine pw C0 Tryz.func53 ?_
 exact Y⟩
instance {a0:List Aw} {b1:List (ByteArray×Int)} {b2:List Aw}:OK (Qi a0 b1 b2) fun r=>Bp Tryz.prog 38 [(.loc 0 0),(Ap 5 Bx) a0] [.cells 76 [(.mp 1),(.arr 2 b2.length 0 b2.length)],.map (A7 (O .i64) b1),.rows 84 5 (List.map Bx b2)] (.tup []) [.cells 76 [(.mp 1),(.arr 2 r.2.length 0 r.2.length)],.map (A7 (O .i64) r.1),.rows 84 5 (List.map Bx r.2)]:=⟨fun {r} h=>by
 refine aw C0 true Tryz.func38 ?_
 refine Z ?_
 refine Ax h (fun (v10,o11,o12)=>[(11,(O .i64 v10))]) (fun (v10,o11,o12)=>[(0,.cells 76 [(.mp 1),(.arr 2 o12.length 0 o12.length)]),(1,.map (A7 (O .i64) o11)),(2,.rows 84 5 (List.map Bx o12))]) ?_
 rintro ⟨v10,o11,o12⟩ _ _ _ h _ hn1
 refine Z ?_
 refine Al h (fun _ h=>?_) (fun _ h=>?_)
 refine Z ?_
 refine Bq h (fun _ _ _ _ h=>?_)
 refine Z ?_
 refine Bc h (fun _ h=>?_)
 refine ZO ?_
 refine Ay (Ay ?_)
 refine Br h (fun (v16,v17)=>[(7,(O .i64 v16)),(8,(Ao v17))]) (fun (v16,v17)=>[]) ?_ ?_
 intro _ h _ _ _
 refine Z ?_
 refine P8 (f:=(O .i64)) (l:=o11) rfl (0:Int) h (fun j_ hb h=>?_) (fun hb h=>?_)
 exact Y
 exact Y
 rintro ⟨v16,v17⟩ _ h
 refine Z ?_
 refine Al h (fun _ h=>?_) (fun _ h=>?_)
 refine Z ?_
 refine H6 h (fun _ _ _ _ h=>?_)
 refine Z ?_
 refine Bc h (fun v19 h=>?_)
 refine Z ?_
 refine H6 h (fun _ v20 hiv20 _ h=>?_)
 refine Z ?_
 refine Hx (f:=Bx) (x:=(Aw.mk v19 v20.Mono)) (j:=v16) rfl rfl (Nat.zero_add _) hiv20 ?_
 refine Z ?_
 exact hn1 _ _ _ _ (Option.some.inj h) ⟨rfl,trivial⟩ ⟨⟨rfl,rfl⟩,⟨rfl,rfl⟩,⟨congrArg (fun q_=>A1.cells 76 [(.mp 1),(.arr 2 q_ 0 q_)]) (Ef (l:=o12) rfl v16 (Aw.mk v19 v20.Mono)),rfl⟩,trivial⟩ trivial
 refine Z ?_
 refine M6 (f:=(O .i64)) (l:=o11) (x:=((o12.length:Nat):Int)) rfl rfl ?_
 exact Y
 exact Y⟩
abbrev Abe (k:Nat):Prop:=∀{a0:Bl},OK (Oc k a0) fun r=>Aq Tryz.prog 254 [D6 a0] (D6 r)
theorem Ahm (k:Nat):Abe k:=by
 induction k with
 | zero=>exact okz
 | succ k ih=>
  refine @fun a0=>⟨fun {r} h=>?_⟩
  .unfold Oc at h
   refine pw {T:=B5,an:=(fun _=>.ask),nl:=(fun s=>bif Nat.beq s 17 then [(0,2)] else [])} Tryz.func254 ?_
   refine ZS ?_
   refine Bw ?_
   refine ZS ?_
   refine Bw ?_
   refine ZO ?_
   refine Ay (Ay ?_)
   refine Dm [.own 3 1 90 2] ?_
   refine Z ?_
   refine Ax h (fun (v15,o16)=>[(12,(O .i64 v15))]) (fun (v15,o16)=>[(2,.cells 90 [(O .i64 a0.Num),(.arr 3 o16.length 0 o16.length)]),(3,.rows 90 2 (F7 o16))]) ?_
   rintro ⟨v15,o16⟩ _ _ _ h _ _
   exact Y
instance {k:Nat}:Abe k:=(Ahm k)
instance {a0:List Ct}:OK (Vm a0) fun r=>Aq Tryz.prog 255 [(Ap 2 Ek) a0] ((Ap 2 Ek) r):=⟨fun {r} h=>by
 exact Ag8 h⟩
instance {a0:Bh}:OK (Vc a0) fun r=>Aq Tryz.prog 165 [Du a0] (Du r):=⟨fun {r} h=>by
 refine pw {T:=B5,an:=(fun _=>.ask),nl:=(fun s=>bif Nat.beq s 44 then [(0,3)] else bif Nat.beq s 17 then [(0,3)] else [])} Tryz.func165 ?_
 refine ZS ?_
 refine Bw ?_
 refine ZS ?_
 refine Bw ?_
 refine ZO ?_
 refine Ay (Ay ?_)
 refine Dm [.own 3 0 92 3,.own 3 1 95 3] ?_
 refine Z ?_
 refine Ax h (fun (v16,o17)=>[(12,(O .i64 v16))]) (fun (v16,o17)=>[(2,.cells 45 [(.arr 3 o17.length 0 o17.length),(.arr 4 0 0 0)]),(3,.rows 92 3 (List.map Dl o17))]) ?_
 rintro ⟨v16,o17⟩ _ _ _ h _ _
 refine Z ?_
 refine Al h (fun _ h=>?_) (fun _ h=>?_)
 exact Y
 replace h:=Bz h
 refine Z ?_
 refine Ax h (fun (v35,o36)=>[(31,(O .i64 v35))]) (fun (v35,o36)=>[(2,.cells 45 [(.arr 3 o17.length 0 o17.length),(.arr 4 o36.length 0 o36.length)]),(4,.rows 95 3 (List.map Df o36))]) ?_
 rintro ⟨v35,o36⟩ _ _ _ h _ _
 exact Y⟩
instance {a0:List Aw}:OK (Uv a0) fun r=>Aq Tryz.prog 94 [(Ap 5 Bx) a0] ((Ap 5 Bx) r):=⟨fun {r} h=>by
 refine pw {T:=B5,an:=(fun s=>bif Nat.beq s 3 then .own else .ask),nl:=(fun s=>bif Nat.beq s 3 then [(0,5)] else bif Nat.beq s 2 then [(0,5)] else [])} Tryz.func94 ?_
 refine Z ?_
 refine Ax h (fun (v14,o15)=>[(3,(.arr 0 o15.length 0 o15.length)),(8,(O .i64 v14))]) (fun (v14,o15)=>[(0,.rows 84 5 (List.map Bx o15))]) ?_
 rintro ⟨v14,o15⟩ _ _ _ h _ _
 exact Y⟩
instance {a0:Int}:OK (Ve a0) fun r=>Aq Tryz.prog 189 [(O .u64) a0] ((O .i64) r):=⟨fun {r} h=>by
 refine pw C0 Tryz.func189 ?_
 refine ZS ?_
 refine Bw ?_
 refine ZS ?_
 refine Bw ?_
 refine ZO ?_
 refine Br h (fun (v2,v3)=>[(0,(O .u64 v2)),(2,(O .i64 v3))]) (fun (v2,v3)=>[]) ?_ ?_
 intro _ h _ _ _
 exact Y
 rintro ⟨v2,v3⟩ _ h
 refine ZS ?_
 refine Bw ?_
 refine ZO ?_
 refine Br h (fun (v5,v6)=>[(0,(O .u64 v5)),(2,(O .i64 v6))]) (fun (v5,v6)=>[]) ?_ ?_
 intro _ h _ _ _
 exact Y
 rintro ⟨v5,v6⟩ _ h
 refine ZS ?_
 refine Bw ?_
 refine ZO ?_
 refine Br h (fun (v8,v9)=>[(0,(O .u64 v8)),(2,(O .i64 v9))]) (fun (v8,v9)=>[]) ?_ ?_
 intro _ h _ _ _
 exact Y
 rintro ⟨v8,v9⟩ _ h
 exact Y⟩
instance {a0:Int}:OK (Qt a0) fun r=>Aq Tryz.prog 120 [(O .u64) a0] ((O .i64) r):=⟨fun {r} h=>by
 refine pw C0 Tryz.func120 ?_
 exact Y⟩
instance {a0 a1:Aw}:OK (Uu a0 a1) fun r=>Aq Tryz.prog 93 [Bx a0,Bx a1] ((O .i64) r):=⟨fun {r} h=>by
 refine pw C0 Tryz.func93 ?_
 exact Y⟩
instance {a0 a1:Int} {b0:List Aw}:OK (Vl a0 a1 b0) fun r=>Bp Tryz.prog 246 [(.arr 0 b0.length 0 b0.length),(O .i64) a0,(O .i64) a1,(.fn 93 [])] [.rows 84 5 (List.map Bx b0)] (.tup []) [.rows 84 5 (List.map Bx r)]:=⟨fun {r} h=>by
 refine aw C0 true Tryz.func246 ?_
 refine Z ?_
 refine Ea h (fun (v21,o22)=>[(8,(O .i64 v21))]) (fun (v21,o22)=>[(0,.rows 84 5 (List.map Bx o22))]) (fun (v21,o22)=>b0.length=o22.length) ?_
 rintro ⟨v21,o22⟩ _ _ _ h _ _ q22
 refine Z ?_
 refine Al h (fun _ h=>?_) (fun _ h=>?_)
 refine Z ?_
 refine Ea h (fun (v31,o32)=>[(9,(O .i64 v31))]) (fun (v31,o32)=>[(0,.rows 84 5 (List.map Bx o32))]) (fun (v31,o32)=>b0.length=o32.length) ?_
 rintro ⟨v31,o32⟩ _ _ _ h _ _ q32
 refine Ay (Ay ?_)
 refine Br h (fun v36=>[(34,(Ao v36))]) (fun v36=>[]) ?_ ?_
 intro _ h _ _ _
 exact Y
 rintro v36 _ h
 exact Y
 exact Y⟩
instance {a0 a1 a2:Int} {b0:List Aw}:OK (Vb a0 a1 a2 b0) fun r=>Bp Tryz.prog 164 [(.arr 0 b0.length 0 b0.length),(O .i64) a0,(O .i64) a1,(O .i64) a2,(.fn 93 [])] [.rows 84 5 (List.map Bx b0)] (.tup []) [.rows 84 5 (List.map Bx r)]:=⟨fun {r} h=>by
 refine aw C0 true Tryz.func164 ?_
 refine Z ?_
 refine Ax h (fun _=>[(1,(O .i64 a0)),(2,(O .i64 a1)),(3,(O .i64 a2)),(10,(Ao true)),(11,(Ao true))]) (fun _=>[]) ?_
 rintro _ _ _ _ h _ _
 refine Z ?_
 refine Al h (fun _ h=>?_) (fun _ h=>?_)
 refine Z ?_
 refine A5 [0] h (fun _ h=>?_)
 refine Cn h (fun v2 hgv2 h=>?_)
 exact Y
 exact Y⟩
instance {b0:List Aw}:OK (Ut b0) fun r=>Bp Tryz.prog 92 [(.arr 0 b0.length 0 b0.length),(.fn 93 [])] [.rows 84 5 (List.map Bx b0)] (.tup []) [.rows 84 5 (List.map Bx r)]:=⟨fun {r} h=>by
 refine aw C0 true Tryz.func92 ?_
 refine Z ?_
 refine Bc h (fun _ h=>?_)
 refine Z ?_
 refine A5 [0] h (fun _ h=>?_)
 refine Cn h (fun v3 hgv3 h=>?_)
 exact Y⟩
instance {b1:List (ByteArray×Int)} {b2:List Aw}:OK (Qj b1 b2) fun r=>Bp Tryz.prog 46 [(.loc 0 0)] [.cells 76 [(.mp 1),(.arr 2 b2.length 0 b2.length)],.map (A7 (O .i64) b1),.rows 84 5 (List.map Bx b2)] (.tup [(Ap 5 Bx) r.1,(O .i64) r.2]) [.cells 76 [(.mp 1),(.arr 2 b2.length 0 b2.length)],.map (A7 (O .i64) b1),.rows 84 5 (List.map Bx b2)]:=⟨fun {r} h=>by
 refine aw {T:=B5,an:=(fun s=>bif Nat.beq s 4 then .own else .ask),nl:=(fun s=>bif Nat.beq s 4 then [(0,5)] else bif Nat.beq s 2 then [(0,5)] else [])} true Tryz.func46 ?_
 refine Z ?_
 refine Ax h (fun (v12,o13)=>[(4,(.arr 3 o13.length 0 o13.length)),(12,(O .i64 v12))]) (fun (v12,o13)=>[(3,.rows 84 5 (List.map Bx o13))]) ?_
 rintro ⟨v12,o13⟩ _ _ _ h _ _
 refine Z ?_
 refine Al h (fun _ h=>?_) (fun _ h=>?_)
 exact Y
 replace h:=Bz h
 refine Z ?_
 refine Al h (fun _ h=>?_) (fun _ h=>?_)
 exact Y
 refine Z ?_
 refine A5 [3] h (fun _ h=>?_)
 refine Cn h (fun v20 hgv20 h=>?_)
 refine ZO ?_
 refine Ay ?_
 refine Dm [.fz 4] ?_
 exact Y⟩
instance {a0:Bh} {b1:List (ByteArray×Int)} {b2:List (ByteArray×(List C2))} {b0_0:List Bk} {b0_1:List Ar} {b0_2 b0_3:Int} {b0_4:List Ar}:OK (Us a0 b1 b2 b0_0 b0_1 b0_2 b0_3 b0_4) fun r=>Bp Tryz.prog 91 [(.loc 0 0),Du a0] [.cells 129 [(.sl 3 (List.map B8 b0_0)),(.sl 3 (Bb b0_1)),(O .i64 b0_2),(O .i64 b0_3),(.sl 3 (Bb b0_4)),(.mp 1),(.mp 2)],.map (A7 (O .i64) b1),.map (A7 (Ap 5 Dd) b2)] (.tup [(Ap 5 Bx) r.1,(O .i64) r.2]) [.cells 129 [(.sl 3 (List.map B8 b0_0)),(.sl 3 (Bb b0_1)),(O .i64 b0_2),(O .i64 b0_3),(.sl 3 (Bb b0_4)),(.mp 1),(.mp 2)],.map (A7 (O .i64) b1),.map (A7 (Ap 5 Dd) b2)]:=⟨fun {r} h=>by
 refine aw {T:=B5,an:=(fun _=>.ask),nl:=(fun s=>bif Nat.beq s 4 then [(0,5)] else [])} true Tryz.func91 ?_
 refine Z ?_
 refine Bc h (fun _ h=>?_)
 refine Z ?_
 refine A5 [0,1,2] h (fun _ h=>?_)
 refine Z ?_
 refine Al h (fun _ h=>?_) (fun _ h=>?_)
 exact Y
 refine Z ?_
 refine A5 [] h (fun _ h=>?_)
 refine Z ?_
 refine A5 [5,4,6] h (fun _ h=>?_)
 refine Z ?_
 refine A5 [5,4,6] h (fun _ h=>?_)
 exact Y⟩
instance {a0:A3} {a1:Bh}:OK (Aab a0 a1) fun r=>Aq Tryz.prog 163 [(.val (.pointer none)),C1 a0,Du a1] (.tup [(Ap 5 Bx) r.1,(O .i64) r.2]):=⟨fun {r} h=>by
 refine pw {T:=B5,an:=(fun s=>bif Nat.beq s 22 then .own else .ask),nl:=(fun s=>bif Nat.beq s 155 then [(0,3)] else bif Nat.beq s 31 then [(3,3),(4,3)] else bif Nat.beq s 22 then [(0,5)] else bif Nat.beq s 6 then [(0,5)] else [])} Tryz.func163 ?_
 refine Z ?_
 refine Bc h (fun _ h=>?_)
 refine Z ?_
 refine Al h (fun _ h=>?_) (fun _ h=>?_)
 exact Y
 refine Z ?_
 refine Bc h (fun v4 h=>?_)
 refine Z ?_
 refine Bc h (fun _ h=>?_)
 refine Z ?_
 refine Ax h (fun _=>[(6,(.sl 5 (List.map Bx []))),(7,(O .i64 0)),(8,(.sl 5 (List.map Bx [(Aw.mk a0 (Bh.mk [] []))]))),(9,(.sl 3 (List.map Dl v4)))]) (fun _=>[]) ?_
 rintro _ _ _ _ h _ _
 refine Z ?_
 refine Al h (fun _ h=>?_) (fun _ h=>?_)
 refine Z ?_
 refine Bq h (fun _ _ _ _ h=>?_)
 refine Z ?_
 refine Ax h (fun v8=>[(11,(O .i64 v8))]) (fun v8=>[]) ?_
 rintro v8 _ _ _ h _ _
 exact Y
 replace h:=Bz h
 refine Z ?_
 refine Bc h (fun _ h=>?_)
 refine Z ?_
 refine Bc h (fun _ h=>?_)
 refine Z ?_
 refine Ax h (fun (v104,v105)=>[(8,(.sl 5 (List.map Bx v104))),(19,(.sl 3 (List.map Df v105)))]) (fun (v104,v105)=>[]) ?_
 rintro ⟨v104,v105⟩ _ _ _ h _ _
 refine Z ?_
 refine Al h (fun _ h=>?_) (fun _ h=>?_)
 refine Z ?_
 refine Bq h (fun _ _ _ _ h=>?_)
 refine Z ?_
 refine Ax h (fun v110=>[(21,(O .i64 v110))]) (fun v110=>[]) ?_
 rintro v110 _ _ _ h _ _
 refine Z ?_
 refine El h (fun _ h=>?_) (fun _ h=>?_)
 refine Z ?_
 refine Bq h (fun _ _ _ _ h=>?_)
 refine Z ?_
 refine Bc h (fun _ h=>?_)
 refine Z ?_
 refine Al h (fun _ h=>?_) (fun _ h=>?_)
 exact Y
 replace h:=Bz h
 refine Z ?_
 refine Kx h (fun _ h=>?_)
 refine Z ?_
 refine Bc h (fun _ h=>?_)
 refine Z ?_
 refine Ax h (fun (v167,o168)=>[(22,(.arr 3 o168.length 0 o168.length)),(135,(O .i64 v167))]) (fun (v167,o168)=>[(3,.rows 84 5 (List.map Bx o168))]) ?_
 rintro ⟨v167,o168⟩ _ _ _ h _ _
 refine Z ?_
 refine Al h (fun _ h=>?_) (fun _ h=>?_)
 refine Z ?_
 refine Bq h (fun _ _ _ _ h=>?_)
 refine Z ?_
 refine Bc h (fun _ h=>?_)
 refine Z ?_
 refine Al h (fun _ h=>?_) (fun _ h=>?_)
 exact Y
 refine Z ?_
 refine Ax h (fun (v184,o185)=>[(22,(.arr 3 o185.length 0 o185.length)),(145,(O .i64 v184))]) (fun (v184,o185)=>[(3,.rows 84 5 (List.map Bx o185))]) ?_
 rintro ⟨v184,o185⟩ _ _ _ h _ _
 exact Y
 replace h:=Bz h
 refine Ej (Ei rfl ?_)
 refine Dm [.fz 22] ?_
 exact Y
 replace h:=Bz h
 refine Z ?_
 refine Kx h (fun _ h=>?_)
 refine Z ?_
 refine Bc h (fun _ h=>?_)
 refine Z ?_
 refine Ax h (fun (v167,o168)=>[(22,(.arr 3 o168.length 0 o168.length)),(135,(O .i64 v167))]) (fun (v167,o168)=>[(3,.rows 84 5 (List.map Bx o168))]) ?_
 rintro ⟨v167,o168⟩ _ _ _ h _ _
 refine Z ?_
 refine Al h (fun _ h=>?_) (fun _ h=>?_)
 refine Z ?_
 refine Bq h (fun _ _ _ _ h=>?_)
 refine Z ?_
 refine Bc h (fun _ h=>?_)
 refine Z ?_
 refine Al h (fun _ h=>?_) (fun _ h=>?_)
 exact Y
 refine Z ?_
 refine Ax h (fun (v184,o185)=>[(22,(.arr 3 o185.length 0 o185.length)),(145,(O .i64 v184))]) (fun (v184,o185)=>[(3,.rows 84 5 (List.map Bx o185))]) ?_
 rintro ⟨v184,o185⟩ _ _ _ h _ _
 exact Y
 replace h:=Bz h
 refine Ej (Ei rfl ?_)
 refine Dm [.fz 22] ?_
 exact Y
 exact Y⟩
instance {a0:Bh}:OK (Aac a0) fun r=>Aq Tryz.prog 91 [(.val (.pointer none)),Du a0] (.tup [(Ap 5 Bx) r.1,(O .i64) r.2]):=⟨fun {r} h=>by
 refine pw {T:=B5,an:=(fun _=>.ask),nl:=(fun s=>bif Nat.beq s 4 then [(0,5)] else [])} Tryz.func91 ?_
 refine Z ?_
 refine Bc h (fun _ h=>?_)
 refine Z ?_
 refine Bc h (fun _ h=>?_)
 refine Z ?_
 refine Al h (fun _ h=>?_) (fun _ h=>?_)
 exact Y
 refine Z ?_
 refine A5 [] h (fun _ h=>?_)
 refine Z ?_
 refine A5 [2,1,3] h (fun _ h=>?_)
 refine Z ?_
 refine A5 [2,1,3] h (fun _ h=>?_)
 exact Y⟩
instance {a0:Fg} {a1:Dc} {a2:Int}:OK (Un a0 a1 a2) fun r=>Aq Tryz.prog 44 [Ri a0,F8 a1,(O .i64) a2] (.tup [(Ap 5 Bx) r.1,(O .i64) r.2]):=⟨fun {r} h=>by
 refine pw {T:=B5,an:=(fun _=>.ask),nl:=(fun s=>bif Nat.beq s 37 then [(0,3)] else bif Nat.beq s 6 then [(0,5)] else [])} Tryz.func44 ?_
 refine Z ?_
 refine Cn h (fun v3 hcv3 h=>?_)
 rcases v3 with v4 | v9
 refine Er.act [] _ _ _ _ (Bp.sub (args:=[_,.val (.slice none 0 0)]) (Aa8 (a0:=a0) (a1:=[]) hcv3) ⟨Sub.refl _,Sub.nil _,trivial⟩) rfl rfl trivial ?_
 refine Z ?_
 refine Al h (fun _ h=>?_) (fun _ h=>?_)
 exact Y
 refine Hy (Ay (Ay ?_))
 refine Br h (fun v11=>[(27,(Ao v11))]) (fun v11=>[]) ?_ ?_
 intro _ h _ _ _
 exact Y
 rintro v11 _ h
 refine Al h (fun _ h=>?_) (fun _ h=>?_)
 exact Y
 refine Z ?_
 refine A5 [5,3,4] h (fun _ h=>?_)
 refine Z ?_
 refine Al h (fun _ h=>?_) (fun _ h=>?_)
 exact Y
 refine Z ?_
 refine A5 [5,3,4] h (fun _ h=>?_)
 exact Y
 refine Er.act [] _ _ _ _ (Bp.sub (args:=[_,.val (.slice none 0 0)]) (Aa9 (a0:=a0) (a1:=[]) hcv3) ⟨Sub.refl _,Sub.nil _,trivial⟩) rfl rfl trivial ?_
 refine Z ?_
 refine Al h (fun _ h=>?_) (fun _ h=>?_)
 exact Y
 refine Hy (Ay (Ay ?_))
 refine Br h (fun v15=>[(27,(Ao v15))]) (fun v15=>[]) ?_ ?_
 intro _ h _ _ _
 exact Y
 rintro v15 _ h
 exact Y⟩
instance {a0:Fg} {a1:List Aw}:OK (Uo a0 a1) fun r=>Aq Tryz.prog 45 [Ri a0,(Ap 5 Bx) a1] (Ao r):=⟨fun {r} h=>by
 refine pw C0 Tryz.func45 ?_
 refine Z ?_
 refine Cn h (fun v2 hcv2 h=>?_)
 rcases v2 with v3 | v8
 refine Er.act [] _ _ _ _ (Aa8 (a0:=a0) (a1:=[a1]) hcv2) rfl rfl trivial ?_
 exact Y
 refine Er.act [] _ _ _ _ (Aa9 (a0:=a0) (a1:=[a1]) hcv2) rfl rfl trivial ?_
 exact Y⟩
instance {a0:List Int}:OK (F4 a0) fun r=>Aq Tryz.prog 179 [(Ap 1 (O .u32)) a0] ((Ap 1 (O .u32)) r):=⟨fun {r} h=>by
 refine pw {T:=B5,an:=(fun _=>.ask),nl:=(fun s=>bif Nat.beq s 2 then [(0,1)] else [])} Tryz.func179 ?_
 refine Z ?_
 refine Ax h (fun v2=>[(3,(O .i64 v2))]) (fun v2=>[]) ?_
 rintro v2 _ _ _ h _ _
 exact Y⟩
instance {a0:List Int}:OK (L5 a0) fun r=>Aq Tryz.prog 155 [(Ap 1 (O .u32)) a0] ((Ap 1 (O .u32)) r):=⟨fun {r} h=>by
 refine pw {T:=B5,an:=(fun s=>bif Nat.beq s 3 then .own else .ask),nl:=(fun s=>bif Nat.beq s 3 then [(0,1)] else bif Nat.beq s 2 then [(0,1)] else [])} Tryz.func155 ?_
 refine Z ?_
 refine Ax h (fun (v13,v14,o15)=>[(3,(.arr 0 o15.length 0 o15.length)),(4,(O .u64 v13)),(5,(O .i64 v14))]) (fun (v13,v14,o15)=>[(0,.rows 133 1 (List.map (O .u32) o15))]) ?_
 rintro ⟨v13,v14,o15⟩ _ _ _ h _ _
 refine Z ?_
 refine Al h (fun _ h=>?_) (fun _ h=>?_)
 exact Y
 replace h:=Bz h
 refine Z ?_
 refine Al h (fun _ h=>?_) (fun _ h=>?_)
 refine Z ?_
 refine Oo h (fun _ h=>?_)
 refine ZO ?_
 refine Ay ?_
 refine Dm [.fz 3] ?_
 exact Y
 refine Hy (Ay ?_)
 refine Dm [.fz 3] ?_
 exact Y⟩
instance {a0 a1:List Int}:OK (Ob a0 a1) fun r=>Aq Tryz.prog 233 [(Ap 1 (O .u32)) a0,(Ap 1 (O .u32)) a1] ((O .u64) r):=⟨fun {r} h=>by
 refine pw C0 Tryz.func233 ?_
 exact Y⟩
instance {a0:Int}:OK (Il a0) fun r=>Aq Tryz.prog 88 [(O .u64) a0] ((Ap 1 (O .u32)) r):=⟨fun {r} h=>by
 refine pw {T:=B5,an:=(fun s=>bif Nat.beq s 3 then .own else .ask),nl:=(fun s=>bif Nat.beq s 3 then [(0,1)] else bif Nat.beq s 2 then [(0,1)] else [])} Tryz.func88 ?_
 refine Z ?_
 refine Ax h (fun (v10,o11)=>[(0,(O .u64 v10)),(3,(.arr 0 o11.length 0 o11.length))]) (fun (v10,o11)=>[(0,.rows 133 1 (List.map (O .u32) o11))]) ?_
 rintro ⟨v10,o11⟩ _ _ _ h _ _
 exact Y⟩
instance {a0 a1:List Int}:OK (Jd a0 a1) fun r=>Aq Tryz.prog 113 [(Ap 1 (O .u32)) a0,(Ap 1 (O .u32)) a1] ((O .i64) r):=⟨fun {r} h=>by
 refine pw C0 Tryz.func113 ?_
 refine Z ?_
 refine Al h (fun _ h=>?_) (fun _ h=>?_)
 exact Y
 refine Z ?_
 refine Ax h (fun v5=>[(4,(O .i64 0)),(5,(O .i64 v5))]) (fun v5=>[]) ?_
 rintro v5 _ _ _ h _ _
 exact Y⟩
end Go.Ab
