/- The contracts of the functions, each by its walk (made by a program). -/
import Derived.Test.YtjjkmepjaemceaaGreatDoorBsHand
import Derived.Test.YtjjkmepjaemceaaGreatDoorBsDef
namespace Go.Ab
open Go Go.Proofs
set_option maxRecDepth 10000
set_option maxHeartbeats 4000000
set_option linter.unusedVariables false
theorem Aqz (x0 x1 y0 y1:Int):Lg Tryz.prog 83 [.int .i64 x0,.int .i64 x1] [.int .i64 y0,.int .i64 y1] (x0==y0&&(x1==y1)):=by
 have u:Tryz.prog.underlying 83=some (.struct #[⟨ "v",3,0,false,"","amortcost/bound",0⟩,⟨ "con",3,1,false,"","amortcost/bound",8⟩]):=by kernel_rfl
 have u3:Tryz.prog.underlying 3=some (.int .i64):=by kernel_rfl
 have s:Tryz.prog.stoodInHeld 83=false:=by kernel_rfl
 have g:Tryz.prog.eqGuardType Tryz.prog.depth 83=false:=by kernel_rfl
 intro w op x y
 constructor
 .unfold eqGuard
  cases op <;> simp [program,Sem.run,g]
 .show (Op.equalIn (9999+1) 83 _ _).run _ w=_
  unfold Op.equalIn
  simp only [Sem.run_bind,run_underlying u,Result.andThen_ok]
  have hp:(program).run Tryz.prog w = .ok Tryz.prog w:=rfl
  simp only [hp,Result.andThen_ok,s]
  simp [Afd w u3,Aov w u3 9998]
  by_cases h0:x0=y0 <;> by_cases h1:x1=y1 <;> simp [*]
def Ni (a:Gn):List Value:=[.int .i64 a.v,.int .i64 a.con]
theorem Acz (a b:Gn):Lg Tryz.prog 83 (Ni a) (Ni b) (Ij a b):=Aqz a.v a.con b.v b.con
theorem Ac0 (a:Gn):N4 Tryz.prog 83 (Ni a):=by
 have u:Tryz.prog.underlying 83=some (.struct #[⟨ "v",3,0,false,"","amortcost/bound",0⟩,⟨ "con",3,1,false,"","amortcost/bound",8⟩]):=by kernel_rfl
 have u3:Tryz.prog.underlying 3=some (.int .i64):=by kernel_rfl
 refine ⟨⟨_,u⟩,fun w e=>?_⟩
 show (Instr.checkKey e (9999+1) 83 _).run _ w=_
 unfold Instr.checkKey
 simp only [Sem.run_bind,run_underlying u,Result.andThen_ok]
 simp [Ni,Afd w u3,Aqd u3]
instance {a0 a1:List Int}:OK (My a0 a1) fun r=>Aw Tryz.prog 113 [(Ax 1 (Aa .u32)) a0,(Ax 1 (Aa .u32)) a1] ((Aa .i64) r):=⟨fun {r} h=>by
 refine pw C0 Tryz.func113 ?_
 refine Z ?_
 refine Au h (fun _ h=>?_) (fun _ h=>?_)
 exact Y
 refine Z ?_
 refine A9 h (fun v5=>[(4,(Aa .i64 0)),(5,(Aa .i64 v5))]) (fun v5=>[]) ?_
 rintro v5 _ _ _ h _ _
 exact Y⟩
instance {a0:List Int}:OK (Ic a0) fun r=>Aw Tryz.prog 161 [(Ax 1 (Aa .u32)) a0] ((Ax 1 (Aa .u32)) r):=⟨fun {r} h=>by
 refine pw {T:=Cf,an:=(fun _=>.ask),nl:=(fun s=>bif Nat.beq s 2 then [(0,1)] else [])} Tryz.func161 ?_
 refine Z ?_
 refine A9 h (fun v2=>[(3,(Aa .i64 v2))]) (fun v2=>[]) ?_
 rintro v2 _ _ _ h _ _
 exact Y⟩
instance {a0:List Int} {a1:Int}:OK (O4 a0 a1) fun r=>Aw Tryz.prog 290 [(Ax 1 (Aa .u32)) a0,(Aa .u64) a1] (.tup [(Ax 1 (Aa .u32)) r.1,(Aa .u64) r.2]):=⟨fun {r} h=>by
 refine pw {T:=Cf,an:=(fun _=>.ask),nl:=(fun s=>bif Nat.beq s 4 then [(0,1)] else [])} Tryz.func290 ?_
 refine Z ?_
 refine Gb h (fun o1 h=>?_)
 refine Z ?_
 refine Fy h (fun (v7,v8,o9)=>[(7,(Aa .u64 v7)),(8,(Aa .i64 v8))]) (fun (v7,v8,o9)=>[(0,.rows 129 1 (List.map (Aa .u32) o9))]) (fun (v7,v8,o9)=>o1.length=o9.length) ?_
 rintro ⟨v7,v8,o9⟩ _ _ _ h _ _ q9
 refine Z ?_
 refine Au h (fun _ h=>?_) (fun _ h=>?_)
 exact Y
 replace h:=C3 h
 refine Hx (Hr rfl (A6 ?_))
 refine En [.fz 6] ?_
 exact Y⟩
instance {a0:Int}:OK (Lr a0) fun r=>Aw Tryz.prog 157 [(Aa .u64) a0] ((Ax 1 (Aa .u32)) r):=⟨fun {r} h=>by
 refine pw {T:=Cf,an:=(fun s=>bif Nat.beq s 3 then .own else .ask),nl:=(fun s=>bif Nat.beq s 3 then [(0,1)] else bif Nat.beq s 2 then [(0,1)] else [])} Tryz.func157 ?_
 refine Z ?_
 refine A9 h (fun (v10,o11)=>[(0,(Aa .u64 v10)),(3,(.arr 0 o11.length 0 o11.length))]) (fun (v10,o11)=>[(0,.rows 129 1 (List.map (Aa .u32) o11))]) ?_
 rintro ⟨v10,o11⟩ _ _ _ h _ _
 exact Y⟩
instance {a0:List Int} {a1:Int}:OK (Rn a0 a1) fun r=>Ck Tryz.prog 291 [(Ax 1 (Aa .u32)) a0,(Aa .u64) a1] [] (.arr 0 r.length 0 r.length) [.rows 129 1 (List.map (Aa .u32) r)]:=⟨fun {r} h=>by
 refine aw {T:=Cf,an:=(fun _=>.ask),nl:=(fun s=>bif Nat.beq s 4 then [(0,1)] else [])} false Tryz.func291 ?_
 refine Z ?_
 refine Gb h (fun o1 h=>?_)
 refine Z ?_
 refine Fy h (fun (v7,v8,o9)=>[(6,(Aa .u64 v7)),(15,(Aa .i64 v8))]) (fun (v7,v8,o9)=>[(0,.rows 129 1 (List.map (Aa .u32) o9))]) (fun (v7,v8,o9)=>o1.length=o9.length) ?_
 rintro ⟨v7,v8,o9⟩ _ _ _ h _ _ q9
 refine Z ?_
 refine Au h (fun _ h=>?_) (fun _ h=>?_)
 exact Y
 replace h:=C3 h
 refine Z ?_
 refine Ik h (fun _ _ hiv16 _ h=>?_)
 refine Z ?_
 refine Kv (f:=(Aa .u32)) (x:=(Bq v7)) (j:=(a0.length:Int)) rfl rfl (Nat.zero_add _) hiv16 ?_
 refine Z ?_
 cases h
 exact ⟨congrArg (fun q_=>O.arr 0 q_ 0 q_) (Ge (l:=o9) q9 (a0.length:Int) (Bq v7)),rfl,trivial⟩⟩
instance {a0:List Int} {a1:Int}:OK (Acs a0 a1) fun r=>Aw Tryz.prog 291 [(Ax 1 (Aa .u32)) a0,(Aa .u64) a1] ((Ax 1 (Aa .u32)) r):=⟨fun {r} h=>by
 refine pw {T:=Cf,an:=(fun _=>.ask),nl:=(fun s=>bif Nat.beq s 4 then [(0,1)] else [])} Tryz.func291 ?_
 refine Z ?_
 refine Gb h (fun o1 h=>?_)
 refine Z ?_
 refine Fy h (fun (v7,v8,o9)=>[(6,(Aa .u64 v7)),(15,(Aa .i64 v8))]) (fun (v7,v8,o9)=>[(0,.rows 129 1 (List.map (Aa .u32) o9))]) (fun (v7,v8,o9)=>o1.length=o9.length) ?_
 rintro ⟨v7,v8,o9⟩ _ _ _ h _ _ q9
 exact Y⟩
instance {a0 a1:Nat} {a2 b0:List Int}:OK (Um a0 a1 a2 b0) fun r=>Ck Tryz.prog 292 [(.arr 0 b0.length a0 a1),(Ax 1 (Aa .u32)) a2] [.rows 129 1 (List.map (Aa .u32) b0)] ((Aa .u32) r.1) [.rows 129 1 (List.map (Aa .u32) r.2)]:=⟨fun {r} h=>by
 refine aw C0 true Tryz.func292 ?_
 refine Z ?_
 refine B1 h (fun _ _ _ _ h=>?_)
 refine Z ?_
 refine B1 h (fun _ _ _ _ h=>?_)
 refine Z ?_
 refine Jl h (fun _ _ _ _ h=>?_)
 refine Z ?_
 refine Jl h (fun _ _ _ _ h=>?_)
 refine Z ?_
 refine S9 h (fun _ h=>?_)
 refine Z ?_
 refine W5 h (fun _ h=>?_)
 refine Z ?_
 refine A9 h (fun (v9,v10)=>[(9,(Aa .u64 v9)),(10,(Aa .u64 v10))]) (fun (v9,v10)=>[]) ?_
 rintro ⟨v9,v10⟩ _ _ _ h _ _
 refine A6 (A6 ?_)
 refine Cd h (fun v12=>[(71,(Ao v12))]) (fun v12=>[]) ?_ ?_
 intro _ h _ _ _
 exact Y
 rintro v12 _ h
 refine Au h (fun _ h=>?_) (fun _ h=>?_)
 exact Y
 replace h:=C3 h
 refine Z ?_
 refine Fy h (fun (v24,v25,o26)=>[(11,(Aa .i64 v24)),(78,(Aa .i64 v25))]) (fun (v24,v25,o26)=>[(0,.rows 129 1 (List.map (Aa .u32) o26))]) (fun (v24,v25,o26)=>b0.length=o26.length) ?_
 rintro ⟨v24,v25,o26⟩ _ _ _ h _ _ q26
 refine Z ?_
 refine Au h (fun _ h=>?_) (fun _ h=>?_)
 refine Z ?_
 refine Jl h (fun _ _ _ _ h=>?_)
 refine Z ?_
 refine B1 h (fun _ _ _ _ h=>?_)
 refine Z ?_
 refine W5 h (fun _ h=>?_)
 refine Z ?_
 refine B1 h (fun _ _ _ _ h=>?_)
 refine Z ?_
 refine S9 h (fun _ h=>?_)
 refine Z ?_
 refine A9 h (fun (v32,v33)=>[(11,(Aa .i64 v32)),(13,(Aa .i64 v33))]) (fun (v32,v33)=>[]) ?_
 rintro ⟨v32,v33⟩ _ _ _ h _ _
 exact Y
 replace h:=C3 h
 refine Z ?_
 refine Jl h (fun _ _ _ _ h=>?_)
 refine Z ?_
 refine Au h (fun _ h=>?_) (fun _ h=>?_)
 exact Y
 refine Z ?_
 refine Fy h (fun (v46,v47,o48)=>[(15,(Aa .u32 v46)),(136,(Aa .i64 v47))]) (fun (v46,v47,o48)=>[(0,.rows 129 1 (List.map (Aa .u32) o48))]) (fun (v46,v47,o48)=>b0.length=o48.length) ?_
 rintro ⟨v46,v47,o48⟩ _ _ _ h _ _ q48
 exact Y⟩
instance {a0 a1:List Int}:OK (O0 a0 a1) fun r=>Aw Tryz.prog 232 [(Ax 1 (Aa .u32)) a0,(Ax 1 (Aa .u32)) a1] (.tup [(Ax 1 (Aa .u32)) r.1,(Ax 1 (Aa .u32)) r.2]):=⟨fun {r} h=>by
 refine pw {T:=Cf,an:=(fun _=>.ask),nl:=(fun s=>bif Nat.beq s 5 then [(0,1)] else bif Nat.beq s 4 then [(0,1)] else [])} Tryz.func232 ?_
 refine Z ?_
 refine Bt h (fun _ h=>?_)
 refine Z ?_
 refine Au h (fun _ h=>?_) (fun _ h=>?_)
 exact Y
 refine Z ?_
 refine Au h (fun _ h=>?_) (fun _ h=>?_)
 exact Y
 refine Z ?_
 refine B1 h (fun _ _ _ _ h=>?_)
 refine Z ?_
 refine S9 h (fun _ h=>?_)
 refine Z ?_
 refine B5 [] h (fun v9 h=>?_)
 refine Z ?_
 refine Bt h (fun _ h=>?_)
 refine Z ?_
 refine Acy h (fun v12 h=>?_)
 refine Z ?_
 refine Gb h (fun o13 h=>?_)
 refine Z ?_
 refine Fy h (fun (v19,o20,o21)=>[(13,(Aa .i64 v19))]) (fun (v19,o20,o21)=>[(0,.rows 129 1 (List.map (Aa .u32) o20)),(1,.rows 129 1 (List.map (Aa .u32) o21))]) (fun (v19,o20,o21)=>v9.length=o20.length/\o13.length=o21.length) ?_ (h0:=(⟨rfl,rfl⟩))
 rintro ⟨v19,o20,o21⟩ _ _ _ h _ hn1 ⟨q20,q21⟩
 refine Z ?_
 refine Au h (fun _ h=>?_) (fun _ h=>?_)
 refine Z ?_
 refine Agt (f:=(Aa .u32)) rfl q20 h (fun v22 h=>?_)
 refine Z ?_
 refine Dx h (fun v23 hcv23 h=>?_)
 have okv23:=(OK.ok hcv23 :)
 rw [<-q20] at okv23
 refine Hh.act [0] _ _ _ _ okv23 rfl rfl ⟨rfl,trivial⟩ ?_
 refine Dx h (fun v24 hgv24 h=>?_)
 refine Z ?_
 refine Ik h (fun _ _ hiv25 _ h=>?_)
 refine Z ?_
 refine Kv (f:=(Aa .u32)) (x:=v23.1) (j:=v19) rfl rfl (Nat.zero_add _) hiv25 ?_
 refine Z ?_
 exact hn1 _ _ _ _ (Option.some.inj h) ⟨rfl,trivial⟩ ⟨⟨rfl,rfl⟩,⟨rfl,rfl⟩,trivial⟩ (⟨H8 hgv24,Ge (l:=o21) q21 v19 v23.1⟩)
 replace h:=C3 h
 refine Hx (Hr rfl (A6 ?_))
 refine En [.fz 10] ?_
 refine Z ?_
 refine Bt h (fun _ h=>?_)
 refine Z ?_
 refine Bt h (fun _ h=>?_)
 refine ZO ?_
 refine A6 ?_
 refine En [.fz 12] ?_
 exact Y⟩
instance {a0:List Int}:OK (Rm a0) fun r=>Aw Tryz.prog 289 [(Ax 1 (Aa .u32)) a0] (.tup [(Aa .u64) r.1,Ao r.2]):=⟨fun {r} h=>by
 refine pw C0 Tryz.func289 ?_
 refine Z ?_
 refine A9 h (fun (v3,v4)=>[(2,(Aa .u64 0)),(3,(Ao false)),(4,(Aa .u64 v3)),(9,(Aa .i64 v4))]) (fun (v3,v4)=>[]) ?_
 rintro ⟨v3,v4⟩ _ _ _ h _ _
 exact Y⟩
instance {a0 a1:List Int}:OK (Ub a0 a1) fun r=>Aw Tryz.prog 231 [(Ax 1 (Aa .u32)) a0,(Ax 1 (Aa .u32)) a1] ((Ax 1 (Aa .u32)) r):=⟨fun {r} h=>by
 refine pw {T:=Cf,an:=(fun _=>.ask),nl:=(fun s=>bif Nat.beq s 4 then [(0,1)] else [])} Tryz.func231 ?_
 refine Z ?_
 refine A9 h (fun (v12,v13)=>[(0,(.sl 1 (List.map (Aa .u32) v12))),(1,(.sl 1 (List.map (Aa .u32) v13))),(4,(.sl 1 (List.map (Aa .u32) [])))]) (fun (v12,v13)=>[]) ?_
 rintro ⟨v12,v13⟩ _ _ _ h _ _
 refine Z ?_
 refine Au h (fun _ h=>?_) (fun _ h=>?_)
 refine Ll (Oi (A6 (A6 ?_)))
 refine Cd h (fun v14=>[(21,(Ao v14))]) (fun v14=>[]) ?_ ?_
 intro _ h _ _ _
 exact Y
 rintro v14 _ h
 refine Au h (fun _ h=>?_) (fun _ h=>?_)
 refine Z ?_
 refine Bt h (fun _ h=>?_)
 refine Z ?_
 refine Bt h (fun _ h=>?_)
 refine Z ?_
 refine A9 h (fun (v18,v19)=>[(5,(Aa .u64 v18)),(7,(Aa .u64 v19))]) (fun (v18,v19)=>[]) ?_
 rintro ⟨v18,v19⟩ _ _ _ h _ _
 exact Y
 exact Y
 exact Y⟩
instance {a0:List Int}:OK (Oz a0) fun r=>Aw Tryz.prog 230 [(Ax 1 (Aa .u32)) a0] (Ao r):=⟨fun {r} h=>by
 refine pw C0 Tryz.func230 ?_
 exact Y⟩
instance {a0:Fv}:OK (Xu a0) fun r=>Aw Tryz.prog 158 [Nc a0] (Nc r):=⟨fun {r} h=>by
 refine pw {T:=Cf,an:=(fun _=>.ask),nl:=(fun s=>bif Nat.beq s 13 then [(1,1)] else [])} Tryz.func158 ?_
 exact Y⟩
instance {a0:Fv}:OK (Kz a0) fun r=>Aw Tryz.prog 94 [Nc a0] (Cg r):=⟨fun {r} h=>by
 refine pw C0 Tryz.func94 ?_
 exact Y⟩
instance {a0:Int}:OK (Om a0) fun r=>Aw Tryz.prog 93 [(Aa .i64) a0] ((Ax 1 (Aa .u32)) r):=⟨fun {r} h=>by
 refine pw {T:=Cf,an:=(fun _=>.ask),nl:=(fun s=>bif Nat.beq s 2 then [(0,1)] else [])} Tryz.func93 ?_
 exact Y⟩
instance {a0:Int}:OK (Ef a0) fun r=>Aw Tryz.prog 42 [(Aa .i64) a0] (Cg r):=⟨fun {r} h=>by
 refine pw C0 Tryz.func42 ?_
 exact Y⟩
instance {a0:List Int}:OK (Q7 a0) fun r=>Aw Tryz.prog 160 [(Ax 1 (Aa .u32)) a0] ((Ax 1 (Aa .u32)) r):=⟨fun {r} h=>by
 refine pw {T:=Cf,an:=(fun _=>.ask),nl:=(fun s=>bif Nat.beq s 2 then [(0,1)] else [])} Tryz.func160 ?_
 refine Z ?_
 refine Gb h (fun _ h=>?_)
 refine Z ?_
 refine A9 h (fun (v14,v15,o16)=>[(3,(.arr 0 o16.length 0 o16.length)),(4,(Aa .u64 v14)),(13,(Aa .i64 v15))]) (fun (v14,v15,o16)=>[(0,.rows 129 1 (List.map (Aa .u32) o16))]) ?_
 rintro ⟨v14,v15,o16⟩ _ _ _ h _ _
 refine Z ?_
 refine Au h (fun _ h=>?_) (fun _ h=>?_)
 exact Y
 replace h:=C3 h
 refine Z ?_
 refine Au h (fun _ h=>?_) (fun _ h=>?_)
 refine Z ?_
 refine U2 h (fun _ h=>?_)
 refine ZO ?_
 refine A6 ?_
 refine En [.fz 3] ?_
 exact Y
 refine Ll (A6 ?_)
 refine En [.fz 3] ?_
 exact Y⟩
instance {a0:An}:OK (Ia a0) fun r=>Aw Tryz.prog 97 [Cg a0] (Nc r):=⟨fun {r} h=>by
 refine pw {T:=Cf,an:=(fun _=>.ask),nl:=(fun s=>bif Nat.beq s 20 then [(1,1)] else [])} Tryz.func97 ?_
 refine Z ?_
 refine Bt h (fun _ h=>?_)
 refine Z ?_
 refine Bt h (fun _ h=>?_)
 refine ZO ?_
 refine A6 (A6 ?_)
 refine Cd h (fun v5=>[(18,(Ao v5))]) (fun v5=>[]) ?_ ?_
 intro _ h _ _ _
 exact Y
 rintro v5 _ h
 exact Y⟩
instance {a0 a1:List Int}:OK (Kd a0 a1) fun r=>Aw Tryz.prog 98 [(Ax 1 (Aa .u32)) a0,(Ax 1 (Aa .u32)) a1] ((Ax 1 (Aa .u32)) r):=⟨fun {r} h=>by
 refine pw {T:=Cf,an:=(fun _=>.ask),nl:=(fun s=>bif Nat.beq s 4 then [(0,1)] else [])} Tryz.func98 ?_
 refine ZS ?_
 refine B9 ?_
 refine ZO ?_
 refine A6 (A6 ?_)
 refine Cd h (fun v1=>[(17,(Ao v1))]) (fun v1=>[]) ?_ ?_
 intro _ h _ _ _
 exact Y
 rintro v1 _ h
 refine Au h (fun _ h=>?_) (fun _ h=>?_)
 exact Y
 refine Z ?_
 refine Gb h (fun o2 h=>?_)
 refine Z ?_
 refine Fy h (fun (v23,o24)=>[(26,(Aa .i64 v23))]) (fun (v23,o24)=>[(0,.rows 129 1 (List.map (Aa .u32) o24))]) (fun (v23,o24)=>o2.length=o24.length) ?_
 rintro ⟨v23,o24⟩ _ _ _ h _ _ q24
 refine Z ?_
 refine Au h (fun _ h=>?_) (fun _ h=>?_)
 refine Z ?_
 refine Fy h (fun (v31,v32,o33)=>[(7,(Aa .u64 v31)),(31,(Aa .i64 v32))]) (fun (v31,v32,o33)=>[(0,.rows 129 1 (List.map (Aa .u32) o33))]) (fun (v31,v32,o33)=>o2.length=o33.length) ?_
 rintro ⟨v31,v32,o33⟩ _ _ _ h _ _ q33
 exact Y
 replace h:=C3 h
 refine Hx (Hr rfl (A6 ?_))
 refine En [.fz 5] ?_
 exact Y⟩
instance {a0 a1:An}:OK (Fu a0 a1) fun r=>Aw Tryz.prog 45 [Cg a0,Cg a1] (Cg r):=⟨fun {r} h=>by
 refine pw C0 Tryz.func45 ?_
 exact Y⟩
instance {a0 a1:Int}:OK (Oq a0 a1) fun r=>Aw Tryz.prog 133 [(Aa .i64) a0,(Aa .i64) a1] (Cg r):=⟨fun {r} h=>by
 refine pw C0 Tryz.func133 ?_
 exact Y⟩
instance {a0 a1:Int}:OK (Qx a0 a1) fun r=>Aw Tryz.prog 96 [(Aa .i64) a0,(Aa .i64) a1] (Cg r):=⟨fun {r} h=>by
 refine pw C0 Tryz.func96 ?_
 refine Z ?_
 refine Bt h (fun _ h=>?_)
 refine Z ?_
 refine A9 h (fun (v7,v8,v9,v10)=>[(9,(Aa .i64 v7))]) (fun (v7,v8,v9,v10)=>[(1,.cells 41 [(Ao v8),(.sl 1 (List.map (Aa .u32) v9)),(.sl 1 (List.map (Aa .u32) v10))])]) ?_
 rintro ⟨v7,v8,v9,v10⟩ _ _ _ h _ _
 exact Y⟩
instance {a0 a1:Int}:OK (Ti a0 a1) fun r=>Aw Tryz.prog 44 [(Aa .i64) a0,(Aa .i64) a1] (.tup [Cg r.1,Ao r.2]):=⟨fun {r} h=>by
 refine pw C0 Tryz.func44 ?_
 refine ZS ?_
 refine B9 ?_
 refine ZO ?_
 refine A6 (A6 ?_)
 refine Cd h (fun v2=>[(11,(Ao v2))]) (fun v2=>[]) ?_ ?_
 intro _ h _ _ _
 exact Y
 rintro v2 _ h
 exact Y⟩
instance {a0:Br} {a1:Int}:OK (Qp a0 a1) fun r=>Aw Tryz.prog 37 [Gf a0,(Aa .i64) a1] (.tup [Da r.1,Ao r.2]):=⟨fun {r} h=>by
 refine pw {T:=Cf,an:=(fun _=>.ask),nl:=(fun s=>bif Nat.beq s 21 then [(2,3)] else [])} Tryz.func37 ?_
 exact Y⟩
instance {a0:List Al} {a1 a2:Int}:OK (Lq a0 a1 a2) fun r=>Aw Tryz.prog 147 [(Ax 3 Bs) a0,(Aa .i64) a1,(Aa .i64) a2] ((Ax 1 Ao) r):=⟨fun {r} h=>by
 refine pw {T:=Cf,an:=(fun _=>.ask),nl:=(fun s=>bif Nat.beq s 6 then [(0,1)] else [])} Tryz.func147 ?_
 refine ZS ?_
 refine B9 ?_
 refine ZO ?_
 refine A6 (A6 ?_)
 refine Cd h (fun v2=>[(34,(Ao v2))]) (fun v2=>[]) ?_ ?_
 intro _ h _ _ _
 exact Y
 rintro v2 _ h
 refine Au h (fun _ h=>?_) (fun _ h=>?_)
 exact Y
 refine Z ?_
 refine B1 h (fun _ _ _ _ h=>?_)
 refine Z ?_
 refine B1 h (fun _ _ _ _ h=>?_)
 refine Z ?_
 refine Gb h (fun o5 h=>?_)
 refine Z ?_
 refine Fy h (fun (v28,o29)=>[(49,(Aa .i64 v28))]) (fun (v28,o29)=>[(0,.rows 4 1 (List.map Ao o29))]) (fun (v28,o29)=>o5.length=o29.length) ?_
 rintro ⟨v28,o29⟩ _ _ _ h _ _ q29
 refine Z ?_
 refine Au h (fun _ h=>?_) (fun _ h=>?_)
 refine Z ?_
 refine B1 h (fun _ v30 _ _ h=>?_)
 refine ZO ?_
 refine A6 ?_
 refine Ags h (fun o3_ h hj3=>?_)
 refine Abr (fun (o36:(List Bool))=>o36=o3_/\o5.length=o36.length) (fun o36=>[]) (fun o36=>[(0,.rows 4 1 (List.map Ao o36))]) (fun _=>rfl) ?_ ?_
 intro K3 hK3
 refine Z ?_
 refine F2 h (fun _ h=>?_) (fun _ h=>?_)
 refine Z ?_
 refine F2 h (fun _ h=>?_) (fun _ h=>?_)
 refine Z ?_
 refine B1 h (fun _ v32 _ _ h=>?_)
 refine Z ?_
 refine Ik h (fun _ _ hiv33 _ h=>?_)
 refine Z ?_
 refine Kv (f:=Ao) (x:=((v30.Args.length:Int)==v32.Vars)) (j:=v28) rfl rfl (Nat.zero_add _) hiv33 ?_
 refine Z ?_
 exact hK3 (Cq o29 v28 ((v30.Args.length:Int)==v32.Vars)) _ _ _ ⟨(Option.some.inj h),Ge (l:=o29) q29 v28 ((v30.Args.length:Int)==v32.Vars)⟩ trivial ⟨⟨rfl,rfl⟩,⟨rfl,rfl⟩,trivial⟩
 refine Z ?_
 refine Ik h (fun _ _ hiv34 _ h=>?_)
 refine Z ?_
 refine Kv (f:=Ao) (x:=false) (j:=v28) rfl rfl (Nat.zero_add _) hiv34 ?_
 refine Z ?_
 exact hK3 (Cq o29 v28 false) _ _ _ ⟨(Option.some.inj h),Ge (l:=o29) q29 v28 false⟩ trivial ⟨⟨rfl,rfl⟩,⟨rfl,rfl⟩,trivial⟩
 refine Z ?_
 refine Ik h (fun _ _ hiv35 _ h=>?_)
 refine Z ?_
 refine Kv (f:=Ao) (x:=false) (j:=v28) rfl rfl (Nat.zero_add _) hiv35 ?_
 refine Z ?_
 exact hK3 (Cq o29 v28 false) _ _ _ ⟨(Option.some.inj h),Ge (l:=o29) q29 v28 false⟩ trivial ⟨⟨rfl,rfl⟩,⟨rfl,rfl⟩,trivial⟩
 rintro o36 u3 ⟨hJ3,q36⟩
 have h:=hj3 _ hJ3
 refine Z ?_
 refine Fy h (fun (v42,o43)=>[(80,(Aa .i64 v42))]) (fun (v42,o43)=>[(0,.rows 4 1 (List.map Ao o43))]) (fun (v42,o43)=>o5.length=o43.length) ?_
 rintro ⟨v42,o43⟩ _ _ _ h _ _ q43
 exact Y
 exact Y⟩
abbrev Ahl (k:Nat):Prop:=∀{a0:Ag},OK (M6 k a0) fun r=>Aw Tryz.prog 224 [Da a0] ((Aa .i64) r)
theorem Aq0 (k:Nat):Ahl k:=by
 induction k with
 | zero=>exact okz
 | succ k ih=>
  refine @fun a0=>⟨fun {r} h=>?_⟩
  .unfold M6 at h
   refine pw C0 Tryz.func224 ?_
   refine Z ?_
   refine A9 h (fun (v5,v6)=>[(3,(Aa .i64 v5)),(9,(Aa .i64 v6))]) (fun (v5,v6)=>[]) ?_
   rintro ⟨v5,v6⟩ _ _ _ h _ _
   exact Y
instance {k:Nat}:Ahl k:=(Aq0 k)
abbrev Ahm (k:Nat):Prop:=∀{a0:Ag} {a1:List Ag},OK (Ls k a0 a1) fun r=>Aw Tryz.prog 226 [Da a0,(Ev 3 Bd) a1] (Da r)
theorem Aq1 (k:Nat):Ahm k:=by
 induction k with
 | zero=>exact okz
 | succ k ih=>
  refine @fun a0 a1=>⟨fun {r} h=>?_⟩
  .unfold Ls at h
   refine pw {T:=Cf,an:=(fun _=>.ask),nl:=(fun s=>bif Nat.beq s 42 then [(0,3)] else [])} Tryz.func226 ?_
   refine ZS ?_
   refine B9 ?_
   refine ZO ?_
   refine A6 (A6 ?_)
   refine Cd h (fun v3=>[(22,(Ao v3))]) (fun v3=>[]) ?_ ?_
   intro _ h _ _ _
   exact Y
   rintro v3 _ h
   refine Au h (fun _ h=>?_) (fun _ h=>?_)
   exact Y
   refine ZS ?_
   refine B9 ?_
   refine ZO ?_
   refine A6 (A6 ?_)
   refine En [.own 5 2 25 3] ?_
   refine Z ?_
   refine A9 h (fun (v18,o19)=>[(37,(Aa .i64 v18))]) (fun (v18,o19)=>[(2,.cells 25 [(Aa .i64 a0.Kind),(Aa .i64 a0.Num),(.arr 3 o19.length 0 o19.length)]),(3,.rows 25 3 (Bd o19))]) ?_
   rintro ⟨v18,o19⟩ _ _ _ h _ _
   exact Y
instance {k:Nat}:Ahm k:=(Aq1 k)
abbrev Ahn (k:Nat):Prop:=∀{a0:Ag} {a1:List Int},OK (M7 k a0 a1) fun r=>Aw Tryz.prog 225 [Da a0,(Ax 1 (Aa .i64)) a1] ((Aa .i64) r)
theorem Aq2 (k:Nat):Ahn k:=by
 induction k with
 | zero=>exact okz
 | succ k ih=>
  refine @fun a0 a1=>⟨fun {r} h=>?_⟩
  .unfold M7 at h
   refine pw C0 Tryz.func225 ?_
   refine ZS ?_
   refine B9 ?_
   refine ZO ?_
   refine A6 (A6 ?_)
   refine Cd h (fun v2=>[(22,(Ao v2))]) (fun v2=>[]) ?_ ?_
   intro _ h _ _ _
   exact Y
   rintro v2 _ h
   refine Au h (fun _ h=>?_) (fun _ h=>?_)
   exact Y
   refine Z ?_
   refine A9 h (fun (v7,v8)=>[(5,(Aa .i64 v7)),(31,(Aa .i64 v8))]) (fun (v7,v8)=>[]) ?_
   rintro ⟨v7,v8⟩ _ _ _ h _ _
   exact Y
instance {k:Nat}:Ahn k:=(Aq2 k)
instance {a0:List Al} {a1:Ag} {a2:Int}:OK (Ru a0 a1 a2) fun r=>Aw Tryz.prog 143 [(Ax 3 Bs) a0,Da a1,(Aa .i64) a2] (.tup [(Ev 3 Bd) r.1,Ao r.2]):=⟨fun {r} h=>by
 refine pw {T:=Cf,an:=(fun s=>bif Nat.beq s 14 then .own else .ask),nl:=(fun s=>bif Nat.beq s 14 then [(0,3)] else bif Nat.beq s 6 then [(0,3)] else [])} Tryz.func143 ?_
 refine ZS ?_
 refine B9 ?_
 refine ZO ?_
 refine A6 (A6 ?_)
 refine Cd h (fun v2=>[(31,(Ao v2))]) (fun v2=>[]) ?_ ?_
 intro _ h _ _ _
 exact Y
 rintro v2 _ h
 refine Au h (fun _ h=>?_) (fun _ h=>?_)
 exact Y
 refine Z ?_
 refine B1 h (fun _ _ _ _ h=>?_)
 refine ZO ?_
 refine A6 (A6 ?_)
 refine Cd h (fun v5=>[(53,(Ao v5))]) (fun v5=>[]) ?_ ?_
 intro _ h _ _ _
 exact Y
 rintro v5 _ h
 refine Au h (fun _ h=>?_) (fun _ h=>?_)
 exact Y
 refine Z ?_
 refine Gb h (fun o6 h=>?_)
 refine Z ?_
 refine Fy h (fun (v12,o13)=>[(61,(Aa .i64 v12))]) (fun (v12,o13)=>[(2,.rows 3 1 (List.map (Aa .i64) o13))]) (fun (v12,o13)=>o6.length=o13.length) ?_
 rintro ⟨v12,o13⟩ _ _ _ h _ _ q13
 refine Z ?_
 refine Au h (fun _ h=>?_) (fun _ h=>?_)
 exact Y
 replace h:=C3 h
 refine Z ?_
 refine B1 h (fun _ _ _ _ h=>?_)
 refine ZO ?_
 refine Oi ?_
 refine En [.fz 9] ?_
 refine Z ?_
 refine A9 h (fun v23=>[(6,(.sl 3 (Bd []))),(7,(Ao false)),(79,(Aa .i64 v23))]) (fun v23=>[]) ?_
 rintro v23 _ _ _ h _ _
 refine Z ?_
 refine Au h (fun _ h=>?_) (fun _ h=>?_)
 exact Y
 replace h:=C3 h
 refine Z ?_
 refine B1 h (fun _ _ _ _ h=>?_)
 refine Z ?_
 refine A9 h (fun (v41,o42)=>[(14,(.arr 3 o42.length 0 o42.length)),(95,(Aa .i64 v41))]) (fun (v41,o42)=>[(3,.rows 25 3 (Bd o42))]) ?_
 rintro ⟨v41,o42⟩ _ _ _ h _ _
 exact Y⟩
instance {a0:List Al} {a1:Ag} {a2:Int}:OK (Rj a0 a1 a2) fun r=>Aw Tryz.prog 234 [(Ax 3 Bs) a0,Da a1,(Aa .i64) a2] (.tup [(Ev 3 Bd) r.1,Ao r.2]):=⟨fun {r} h=>by
 refine pw {T:=Cf,an:=(fun s=>bif Nat.beq s 10 then .own else .ask),nl:=(fun s=>bif Nat.beq s 10 then [(0,3)] else bif Nat.beq s 6 then [(0,3)] else [])} Tryz.func234 ?_
 refine Z ?_
 refine Bt h (fun _ h=>?_)
 refine Z ?_
 refine Au h (fun _ h=>?_) (fun _ h=>?_)
 exact Y
 refine Z ?_
 refine Bt h (fun _ h=>?_)
 refine Z ?_
 refine A9 h (fun (v13,o14)=>[(10,(.arr 1 o14.length 0 o14.length)),(28,(Aa .i64 v13))]) (fun (v13,o14)=>[(1,.rows 25 3 (Bd o14))]) ?_
 rintro ⟨v13,o14⟩ _ _ _ h _ _
 exact Y⟩
abbrev Aho (k:Nat):Prop:=∀{a0:List Al} {a1:Ag} {a2:A0},OK (M3 k a0 a1 a2) fun r=>Aw Tryz.prog 159 [(Ax 3 Bs) a0,Da a1,E7 a2] (.tup [(Aa .i64) r.1,Ao r.2])
abbrev Ahp (k:Nat):Prop:=∀{a0:List Al} {a1:List Ag} {a2:List A0},OK (M8 k a0 a1 a2) fun r=>Aw Tryz.prog 233 [(Ax 3 Bs) a0,(Ev 3 Bd) a1,(Ev 2 Gw) a2] (.tup [(Aa .i64) r.1,Ao r.2])
theorem Ahq (k:Nat):Aho k/\Ahp k:=by
 induction k with
 | zero=>exact ⟨okz,okz⟩
 | succ k ih=>
  obtain ⟨i0_,i1_⟩:=ih
  refine ⟨@fun a0 a1 a2=>⟨fun {r} h=>?_⟩,@fun a0 a1 a2=>⟨fun {r} h=>?_⟩⟩
  .unfold M3 at h
   refine pw C0 Tryz.func159 ?_
   refine Z ?_
   refine Au h (fun _ h=>?_) (fun _ h=>?_)
   exact Y
   refine Z ?_
   refine Au h (fun _ h=>?_) (fun _ h=>?_)
   exact Y
   refine Z ?_
   refine Au h (fun _ h=>?_) (fun _ h=>?_)
   refine Z ?_
   refine Au h (fun _ h=>?_) (fun _ h=>?_)
   exact Y
   refine Z ?_
   refine A9 h (fun (v8,v9)=>[(6,(Aa .i64 0)),(7,(Ao false)),(8,(Aa .i64 v8)),(55,(Aa .i64 v9))]) (fun (v8,v9)=>[]) ?_
   rintro ⟨v8,v9⟩ _ _ _ h _ _
   exact Y
   exact Y
  .unfold M8 at h
   refine pw C0 Tryz.func233 ?_
   refine Z ?_
   refine Au h (fun _ h=>?_) (fun _ h=>?_)
   exact Y
   refine Z ?_
   refine A9 h (fun (v5,v6)=>[(6,(Aa .i64 0)),(7,(Ao false)),(8,(Aa .i64 v5)),(20,(Aa .i64 v6))]) (fun (v5,v6)=>[]) ?_
   rintro ⟨v5,v6⟩ _ _ _ h _ _
   exact Y
instance {k:Nat}:Aho k:=(Ahq k).1
instance {k:Nat}:Ahp k:=(Ahq k).2
instance {a0:List Al}:OK (Acd a0) fun r=>Aw Tryz.prog 185 [Pd (Hz.mk a0 [] [] [])] (Ao r):=⟨fun {r} h=>by
 refine pw C0 Tryz.func185 ?_
 refine Z ?_
 refine Gb h (fun _ h=>?_)
 refine Z ?_
 refine A9 h (fun _=>[(2,(Ao false)),(20,(Aa .i64 0))]) (fun _=>[]) ?_
 rintro _ _ _ _ h _ _
 replace h:=C3 h
 refine Z ?_
 refine A9 h (fun _=>[(2,(Ao false)),(40,(Aa .i64 0))]) (fun _=>[]) ?_
 rintro _ _ _ _ h _ _
 exact Y⟩
instance {a0:List Al}:OK (Aca a0) fun r=>Aw Tryz.prog 183 [Pd (Hz.mk a0 [] [] [])] (Ao r):=⟨fun {r} h=>by
 refine pw C0 Tryz.func183 ?_
 refine Z ?_
 refine A9 h (fun _=>[(2,(Ao false)),(4,(Ao false)),(21,(Aa .i64 0))]) (fun _=>[]) ?_
 rintro _ _ _ _ h _ _
 exact Y⟩
instance {a0:Int}:OK (Uo a0) fun r=>Aw Tryz.prog 324 [(Aa .u8) a0] (Ao r):=⟨fun {r} h=>by
 refine pw C0 Tryz.func324 ?_
 exact Y⟩
instance {a0:ByteArray}:OK (Us a0) fun r=>Aw Tryz.prog 346 [Fk a0] (Ao r):=⟨fun {r} h=>by
 refine pw C0 Tryz.func346 ?_
 exact Y⟩
instance {a0:Int}:OK (Nb a0) fun r=>Aw Tryz.prog 347 [(Aa .u8) a0] (Ao r):=⟨fun {r} h=>by
 refine pw C0 Tryz.func347 ?_
 exact Y⟩
instance {a0:Int}:OK (Rs a0) fun r=>Aw Tryz.prog 342 [(Aa .u8) a0] (Ao r):=⟨fun {r} h=>by
 refine pw C0 Tryz.func342 ?_
 exact Y⟩
instance {a0:Int}:OK (O9 a0) fun r=>Aw Tryz.prog 343 [(Aa .u8) a0] (Ao r):=⟨fun {r} h=>by
 refine pw C0 Tryz.func343 ?_
 exact Y⟩
instance {a0:Int}:OK (Rt a0) fun r=>Aw Tryz.prog 345 [(Aa .u8) a0] (Ao r):=⟨fun {r} h=>by
 refine pw C0 Tryz.func345 ?_
 exact Y⟩
instance {a0:ByteArray}:OK (Ur a0) fun r=>Aw Tryz.prog 344 [Fk a0,(.fn 345 [])] (Fk r):=⟨fun {r} h=>by
 refine pw C0 Tryz.func344 ?_
 refine Z ?_
 refine A9 h (fun v3=>[(5,(Aa .i64 v3))]) (fun v3=>[]) ?_
 rintro v3 _ _ _ h _ _
 exact Y⟩
instance {a0:ByteArray}:OK (Yb a0) fun r=>Aw Tryz.prog 344 [Fk a0,(.fn 347 [])] (Fk r):=⟨fun {r} h=>by
 refine pw C0 Tryz.func344 ?_
 refine Z ?_
 refine A9 h (fun v3=>[(5,(Aa .i64 v3))]) (fun v3=>[]) ?_
 rintro v3 _ _ _ h _ _
 exact Y⟩
instance {a0:ByteArray}:OK (Uu a0) fun r=>Aw Tryz.prog 349 [Fk a0] (Fk r):=⟨fun {r} h=>by
 refine pw C0 Tryz.func349 ?_
 refine ZS ?_
 refine B9 ?_
 refine ZS ?_
 refine B9 ?_
 refine ZO ?_
 refine Yh (fun (x:Unit)=>(.inr x)) h (fun _=>[(2,(Fk (ByteArray.mk #[])))]) (fun _=>[]) ?_ ?_
 intro _ h _ _ _
 exact Y
 rintro _ _ h
 exact Y⟩
instance {a0:ByteArray}:OK (Ut a0) fun r=>Aw Tryz.prog 348 [Fk a0] (Ao r):=⟨fun {r} h=>by
 refine pw C0 Tryz.func348 ?_
 refine Z ?_
 refine A9 h (fun (v2,v3)=>[(2,(Ao false)),(3,(Aa .i64 v2)),(7,(Aa .i64 v3))]) (fun (v2,v3)=>[]) ?_
 rintro ⟨v2,v3⟩ _ _ _ h _ _
 exact Y⟩
instance {a0:ByteArray} {a1:Int}:OK (Up a0 a1) fun r=>Aw Tryz.prog 325 [Fk a0,(Aa .i64) a1] (.tup [Ya r.1,(Aa .i64) r.2]):=⟨fun {r} h=>by
 refine pw C0 Tryz.func325 ?_
 refine Z ?_
 refine Ta h (fun _ h=>?_)
 refine ZO ?_
 refine Oi (A6 ?_)
 refine Cd h (fun v6=>[(23,(Ao v6))]) (fun v6=>[]) ?_ ?_
 intro _ h _ _ _
 exact Y
 rintro v6 _ h
 refine Au h (fun _ h=>?_) (fun _ h=>?_)
 exact Y
 refine Z ?_
 refine Bt h (fun _ h=>?_)
 refine Z ?_
 refine Au h (fun _ h=>?_) (fun _ h=>?_)
 refine Z ?_
 refine Abm h (fun _ _ _ _ h=>?_)
 refine Z ?_
 refine Bt h (fun _ h=>?_)
 refine ZO ?_
 refine A6 (A6 ?_)
 refine Cd h (fun v14=>[(67,(Ao v14))]) (fun v14=>[]) ?_ ?_
 intro _ h _ _ _
 exact Y
 rintro v14 _ h
 exact Y
 exact Y⟩
instance {a0:ByteArray}:OK (X6 a0) fun r=>Aw Tryz.prog 295 [Fk a0] (.tup [(Ax 3 Ya) r.1,(Aa .i64) r.2.1,(Aa .i64) r.2.2]):=⟨fun {r} h=>by
 refine pw {T:=Cf,an:=(fun s=>bif Nat.beq s 5 then .own else .ask),nl:=(fun s=>bif Nat.beq s 5 then [(0,3)] else bif Nat.beq s 2 then [(0,3)] else [])} Tryz.func295 ?_
 refine Z ?_
 refine Au h (fun _ h=>?_) (fun _ h=>?_)
 exact Y
 refine Z ?_
 refine A9 h (fun (v26,o27)=>[(2,(.sl 3 (List.map Ya []))),(3,(Aa .i64 0)),(4,(Aa .i64 0)),(5,(.arr 0 o27.length 0 o27.length)),(6,(Aa .i64 v26))]) (fun (v26,o27)=>[(0,.rows 341 3 (List.map Ya o27))]) ?_
 rintro ⟨v26,o27⟩ _ _ _ h _ _
 refine Z ?_
 refine Au h (fun _ h=>?_) (fun _ h=>?_)
 refine Z ?_
 refine Ta h (fun _ h=>?_)
 refine Z ?_
 refine Bt h (fun _ h=>?_)
 refine Z ?_
 refine Au h (fun _ h=>?_) (fun _ h=>?_)
 exact Y
 refine Z ?_
 refine Ta h (fun _ h=>?_)
 refine Z ?_
 refine Au h (fun _ h=>?_) (fun _ h=>?_)
 refine Z ?_
 refine A9 h (fun v32=>[(6,(Aa .i64 v32))]) (fun v32=>[]) ?_
 rintro v32 _ _ _ h _ _
 exact Y
 exact Y
 exact Y⟩
instance {a0:ByteArray}:OK (O2 a0) fun r=>Aw Tryz.prog 243 [Fk a0] (Ao r):=⟨fun {r} h=>by
 refine pw C0 Tryz.func243 ?_
 exact Y⟩
abbrev Ahr (k:Nat):Prop:=∀{a0:Ag} {a1:Int},OK (O5 k a0 a1) fun r=>Aw Tryz.prog 296 [Da a0,(Aa .i64) a1] (Ao r)
abbrev Ahs (k:Nat):Prop:=∀{a0:Ag} {b0:Int},OK (Uq k a0 b0) fun r=>Ck Tryz.prog 326 [Da a0,(.loc 0 0)] [.cells 3 [(Aa .i64 b0)]] (Ao r) [.cells 3 [(Aa .i64 b0)]]
abbrev Aht (k:Nat):Prop:=∀{a0:List Ag} {b0:Int},OK (Rv k a0 b0) fun r=>Ck Tryz.prog 245 [(Ev 3 Bd) a0,(.fn 326 [(.loc 0 0)])] [.cells 3 [(Aa .i64 b0)]] (Ao r) [.cells 3 [(Aa .i64 b0)]]
abbrev Ahu (k:Nat):Prop:=∀{a0:List Ag} {b0:Int},OK (Yc k a0 b0) fun r=>Ck Tryz.prog 297 [(Ev 3 Bd) a0,(.fn 326 [(.loc 0 0)])] [.cells 3 [(Aa .i64 b0)]] ((Aa .i64) r) [.cells 3 [(Aa .i64 b0)]]
theorem Yi (k:Nat):Ahr k/\Ahs k/\Aht k/\Ahu k:=by
 induction k with
 | zero=>exact ⟨okz,okz,okz,okz⟩
 | succ k ih=>
  obtain ⟨i0_,i1_,i2_,i3_⟩:=ih
  refine ⟨@fun a0 a1=>⟨fun {r} h=>?_⟩,@fun a0 b0=>⟨fun {r} h=>?_⟩,@fun a0 b0=>⟨fun {r} h=>?_⟩,@fun a0 b0=>⟨fun {r} h=>?_⟩⟩
  .unfold O5 at h
   refine pw C0 Tryz.func296 ?_
   refine Z ?_
   refine F2 h (fun _ h=>?_) (fun _ h=>?_)
   refine Z ?_
   refine F2 h (fun _ h=>?_) (fun _ h=>?_)
   exact Y
   refine Z ?_
   refine B5 [1] h (fun _ h=>?_)
   exact Y
   refine Z ?_
   refine B5 [1] h (fun _ h=>?_)
   exact Y
  .unfold Uq at h
   refine aw C0 true Tryz.func326 ?_
   exact Y
  .unfold Rv at h
   refine aw C0 true Tryz.func245 ?_
   refine Z ?_
   refine B5 [0] h (fun _ h=>?_)
   exact Y
  .unfold Yc at h
   refine aw C0 true Tryz.func297 ?_
   refine Z ?_
   refine A9 h (fun v3=>[(4,(Aa .i64 0)),(8,(Aa .i64 v3))]) (fun v3=>[]) ?_
   rintro v3 _ _ _ h _ _
   refine Z ?_
   refine Au h (fun _ h=>?_) (fun _ h=>?_)
   refine Z ?_
   refine B1 h (fun _ _ _ _ h=>?_)
   refine Z ?_
   refine B5 [0] h (fun _ h=>?_)
   exact Y
   exact Y
instance {k:Nat}:Ahr k:=(Yi k).1
instance {k:Nat}:Ahs k:=(Yi k).2.1
instance {k:Nat}:Aht k:=(Yi k).2.2.1
instance {k:Nat}:Ahu k:=(Yi k).2.2.2
end Go.Ab
namespace Go.Ab
open Go Go.Proofs
set_option maxRecDepth 10000
set_option maxHeartbeats 4000000
set_option linter.unusedVariables false
abbrev Ahv (k:Nat):Prop:=∀{a0:List Ag} {b1:Fd},OK (Rw k a0 b1) fun r=>Ck Tryz.prog 245 [(Ev 3 Bd) a0,(.fn 253 [(.loc 0 0)])] [.cells 224 [(.loc 1 0)],.cells 226 [(.sl 3 (List.map Bs b1.data)),(Aa .i64 b1.vars),(Aa .i64 b1.left)]] (Ao r.1) [.cells 224 [(.loc 1 0)],.cells 226 [(.sl 3 (List.map Bs r.2.data)),(Aa .i64 r.2.vars),(Aa .i64 r.2.left)]]
abbrev Ahw (k:Nat):Prop:=∀{a0:List Ag} {b1:Fd},OK (Ux k a0 b1) fun r=>Ck Tryz.prog 297 [(Ev 3 Bd) a0,(.fn 253 [(.loc 0 0)])] [.cells 224 [(.loc 1 0)],.cells 226 [(.sl 3 (List.map Bs b1.data)),(Aa .i64 b1.vars),(Aa .i64 b1.left)]] ((Aa .i64) r.1) [.cells 224 [(.loc 1 0)],.cells 226 [(.sl 3 (List.map Bs r.2.data)),(Aa .i64 r.2.vars),(Aa .i64 r.2.left)]]
abbrev Ahx (k:Nat):Prop:=∀{a0:Ag} {b0:Fd},OK (Ke k a0 b0) fun r=>Ck Tryz.prog 188 [(.loc 0 0),Da a0] [.cells 226 [(.sl 3 (List.map Bs b0.data)),(Aa .i64 b0.vars),(Aa .i64 b0.left)]] (Ao r.1) [.cells 226 [(.sl 3 (List.map Bs r.2.data)),(Aa .i64 r.2.vars),(Aa .i64 r.2.left)]]
abbrev Ahy (k:Nat):Prop:=∀{a0:Ag} {b1:Fd},OK (Ug k a0 b1) fun r=>Ck Tryz.prog 253 [Da a0,(.loc 0 0)] [.cells 224 [(.loc 1 0)],.cells 226 [(.sl 3 (List.map Bs b1.data)),(Aa .i64 b1.vars),(Aa .i64 b1.left)]] (Ao r.1) [.cells 224 [(.loc 1 0)],.cells 226 [(.sl 3 (List.map Bs r.2.data)),(Aa .i64 r.2.vars),(Aa .i64 r.2.left)]]
theorem Yj (k:Nat):Ahv k/\Ahw k/\Ahx k/\Ahy k:=by
 induction k with
 | zero=>exact ⟨okz,okz,okz,okz⟩
 | succ k ih=>
  obtain ⟨i0_,i1_,i2_,i3_⟩:=ih
  refine ⟨@fun a0 b1=>⟨fun {r} h=>?_⟩,@fun a0 b1=>⟨fun {r} h=>?_⟩,@fun a0 b0=>⟨fun {r} h=>?_⟩,@fun a0 b1=>⟨fun {r} h=>?_⟩⟩
  .unfold Rw at h
   refine aw C0 true Tryz.func245 ?_
   refine Z ?_
   refine B5 [0,1] h (fun _ h=>?_)
   exact Y
  .unfold Ux at h
   refine aw C0 true Tryz.func297 ?_
   refine Z ?_
   refine A9 h (fun (v3,v4,v5,v6)=>[(4,(Aa .i64 0)),(8,(Aa .i64 v3))]) (fun (v3,v4,v5,v6)=>[(1,.cells 226 [(.sl 3 (List.map Bs v4)),(Aa .i64 v5),(Aa .i64 v6)])]) ?_
   rintro ⟨v3,v4,v5,v6⟩ _ _ _ h _ _
   refine Z ?_
   refine Au h (fun _ h=>?_) (fun _ h=>?_)
   refine Z ?_
   refine B1 h (fun _ _ _ _ h=>?_)
   refine Z ?_
   refine B5 [0,1] h (fun _ h=>?_)
   exact Y
   exact Y
  .unfold Ke at h
   refine aw C0 true Tryz.func188 ?_
   refine Z ?_
   refine Au h (fun _ h=>?_) (fun _ h=>?_)
   exact Y
   refine ZS ?_
   refine B9 ?_
   refine ZS ?_
   refine B9 ?_
   refine ZO ?_
   refine Yh (fun (x:(Int×Int))=>(.inl x)) h (fun (v8,v9)=>[(4,(Ao false)),(5,(Aa .i64 v8)),(6,(Aa .i64 v9))]) (fun (v8,v9)=>[]) ?_ ?_
   intro _ h _ _ _
   refine ZS ?_
   refine B9 ?_
   refine ZO ?_
   refine Cd h (fun v3=>[(21,(Ao v3))]) (fun v3=>[]) ?_ ?_
   intro _ h _ _ _
   exact Y
   rintro v3 _ h
   refine Au h (fun _ h=>?_) (fun _ h=>?_)
   exact Y
   refine Z ?_
   refine Au h (fun _ h=>?_) (fun _ h=>?_)
   exact Y
   refine Z ?_
   refine Au h (fun _ h=>?_) (fun _ h=>?_)
   refine A6 (A6 ?_)
   refine Cd h (fun v4=>[(53,(Ao v4))]) (fun v4=>[]) ?_ ?_
   intro _ h _ _ _
   exact Y
   rintro v4 _ h
   exact Y
   refine Z ?_
   refine Au h (fun _ h=>?_) (fun _ h=>?_)
   exact Y
   refine ZS ?_
   refine B9 ?_
   refine ZO ?_
   refine Cd h (fun v7=>[(74,(Ao v7))]) (fun v7=>[]) ?_ ?_
   intro _ h _ _ _
   exact Y
   rintro v7 _ h
   exact Y
   rintro ⟨v8,v9⟩ _ h
   refine A6 (A6 ?_)
   refine Cd h (fun v10=>[(91,(Ao v10))]) (fun v10=>[]) ?_ ?_
   intro _ h _ _ _
   exact Y
   rintro v10 _ h
   refine Au h (fun _ h=>?_) (fun _ h=>?_)
   exact Y
   refine Ll (A6 (A6 ?_))
   refine Cd h (fun v11=>[(103,(Ao v11))]) (fun v11=>[]) ?_ ?_
   intro _ h _ _ _
   exact Y
   rintro v11 _ h
   refine Au h (fun _ h=>?_) (fun _ h=>?_)
   exact Y
   refine Z ?_
   refine B5 [1,0] h (fun _ h=>?_)
   exact Y
  .unfold Ug at h
   refine aw C0 true Tryz.func253 ?_
   refine Z ?_
   refine B5 [1] h (fun _ h=>?_)
   exact Y
instance {k:Nat}:Ahv k:=(Yj k).1
instance {k:Nat}:Ahw k:=(Yj k).2.1
instance {k:Nat}:Ahx k:=(Yj k).2.2.1
instance {k:Nat}:Ahy k:=(Yj k).2.2.2
instance {a0:List Al} {a1:Ag} {a2:Int}:OK (K1 a0 a1 a2) fun r=>Aw Tryz.prog 115 [(Ax 3 Bs) a0,Da a1,(Aa .i64) a2] (Ao r):=⟨fun {r} h=>by
 refine pw C0 Tryz.func115 ?_
 refine Z ?_
 refine B5 [1] h (fun _ h=>?_)
 exact Y⟩
instance {a0:List Al} {a1 a2:Int}:OK (M9 a0 a1 a2) fun r=>Aw Tryz.prog 244 [(Ax 3 Bs) a0,(Aa .i64) a1,(Aa .i64) a2] (Ao r):=⟨fun {r} h=>by
 refine pw C0 Tryz.func244 ?_
 refine Z ?_
 refine B1 h (fun _ _ _ _ h=>?_)
 refine Z ?_
 refine B1 h (fun _ _ _ _ h=>?_)
 refine Z ?_
 refine Au h (fun _ h=>?_) (fun _ h=>?_)
 exact Y
 refine Z ?_
 refine Bt h (fun _ h=>?_)
 refine Z ?_
 refine A9 h (fun v11=>[(6,(Ao false)),(29,(Aa .i64 v11))]) (fun v11=>[]) ?_
 rintro v11 _ _ _ h _ _
 exact Y⟩
instance {a0:List Al}:OK (T3 a0) fun r=>Aw Tryz.prog 181 [(Ax 3 Bs) a0] (Ao r):=⟨fun {r} h=>by
 refine pw C0 Tryz.func181 ?_
 refine Z ?_
 refine Au h (fun _ h=>?_) (fun _ h=>?_)
 exact Y
 refine Z ?_
 refine A9 h (fun (v31,o32,o33)=>[(2,(Ao false)),(15,(Aa .i64 v31))]) (fun (v31,o32,o33)=>[(0,.map (Bm Ao o32)),(1,.map (Bm Ao o33))]) ?_
 rintro ⟨v31,o32,o33⟩ _ _ _ h _ _
 refine Z ?_
 refine Au h (fun _ h=>?_) (fun _ h=>?_)
 refine ZS ?_
 refine B9 ?_
 refine ZO ?_
 refine A6 (A6 ?_)
 refine Cd h (fun v41=>[(49,(Ao v41))]) (fun v41=>[]) ?_ ?_
 intro _ h _ _ _
 refine Z ?_
 refine B1 h (fun _ _ _ _ h=>?_)
 refine Z ?_
 refine Bt h (fun _ h=>?_)
 refine Z ?_
 refine F2 h (fun _ h=>?_) (fun _ h=>?_)
 exact Y
 refine Z ?_
 refine B1 h (fun _ _ _ _ h=>?_)
 refine Z ?_
 refine Abk (f:=Ao) (l:=o32) rfl (false:Bool) h (fun j_ hb h=>?_) (fun hb h=>?_)
 exact Y
 exact Y
 rintro v41 _ h
 refine Au h (fun _ h=>?_) (fun _ h=>?_)
 exact Y
 refine Z ?_
 refine B1 h (fun _ _ _ _ h=>?_)
 refine Z ?_
 refine W4 (f:=Ao) (l:=o32) (x:=true) rfl rfl ?_
 refine ZO ?_
 refine A6 (A6 ?_)
 refine Cd h (fun v45=>[(71,(Ao v45))]) (fun v45=>[]) ?_ ?_
 intro _ h _ _ _
 exact Y
 rintro v45 _ h
 refine Au h (fun _ h=>?_) (fun _ h=>?_)
 exact Y
 refine Z ?_
 refine B1 h (fun _ _ _ _ h=>?_)
 refine Z ?_
 refine A9 h (fun (v52,o53)=>[(2,(Ao false)),(78,(Aa .i64 v52))]) (fun (v52,o53)=>[(1,.map (Bm Ao o53))]) ?_
 rintro ⟨v52,o53⟩ _ _ _ h _ _
 refine Z ?_
 refine Au h (fun _ h=>?_) (fun _ h=>?_)
 refine Z ?_
 refine B1 h (fun _ _ _ _ h=>?_)
 refine Z ?_
 refine Bt h (fun _ h=>?_)
 refine Z ?_
 refine F2 h (fun _ h=>?_) (fun _ h=>?_)
 exact Y
 refine Z ?_
 refine Abk (f:=Ao) (l:=o53) rfl (false:Bool) h (fun j_ hb h=>?_) (fun hb h=>?_)
 refine Z ?_
 refine F2 h (fun _ h=>?_) (fun _ h=>?_)
 exact Y
 refine Z ?_
 refine Bt h (fun _ h=>?_)
 refine Z ?_
 refine Au h (fun _ h=>?_) (fun _ h=>?_)
 exact Y
 refine Z ?_
 refine W4 (f:=Ao) (l:=o53) (x:=true) rfl rfl ?_
 exact Y
 refine Z ?_
 refine Bt h (fun _ h=>?_)
 refine Z ?_
 refine Au h (fun _ h=>?_) (fun _ h=>?_)
 exact Y
 refine Z ?_
 refine W4 (f:=Ao) (l:=o53) (x:=true) rfl rfl ?_
 exact Y
 exact Y
 exact Y⟩
instance {a0:List Al}:OK (Acf a0) fun r=>Aw Tryz.prog 187 [Pd (Hz.mk a0 [] [] [])] (Ao r):=⟨fun {r} h=>by
 refine pw C0 Tryz.func187 ?_
 refine Z ?_
 refine Gb h (fun _ h=>?_)
 refine Z ?_
 refine A9 h (fun _=>[(2,(Ao false)),(18,(Aa .i64 0))]) (fun _=>[]) ?_
 rintro _ _ _ _ h _ _
 replace h:=C3 h
 refine Z ?_
 refine A9 h (fun _=>[(2,(Ao false)),(30,(Aa .i64 0))]) (fun _=>[]) ?_
 rintro _ _ _ _ h _ _
 exact Y⟩
instance {a0:List Al}:OK (Ace a0) fun r=>Aw Tryz.prog 186 [Pd (Hz.mk a0 [] [] [])] (Ao r):=⟨fun {r} h=>by
 refine pw C0 Tryz.func186 ?_
 refine Z ?_
 refine Gb h (fun _ h=>?_)
 refine Z ?_
 refine A9 h (fun _=>[(2,(Ao false)),(17,(Aa .i64 0))]) (fun _=>[]) ?_
 rintro _ _ _ _ h _ _
 exact Y⟩
instance {a0:List Al}:OK (Acb a0) fun r=>Aw Tryz.prog 184 [Pd (Hz.mk a0 [] [] [])] (Ao r):=⟨fun {r} h=>by
 refine pw C0 Tryz.func184 ?_
 refine Z ?_
 refine Gb h (fun _ h=>?_)
 refine Z ?_
 refine A9 h (fun _=>[(2,(Ao false)),(20,(Aa .i64 0))]) (fun _=>[]) ?_
 rintro _ _ _ _ h _ _
 replace h:=C3 h
 refine Z ?_
 refine A9 h (fun _=>[(2,(Ao false)),(33,(Aa .i64 0))]) (fun _=>[]) ?_
 rintro _ _ _ _ h _ _
 exact Y⟩
instance {a0:Ag} {b0:Hz}:OK (Acm a0 b0) fun r=>Ck Tryz.prog 246 [Da a0,(.loc 0 0)] [.cells 165 [(.sl 3 (List.map Bs b0.Data)),(.sl 7 (List.map Pb b0.Codes)),(.sl 3 (Bd b0.Vars)),(.sl 8 (List.map Pc b0.Exprs))]] (Ao r) [.cells 165 [(.sl 3 (List.map Bs b0.Data)),(.sl 7 (List.map Pb b0.Codes)),(.sl 3 (Bd b0.Vars)),(.sl 8 (List.map Pc b0.Exprs))]]:=⟨fun {r} h=>by
 refine aw C0 true Tryz.func246 ?_
 exact Y⟩
instance {a0:List Ag} {b0:Hz}:OK (Aco a0 b0) fun r=>Ck Tryz.prog 297 [(Ev 3 Bd) a0,(.fn 246 [(.loc 0 0)])] [.cells 165 [(.sl 3 (List.map Bs b0.Data)),(.sl 7 (List.map Pb b0.Codes)),(.sl 3 (Bd b0.Vars)),(.sl 8 (List.map Pc b0.Exprs))]] ((Aa .i64) r) [.cells 165 [(.sl 3 (List.map Bs b0.Data)),(.sl 7 (List.map Pb b0.Codes)),(.sl 3 (Bd b0.Vars)),(.sl 8 (List.map Pc b0.Exprs))]]:=⟨fun {r} h=>by
 refine aw C0 true Tryz.func297 ?_
 refine Z ?_
 refine A9 h (fun v3=>[(4,(Aa .i64 0)),(8,(Aa .i64 v3))]) (fun v3=>[]) ?_
 rintro v3 _ _ _ h _ _
 refine Z ?_
 refine Au h (fun _ h=>?_) (fun _ h=>?_)
 refine Z ?_
 refine B1 h (fun _ _ _ _ h=>?_)
 refine Z ?_
 refine B5 [0] h (fun _ h=>?_)
 exact Y
 exact Y⟩
instance {a0:List Ag} {b0:Hz}:OK (Acl a0 b0) fun r=>Ck Tryz.prog 245 [(Ev 3 Bd) a0,(.fn 246 [(.loc 0 0)])] [.cells 165 [(.sl 3 (List.map Bs b0.Data)),(.sl 7 (List.map Pb b0.Codes)),(.sl 3 (Bd b0.Vars)),(.sl 8 (List.map Pc b0.Exprs))]] (Ao r) [.cells 165 [(.sl 3 (List.map Bs b0.Data)),(.sl 7 (List.map Pb b0.Codes)),(.sl 3 (Bd b0.Vars)),(.sl 8 (List.map Pc b0.Exprs))]]:=⟨fun {r} h=>by
 refine aw C0 true Tryz.func245 ?_
 refine Z ?_
 refine B5 [0] h (fun _ h=>?_)
 exact Y⟩
instance {a0:List Al}:OK (Ab9 a0) fun r=>Aw Tryz.prog 182 [Pd (Hz.mk a0 [] [] [])] (Ao r):=⟨fun {r} h=>by
 refine pw C0 Tryz.func182 ?_
 refine Z ?_
 refine B5 [0] h (fun _ h=>?_)
 exact Y⟩
instance {a0:List Al}:OK (Oo a0) fun r=>Aw Tryz.prog 114 [Pd (Hz.mk a0 [] [] [])] (Ao r):=⟨fun {r} h=>by
 refine pw C0 Tryz.func114 ?_
 exact Y⟩
instance {a0:List Al} {a1:Ag}:OK (Q4 a0 a1) fun r=>Aw Tryz.prog 145 [(Ax 3 Bs) a0,Da a1] (Ao r):=⟨fun {r} h=>by
 refine pw {T:=Cf,an:=(fun _=>.ask),nl:=(fun s=>bif Nat.beq s 6 then [(1,7),(2,3),(3,8)] else [])} Tryz.func145 ?_
 exact Y⟩
instance {a0:List Al} {a1:Ag} {a2:A0}:OK (Qw a0 a1 a2) fun r=>Aw Tryz.prog 95 [(Ax 3 Bs) a0,Da a1,E7 a2] ((Aa .i64) r):=⟨fun {r} h=>by
 refine pw C0 Tryz.func95 ?_
 exact Y⟩
instance {a0:Br} {a1:Cr}:OK (Gv a0 a1) fun r=>Aw Tryz.prog 43 [Gf a0,Hy a1] (.tup [(Aa .i64) r.1,(Aa .i64) r.2.1,Ao r.2.2]):=⟨fun {r} h=>by
 refine pw C0 Tryz.func43 ?_
 refine Z ?_
 refine Bt h (fun v3 h=>?_)
 refine Z ?_
 refine Au h (fun _ h=>?_) (fun _ h=>?_)
 exact Y
 refine Z ?_
 refine Au h (fun _ h=>?_) (fun _ h=>?_)
 exact Y
 refine Z ?_
 refine Au h (fun _ h=>?_) (fun _ h=>?_)
 refine A6 (A6 ?_)
 refine Cd h (fun v7=>[(47,(Ao v7))]) (fun v7=>[]) ?_ ?_
 intro _ h _ _ _
 exact Y
 rintro v7 _ h
 refine Au h (fun _ h=>?_) (fun _ h=>?_)
 exact Y
 refine Z ?_
 refine A9 h (fun v11=>[(4,(Aa .i64 0)),(5,(Aa .i64 0)),(6,(Ao v3.2)),(51,(Aa .i64 v11))]) (fun v11=>[]) ?_
 rintro v11 _ _ _ h _ _
 exact Y
 exact Y⟩
instance {a0:Int}:OK (O1 a0) fun r=>Aw Tryz.prog 238 [(Aa .i64) a0] (Ao r):=⟨fun {r} h=>by
 refine pw C0 Tryz.func238 ?_
 exact Y⟩
instance {a0 a1:Int}:OK (Ji a0 a1) fun r=>Aw Tryz.prog 171 [(Aa .i64) a0,(Aa .i64) a1] ((Aa .i64) r):=⟨fun {r} h=>by
 refine pw C0 Tryz.func171 ?_
 exact Y⟩
instance {a0:List Int}:OK (K2 a0) fun r=>Aw Tryz.prog 174 [(Ax 1 (Aa .i64)) a0] ((Aa .i64) r):=⟨fun {r} h=>by
 refine pw C0 Tryz.func174 ?_
 refine Z ?_
 refine A9 h (fun v2=>[(2,(Aa .i64 0)),(8,(Aa .i64 v2))]) (fun v2=>[]) ?_
 rintro v2 _ _ _ h _ _
 exact Y⟩
instance {a0:Int}:OK (X5 a0) fun r=>Aw Tryz.prog 294 [(Aa .i64) a0] (Ao r):=⟨fun {r} h=>by
 refine pw C0 Tryz.func294 ?_
 exact Y⟩
instance {a0 a1:Int}:OK (Uf a0 a1) fun r=>Aw Tryz.prog 242 [(Aa .i64) a0,(Aa .i64) a1] ((Aa .i64) r):=⟨fun {r} h=>by
 refine pw C0 Tryz.func242 ?_
 exact Y⟩
instance {a0 a1:Es}:OK (Ue a0 a1) fun r=>Aw Tryz.prog 241 [G8 a0,G8 a1] ((Aa .i64) r):=⟨fun {r} h=>by
 refine pw C0 Tryz.func241 ?_
 exact Y⟩
instance {a0 a1:List Es}:OK (Xz a0 a1) fun r=>Aw Tryz.prog 240 [(Ax 2 G8) a0,(Ax 2 G8) a1,(.fn 241 [])] ((Aa .i64) r):=⟨fun {r} h=>by
 refine pw C0 Tryz.func240 ?_
 refine Z ?_
 refine A9 h (fun v6=>[(6,(Aa .i64 0)),(13,(Aa .i64 v6))]) (fun v6=>[]) ?_
 rintro v6 _ _ _ h _ _
 exact Y⟩
instance {a0 a1:Ey}:OK (M5 a0 a1) fun r=>Aw Tryz.prog 178 [Pa a0,Pa a1] ((Aa .i64) r):=⟨fun {r} h=>by
 refine pw C0 Tryz.func178 ?_
 exact Y⟩
instance {a0 a1:Eg}:OK (T1 a0 a1) fun r=>Aw Tryz.prog 177 [Ih a0,Ih a1] ((Aa .i64) r):=⟨fun {r} h=>by
 refine pw C0 Tryz.func177 ?_
 exact Y⟩
instance {a0 a1:List Eg}:OK (Xw a0 a1) fun r=>Aw Tryz.prog 176 [(Ax 3 Ih) a0,(Ax 3 Ih) a1,(.fn 177 [])] ((Aa .i64) r):=⟨fun {r} h=>by
 refine pw C0 Tryz.func176 ?_
 refine Z ?_
 refine A9 h (fun v6=>[(6,(Aa .i64 0)),(13,(Aa .i64 v6))]) (fun v6=>[]) ?_
 rintro v6 _ _ _ h _ _
 exact Y⟩
abbrev Ahz (k:Nat):Prop:=∀{a0 a1:A0},OK (M4 k a0 a1) fun r=>Aw Tryz.prog 175 [E7 a0,E7 a1] ((Aa .i64) r)
abbrev Ah0 (k:Nat):Prop:=∀{a0 a1:List A0},OK (Ud k a0 a1) fun r=>Aw Tryz.prog 239 [(Ev 2 Gw) a0,(Ev 2 Gw) a1,(.fn 175 [])] ((Aa .i64) r)
theorem Ah1 (k:Nat):Ahz k/\Ah0 k:=by
 induction k with
 | zero=>exact ⟨okz,okz⟩
 | succ k ih=>
  obtain ⟨i0_,i1_⟩:=ih
  refine ⟨@fun a0 a1=>⟨fun {r} h=>?_⟩,@fun a0 a1=>⟨fun {r} h=>?_⟩⟩
  .unfold M4 at h
   refine pw C0 Tryz.func175 ?_
   exact Y
  .unfold Ud at h
   refine pw C0 Tryz.func239 ?_
   refine Z ?_
   refine A9 h (fun v6=>[(6,(Aa .i64 0)),(13,(Aa .i64 v6))]) (fun v6=>[]) ?_
   rintro v6 _ _ _ h _ _
   exact Y
instance {k:Nat}:Ahz k:=(Ah1 k).1
instance {k:Nat}:Ah0 k:=(Ah1 k).2
instance {a0 a1:Cr}:OK (T0 a0 a1) fun r=>Aw Tryz.prog 173 [Hy a0,Hy a1] ((Aa .i64) r):=⟨fun {r} h=>by
 refine pw C0 Tryz.func173 ?_
 exact Y⟩
instance {a0 a1:List Cr}:OK (Xv a0 a1) fun r=>Aw Tryz.prog 172 [(Ax 3 Hy) a0,(Ax 3 Hy) a1,(.fn 173 [])] ((Aa .i64) r):=⟨fun {r} h=>by
 refine pw C0 Tryz.func172 ?_
 refine Z ?_
 refine A9 h (fun v6=>[(6,(Aa .i64 0)),(13,(Aa .i64 v6))]) (fun v6=>[]) ?_
 rintro v6 _ _ _ h _ _
 exact Y⟩
instance {a0 a1:Cb}:OK (Lp a0 a1) fun r=>Aw Tryz.prog 110 [Jk a0,Jk a1] ((Aa .i64) r):=⟨fun {r} h=>by
 refine pw C0 Tryz.func110 ?_
 exact Y⟩
instance {a0:Int}:OK (Rp a0) fun r=>Aw Tryz.prog 311 [(Aa .i64) a0] (Ao r):=⟨fun {r} h=>by
 refine pw C0 Tryz.func311 ?_
 exact Y⟩
instance {a0:Int}:OK (Un a0) fun r=>Aw Tryz.prog 312 [(Aa .i64) a0] (Ao r):=⟨fun {r} h=>by
 refine pw C0 Tryz.func312 ?_
 exact Y⟩
instance {a0:Ey}:OK (Rl a0) fun r=>Aw Tryz.prog 257 [Pa a0] (Ao r):=⟨fun {r} h=>by
 refine pw C0 Tryz.func257 ?_
 refine ZS ?_
 refine B9 ?_
 refine ZO ?_
 refine A6 (A6 ?_)
 refine Cd h (fun v3=>[(14,(Ao v3))]) (fun v3=>[]) ?_ ?_
 intro _ h _ _ _
 exact Y
 rintro v3 _ h
 refine Au h (fun _ h=>?_) (fun _ h=>?_)
 exact Y
 refine Z ?_
 refine A9 h (fun v8=>[(2,(Ao false)),(18,(Aa .i64 v8))]) (fun v8=>[]) ?_
 rintro v8 _ _ _ h _ _
 exact Y⟩
instance {a0:Int}:OK (Re a0) fun r=>Aw Tryz.prog 193 [(Aa .i64) a0] (Fk r):=⟨fun {r} h=>by
 exact Aqo h⟩
instance {b1:List Int}:OK (Uy b1) fun r=>Ck Tryz.prog 258 [(.loc 0 0)] [.cells 232 [(.loc 0 0),(.arr 1 b1.length 0 b1.length)],.rows 5 1 (List.map (Aa .u8) b1)] (.tup []) [.cells 232 [(.loc 0 0),(.arr 1 b1.length 0 b1.length)],.rows 5 1 (List.map (Aa .u8) b1)]:=⟨fun {r} h=>by
 cases h
 exact Aqp _ _⟩
instance {a0:Int} {b1:List Int}:OK (Rq a0 b1) fun r=>Ck Tryz.prog 314 [(.loc 0 0),(Aa .u8) a0] [.cells 232 [(.loc 0 0),(.arr 1 b1.length 0 b1.length)],.rows 5 1 (List.map (Aa .u8) b1)] (.val .nilIface) [.cells 232 [(.loc 0 0),(.arr 1 r.length 0 r.length)],.rows 5 1 (List.map (Aa .u8) r)]:=⟨fun {r} h=>by
 refine aw C0 true Tryz.func314 ?_
 refine Z ?_
 refine B5 [0,1] h (fun _ h=>?_)
 exact Y⟩
instance {a0:ByteArray} {b1:List Int}:OK (Acu a0 b1) fun r=>Ck Tryz.prog 191 [(.loc 0 0),Fk a0] [.cells 232 [(.loc 0 0),(.arr 1 b1.length 0 b1.length)],.rows 5 1 (List.map (Aa .u8) b1)] (.tup [(Aa .i64) r.1,.val .nilIface]) [.cells 232 [(.loc 0 0),(.arr 1 r.2.length 0 r.2.length)],.rows 5 1 (List.map (Aa .u8) r.2)]:=⟨fun {r} h=>by
 refine aw C0 true Tryz.func191 ?_
 refine Z ?_
 refine B5 [0,1] h (fun _ h=>?_)
 exact Y⟩
abbrev Ah2 (k:Nat):Prop:=∀{a0:A0} {b1:List Int},OK (O3 k a0 b1) fun r=>Ck Tryz.prog 259 [(.loc 0 0),E7 a0] [.cells 232 [(.loc 0 0),(.arr 1 b1.length 0 b1.length)],.rows 5 1 (List.map (Aa .u8) b1)] (.tup []) [.cells 232 [(.loc 0 0),(.arr 1 r.length 0 r.length)],.rows 5 1 (List.map (Aa .u8) r)]
theorem Aq3 (k:Nat):Ah2 k:=by
 induction k with
 | zero=>exact okz
 | succ k ih=>
  refine @fun a0 b1=>⟨fun {r} h=>?_⟩
  .unfold O3 at h
   refine aw C0 true Tryz.func259 ?_
   refine Z ?_
   refine Bt h (fun _ h=>?_)
   refine Z ?_
   refine B5 [0,1] h (fun _ h=>?_)
   refine Z ?_
   refine Au h (fun _ h=>?_) (fun _ h=>?_)
   refine Z ?_
   refine B5 [0,1] h (fun _ h=>?_)
   refine Z ?_
   refine A9 h (fun (v15,o16)=>[(20,(Aa .i64 v15))]) (fun (v15,o16)=>[(0,.cells 232 [(.loc 0 0),(.arr 1 o16.length 0 o16.length)]),(1,.rows 5 1 (List.map (Aa .u8) o16))]) ?_
   rintro ⟨v15,o16⟩ _ _ _ h _ _
   refine Z ?_
   refine Au h (fun _ h=>?_) (fun _ h=>?_)
   refine Z ?_
   refine B1 h (fun _ _ _ _ h=>?_)
   refine Z ?_
   refine B5 [0,1] h (fun _ h=>?_)
   refine Z ?_
   refine B5 [0,1] h (fun _ h=>?_)
   exact Y
   replace h:=C3 h
   refine Z ?_
   refine B5 [0,1] h (fun _ h=>?_)
   exact Y
   exact Y
instance {k:Nat}:Ah2 k:=(Aq3 k)
instance {b1:List Int}:OK (Xy b1) fun r=>Ck Tryz.prog 195 [(.loc 0 0)] [.cells 232 [(.loc 0 0),(.arr 1 b1.length 0 b1.length)],.rows 5 1 (List.map (Aa .u8) b1)] (Fk r) [.cells 232 [(.loc 0 0),(.arr 1 b1.length 0 b1.length)],.dead]:=⟨fun {r} h=>by
 exact Aqt h⟩
instance {b1:List Int}:OK (X0 b1) fun r=>Ck Tryz.prog 258 [(.loc 0 0)] [.cells 232 [(.val (.pointer none)),(.arr 1 b1.length 0 b1.length)],.rows 5 1 (List.map (Aa .u8) b1)] (.tup []) [.cells 232 [(.loc 0 0),(.arr 1 b1.length 0 b1.length)],.rows 5 1 (List.map (Aa .u8) b1)]:=⟨fun {r} h=>by
 cases h
 exact Aqq _ _⟩
instance {a0:ByteArray} {b1:List Int}:OK (Xx a0 b1) fun r=>Ck Tryz.prog 191 [(.loc 0 0),Fk a0] [.cells 232 [(.val (.pointer none)),(.arr 1 b1.length 0 b1.length)],.rows 5 1 (List.map (Aa .u8) b1)] (.tup [(Aa .i64) r.1,(.val .nilIface)]) [.cells 232 [(.loc 0 0),(.arr 1 r.2.length 0 r.2.length)],.rows 5 1 (List.map (Aa .u8) r.2)]:=⟨fun {r} h=>by
 refine aw C0 true Tryz.func191 ?_
 refine Z ?_
 refine B5 [0,1] h (fun _ h=>?_)
 exact Y⟩
instance {a0:Int} {a1:A0}:OK (T5 a0 a1) fun r=>Aw Tryz.prog 192 [(Aa .i64) a0,E7 a1] (Fk r):=⟨fun {r} h=>by
 refine pw C0 Tryz.func192 ?_
 refine ZS ?_
 refine B9 ?_
 refine ZS ?_
 refine B9 ?_
 refine ZO ?_
 refine A6 ?_
 refine En [.own 5 1 5 1] ?_
 refine Z ?_
 refine Bt h (fun _ h=>?_)
 refine Z ?_
 refine W6 h (fun h=>?_)
 refine Z ?_
 refine W6 h (fun h=>?_)
 refine Z ?_
 refine B5 [1,2] h (fun _ h=>?_)
 refine Z ?_
 refine B5 [1,2] h (fun _ h=>?_)
 refine Z ?_
 refine B5 [1,2] h (fun _ h=>?_)
 exact Y⟩
abbrev Ah3 (k:Nat):Prop:=∀{a0:Ag} {a1:A0} {b1:List (ByteArray×Int)} {b2:List (ByteArray×(List Dy))} {b0_0:List Al} {b0_1:List Ag} {b0_2 b0_3:Int} {b0_4:List Ag},OK (O8 k a0 a1 b1 b2 b0_0 b0_1 b0_2 b0_3 b0_4) fun r=>Ck Tryz.prog 333 [(.loc 0 0),Da a0,E7 a1] [.cells 168 [(.sl 3 (List.map Bs b0_0)),(.sl 3 (Bd b0_1)),(Aa .i64 b0_2),(Aa .i64 b0_3),(.sl 3 (Bd b0_4)),(.mp 1),(.mp 2)],.map (Bm (Aa .i64) b1),.map (Bm (Ax 5 Ez) b2)] ((Aa .i64) r) [.cells 168 [(.sl 3 (List.map Bs b0_0)),(.sl 3 (Bd b0_1)),(Aa .i64 b0_2),(Aa .i64 b0_3),(.sl 3 (Bd b0_4)),(.mp 1),(.mp 2)],.map (Bm (Aa .i64) b1),.map (Bm (Ax 5 Ez) b2)]
abbrev Ah4 (k:Nat):Prop:=∀{a0:Ag} {a1:A0} {b1:List (ByteArray×Int)} {b2:List (ByteArray×(List Dy))} {b0_0:List Al} {b0_1:List Ag} {b0_2 b0_3:Int} {b0_4:List Ag},OK (Na k a0 a1 b1 b2 b0_0 b0_1 b0_2 b0_3 b0_4) fun r=>Ck Tryz.prog 310 [(.loc 0 0),Da a0,E7 a1] [.cells 168 [(.sl 3 (List.map Bs b0_0)),(.sl 3 (Bd b0_1)),(Aa .i64 b0_2),(Aa .i64 b0_3),(.sl 3 (Bd b0_4)),(.mp 1),(.mp 2)],.map (Bm (Aa .i64) b1),.map (Bm (Ax 5 Ez) b2)] ((Aa .i64) r) [.cells 168 [(.sl 3 (List.map Bs b0_0)),(.sl 3 (Bd b0_1)),(Aa .i64 b0_2),(Aa .i64 b0_3),(.sl 3 (Bd b0_4)),(.mp 1),(.mp 2)],.map (Bm (Aa .i64) b1),.map (Bm (Ax 5 Ez) b2)]
abbrev Ah5 (k:Nat):Prop:=∀{a0:List Ag} {a1:List A0} {b1:List (ByteArray×Int)} {b2:List (ByteArray×(List Dy))} {b0_0:List Al} {b0_1:List Ag} {b0_2 b0_3:Int} {b0_4:List Ag},OK (O7 k a0 a1 b1 b2 b0_0 b0_1 b0_2 b0_3 b0_4) fun r=>Ck Tryz.prog 332 [(.loc 0 0),(Ev 3 Bd) a0,(Ev 2 Gw) a1] [.cells 168 [(.sl 3 (List.map Bs b0_0)),(.sl 3 (Bd b0_1)),(Aa .i64 b0_2),(Aa .i64 b0_3),(.sl 3 (Bd b0_4)),(.mp 1),(.mp 2)],.map (Bm (Aa .i64) b1),.map (Bm (Ax 5 Ez) b2)] ((Aa .i64) r) [.cells 168 [(.sl 3 (List.map Bs b0_0)),(.sl 3 (Bd b0_1)),(Aa .i64 b0_2),(Aa .i64 b0_3),(.sl 3 (Bd b0_4)),(.mp 1),(.mp 2)],.map (Bm (Aa .i64) b1),.map (Bm (Ax 5 Ez) b2)]
theorem Ac1 (k:Nat):Ah3 k/\Ah4 k/\Ah5 k:=by
 induction k with
 | zero=>exact ⟨okz,okz,okz⟩
 | succ k ih=>
  obtain ⟨i0_,i1_,i2_⟩:=ih
  refine ⟨@fun a0 a1 b1 b2 b0_0 b0_1 b0_2 b0_3 b0_4=>⟨fun {r} h=>?_⟩,@fun a0 a1 b1 b2 b0_0 b0_1 b0_2 b0_3 b0_4=>⟨fun {r} h=>?_⟩,@fun a0 a1 b1 b2 b0_0 b0_1 b0_2 b0_3 b0_4=>⟨fun {r} h=>?_⟩⟩
  .unfold O8 at h
   refine aw {T:=Cf,an:=(fun s=>bif Nat.beq s 9 then .own else .ask),nl:=(fun s=>bif Nat.beq s 9 then [(0,3)] else [])} true Tryz.func333 ?_
   refine Z ?_
   refine Bt h (fun _ h=>?_)
   refine Z ?_
   refine Au h (fun _ h=>?_) (fun _ h=>?_)
   exact Y
   refine Z ?_
   refine Bt h (fun _ h=>?_)
   refine Z ?_
   refine A9 h (fun (v14,o15)=>[(9,(.arr 5 o15.length 0 o15.length)),(38,(Aa .i64 v14))]) (fun (v14,o15)=>[(5,.rows 25 3 (Bd o15))]) ?_
   rintro ⟨v14,o15⟩ _ _ _ h _ _
   refine Z ?_
   refine Au h (fun _ h=>?_) (fun _ h=>?_)
   exact Y
   replace h:=C3 h
   refine Hx (Hr rfl (A6 ?_))
   refine En [.fz 9] ?_
   refine Z ?_
   refine B5 [0,1,2] h (fun _ h=>?_)
   exact Y
  .unfold Na at h
   refine aw C0 true Tryz.func310 ?_
   refine Z ?_
   refine Au h (fun _ h=>?_) (fun _ h=>?_)
   refine Z ?_
   refine Au h (fun _ h=>?_) (fun _ h=>?_)
   refine Z ?_
   refine B5 [0,1,2] h (fun _ h=>?_)
   exact Y
   exact Y
   refine Z ?_
   refine Au h (fun _ h=>?_) (fun _ h=>?_)
   exact Y
   refine Z ?_
   refine Au h (fun _ h=>?_) (fun _ h=>?_)
   refine Z ?_
   refine Au h (fun _ h=>?_) (fun _ h=>?_)
   exact Y
   refine Z ?_
   refine A9 h (fun (v7,v8)=>[(6,(Aa .i64 0)),(7,(Aa .i64 v7)),(50,(Aa .i64 v8))]) (fun (v7,v8)=>[]) ?_
   rintro ⟨v7,v8⟩ _ _ _ h _ _
   refine Z ?_
   refine Au h (fun _ h=>?_) (fun _ h=>?_)
   refine Z ?_
   refine B1 h (fun _ _ _ _ h=>?_)
   refine Z ?_
   refine B5 [0,1,2] h (fun _ h=>?_)
   exact Y
   exact Y
   exact Y
  .unfold O7 at h
   refine aw C0 true Tryz.func332 ?_
   refine Z ?_
   refine Au h (fun _ h=>?_) (fun _ h=>?_)
   exact Y
   refine Z ?_
   refine A9 h (fun (v5,v6)=>[(6,(Aa .i64 0)),(7,(Aa .i64 v5)),(18,(Aa .i64 v6))]) (fun (v5,v6)=>[]) ?_
   rintro ⟨v5,v6⟩ _ _ _ h _ _
   refine Z ?_
   refine Au h (fun _ h=>?_) (fun _ h=>?_)
   refine Z ?_
   refine B1 h (fun _ _ _ _ h=>?_)
   refine Z ?_
   refine B1 h (fun _ _ _ _ h=>?_)
   refine Z ?_
   refine B5 [0,1,2] h (fun _ h=>?_)
   exact Y
   exact Y
instance {k:Nat}:Ah3 k:=(Ac1 k).1
instance {k:Nat}:Ah4 k:=(Ac1 k).2.1
instance {k:Nat}:Ah5 k:=(Ac1 k).2.2
instance {a0:Int} {b1:List (ByteArray×Int)} {b2:List (ByteArray×(List Dy))} {b0_0:List Al} {b0_1:List Ag} {b0_2 b0_3:Int} {b0_4:List Ag}:OK (Kc a0 b1 b2 b0_0 b0_1 b0_2 b0_3 b0_4) fun r=>Ck Tryz.prog 71 [(.loc 0 0),(Aa .i64) a0] [.cells 168 [(.sl 3 (List.map Bs b0_0)),(.sl 3 (Bd b0_1)),(Aa .i64 b0_2),(Aa .i64 b0_3),(.sl 3 (Bd b0_4)),(.mp 1),(.mp 2)],.map (Bm (Aa .i64) b1),.map (Bm (Ax 5 Ez) b2)] (Da r) [.cells 168 [(.sl 3 (List.map Bs b0_0)),(.sl 3 (Bd b0_1)),(Aa .i64 b0_2),(Aa .i64 b0_3),(.sl 3 (Bd b0_4)),(.mp 1),(.mp 2)],.map (Bm (Aa .i64) b1),.map (Bm (Ax 5 Ez) b2)]:=⟨fun {r} h=>by
 refine aw C0 true Tryz.func71 ?_
 exact Y⟩
instance {a0:Int} {a1:A0} {b1:List (ByteArray×Int)} {b2:List (ByteArray×(List Dy))} {b0_0:List Al} {b0_1:List Ag} {b0_2 b0_3:Int} {b0_4:List Ag}:OK (K5 a0 a1 b1 b2 b0_0 b0_1 b0_2 b0_3 b0_4) fun r=>Ck Tryz.prog 256 [(.loc 0 0),(Aa .i64) a0,E7 a1] [.cells 168 [(.sl 3 (List.map Bs b0_0)),(.sl 3 (Bd b0_1)),(Aa .i64 b0_2),(Aa .i64 b0_3),(.sl 3 (Bd b0_4)),(.mp 1),(.mp 2)],.map (Bm (Aa .i64) b1),.map (Bm (Ax 5 Ez) b2)] ((Aa .i64) r.1) [.cells 168 [(.sl 3 (List.map Bs b0_0)),(.sl 3 (Bd b0_1)),(Aa .i64 b0_2),(Aa .i64 b0_3),(.sl 3 (Bd b0_4)),(.mp 1),(.mp 2)],.map (Bm (Aa .i64) r.2),.map (Bm (Ax 5 Ez) b2)]:=⟨fun {r} h=>by
 refine aw C0 true Tryz.func256 ?_
 refine Z ?_
 refine Bt h (fun _ h=>?_)
 refine ZO ?_
 refine A6 ?_
 refine Cd h (fun (v3,v4)=>[(8,(Aa .i64 v3)),(9,(Ao v4))]) (fun (v3,v4)=>[]) ?_ ?_
 intro _ h _ _ _
 refine Z ?_
 refine Abk (f:=(Aa .i64)) (l:=b1) rfl (0:Int) h (fun j_ hb h=>?_) (fun hb h=>?_)
 exact Y
 exact Y
 rintro ⟨v3,v4⟩ _ h
 refine Z ?_
 refine Au h (fun _ h=>?_) (fun _ h=>?_)
 refine Z ?_
 refine B5 [0,1,2] h (fun _ h=>?_)
 refine Z ?_
 refine B5 [0,1,2] h (fun _ h=>?_)
 refine ZS ?_
 refine B9 ?_
 refine ZO ?_
 refine Cd h (fun v7=>[(8,(Aa .i64 v7))]) (fun v7=>[]) ?_ ?_
 intro _ h _ _ _
 exact Y
 rintro v7 _ h
 refine Z ?_
 refine W4 (f:=(Aa .i64)) (l:=b1) (x:=v7) rfl rfl ?_
 exact Y
 exact Y⟩
instance {a0:Cb} {b1:List (ByteArray×Int)} {b2:List (ByteArray×(List Dy))} {b0_0:List Al} {b0_1:List Ag} {b0_2 b0_3:Int} {b0_4:List Ag}:OK (Ui a0 b1 b2 b0_0 b0_1 b0_2 b0_3 b0_4) fun r=>Ck Tryz.prog 255 [(.loc 0 0),Jk a0] [.cells 168 [(.sl 3 (List.map Bs b0_0)),(.sl 3 (Bd b0_1)),(Aa .i64 b0_2),(Aa .i64 b0_3),(.sl 3 (Bd b0_4)),(.mp 1),(.mp 2)],.map (Bm (Aa .i64) b1),.map (Bm (Ax 5 Ez) b2)] ((Aa .i64) r.1) [.cells 168 [(.sl 3 (List.map Bs b0_0)),(.sl 3 (Bd b0_1)),(Aa .i64 b0_2),(Aa .i64 b0_3),(.sl 3 (Bd b0_4)),(.mp 1),(.mp 2)],.map (Bm (Aa .i64) r.2),.map (Bm (Ax 5 Ez) b2)]:=⟨fun {r} h=>by
 refine aw C0 true Tryz.func255 ?_
 refine Z ?_
 refine A9 h (fun (v5,v6,o7)=>[(5,(Aa .i64 v5)),(13,(Aa .i64 v6))]) (fun (v5,v6,o7)=>[(1,.map (Bm (Aa .i64) o7))]) ?_
 rintro ⟨v5,v6,o7⟩ _ _ _ h _ _
 refine Z ?_
 refine Au h (fun _ h=>?_) (fun _ h=>?_)
 refine Z ?_
 refine B1 h (fun _ _ _ _ h=>?_)
 refine Z ?_
 refine Au h (fun _ h=>?_) (fun _ h=>?_)
 refine Z ?_
 refine B5 [0,1,2] h (fun _ h=>?_)
 exact Y
 exact Y
 replace h:=C3 h
 refine Z ?_
 refine A9 h (fun (v15,v16)=>[(5,(Aa .i64 v15)),(31,(Aa .i64 v16))]) (fun (v15,v16)=>[]) ?_
 rintro ⟨v15,v16⟩ _ _ _ h _ _
 exact Y⟩
instance {a0:Int} {b1:List (ByteArray×Int)} {b2:List (ByteArray×(List Dy))} {b0_0:List Al} {b0_1:List Ag} {b0_2 b0_3:Int} {b0_4:List Ag}:OK (O6 a0 b1 b2 b0_0 b0_1 b0_2 b0_3 b0_4) fun r=>Ck Tryz.prog 308 [(.loc 0 0),(Aa .i64) a0] [.cells 168 [(.sl 3 (List.map Bs b0_0)),(.sl 3 (Bd b0_1)),(Aa .i64 b0_2),(Aa .i64 b0_3),(.sl 3 (Bd b0_4)),(.mp 1),(.mp 2)],.map (Bm (Aa .i64) b1),.map (Bm (Ax 5 Ez) b2)] (Ao r) [.cells 168 [(.sl 3 (List.map Bs b0_0)),(.sl 3 (Bd b0_1)),(Aa .i64 b0_2),(Aa .i64 b0_3),(.sl 3 (Bd b0_4)),(.mp 1),(.mp 2)],.map (Bm (Aa .i64) b1),.map (Bm (Ax 5 Ez) b2)]:=⟨fun {r} h=>by
 refine aw C0 true Tryz.func308 ?_
 exact Y⟩
end Go.Ab
namespace Go.Ab
open Go Go.Proofs
set_option maxRecDepth 10000
set_option maxHeartbeats 4000000
set_option linter.unusedVariables false
instance {a0:Es} {b2:List (ByteArray×Int)} {b3:List (ByteArray×(List Dy))} {b1_0:List Al} {b1_1:List Ag} {b1_2 b1_3:Int} {b1_4:List Ag}:OK (Rr a0 b2 b3 b1_0 b1_1 b1_2 b1_3 b1_4) fun r=>Ck Tryz.prog 331 [G8 a0,(.loc 0 0)] [.cells 97 [(.loc 1 0)],.cells 168 [(.sl 3 (List.map Bs b1_0)),(.sl 3 (Bd b1_1)),(Aa .i64 b1_2),(Aa .i64 b1_3),(.sl 3 (Bd b1_4)),(.mp 2),(.mp 3)],.map (Bm (Aa .i64) b2),.map (Bm (Ax 5 Ez) b3)] (Ao r) [.cells 97 [(.loc 1 0)],.cells 168 [(.sl 3 (List.map Bs b1_0)),(.sl 3 (Bd b1_1)),(Aa .i64 b1_2),(Aa .i64 b1_3),(.sl 3 (Bd b1_4)),(.mp 2),(.mp 3)],.map (Bm (Aa .i64) b2),.map (Bm (Ax 5 Ez) b3)]:=⟨fun {r} h=>by
 refine aw C0 true Tryz.func331 ?_
 refine Z ?_
 refine B5 [1,2,3] h (fun _ h=>?_)
 refine Z ?_
 refine F2 h (fun _ h=>?_) (fun _ h=>?_)
 exact Y
 refine Z ?_
 refine B5 [1,2,3] h (fun _ h=>?_)
 refine Z ?_
 refine Wm.mk 3 (by kernel_rfl) ?_
 exact Y⟩
instance {a0:List Es} {b2:List (ByteArray×Int)} {b3:List (ByteArray×(List Dy))} {b1_0:List Al} {b1_1:List Ag} {b1_2 b1_3:Int} {b1_4:List Ag}:OK (X8 a0 b2 b3 b1_0 b1_1 b1_2 b1_3 b1_4) fun r=>Ck Tryz.prog 352 [(Ax 2 G8) a0,(.fn 331 [(.loc 0 0)])] [.cells 97 [(.loc 1 0)],.cells 168 [(.sl 3 (List.map Bs b1_0)),(.sl 3 (Bd b1_1)),(Aa .i64 b1_2),(Aa .i64 b1_3),(.sl 3 (Bd b1_4)),(.mp 2),(.mp 3)],.map (Bm (Aa .i64) b2),.map (Bm (Ax 5 Ez) b3)] ((Aa .i64) r) [.cells 97 [(.loc 1 0)],.cells 168 [(.sl 3 (List.map Bs b1_0)),(.sl 3 (Bd b1_1)),(Aa .i64 b1_2),(Aa .i64 b1_3),(.sl 3 (Bd b1_4)),(.mp 2),(.mp 3)],.map (Bm (Aa .i64) b2),.map (Bm (Ax 5 Ez) b3)]:=⟨fun {r} h=>by
 refine aw C0 true Tryz.func352 ?_
 refine Z ?_
 refine A9 h (fun v3=>[(4,(Aa .i64 0)),(8,(Aa .i64 v3))]) (fun v3=>[]) ?_
 rintro v3 _ _ _ h _ _
 refine Z ?_
 refine Au h (fun _ h=>?_) (fun _ h=>?_)
 refine Z ?_
 refine B1 h (fun _ _ _ _ h=>?_)
 refine Z ?_
 refine B5 [0,1,2,3] h (fun _ h=>?_)
 exact Y
 exact Y⟩
instance {a0:List Es} {b2:List (ByteArray×Int)} {b3:List (ByteArray×(List Dy))} {b1_0:List Al} {b1_1:List Ag} {b1_2 b1_3:Int} {b1_4:List Ag}:OK (X7 a0 b2 b3 b1_0 b1_1 b1_2 b1_3 b1_4) fun r=>Ck Tryz.prog 330 [(Ax 2 G8) a0,(.fn 331 [(.loc 0 0)])] [.cells 97 [(.loc 1 0)],.cells 168 [(.sl 3 (List.map Bs b1_0)),(.sl 3 (Bd b1_1)),(Aa .i64 b1_2),(Aa .i64 b1_3),(.sl 3 (Bd b1_4)),(.mp 2),(.mp 3)],.map (Bm (Aa .i64) b2),.map (Bm (Ax 5 Ez) b3)] (Ao r) [.cells 97 [(.loc 1 0)],.cells 168 [(.sl 3 (List.map Bs b1_0)),(.sl 3 (Bd b1_1)),(Aa .i64 b1_2),(Aa .i64 b1_3),(.sl 3 (Bd b1_4)),(.mp 2),(.mp 3)],.map (Bm (Aa .i64) b2),.map (Bm (Ax 5 Ez) b3)]:=⟨fun {r} h=>by
 refine aw C0 true Tryz.func330 ?_
 refine Z ?_
 refine B5 [0,1,2,3] h (fun _ h=>?_)
 exact Y⟩
instance {a0:Ey} {b1:List (ByteArray×Int)} {b2:List (ByteArray×(List Dy))} {b0_0:List Al} {b0_1:List Ag} {b0_2 b0_3:Int} {b0_4:List Ag}:OK (Ro a0 b1 b2 b0_0 b0_1 b0_2 b0_3 b0_4) fun r=>Ck Tryz.prog 309 [(.loc 0 0),Pa a0] [.cells 168 [(.sl 3 (List.map Bs b0_0)),(.sl 3 (Bd b0_1)),(Aa .i64 b0_2),(Aa .i64 b0_3),(.sl 3 (Bd b0_4)),(.mp 1),(.mp 2)],.map (Bm (Aa .i64) b1),.map (Bm (Ax 5 Ez) b2)] (Ao r) [.cells 168 [(.sl 3 (List.map Bs b0_0)),(.sl 3 (Bd b0_1)),(Aa .i64 b0_2),(Aa .i64 b0_3),(.sl 3 (Bd b0_4)),(.mp 1),(.mp 2)],.map (Bm (Aa .i64) b1),.map (Bm (Ax 5 Ez) b2)]:=⟨fun {r} h=>by
 refine aw C0 true Tryz.func309 ?_
 refine Z ?_
 refine B5 [3,0,1,2] h (fun _ h=>?_)
 exact Y⟩
instance {a0:Cb} {b1:List (ByteArray×Int)} {b2:List (ByteArray×(List Dy))} {b0_0:List Al} {b0_1:List Ag} {b0_2 b0_3:Int} {b0_4:List Ag}:OK (Uh a0 b1 b2 b0_0 b0_1 b0_2 b0_3 b0_4) fun r=>Ck Tryz.prog 254 [(.loc 0 0),Jk a0] [.cells 168 [(.sl 3 (List.map Bs b0_0)),(.sl 3 (Bd b0_1)),(Aa .i64 b0_2),(Aa .i64 b0_3),(.sl 3 (Bd b0_4)),(.mp 1),(.mp 2)],.map (Bm (Aa .i64) b1),.map (Bm (Ax 5 Ez) b2)] (Ao r.1) [.cells 168 [(.sl 3 (List.map Bs b0_0)),(.sl 3 (Bd b0_1)),(Aa .i64 b0_2),(Aa .i64 b0_3),(.sl 3 (Bd b0_4)),(.mp 1),(.mp 2)],.map (Bm (Aa .i64) r.2),.map (Bm (Ax 5 Ez) b2)]:=⟨fun {r} h=>by
 refine aw C0 true Tryz.func254 ?_
 refine Z ?_
 refine A9 h (fun (v6,o7)=>[(4,(Ao false)),(12,(Aa .i64 v6))]) (fun (v6,o7)=>[(1,.map (Bm (Aa .i64) o7))]) ?_
 rintro ⟨v6,o7⟩ _ _ _ h _ _
 refine Z ?_
 refine Au h (fun _ h=>?_) (fun _ h=>?_)
 refine Z ?_
 refine B1 h (fun _ _ _ _ h=>?_)
 refine Z ?_
 refine B5 [0,1,2] h (fun _ h=>?_)
 refine Z ?_
 refine F2 h (fun _ h=>?_) (fun _ h=>?_)
 exact Y
 refine Z ?_
 refine B5 [0,1,2] h (fun _ h=>?_)
 exact Y
 replace h:=C3 h
 refine Z ?_
 refine A9 h (fun v18=>[(4,(Ao false)),(34,(Aa .i64 v18))]) (fun v18=>[]) ?_
 rintro v18 _ _ _ h _ _
 refine Z ?_
 refine Au h (fun _ h=>?_) (fun _ h=>?_)
 refine Z ?_
 refine B1 h (fun _ _ _ _ h=>?_)
 refine Z ?_
 refine F2 h (fun _ h=>?_) (fun _ h=>?_)
 exact Y
 refine Z ?_
 refine B5 [0,1,2] h (fun _ h=>?_)
 exact Y
 exact Y⟩
instance {a0:Cb} {b1:List (ByteArray×Int)} {b2:List (ByteArray×(List Dy))} {b0_0:List Al} {b0_1:List Ag} {b0_2 b0_3:Int} {b0_4:List Ag}:OK (Rc a0 b1 b2 b0_0 b0_1 b0_2 b0_3 b0_4) fun r=>Ck Tryz.prog 190 [(.loc 0 0),Jk a0] [.cells 168 [(.sl 3 (List.map Bs b0_0)),(.sl 3 (Bd b0_1)),(Aa .i64 b0_2),(Aa .i64 b0_3),(.sl 3 (Bd b0_4)),(.mp 1),(.mp 2)],.map (Bm (Aa .i64) b1),.map (Bm (Ax 5 Ez) b2)] (Ao r.1) [.cells 168 [(.sl 3 (List.map Bs b0_0)),(.sl 3 (Bd b0_1)),(Aa .i64 b0_2),(Aa .i64 b0_3),(.sl 3 (Bd b0_4)),(.mp 1),(.mp 2)],.map (Bm (Aa .i64) r.2),.map (Bm (Ax 5 Ez) b2)]:=⟨fun {r} h=>by
 refine aw C0 true Tryz.func190 ?_
 refine ZS ?_
 refine B9 ?_
 refine ZO ?_
 refine A6 (A6 ?_)
 refine Cd h (fun (v4,o5)=>[(18,(Ao v4))]) (fun (v4,o5)=>[(1,.map (Bm (Aa .i64) o5))]) ?_ ?_
 intro _ h _ _ _
 refine Z ?_
 refine B5 [0,1,2] h (fun _ h=>?_)
 refine Z ?_
 refine F2 h (fun _ h=>?_) (fun _ h=>?_)
 exact Y
 refine Z ?_
 refine B5 [0,1,2] h (fun _ h=>?_)
 exact Y
 rintro ⟨v4,o5⟩ _ h
 refine Au h (fun _ h=>?_) (fun _ h=>?_)
 exact Y
 refine Z ?_
 refine A9 h (fun (v9,o10)=>[(4,(Ao false)),(22,(Aa .i64 v9))]) (fun (v9,o10)=>[(1,.map (Bm (Aa .i64) o10))]) ?_
 rintro ⟨v9,o10⟩ _ _ _ h _ _
 refine Z ?_
 refine Au h (fun _ h=>?_) (fun _ h=>?_)
 refine Z ?_
 refine B1 h (fun _ _ _ _ h=>?_)
 refine Z ?_
 refine B5 [0,1,2] h (fun _ h=>?_)
 exact Y
 replace h:=C3 h
 refine Z ?_
 refine A9 h (fun v22=>[(4,(Ao false)),(54,(Aa .i64 v22))]) (fun v22=>[]) ?_
 rintro v22 _ _ _ h _ _
 refine Z ?_
 refine Au h (fun _ h=>?_) (fun _ h=>?_)
 refine Z ?_
 refine B1 h (fun _ _ _ _ h=>?_)
 refine ZO ?_
 refine A6 (A6 ?_)
 refine Cd h (fun v26=>[(74,(Ao v26))]) (fun v26=>[]) ?_ ?_
 intro _ h _ _ _
 exact Y
 rintro v26 _ h
 exact Y
 exact Y⟩
instance {a0:An}:OK (Lo a0) fun r=>Aw Tryz.prog 79 [Cg a0] (Cg r):=⟨fun {r} h=>by
 refine pw C0 Tryz.func79 ?_
 exact Y⟩
instance {a0:Fv}:OK (On a0) fun r=>Aw Tryz.prog 112 [Nc a0] ((Aa .i64) r):=⟨fun {r} h=>by
 refine pw C0 Tryz.func112 ?_
 exact Y⟩
instance {a0:An}:OK (Jg a0) fun r=>Aw Tryz.prog 67 [Cg a0] ((Aa .i64) r):=⟨fun {r} h=>by
 refine pw C0 Tryz.func67 ?_
 exact Y⟩
instance {a0 a1:List Int}:OK (K4 a0 a1) fun r=>Aw Tryz.prog 189 [(Ax 1 (Aa .u32)) a0,(Ax 1 (Aa .u32)) a1] (Ao r):=⟨fun {r} h=>by
 refine pw C0 Tryz.func189 ?_
 refine Z ?_
 refine Au h (fun _ h=>?_) (fun _ h=>?_)
 exact Y
 refine Z ?_
 refine A9 h (fun v3=>[(4,(Ao false)),(13,(Aa .i64 v3))]) (fun v3=>[]) ?_
 rintro v3 _ _ _ h _ _
 exact Y⟩
instance {a0:List A4} {b1:List (ByteArray×Int)} {b2:List (ByteArray×(List Dy))} {b0_0:List Al} {b0_1:List Ag} {b0_2 b0_3:Int} {b0_4:List Ag}:OK (Ts a0 b1 b2 b0_0 b0_1 b0_2 b0_3 b0_4) fun r=>Ck Tryz.prog 116 [(.loc 0 0),(Ax 5 Dl) a0] [.cells 168 [(.sl 3 (List.map Bs b0_0)),(.sl 3 (Bd b0_1)),(Aa .i64 b0_2),(Aa .i64 b0_3),(.sl 3 (Bd b0_4)),(.mp 1),(.mp 2)],.map (Bm (Aa .i64) b1),.map (Bm (Ax 5 Ez) b2)] (Ao r.1) [.cells 168 [(.sl 3 (List.map Bs b0_0)),(.sl 3 (Bd b0_1)),(Aa .i64 b0_2),(Aa .i64 b0_3),(.sl 3 (Bd b0_4)),(.mp 1),(.mp 2)],.map (Bm (Aa .i64) r.2),.map (Bm (Ax 5 Ez) b2)]:=⟨fun {r} h=>by
 refine aw C0 true Tryz.func116 ?_
 refine Z ?_
 refine Au h (fun _ h=>?_) (fun _ h=>?_)
 exact Y
 refine Z ?_
 refine A9 h (fun (v10,o11)=>[(4,(Ao false)),(14,(Aa .i64 v10))]) (fun (v10,o11)=>[(1,.map (Bm (Aa .i64) o11))]) ?_
 rintro ⟨v10,o11⟩ _ _ _ h _ _
 refine Z ?_
 refine Au h (fun _ h=>?_) (fun _ h=>?_)
 refine Z ?_
 refine B1 h (fun _ _ _ _ h=>?_)
 refine Z ?_
 refine Bt h (fun _ h=>?_)
 refine ZO ?_
 refine A6 ?_
 refine Cd h (fun v18=>[(8,(Ao v18))]) (fun v18=>[]) ?_ ?_
 intro _ h _ _ _
 exact Y
 rintro v18 _ h
 refine Z ?_
 refine F2 h (fun _ h=>?_) (fun _ h=>?_)
 exact Y
 refine Z ?_
 refine Bt h (fun _ h=>?_)
 refine Z ?_
 refine F2 h (fun _ h=>?_) (fun _ h=>?_)
 exact Y
 refine Z ?_
 refine B5 [0,1,2] h (fun _ h=>?_)
 exact Y
 exact Y⟩
theorem Ah6 {a0:Br} {a1:List (List A4)} {r:(Bool×Br×(List (ByteArray×Int))×(List (ByteArray×(List Dy)))×(List Al)×(List Ag)×Int×Int×(List Ag))} (h:Mr a0 a1=some (.inl r)):Ck Tryz.prog 59 [Gf a0,(Ax 1 (Ax 5 Dl)) a1] [] (.tup [.loc 3 0,Ao r.1]) [.cells 27 [(.sl 3 (List.map Bs r.2.1.Data)),(.sl 3 (Bd r.2.1.Vars)),(Aa .i64 r.2.1.Res.Kind),(Aa .i64 r.2.1.Res.Num),(.sl 3 (Bd r.2.1.Res.Args))],.map (Bm (Aa .i64) r.2.2.1),.map (Bm (Ax 5 Ez) r.2.2.2.1),.cells 168 [(.sl 3 (List.map Bs r.2.2.2.2.1)),(.sl 3 (Bd r.2.2.2.2.2.1)),(Aa .i64 r.2.2.2.2.2.2.1),(Aa .i64 r.2.2.2.2.2.2.2.1),(.sl 3 (Bd r.2.2.2.2.2.2.2.2)),(.mp 1),(.mp 2)]]:=by
 refine aw {T:=Cf,an:=(fun _=>.ask),nl:=(fun s=>bif Nat.beq s 18 then [(1,7),(2,3),(3,8)] else [])} true Tryz.func59 ?_
 refine ZS ?_
 refine B9 ?_
 refine ZO ?_
 refine A6 (A6 ?_)
 refine Cd h (fun v4=>[(29,(Ao v4))]) (fun v4=>[]) ?_ ?_
 intro _ h _ _ _
 exact Y
 rintro v4 _ h
 refine Au h (fun _ h=>?_) (fun _ h=>?_)
 exact Y
 refine Z ?_
 refine A9 h (fun v8=>[(4,(.val (.pointer none))),(5,(Ao false)),(33,(Aa .i64 v8))]) (fun v8=>[]) ?_
 rintro v8 _ _ _ h _ _
 refine Z ?_
 refine Au h (fun _ h=>?_) (fun _ h=>?_)
 exact Y
 replace h:=C3 h
 refine Z ?_
 refine A9 h (fun (v18,o19)=>[(4,(.val (.pointer none))),(5,(Ao false)),(50,(Aa .i64 v18))]) (fun (v18,o19)=>[(1,.map (Bm (Aa .i64) o19))]) ?_
 rintro ⟨v18,o19⟩ _ _ _ h _ _
 refine Z ?_
 refine Au h (fun _ h=>?_) (fun _ h=>?_)
 refine Z ?_
 refine B1 h (fun _ _ _ _ h=>?_)
 refine Z ?_
 refine B5 [3,1,2] h (fun _ h=>?_)
 exact Y
 exact Y
theorem Ah7 {a0:Br} {a1:List (List A4)} {r:Bool} (h:Mr a0 a1=some (.inr r)):Ck Tryz.prog 59 [Gf a0,(Ax 1 (Ax 5 Dl)) a1] [] (.tup [.val (.pointer none),Ao r]) []:=by
 refine aw {T:=Cf,an:=(fun _=>.ask),nl:=(fun s=>bif Nat.beq s 18 then [(1,7),(2,3),(3,8)] else [])} true Tryz.func59 ?_
 refine ZS ?_
 refine B9 ?_
 refine ZO ?_
 refine A6 (A6 ?_)
 refine Cd h (fun v4=>[(29,(Ao v4))]) (fun v4=>[]) ?_ ?_
 intro _ h _ _ _
 exact Y
 rintro v4 _ h
 refine Au h (fun _ h=>?_) (fun _ h=>?_)
 exact Y
 refine Z ?_
 refine A9 h (fun v8=>[(4,(.val (.pointer none))),(5,(Ao false)),(33,(Aa .i64 v8))]) (fun v8=>[]) ?_
 rintro v8 _ _ _ h _ _
 refine Z ?_
 refine Au h (fun _ h=>?_) (fun _ h=>?_)
 exact Y
 replace h:=C3 h
 refine Z ?_
 refine A9 h (fun (v18,o19)=>[(4,(.val (.pointer none))),(5,(Ao false)),(50,(Aa .i64 v18))]) (fun (v18,o19)=>[(1,.map (Bm (Aa .i64) o19))]) ?_
 rintro ⟨v18,o19⟩ _ _ _ h _ _
 refine Z ?_
 refine Au h (fun _ h=>?_) (fun _ h=>?_)
 refine Z ?_
 refine B1 h (fun _ _ _ _ h=>?_)
 refine Z ?_
 refine B5 [3,1,2] h (fun _ h=>?_)
 exact Y
 exact Y
instance {a0:Br} {a1:List A4}:OK (Kw a0 a1) fun r=>Aw Tryz.prog 36 [Gf a0,(Ax 5 Dl) a1] (Ao r):=⟨fun {r} h=>by
 refine pw C0 Tryz.func36 ?_
 refine Z ?_
 refine Dx h (fun v2 hcv2 h=>?_)
 rcases v2 with v3 | v8
 refine Hh.act [] _ _ _ _ (Ah6 (a0:=a0) (a1:=[a1]) hcv2) rfl rfl trivial ?_
 exact Y
 refine Hh.act [] _ _ _ _ (Ah7 (a0:=a0) (a1:=[a1]) hcv2) rfl rfl trivial ?_
 exact Y⟩
instance {a0:Br} {a1:List A4}:OK (Lm a0 a1) fun r=>Aw Tryz.prog 15 [Gf a0,(Ax 5 Dl) a1] (Ao r):=⟨fun {r} h=>by
 refine pw C0 Tryz.func15 ?_
 refine Z ?_
 refine Bt h (fun _ h=>?_)
 refine Z ?_
 refine Au h (fun _ h=>?_) (fun _ h=>?_)
 exact Y
 refine Z ?_
 refine A9 h (fun v14=>[(4,(Ao false)),(18,(Aa .i64 v14))]) (fun v14=>[]) ?_
 rintro v14 _ _ _ h _ _
 refine Z ?_
 refine Au h (fun _ h=>?_) (fun _ h=>?_)
 refine Z ?_
 refine B1 h (fun _ _ _ _ h=>?_)
 refine Z ?_
 refine Au h (fun _ h=>?_) (fun _ h=>?_)
 exact Y
 refine Z ?_
 refine A9 h (fun v20=>[(4,(Ao false)),(31,(Aa .i64 v20))]) (fun v20=>[]) ?_
 rintro v20 _ _ _ h _ _
 exact Y
 exact Y⟩
instance {a0 a1:List Int}:OK (Ty a0 a1) fun r=>Aw Tryz.prog 162 [(Ax 1 (Aa .u32)) a0,(Ax 1 (Aa .u32)) a1] ((Ax 1 (Aa .u32)) r):=⟨fun {r} h=>by
 refine pw {T:=Cf,an:=(fun _=>.ask),nl:=(fun s=>bif Nat.beq s 4 then [(0,1)] else [])} Tryz.func162 ?_
 refine ZS ?_
 refine B9 ?_
 refine ZS ?_
 refine B9 ?_
 refine ZO ?_
 refine Cd h (fun (v1,v2)=>[(0,(.sl 1 (List.map (Aa .u32) v1))),(1,(.sl 1 (List.map (Aa .u32) v2)))]) (fun (v1,v2)=>[]) ?_ ?_
 intro _ h _ _ _
 exact Y
 rintro ⟨v1,v2⟩ _ h
 refine Z ?_
 refine Gb h (fun _ h=>?_)
 refine Z ?_
 refine A9 h (fun (v20,v21,o22)=>[(5,(.arr 0 o22.length 0 o22.length)),(6,(Aa .u32 v20)),(22,(Aa .i64 v21))]) (fun (v20,v21,o22)=>[(0,.rows 129 1 (List.map (Aa .u32) o22))]) ?_
 rintro ⟨v20,v21,o22⟩ _ _ _ h _ _
 refine Z ?_
 refine Au h (fun _ h=>?_) (fun _ h=>?_)
 refine Z ?_
 refine B1 h (fun _ _ _ _ h=>?_)
 refine ZS ?_
 refine B9 ?_
 refine ZO ?_
 refine Cd h (fun v25=>[(8,(Aa .u32 v25))]) (fun v25=>[]) ?_ ?_
 intro _ h _ _ _
 exact Y
 rintro v25 _ h
 exact Y
 exact Y⟩
instance {a0 a1:List Int}:OK (Q8 a0 a1) fun r=>Aw Tryz.prog 163 [(Ax 1 (Aa .u32)) a0,(Ax 1 (Aa .u32)) a1] ((Ax 1 (Aa .u32)) r):=⟨fun {r} h=>by
 refine pw {T:=Cf,an:=(fun _=>.ask),nl:=(fun s=>bif Nat.beq s 4 then [(0,1)] else [])} Tryz.func163 ?_
 refine Z ?_
 refine Gb h (fun _ h=>?_)
 refine Z ?_
 refine A9 h (fun (v8,v9,o10)=>[(5,(.arr 0 o10.length 0 o10.length)),(6,(Aa .i64 v8)),(14,(Aa .i64 v9))]) (fun (v8,v9,o10)=>[(0,.rows 129 1 (List.map (Aa .u32) o10))]) ?_
 rintro ⟨v8,v9,o10⟩ _ _ _ h _ _
 refine Z ?_
 refine Au h (fun _ h=>?_) (fun _ h=>?_)
 refine Z ?_
 refine B1 h (fun _ _ _ _ h=>?_)
 refine ZS ?_
 refine B9 ?_
 refine ZO ?_
 refine Cd h (fun v13=>[(8,(Aa .i64 v13))]) (fun v13=>[]) ?_ ?_
 intro _ h _ _ _
 exact Y
 rintro v13 _ h
 exact Y
 replace h:=C3 h
 refine Hx (Hr rfl (A6 ?_))
 refine En [.fz 5] ?_
 exact Y⟩
instance {a0 a1:Fv}:OK (To a0 a1) fun r=>Aw Tryz.prog 99 [Nc a0,Nc a1] (Nc r):=⟨fun {r} h=>by
 refine pw C0 Tryz.func99 ?_
 exact Y⟩
instance {a0 a1:An}:OK (Gm a0 a1) fun r=>Aw Tryz.prog 46 [Cg a0,Cg a1] (Cg r):=⟨fun {r} h=>by
 refine pw C0 Tryz.func46 ?_
 exact Y⟩
instance {a0:Br} {a1:List A4} {a2:List Ew}:OK (Qm a0 a1 a2) fun r=>Aw Tryz.prog 12 [Gf a0,(Ax 5 Dl) a1,(Ax 3 Uv) a2] (.tup [Cg r.1,(Aa .i64) r.2]):=⟨fun {r} h=>by
 refine pw {T:=Cf,an:=(fun _=>.ask),nl:=(fun s=>bif Nat.beq s 112 then [(1,1),(2,1)] else bif Nat.beq s 67 then [(1,1),(2,1)] else bif Nat.beq s 47 then [(1,1),(2,1)] else bif Nat.beq s 32 then [(1,1),(2,1)] else [])} Tryz.func12 ?_
 refine Z ?_
 refine Bt h (fun _ h=>?_)
 refine Z ?_
 refine Au h (fun _ h=>?_) (fun _ h=>?_)
 exact Y
 refine Z ?_
 refine A9 h (fun v6=>[(7,(Aa .i64 0)),(35,(Aa .i64 v6))]) (fun v6=>[]) ?_
 rintro v6 _ _ _ h _ _
 refine Z ?_
 refine Au h (fun _ h=>?_) (fun _ h=>?_)
 exact Y
 replace h:=C3 h
 refine Z ?_
 refine A9 h (fun (v16,o17)=>[(7,(Aa .i64 0)),(52,(Aa .i64 v16))]) (fun (v16,o17)=>[(2,.map (Oh Ni (Aa .i64) o17))]) ?_
 rintro ⟨v16,o17⟩ _ _ _ h _ _
 refine Z ?_
 refine Au h (fun _ h=>?_) (fun _ h=>?_)
 refine Z ?_
 refine B1 h (fun _ v18 _ _ h=>?_)
 refine ZO ?_
 refine A6 (A6 ?_)
 refine Cd h (fun v20=>[(14,(Ao v20))]) (fun v20=>[]) ?_ ?_
 intro _ h _ _ _
 refine Z ?_
 refine Ag3 (eq:=Ij) (g:=Ni) (k:=(Gn.mk v18.Var v18.Con)) Acz Ac0 (f:=(Aa .i64)) (l:=o17) rfl (0:Int) rfl h (fun j_ hb h=>?_) (fun hb h=>?_)
 exact Y
 exact Y
 rintro v20 _ h
 refine Z ?_
 refine Au h (fun _ h=>?_) (fun _ h=>?_)
 exact Y
 refine Z ?_
 refine Aqc (eq:=Ij) (g:=Ni) (k:=(Gn.mk v18.Var v18.Con)) Acz Ac0 (f:=(Aa .i64)) (l:=o17) (x:=v18.N) rfl rfl rfl rfl h (fun o21 h=>?_)
 exact Y
 replace h:=C3 h
 refine Z ?_
 refine Bt h (fun _ h=>?_)
 refine Z ?_
 refine A9 h (fun (v57,v58,v59,v60)=>[(7,(Aa .i64 0)),(80,(Aa .i64 v57))]) (fun (v57,v58,v59,v60)=>[(3,.cells 41 [(Ao v58),(.sl 1 (List.map (Aa .u32) v59)),(.sl 1 (List.map (Aa .u32) v60))])]) ?_
 rintro ⟨v57,v58,v59,v60⟩ _ _ _ h _ _
 refine Z ?_
 refine Au h (fun _ h=>?_) (fun _ h=>?_)
 refine Z ?_
 refine B1 h (fun _ _ _ _ h=>?_)
 refine Z ?_
 refine A9 h (fun (v72,v73,v74,v75)=>[(7,(Aa .i64 0)),(90,(Aa .i64 v72))]) (fun (v72,v73,v74,v75)=>[(5,.cells 41 [(Ao v73),(.sl 1 (List.map (Aa .u32) v74)),(.sl 1 (List.map (Aa .u32) v75))])]) ?_
 rintro ⟨v72,v73,v74,v75⟩ _ _ _ h _ _
 refine Z ?_
 refine Au h (fun _ h=>?_) (fun _ h=>?_)
 refine Z ?_
 refine B1 h (fun _ v76 _ _ h=>?_)
 refine Z ?_
 refine Bt h (fun v78 h=>?_)
 refine ZO ?_
 refine A6 ?_
 refine Cd h (fun (v79,v80)=>[(24,(Aa .i64 v79)),(25,(Ao v80))]) (fun (v79,v80)=>[]) ?_ ?_
 intro _ h _ _ _
 refine Z ?_
 refine Ag3 (eq:=Ij) (g:=Ni) (k:=(Gn.mk v76.Var v78.1)) Acz Ac0 (f:=(Aa .i64)) (l:=o17) rfl (0:Int) rfl h (fun j_ hb h=>?_) (fun hb h=>?_)
 exact Y
 exact Y
 rintro ⟨v79,v80⟩ _ h
 exact Y
 exact Y
 exact Y⟩
abbrev Ah8 (k:Nat):Prop:=∀{a0:Av} {b3:List Av} {b4:List (List Bool)},OK (Ow k a0 b3 b4) fun r=>Ck Tryz.prog 148 [E6 a0,(.loc 0 0),(.loc 1 0),(.loc 2 0)] [.cells 29 [(.arr 3 b3.length 0 b3.length)],.cells 199 [(.arr 4 b4.length 0 b4.length)],.cells 202 [(.fn 148 [(.loc 0 0),(.loc 1 0),(.loc 2 0)])],.rows 31 3 (E5 b3),.rows 200 1 (List.map (Ax 1 Ao) b4)] (.tup []) [.cells 29 [(.arr 3 r.length 0 r.length)],.cells 199 [(.arr 4 b4.length 0 b4.length)],.cells 202 [(.fn 148 [(.loc 0 0),(.loc 1 0),(.loc 2 0)])],.rows 31 3 (E5 r),.rows 200 1 (List.map (Ax 1 Ao) b4)]
theorem Aq4 (k:Nat):Ah8 k:=by
 induction k with
 | zero=>exact okz
 | succ k ih=>
  refine @fun a0 b3 b4=>⟨fun {r} h=>?_⟩
  .unfold Ow at h
   refine aw {T:=Cf,an:=(fun _=>.ask),nl:=(fun s=>bif Nat.beq s 10 then [(1002,3)] else [])} true Tryz.func148 ?_
   refine Z ?_
   refine Acx h (fun o2 h=>?_)
   refine Z ?_
   refine Ik h (fun _ _ hiv3 _ h=>?_)
   refine Z ?_
   refine Ap3 (g:=E5) Hi (f:=E6) (x:=a0) (j:=((b3.length:Nat):Int)) (Hi _) rfl (Nat.zero_add _) hiv3 ?_
   refine Z ?_
   refine Ik h (fun _ _ _ _ h=>?_)
   refine Z ?_
   refine A9 h (fun (v13,o14)=>[(19,(Aa .i64 v13))]) (fun (v13,o14)=>[(0,.cells 29 [(.arr 3 o14.length 0 o14.length)]),(3,.rows 31 3 (E5 o14))]) ?_ (hh:=⟨⟨rfl,rfl⟩,⟨rfl,rfl⟩,⟨rfl,rfl⟩,⟨rfl,rfl⟩,⟨rfl,rfl⟩,⟨congrArg (fun q_=>Ba.cells 29 [(.arr 3 q_ 0 q_)]) (Ge (l:=o2) rfl ((b3.length:Nat):Int) a0),rfl⟩,trivial⟩)
   rintro ⟨v13,o14⟩ _ _ _ h _ _
   refine Z ?_
   refine Au h (fun _ h=>?_) (fun _ h=>?_)
   refine Z ?_
   refine B1 h (fun _ _ _ _ h=>?_)
   refine Z ?_
   refine Au h (fun _ h=>?_) (fun _ h=>?_)
   refine Z ?_
   refine B1 h (fun _ _ _ _ h=>?_)
   refine Z ?_
   refine B5 [0,1,2,3,4] h (fun _ h=>?_)
   exact Y
   exact Y
   exact Y
instance {k:Nat}:Ah8 k:=(Aq4 k)
instance {a0:List Al} {a1:Ag} {a2:Av}:OK (Qu a0 a1 a2) fun r=>Aw Tryz.prog 86 [(Ax 3 Bs) a0,Da a1,E6 a2] ((Ev 3 E5) r):=⟨fun {r} h=>by
 refine pw {T:=Cf,an:=(fun _=>.ask),nl:=(fun s=>bif Nat.beq s 21 then [(0,1)] else bif Nat.beq s 6 then [(0,3)] else [])} Tryz.func86 ?_
 refine ZS ?_
 refine B9 ?_
 refine ZS ?_
 refine B9 ?_
 refine ZO ?_
 refine A6 (A6 ?_)
 refine En [.own 7 0 200 1] ?_
 refine Z ?_
 refine B1 h (fun _ _ _ _ h=>?_)
 refine Z ?_
 refine A9 h (fun (v12,o13)=>[(18,(Aa .i64 v12))]) (fun (v12,o13)=>[(2,.cells 199 [(.arr 3 o13.length 0 o13.length)]),(3,.rows 200 1 (List.map (Ax 1 Ao) o13))]) ?_
 rintro ⟨v12,o13⟩ _ _ _ h _ _
 refine Z ?_
 refine Au h (fun _ h=>?_) (fun _ h=>?_)
 exact Y
 replace h:=C3 h
 refine ZS ?_
 refine B9 ?_
 refine ZO ?_
 refine A6 ?_
 refine En [.own 9 0 31 3] ?_
 refine Z ?_
 refine B5 [4,2,6,5,3] h (fun _ h=>?_)
 exact Y⟩
abbrev Ah9 (k:Nat):Prop:=∀{a0:Ag},OK (Ov k a0) fun r=>Aw Tryz.prog 146 [Da a0] (E7 r)
theorem Aq5 (k:Nat):Ah9 k:=by
 induction k with
 | zero=>exact okz
 | succ k ih=>
  refine @fun a0=>⟨fun {r} h=>?_⟩
  .unfold Ov at h
   refine pw {T:=Cf,an:=(fun _=>.ask),nl:=(fun s=>bif Nat.beq s 17 then [(0,2)] else [])} Tryz.func146 ?_
   refine ZS ?_
   refine B9 ?_
   refine ZS ?_
   refine B9 ?_
   refine ZO ?_
   refine A6 (A6 ?_)
   refine En [.own 3 1 86 2] ?_
   refine Z ?_
   refine Au h (fun _ h=>?_) (fun _ h=>?_)
   refine Z ?_
   refine A9 h (fun (v15,o16)=>[(12,(Aa .i64 v15))]) (fun (v15,o16)=>[(2,.cells 86 [(Aa .i64 0),(.arr 3 o16.length 0 o16.length)]),(3,.rows 86 2 (Gw o16))]) ?_
   rintro ⟨v15,o16⟩ _ _ _ h _ _
   exact Y
   exact Y
instance {k:Nat}:Ah9 k:=(Aq5 k)
instance {a0:List Al} {a1:Ag}:OK (Xm a0 a1) fun r=>Aw Tryz.prog 85 [(Ax 3 Bs) a0,Da a1] (.tup [E7 r.1,Ao r.2]):=⟨fun {r} h=>by
 refine pw {T:=Cf,an:=(fun _=>.ask),nl:=(fun s=>bif Nat.beq s 10 then [(1,2)] else [])} Tryz.func85 ?_
 exact Y⟩
abbrev Aia (k:Nat):Prop:=∀{a0:List Av} {b1:Int},OK (Tu k a0 b1) fun r=>Ck Tryz.prog 140 [(Ev 3 E5) a0,(.fn 141 [(.loc 0 0)])] [.cells 136 [(.loc 1 0)],.cells 3 [(Aa .i64 b1)]] (Ao r.1) [.cells 136 [(.loc 1 0)],.cells 3 [(Aa .i64 r.2)]]
abbrev Aib (k:Nat):Prop:=∀{a0:List Av} {b1:Int},OK (Rh k a0 b1) fun r=>Ck Tryz.prog 221 [(Ev 3 E5) a0,(.fn 141 [(.loc 0 0)])] [.cells 136 [(.loc 1 0)],.cells 3 [(Aa .i64 b1)]] ((Aa .i64) r.1) [.cells 136 [(.loc 1 0)],.cells 3 [(Aa .i64 r.2)]]
abbrev Aic (k:Nat):Prop:=∀{a0:Av} {b0:Int},OK (Kx k a0 b0) fun r=>Ck Tryz.prog 83 [E6 a0,(.loc 0 0)] [.cells 3 [(Aa .i64 b0)]] (Ao r.1) [.cells 3 [(Aa .i64 r.2)]]
abbrev Aid (k:Nat):Prop:=∀{a0:Av} {b1:Int},OK (Tv k a0 b1) fun r=>Ck Tryz.prog 141 [E6 a0,(.loc 0 0)] [.cells 136 [(.loc 1 0)],.cells 3 [(Aa .i64 b1)]] (Ao r.1) [.cells 136 [(.loc 1 0)],.cells 3 [(Aa .i64 r.2)]]
theorem Yk (k:Nat):Aia k/\Aib k/\Aic k/\Aid k:=by
 induction k with
 | zero=>exact ⟨okz,okz,okz,okz⟩
 | succ k ih=>
  obtain ⟨i0_,i1_,i2_,i3_⟩:=ih
  refine ⟨@fun a0 b1=>⟨fun {r} h=>?_⟩,@fun a0 b1=>⟨fun {r} h=>?_⟩,@fun a0 b0=>⟨fun {r} h=>?_⟩,@fun a0 b1=>⟨fun {r} h=>?_⟩⟩
  .unfold Tu at h
   refine aw C0 true Tryz.func140 ?_
   refine Z ?_
   refine B5 [0,1] h (fun _ h=>?_)
   exact Y
  .unfold Rh at h
   refine aw C0 true Tryz.func221 ?_
   refine Z ?_
   refine A9 h (fun (v3,v4)=>[(4,(Aa .i64 0)),(8,(Aa .i64 v3))]) (fun (v3,v4)=>[(1,.cells 3 [(Aa .i64 v4)])]) ?_
   rintro ⟨v3,v4⟩ _ _ _ h _ _
   refine Z ?_
   refine Au h (fun _ h=>?_) (fun _ h=>?_)
   refine Z ?_
   refine B1 h (fun _ _ _ _ h=>?_)
   refine Z ?_
   refine B5 [0,1] h (fun _ h=>?_)
   exact Y
   exact Y
  .unfold Kx at h
   refine aw C0 true Tryz.func83 ?_
   refine Z ?_
   refine Au h (fun _ h=>?_) (fun _ h=>?_)
   exact Y
   refine Z ?_
   refine B5 [2,0] h (fun _ h=>?_)
   exact Y
  .unfold Tv at h
   refine aw C0 true Tryz.func141 ?_
   refine Z ?_
   refine B5 [1] h (fun _ h=>?_)
   exact Y
instance {k:Nat}:Aia k:=(Yk k).1
instance {k:Nat}:Aib k:=(Yk k).2.1
instance {k:Nat}:Aic k:=(Yk k).2.2.1
instance {k:Nat}:Aid k:=(Yk k).2.2.2
instance {a0:List Al} {a1:Ag} {a2:Int}:OK (Xs a0 a1 a2) fun r=>Aw Tryz.prog 143 [(Ax 3 Bs) a0,Da a1,(Aa .i64) a2] (.tup [(Ev 3 Bd) r.1,Ao r.2]):=⟨fun {r} h=>by
 refine pw {T:=Cf,an:=(fun s=>bif Nat.beq s 14 then .own else .ask),nl:=(fun s=>bif Nat.beq s 14 then [(0,3)] else bif Nat.beq s 6 then [(0,3)] else [])} Tryz.func143 ?_
 refine ZS ?_
 refine B9 ?_
 refine ZO ?_
 refine A6 (A6 ?_)
 refine Cd h (fun v2=>[(31,(Ao v2))]) (fun v2=>[]) ?_ ?_
 intro _ h _ _ _
 exact Y
 rintro v2 _ h
 refine Au h (fun _ h=>?_) (fun _ h=>?_)
 exact Y
 refine Z ?_
 refine B1 h (fun _ _ _ _ h=>?_)
 refine ZO ?_
 refine A6 (A6 ?_)
 refine Cd h (fun v5=>[(53,(Ao v5))]) (fun v5=>[]) ?_ ?_
 intro _ h _ _ _
 exact Y
 rintro v5 _ h
 refine Au h (fun _ h=>?_) (fun _ h=>?_)
 exact Y
 refine Z ?_
 refine Gb h (fun o6 h=>?_)
 refine Z ?_
 refine Fy h (fun (v12,o13)=>[(61,(Aa .i64 v12))]) (fun (v12,o13)=>[(2,.rows 3 1 (List.map (Aa .i64) o13))]) (fun (v12,o13)=>o6.length=o13.length) ?_
 rintro ⟨v12,o13⟩ _ _ _ h _ _ q13
 refine Z ?_
 refine Au h (fun _ h=>?_) (fun _ h=>?_)
 exact Y
 replace h:=C3 h
 refine Z ?_
 refine B1 h (fun _ _ _ _ h=>?_)
 refine ZO ?_
 refine Oi ?_
 refine En [.fz 9] ?_
 refine Z ?_
 refine A9 h (fun v23=>[(6,(.sl 3 (Bd []))),(7,(Ao false)),(79,(Aa .i64 v23))]) (fun v23=>[]) ?_
 rintro v23 _ _ _ h _ _
 refine Z ?_
 refine Au h (fun _ h=>?_) (fun _ h=>?_)
 exact Y
 replace h:=C3 h
 refine Z ?_
 refine B1 h (fun _ _ _ _ h=>?_)
 refine Z ?_
 refine A9 h (fun (v41,o42)=>[(14,(.arr 3 o42.length 0 o42.length)),(95,(Aa .i64 v41))]) (fun (v41,o42)=>[(3,.rows 25 3 (Bd o42))]) ?_
 rintro ⟨v41,o42⟩ _ _ _ h _ _
 exact Y⟩
end Go.Ab
namespace Go.Ab
open Go Go.Proofs
set_option maxRecDepth 10000
set_option maxHeartbeats 4000000
set_option linter.unusedVariables false
abbrev Aie (k:Nat):Prop:=∀{a0:List Av} {b0:List Al} {b1:Ag},OK (Uz k a0 b0 b1) fun r=>Ck Tryz.prog 140 [(Ev 3 E5) a0,(.fn 144 [(.loc 0 0),(.loc 1 0)])] [.cells 22 [(.sl 3 (List.map Bs b0))],.cells 25 [(Aa .i64 b1.Kind),(Aa .i64 b1.Num),(.sl 3 (Bd b1.Args))]] (Ao r) [.cells 22 [(.sl 3 (List.map Bs b0))],.cells 25 [(Aa .i64 b1.Kind),(Aa .i64 b1.Num),(.sl 3 (Bd b1.Args))]]
abbrev Aif (k:Nat):Prop:=∀{a0:List Av} {a1:List Ag} {b0:List Al},OK (T9 k a0 a1 b0) fun r=>Ck Tryz.prog 222 [(Ev 3 E5) a0,(Ev 3 Bd) a1,(.fn 223 [(.loc 0 0)])] [.cells 22 [(.sl 3 (List.map Bs b0))]] (Ao r) [.cells 22 [(.sl 3 (List.map Bs b0))]]
abbrev Aig (k:Nat):Prop:=∀{a0:List Av} {b0:List Al} {b1:Ag},OK (Yd k a0 b0 b1) fun r=>Ck Tryz.prog 221 [(Ev 3 E5) a0,(.fn 144 [(.loc 0 0),(.loc 1 0)])] [.cells 22 [(.sl 3 (List.map Bs b0))],.cells 25 [(Aa .i64 b1.Kind),(Aa .i64 b1.Num),(.sl 3 (Bd b1.Args))]] ((Aa .i64) r) [.cells 22 [(.sl 3 (List.map Bs b0))],.cells 25 [(Aa .i64 b1.Kind),(Aa .i64 b1.Num),(.sl 3 (Bd b1.Args))]]
abbrev Aih (k:Nat):Prop:=∀{a0:List Al} {a1:Av} {a2:Ag},OK (Mt k a0 a1 a2) fun r=>Aw Tryz.prog 84 [(Ax 3 Bs) a0,E6 a1,Da a2] (Ao r)
abbrev Aii (k:Nat):Prop:=∀{a0:Av} {b0:List Al} {b1:Ag},OK (Q3 k a0 b0 b1) fun r=>Ck Tryz.prog 144 [E6 a0,(.loc 0 0),(.loc 1 0)] [.cells 22 [(.sl 3 (List.map Bs b0))],.cells 25 [(Aa .i64 b1.Kind),(Aa .i64 b1.Num),(.sl 3 (Bd b1.Args))]] (Ao r) [.cells 22 [(.sl 3 (List.map Bs b0))],.cells 25 [(Aa .i64 b1.Kind),(Aa .i64 b1.Num),(.sl 3 (Bd b1.Args))]]
abbrev Aij (k:Nat):Prop:=∀{a0:List Al} {a1:List Av} {a2:List Ag},OK (M0 k a0 a1 a2) fun r=>Aw Tryz.prog 142 [(Ax 3 Bs) a0,(Ev 3 E5) a1,(Ev 3 Bd) a2] (Ao r)
abbrev Aik (k:Nat):Prop:=∀{a0:Av} {a1:Ag} {b0:List Al},OK (Ri k a0 a1 b0) fun r=>Ck Tryz.prog 223 [E6 a0,Da a1,(.loc 0 0)] [.cells 22 [(.sl 3 (List.map Bs b0))]] (Ao r) [.cells 22 [(.sl 3 (List.map Bs b0))]]
theorem Pe (k:Nat):Aie k/\Aif k/\Aig k/\Aih k/\Aii k/\Aij k/\Aik k:=by
 induction k with
 | zero=>exact ⟨okz,okz,okz,okz,okz,okz,okz⟩
 | succ k ih=>
  obtain ⟨i0_,i1_,i2_,i3_,i4_,i5_,i6_⟩:=ih
  refine ⟨@fun a0 b0 b1=>⟨fun {r} h=>?_⟩,@fun a0 a1 b0=>⟨fun {r} h=>?_⟩,@fun a0 b0 b1=>⟨fun {r} h=>?_⟩,@fun a0 a1 a2=>⟨fun {r} h=>?_⟩,@fun a0 b0 b1=>⟨fun {r} h=>?_⟩,@fun a0 a1 a2=>⟨fun {r} h=>?_⟩,@fun a0 a1 b0=>⟨fun {r} h=>?_⟩⟩
  .unfold Uz at h
   refine aw C0 true Tryz.func140 ?_
   refine Z ?_
   refine B5 [0,1] h (fun _ h=>?_)
   exact Y
  .unfold T9 at h
   refine aw C0 true Tryz.func222 ?_
   refine Z ?_
   refine Au h (fun _ h=>?_) (fun _ h=>?_)
   exact Y
   refine Z ?_
   refine A9 h (fun v6=>[(6,(Ao false)),(17,(Aa .i64 v6))]) (fun v6=>[]) ?_
   rintro v6 _ _ _ h _ _
   refine Z ?_
   refine Au h (fun _ h=>?_) (fun _ h=>?_)
   refine Z ?_
   refine B1 h (fun _ _ _ _ h=>?_)
   refine Z ?_
   refine B1 h (fun _ _ _ _ h=>?_)
   refine Z ?_
   refine B5 [0] h (fun _ h=>?_)
   exact Y
   exact Y
  .unfold Yd at h
   refine aw C0 true Tryz.func221 ?_
   refine Z ?_
   refine A9 h (fun v3=>[(4,(Aa .i64 0)),(8,(Aa .i64 v3))]) (fun v3=>[]) ?_
   rintro v3 _ _ _ h _ _
   refine Z ?_
   refine Au h (fun _ h=>?_) (fun _ h=>?_)
   refine Z ?_
   refine B1 h (fun _ _ _ _ h=>?_)
   refine Z ?_
   refine B5 [0,1] h (fun _ h=>?_)
   exact Y
   exact Y
  .unfold Mt at h
   refine pw C0 Tryz.func84 ?_
   refine Z ?_
   refine Au h (fun _ h=>?_) (fun _ h=>?_)
   exact Y
   refine Z ?_
   refine Au h (fun _ h=>?_) (fun _ h=>?_)
   exact Y
   refine Z ?_
   refine Au h (fun _ h=>?_) (fun _ h=>?_)
   exact Y
   refine Z ?_
   refine Au h (fun _ h=>?_) (fun _ h=>?_)
   exact Y
   refine Z ?_
   refine Au h (fun _ h=>?_) (fun _ h=>?_)
   refine A6 (A6 ?_)
   refine Cd h (fun v5=>[(101,(Ao v5))]) (fun v5=>[]) ?_ ?_
   intro _ h _ _ _
   exact Y
   rintro v5 _ h
   exact Y
   refine Z ?_
   refine Au h (fun _ h=>?_) (fun _ h=>?_)
   refine Z ?_
   refine F2 h (fun _ h=>?_) (fun _ h=>?_)
   refine Z ?_
   refine F2 h (fun _ h=>?_) (fun _ h=>?_)
   refine Z ?_
   refine F2 h (fun _ h=>?_) (fun _ h=>?_)
   refine Z ?_
   refine B5 [0,2] h (fun _ h=>?_)
   exact Y
   exact Y
   exact Y
   exact Y
   exact Y
  .unfold Q3 at h
   refine aw C0 true Tryz.func144 ?_
   exact Y
  .unfold M0 at h
   refine pw C0 Tryz.func142 ?_
   refine Z ?_
   refine B5 [0] h (fun _ h=>?_)
   exact Y
  .unfold Ri at h
   refine aw C0 true Tryz.func223 ?_
   exact Y
instance {k:Nat}:Aie k:=(Pe k).1
instance {k:Nat}:Aif k:=(Pe k).2.1
instance {k:Nat}:Aig k:=(Pe k).2.2.1
instance {k:Nat}:Aih k:=(Pe k).2.2.2.1
instance {k:Nat}:Aii k:=(Pe k).2.2.2.2.1
instance {k:Nat}:Aij k:=(Pe k).2.2.2.2.2.1
instance {k:Nat}:Aik k:=(Pe k).2.2.2.2.2.2
instance {a0:List Al} {a1:Ag}:OK (Xl a0 a1) fun r=>Aw Tryz.prog 82 [(Ax 3 Bs) a0,Da a1] (Ao r):=⟨fun {r} h=>by
 refine pw {T:=Cf,an:=(fun _=>.ask),nl:=(fun s=>bif Nat.beq s 6 then [(1,7),(2,3),(3,8)] else [])} Tryz.func82 ?_
 exact Y⟩
instance {a0:List Al} {a1:Av} {a2:Ag}:OK (Ka a0 a1 a2) fun r=>Aw Tryz.prog 38 [(Ax 3 Bs) a0,E6 a1,Da a2] (Ao r):=⟨fun {r} h=>by
 refine pw C0 Tryz.func38 ?_
 refine Z ?_
 refine Bt h (fun _ h=>?_)
 refine Z ?_
 refine F2 h (fun _ h=>?_) (fun _ h=>?_)
 refine Z ?_
 refine B5 [2] h (fun _ h=>?_)
 exact Y
 exact Y⟩
instance {a0:List Al} {a1:Ag} {a2:Av} {a3:Int}:OK (Tg a0 a1 a2 a3) fun r=>Aw Tryz.prog 39 [(Ax 3 Bs) a0,Da a1,E6 a2,(Aa .i64) a3] (.tup [(Aa .i64) r.1,(Aa .i64) r.2]):=⟨fun {r} h=>by
 refine pw C0 Tryz.func39 ?_
 refine Z ?_
 refine Bt h (fun _ h=>?_)
 refine Z ?_
 refine Au h (fun _ h=>?_) (fun _ h=>?_)
 exact Y
 refine Ll (A6 (A6 ?_))
 refine Cd h (fun v6=>[(40,(Ao v6))]) (fun v6=>[]) ?_ ?_
 intro _ h _ _ _
 exact Y
 rintro v6 _ h
 refine Au h (fun _ h=>?_) (fun _ h=>?_)
 exact Y
 refine Z ?_
 refine Bt h (fun _ h=>?_)
 refine Z ?_
 refine Au h (fun _ h=>?_) (fun _ h=>?_)
 exact Y
 refine Z ?_
 refine Bt h (fun _ h=>?_)
 refine Z ?_
 refine A9 h (fun (v11,v12)=>[(12,(Aa .i64 v11)),(51,(Aa .i64 v12))]) (fun (v11,v12)=>[]) ?_
 rintro ⟨v11,v12⟩ _ _ _ h _ _
 exact Y⟩
instance {a0:Br} {a1:Int} {a2:Av}:OK (Td a0 a1 a2) fun r=>Aw Tryz.prog 10 [Gf a0,(Aa .i64) a1,E6 a2] (.tup [(Ax 3 Uv) r.1,(Aa .i64) r.2]):=⟨fun {r} h=>by
 refine pw {T:=Cf,an:=(fun s=>bif Nat.beq s 10 then .own else .ask),nl:=(fun s=>bif Nat.beq s 10 then [(0,3)] else bif Nat.beq s 6 then [(0,3)] else [])} Tryz.func10 ?_
 refine Z ?_
 refine Yg h (fun _ h=>?_)
 refine Z ?_
 refine Au h (fun _ h=>?_) (fun _ h=>?_)
 exact Y
 refine Z ?_
 refine Bt h (fun _ h=>?_)
 refine Z ?_
 refine Au h (fun _ h=>?_) (fun _ h=>?_)
 exact Y
 refine Z ?_
 refine Bt h (fun _ h=>?_)
 refine Z ?_
 refine Au h (fun _ h=>?_) (fun _ h=>?_)
 exact Y
 refine Z ?_
 refine Au h (fun _ h=>?_) (fun _ h=>?_)
 exact Y
 refine Z ?_
 refine Au h (fun _ h=>?_) (fun _ h=>?_)
 refine Z ?_
 refine B1 h (fun _ _ _ _ h=>?_)
 refine Z ?_
 refine A9 h (fun (v15,o16)=>[(6,(.sl 3 (List.map Uv []))),(7,(Aa .i64 0)),(10,(.arr 3 o16.length 0 o16.length)),(51,(Aa .i64 v15))]) (fun (v15,o16)=>[(3,.rows 46 3 (List.map Uv o16))]) ?_
 rintro ⟨v15,o16⟩ _ _ _ h _ _
 exact Y
 exact Y⟩
abbrev Ail (k:Nat):Prop:=∀{a0:Av} {a1:Int},OK (Ok k a0 a1) fun r=>Aw Tryz.prog 35 [E6 a0,(Aa .i64) a1] ((Aa .i64) r)
theorem Aq6 (k:Nat):Ail k:=by
 induction k with
 | zero=>exact okz
 | succ k ih=>
  refine @fun a0 a1=>⟨fun {r} h=>?_⟩
  .unfold Ok at h
   refine pw C0 Tryz.func35 ?_
   refine Z ?_
   refine A9 h (fun (v4,v5)=>[(4,(Aa .i64 0)),(5,(Aa .i64 v4)),(10,(Aa .i64 v5))]) (fun (v4,v5)=>[]) ?_
   rintro ⟨v4,v5⟩ _ _ _ h _ _
   exact Y
instance {k:Nat}:Ail k:=(Aq6 k)
instance {a0:List Av}:OK (Ql a0) fun r=>Aw Tryz.prog 9 [(Ev 3 E5) a0] (Ao r):=⟨fun {r} h=>by
 refine pw C0 Tryz.func9 ?_
 refine Z ?_
 refine A9 h (fun (v3,v4)=>[(2,(Ao false)),(3,(Aa .i64 v3)),(7,(Aa .i64 v4))]) (fun (v3,v4)=>[]) ?_
 rintro ⟨v3,v4⟩ _ _ _ h _ _
 exact Y⟩
instance {a0:Br}:OK (Tf a0) fun r=>Aw Tryz.prog 33 [Gf a0] (Ao r):=⟨fun {r} h=>by
 refine pw C0 Tryz.func33 ?_
 exact Y⟩
abbrev Aim (k:Nat):Prop:=∀{a0:A0} {a1:Int},OK (Ou k a0 a1) fun r=>Aw Tryz.prog 139 [E7 a0,(Aa .i64) a1] ((Aa .i64) r)
theorem Aq7 (k:Nat):Aim k:=by
 induction k with
 | zero=>exact okz
 | succ k ih=>
  refine @fun a0 a1=>⟨fun {r} h=>?_⟩
  .unfold Ou at h
   refine pw C0 Tryz.func139 ?_
   refine Z ?_
   refine A9 h (fun (v4,v5)=>[(4,(Aa .i64 0)),(5,(Aa .i64 v4)),(10,(Aa .i64 v5))]) (fun (v4,v5)=>[]) ?_
   rintro ⟨v4,v5⟩ _ _ _ h _ _
   exact Y
instance {k:Nat}:Aim k:=(Aq7 k)
instance {a0:Cb}:OK (Tm a0) fun r=>Aw Tryz.prog 81 [Jk a0] (Ao r):=⟨fun {r} h=>by
 refine pw C0 Tryz.func81 ?_
 refine ZS ?_
 refine B9 ?_
 refine ZO ?_
 refine A6 (A6 ?_)
 refine Cd h (fun v2=>[(14,(Ao v2))]) (fun v2=>[]) ?_ ?_
 intro _ h _ _ _
 exact Y
 rintro v2 _ h
 refine Au h (fun _ h=>?_) (fun _ h=>?_)
 exact Y
 refine Z ?_
 refine A9 h (fun v5=>[(2,(Ao false)),(18,(Aa .i64 v5))]) (fun v5=>[]) ?_
 rintro v5 _ _ _ h _ _
 refine Z ?_
 refine Au h (fun _ h=>?_) (fun _ h=>?_)
 exact Y
 replace h:=C3 h
 refine Z ?_
 refine A9 h (fun v10=>[(2,(Ao false)),(33,(Aa .i64 v10))]) (fun v10=>[]) ?_
 rintro v10 _ _ _ h _ _
 exact Y⟩
instance {a0:An}:OK (Tl a0) fun r=>Aw Tryz.prog 80 [Cg a0] (Ao r):=⟨fun {r} h=>by
 refine pw C0 Tryz.func80 ?_
 exact Y⟩
instance {a0:List A4} {a1:Int}:OK (Qo a0 a1) fun r=>Aw Tryz.prog 34 [(Ax 5 Dl) a0,(Aa .i64) a1] (Ao r):=⟨fun {r} h=>by
 refine pw C0 Tryz.func34 ?_
 refine Z ?_
 refine Au h (fun _ h=>?_) (fun _ h=>?_)
 exact Y
 refine Z ?_
 refine A9 h (fun v5=>[(4,(Ao false)),(12,(Aa .i64 v5))]) (fun v5=>[]) ?_
 rintro v5 _ _ _ h _ _
 exact Y⟩
instance {a0:Br} {a1 a2:List A4}:OK (Tc a0 a1 a2) fun r=>Aw Tryz.prog 8 [Gf a0,(Ax 5 Dl) a1,(Ax 5 Dl) a2] (Ao r):=⟨fun {r} h=>by
 refine pw C0 Tryz.func8 ?_
 exact Y⟩
instance {a0 a1:An}:OK (Xj a0 a1) fun r=>Aw Tryz.prog 57 [Cg a0,Cg a1] ((Aa .i64) r):=⟨fun {r} h=>by
 refine pw C0 Tryz.func57 ?_
 exact Y⟩
instance {a0 a1:An}:OK (Ab0 a0 a1) fun r=>Aw Tryz.prog 56 [Cg a0,Cg a1] (Cg r):=⟨fun {r} h=>by
 refine pw C0 Tryz.func56 ?_
 exact Y⟩
abbrev Ain (k:Nat):Prop:=∀{a0:A0},OK (T2 k a0) fun r=>Aw Tryz.prog 179 [E7 a0] (E7 r)
theorem Aq8 (k:Nat):Ain k:=by
 induction k with
 | zero=>exact okz
 | succ k ih=>
  refine @fun a0=>⟨fun {r} h=>?_⟩
  .unfold T2 at h
   refine pw {T:=Cf,an:=(fun _=>.ask),nl:=(fun s=>bif Nat.beq s 17 then [(0,2)] else [])} Tryz.func179 ?_
   refine ZS ?_
   refine B9 ?_
   refine ZS ?_
   refine B9 ?_
   refine ZO ?_
   refine A6 (A6 ?_)
   refine En [.own 3 1 86 2] ?_
   refine Z ?_
   refine A9 h (fun (v15,o16)=>[(12,(Aa .i64 v15))]) (fun (v15,o16)=>[(2,.cells 86 [(Aa .i64 a0.Num),(.arr 3 o16.length 0 o16.length)]),(3,.rows 86 2 (Gw o16))]) ?_
   rintro ⟨v15,o16⟩ _ _ _ h _ _
   exact Y
instance {k:Nat}:Ain k:=(Aq8 k)
instance {a0:List Es}:OK (Ab8 a0) fun r=>Aw Tryz.prog 180 [(Ax 2 G8) a0] ((Ax 2 G8) r):=⟨fun {r} h=>by
 exact Aqu h⟩
instance {a0:Cb}:OK (Xq a0) fun r=>Aw Tryz.prog 111 [Jk a0] (Jk r):=⟨fun {r} h=>by
 refine pw {T:=Cf,an:=(fun _=>.ask),nl:=(fun s=>bif Nat.beq s 44 then [(0,3)] else bif Nat.beq s 17 then [(0,3)] else [])} Tryz.func111 ?_
 refine ZS ?_
 refine B9 ?_
 refine ZS ?_
 refine B9 ?_
 refine ZO ?_
 refine A6 (A6 ?_)
 refine En [.own 3 0 88 3,.own 3 1 118 3] ?_
 refine Z ?_
 refine A9 h (fun (v16,o17)=>[(12,(Aa .i64 v16))]) (fun (v16,o17)=>[(2,.cells 63 [(.arr 3 o17.length 0 o17.length),(.arr 4 0 0 0)]),(3,.rows 88 3 (List.map Hy o17))]) ?_
 rintro ⟨v16,o17⟩ _ _ _ h _ _
 refine Z ?_
 refine Au h (fun _ h=>?_) (fun _ h=>?_)
 exact Y
 replace h:=C3 h
 refine Z ?_
 refine A9 h (fun (v35,o36)=>[(31,(Aa .i64 v35))]) (fun (v35,o36)=>[(2,.cells 63 [(.arr 3 o17.length 0 o17.length),(.arr 4 o36.length 0 o36.length)]),(4,.rows 118 3 (List.map Ih o36))]) ?_
 rintro ⟨v35,o36⟩ _ _ _ h _ _
 exact Y⟩
instance {a0:Br} {a1 a2:List A4}:OK (Abz a0 a1 a2) fun r=>Aw Tryz.prog 55 [Gf a0,(Ax 5 Dl) a1,(Ax 5 Dl) a2,(.fn 56 [])] (.tup [(Ax 5 Dl) r.1,(Aa .i64) r.2]):=⟨fun {r} h=>by
 refine pw {T:=Cf,an:=(fun s=>bif Nat.beq s 10 then .own else .ask),nl:=(fun s=>bif Nat.beq s 10 then [(0,5)] else bif Nat.beq s 8 then [(0,5)] else [])} Tryz.func55 ?_
 refine ZS ?_
 refine B9 ?_
 refine ZO ?_
 refine A6 (A6 ?_)
 refine Cd h (fun v4=>[(25,(Ao v4))]) (fun v4=>[]) ?_ ?_
 intro _ h _ _ _
 exact Y
 rintro v4 _ h
 refine Au h (fun _ h=>?_) (fun _ h=>?_)
 exact Y
 refine Z ?_
 refine A9 h (fun (v77,v78,o79)=>[(1,(.sl 5 (List.map Dl v77))),(2,(.sl 5 (List.map Dl v78))),(10,(.arr 1 o79.length 0 o79.length))]) (fun (v77,v78,o79)=>[(1,.rows 65 5 (List.map Dl o79))]) ?_
 rintro ⟨v77,v78,o79⟩ _ _ _ h _ _
 refine A6 (A6 ?_)
 refine Cd h (fun v80=>[(33,(Ao v80))]) (fun v80=>[]) ?_ ?_
 intro _ h _ _ _
 exact Y
 rintro v80 _ h
 refine Au h (fun _ h=>?_) (fun _ h=>?_)
 refine ZS ?_
 refine B9 ?_
 refine ZO ?_
 refine A6 ?_
 refine Cd h (fun v84=>[(11,(Aa .i64 v84))]) (fun v84=>[]) ?_ ?_
 intro _ h _ _ _
 exact Y
 rintro v84 _ h
 refine Z ?_
 refine Bt h (fun _ h=>?_)
 refine Z ?_
 refine Bt h (fun _ h=>?_)
 refine ZS ?_
 refine B9 ?_
 refine ZO ?_
 refine A6 (A6 ?_)
 refine En [.nil 14 0 3,.nil 14 1 3] ?_
 refine ZS ?_
 refine B9 ?_
 refine ZO ?_
 refine Cd h (fun (v93,v94,v95,v96,v97,v98)=>[(2,(.sl 5 (List.map Dl v93)))]) (fun (v93,v94,v95,v96,v97,v98)=>[(3,.cells 41 [(Ao v94),(.sl 1 (List.map (Aa .u32) v95)),(.sl 1 (List.map (Aa .u32) v96))]),(4,.cells 63 [(.sl 3 (List.map Hy v97)),(.sl 3 (List.map Ih v98))])]) ?_ ?_
 intro _ h _ _ _
 exact Y
 rintro ⟨v93,v94,v95,v96,v97,v98⟩ _ h
 refine ZS ?_
 refine B9 ?_
 refine ZO ?_
 refine Cd h (fun (v102,v103,v104,v105,v106,v107)=>[(1,(.sl 5 (List.map Dl v102)))]) (fun (v102,v103,v104,v105,v106,v107)=>[(2,.cells 41 [(Ao v103),(.sl 1 (List.map (Aa .u32) v104)),(.sl 1 (List.map (Aa .u32) v105))]),(4,.cells 63 [(.sl 3 (List.map Hy v106)),(.sl 3 (List.map Ih v107))])]) ?_ ?_
 intro _ h _ _ _
 exact Y
 rintro ⟨v102,v103,v104,v105,v106,v107⟩ _ h
 exact Y
 exact Y⟩
instance {a0:Br} {a1 a2:List A4}:OK (Abu a0 a1 a2) fun r=>Aw Tryz.prog 18 [Gf a0,(Ax 5 Dl) a1,(Ax 5 Dl) a2] (.tup [(Ax 5 Dl) r.1,(Aa .i64) r.2]):=⟨fun {r} h=>by
 refine pw {T:=Cf,an:=(fun _=>.ask),nl:=(fun s=>bif Nat.beq s 6 then [(0,5)] else [])} Tryz.func18 ?_
 exact Y⟩
instance {a0 a1:An}:OK (Ab1 a0 a1) fun r=>Aw Tryz.prog 58 [Cg a0,Cg a1] (Cg r):=⟨fun {r} h=>by
 refine pw C0 Tryz.func58 ?_
 exact Y⟩
instance {a0:Br} {a1 a2:List A4}:OK (Ahc a0 a1 a2) fun r=>Aw Tryz.prog 55 [Gf a0,(Ax 5 Dl) a1,(Ax 5 Dl) a2,(.fn 58 [])] (.tup [(Ax 5 Dl) r.1,(Aa .i64) r.2]):=⟨fun {r} h=>by
 refine pw {T:=Cf,an:=(fun s=>bif Nat.beq s 10 then .own else .ask),nl:=(fun s=>bif Nat.beq s 10 then [(0,5)] else bif Nat.beq s 8 then [(0,5)] else [])} Tryz.func55 ?_
 refine ZS ?_
 refine B9 ?_
 refine ZO ?_
 refine A6 (A6 ?_)
 refine Cd h (fun v4=>[(25,(Ao v4))]) (fun v4=>[]) ?_ ?_
 intro _ h _ _ _
 exact Y
 rintro v4 _ h
 refine Au h (fun _ h=>?_) (fun _ h=>?_)
 exact Y
 refine Z ?_
 refine A9 h (fun (v77,v78,o79)=>[(1,(.sl 5 (List.map Dl v77))),(2,(.sl 5 (List.map Dl v78))),(10,(.arr 1 o79.length 0 o79.length))]) (fun (v77,v78,o79)=>[(1,.rows 65 5 (List.map Dl o79))]) ?_
 rintro ⟨v77,v78,o79⟩ _ _ _ h _ _
 refine A6 (A6 ?_)
 refine Cd h (fun v80=>[(33,(Ao v80))]) (fun v80=>[]) ?_ ?_
 intro _ h _ _ _
 exact Y
 rintro v80 _ h
 refine Au h (fun _ h=>?_) (fun _ h=>?_)
 refine ZS ?_
 refine B9 ?_
 refine ZO ?_
 refine A6 ?_
 refine Cd h (fun v84=>[(11,(Aa .i64 v84))]) (fun v84=>[]) ?_ ?_
 intro _ h _ _ _
 exact Y
 rintro v84 _ h
 refine Z ?_
 refine Bt h (fun _ h=>?_)
 refine Z ?_
 refine Bt h (fun _ h=>?_)
 refine ZS ?_
 refine B9 ?_
 refine ZO ?_
 refine A6 (A6 ?_)
 refine En [.nil 14 0 3,.nil 14 1 3] ?_
 refine ZS ?_
 refine B9 ?_
 refine ZO ?_
 refine Cd h (fun (v93,v94,v95,v96,v97,v98)=>[(2,(.sl 5 (List.map Dl v93)))]) (fun (v93,v94,v95,v96,v97,v98)=>[(3,.cells 41 [(Ao v94),(.sl 1 (List.map (Aa .u32) v95)),(.sl 1 (List.map (Aa .u32) v96))]),(4,.cells 63 [(.sl 3 (List.map Hy v97)),(.sl 3 (List.map Ih v98))])]) ?_ ?_
 intro _ h _ _ _
 exact Y
 rintro ⟨v93,v94,v95,v96,v97,v98⟩ _ h
 refine ZS ?_
 refine B9 ?_
 refine ZO ?_
 refine Cd h (fun (v102,v103,v104,v105,v106,v107)=>[(1,(.sl 5 (List.map Dl v102)))]) (fun (v102,v103,v104,v105,v106,v107)=>[(2,.cells 41 [(Ao v103),(.sl 1 (List.map (Aa .u32) v104)),(.sl 1 (List.map (Aa .u32) v105))]),(4,.cells 63 [(.sl 3 (List.map Hy v106)),(.sl 3 (List.map Ih v107))])]) ?_ ?_
 intro _ h _ _ _
 exact Y
 rintro ⟨v102,v103,v104,v105,v106,v107⟩ _ h
 exact Y
 exact Y⟩
instance {a0:Br} {a1 a2:List A4}:OK (Abv a0 a1 a2) fun r=>Aw Tryz.prog 19 [Gf a0,(Ax 5 Dl) a1,(Ax 5 Dl) a2] (.tup [(Ax 5 Dl) r.1,(Aa .i64) r.2]):=⟨fun {r} h=>by
 refine pw {T:=Cf,an:=(fun _=>.ask),nl:=(fun s=>bif Nat.beq s 6 then [(0,5)] else [])} Tryz.func19 ?_
 exact Y⟩
instance {a0:Br} {a1:List A4} {a2 a3:Int}:OK (Abx a0 a1 a2 a3) fun r=>Aw Tryz.prog 32 [Gf a0,(Ax 5 Dl) a1,(Aa .i64) a2,(Aa .i64) a3] (.tup [(Ax 3 Cg) r.1,Ao r.2]):=⟨fun {r} h=>by
 refine pw {T:=Cf,an:=(fun s=>bif Nat.beq s 10 then .own else .ask),nl:=(fun s=>bif Nat.beq s 10 then [(0,3)] else bif Nat.beq s 8 then [(0,3)] else [])} Tryz.func32 ?_
 refine Z ?_
 refine Bt h (fun _ h=>?_)
 refine Z ?_
 refine Au h (fun _ h=>?_) (fun _ h=>?_)
 exact Y
 refine Z ?_
 refine A9 h (fun (v44,o45)=>[(8,(.sl 3 (List.map Cg []))),(9,(Ao false)),(10,(.arr 1 o45.length 0 o45.length)),(23,(Aa .i64 v44))]) (fun (v44,o45)=>[(1,.rows 41 3 (List.map Cg o45))]) ?_
 rintro ⟨v44,o45⟩ _ _ _ h _ hn1
 refine Z ?_
 refine Au h (fun _ h=>?_) (fun _ h=>?_)
 refine Z ?_
 refine B1 h (fun _ _ _ _ h=>?_)
 refine ZS ?_
 refine B9 ?_
 refine ZS ?_
 refine B9 ?_
 refine ZO ?_
 refine Yh (fun (v51:Int)=>(.inl v51)) h (fun v51=>[(8,(.sl 3 (List.map Cg []))),(9,(Ao false)),(13,(Aa .i64 v51))]) (fun v51=>[]) ?_ ?_
 intro _ h _ _ _
 exact Y
 rintro v51 _ h
 refine Z ?_
 refine A9 h (fun o57=>[(10,(.arr 1 o57.length 0 o57.length))]) (fun o57=>[(1,.rows 41 3 (List.map Cg o57))]) ?_
 rintro o57 _ _ _ h _ _
 refine Z ?_
 refine Au h (fun _ h=>?_) (fun _ h=>?_)
 exact Y
 replace h:=C3 h
 refine Z ?_
 refine Bt h (fun v61 h=>?_)
 refine Z ?_
 refine Ik h (fun _ _ hiv62 _ h=>?_)
 refine Z ?_
 refine Kv (f:=Cg) (x:=v61) (j:=v51) rfl rfl (Nat.zero_add _) hiv62 ?_
 refine Z ?_
 exact hn1 _ _ _ _ (Option.some.inj h) ⟨rfl,rfl,congrArg (fun q=>O.arr 1 q 0 q) (Ge (l:=o57) rfl v51 v61),rfl,trivial⟩ ⟨⟨rfl,rfl⟩,⟨rfl,rfl⟩,trivial⟩ trivial
 exact Y⟩
instance  : OK (Ab2) fun r=>Aw Tryz.prog 78 [] (E7 r):=⟨fun {r} h=>by
 refine pw {T:=Cf,an:=(fun _=>.ask),nl:=(fun s=>bif Nat.beq s 1 then [(1,2)] else [])} Tryz.func78 ?_
 exact Y⟩
instance {a0 a1:Int}:OK (Xe a0 a1) fun r=>Aw Tryz.prog 31 [(Aa .i64) a0,(Aa .i64) a1] (Jk r):=⟨fun {r} h=>by
 refine pw {T:=Cf,an:=(fun _=>.ask),nl:=(fun s=>bif Nat.beq s 21 then [(1,3)] else bif Nat.beq s 12 then [(0,2)] else [])} Tryz.func31 ?_
 refine ZS ?_
 refine B9 ?_
 refine ZS ?_
 refine B9 ?_
 refine ZO ?_
 refine A6 ?_
 refine En [.own 5 1 86 2] ?_
 refine Z ?_
 refine A9 h (fun (v10,o11)=>[(1,(Aa .i64 v10))]) (fun (v10,o11)=>[(1,.cells 86 [(Aa .i64 0),(.arr 2 o11.length 0 o11.length)]),(2,.rows 86 2 (Gw o11))]) ?_
 rintro ⟨v10,o11⟩ _ _ _ h _ _
 refine Z ?_
 refine Au h (fun _ h=>?_) (fun _ h=>?_)
 exact Y
 replace h:=C3 h
 refine Hx (Hr rfl (A6 ?_))
 refine En [.fzc 5 1] ?_
 exact Y⟩
instance  : OK (Abw) fun r=>Aw Tryz.prog 29 [] (Gf r):=⟨fun {r} h=>by
 refine pw {T:=Cf,an:=(fun _=>.ask),nl:=(fun s=>bif Nat.beq s 24 then [(2,3)] else bif Nat.beq s 12 then [(2,3)] else bif Nat.beq s 11 then [(2,3)] else bif Nat.beq s 10 then [(1,3)] else bif Nat.beq s 6 then [(2,3)] else [])} Tryz.func29 ?_
 exact Y⟩
instance {a0:List Int}:OK (Ie a0) fun r=>Aw Tryz.prog 166 [(Ax 1 (Aa .u32)) a0] ((Ax 1 (Aa .u32)) r):=⟨fun {r} h=>by
 refine pw {T:=Cf,an:=(fun _=>.ask),nl:=(fun s=>bif Nat.beq s 2 then [(0,1)] else [])} Tryz.func166 ?_
 refine Z ?_
 refine A9 h (fun v2=>[(3,(Aa .i64 v2))]) (fun v2=>[]) ?_
 rintro v2 _ _ _ h _ _
 exact Y⟩
instance {a0:List Int}:OK (Q2 a0) fun r=>Aw Tryz.prog 136 [(Ax 1 (Aa .u32)) a0] ((Ax 1 (Aa .u32)) r):=⟨fun {r} h=>by
 refine pw {T:=Cf,an:=(fun s=>bif Nat.beq s 3 then .own else .ask),nl:=(fun s=>bif Nat.beq s 3 then [(0,1)] else bif Nat.beq s 2 then [(0,1)] else [])} Tryz.func136 ?_
 refine Z ?_
 refine A9 h (fun (v13,v14,o15)=>[(3,(.arr 0 o15.length 0 o15.length)),(4,(Aa .u64 v13)),(5,(Aa .i64 v14))]) (fun (v13,v14,o15)=>[(0,.rows 129 1 (List.map (Aa .u32) o15))]) ?_
 rintro ⟨v13,v14,o15⟩ _ _ _ h _ _
 refine Z ?_
 refine Au h (fun _ h=>?_) (fun _ h=>?_)
 exact Y
 replace h:=C3 h
 refine Z ?_
 refine Au h (fun _ h=>?_) (fun _ h=>?_)
 refine Z ?_
 refine U2 h (fun _ h=>?_)
 refine ZO ?_
 refine A6 ?_
 refine En [.fz 3] ?_
 exact Y
 refine Ll (A6 ?_)
 refine En [.fz 3] ?_
 exact Y⟩
instance {a0 a1:List Int}:OK (T8 a0 a1) fun r=>Aw Tryz.prog 220 [(Ax 1 (Aa .u32)) a0,(Ax 1 (Aa .u32)) a1] ((Aa .u64) r):=⟨fun {r} h=>by
 refine pw C0 Tryz.func220 ?_
 exact Y⟩
instance {a0:Int}:OK (Ln a0) fun r=>Aw Tryz.prog 77 [(Aa .u64) a0] ((Ax 1 (Aa .u32)) r):=⟨fun {r} h=>by
 refine pw {T:=Cf,an:=(fun s=>bif Nat.beq s 3 then .own else .ask),nl:=(fun s=>bif Nat.beq s 3 then [(0,1)] else bif Nat.beq s 2 then [(0,1)] else [])} Tryz.func77 ?_
 refine Z ?_
 refine A9 h (fun (v10,o11)=>[(0,(Aa .u64 v10)),(3,(.arr 0 o11.length 0 o11.length))]) (fun (v10,o11)=>[(0,.rows 129 1 (List.map (Aa .u32) o11))]) ?_
 rintro ⟨v10,o11⟩ _ _ _ h _ _
 exact Y⟩
instance {a0 a1:List Int}:OK (Mw a0 a1) fun r=>Aw Tryz.prog 105 [(Ax 1 (Aa .u32)) a0,(Ax 1 (Aa .u32)) a1] ((Aa .i64) r):=⟨fun {r} h=>by
 refine pw C0 Tryz.func105 ?_
 refine Z ?_
 refine Au h (fun _ h=>?_) (fun _ h=>?_)
 exact Y
 refine Z ?_
 refine A9 h (fun v5=>[(4,(Aa .i64 0)),(5,(Aa .i64 v5))]) (fun v5=>[]) ?_
 rintro v5 _ _ _ h _ _
 exact Y⟩
instance {a0 a1:List Int}:OK (Jh a0 a1) fun r=>Aw Tryz.prog 103 [(Ax 1 (Aa .u32)) a0,(Ax 1 (Aa .u32)) a1] ((Ax 1 (Aa .u32)) r):=⟨fun {r} h=>by
 refine pw {T:=Cf,an:=(fun _=>.ask),nl:=(fun s=>bif Nat.beq s 4 then [(0,1)] else [])} Tryz.func103 ?_
 refine Z ?_
 refine Gb h (fun o1 h=>?_)
 refine Z ?_
 refine Fy h (fun (v25,o26)=>[(6,(Aa .i64 v25))]) (fun (v25,o26)=>[(0,.rows 129 1 (List.map (Aa .u32) o26))]) (fun (v25,o26)=>o1.length=o26.length) ?_
 rintro ⟨v25,o26⟩ _ _ _ h _ _ q26
 refine Z ?_
 refine Au h (fun _ h=>?_) (fun _ h=>?_)
 refine Z ?_
 refine Fy h (fun (v35,v36,o37)=>[(7,(Aa .u64 v35)),(8,(Aa .i64 v36))]) (fun (v35,v36,o37)=>[(0,.rows 129 1 (List.map (Aa .u32) o37))]) (fun (v35,v36,o37)=>o1.length=o37.length) ?_
 rintro ⟨v35,v36,o37⟩ _ _ _ h _ _ q37
 refine A6 (A6 ?_)
 refine Cd h (fun v38=>[(29,(Ao v38))]) (fun v38=>[]) ?_ ?_
 intro _ h _ _ _
 exact Y
 rintro v38 _ h
 refine Au h (fun _ h=>?_) (fun _ h=>?_)
 refine Z ?_
 refine Ik h (fun _ _ _ _ h=>?_)
 refine ZS ?_
 refine B9 ?_
 refine ZO ?_
 refine Cd h (fun v42=>[(7,(Aa .u64 v42))]) (fun v42=>[]) ?_ ?_
 intro _ h _ _ _
 exact Y
 rintro v42 _ h
 exact Y
 exact Y
 replace h:=C3 h
 refine Hx (Hr rfl (A6 ?_))
 refine En [.fz 5] ?_
 exact Y⟩
instance {a0:List Int} {a1:Int}:OK (T7 a0 a1) fun r=>Aw Tryz.prog 219 [(Ax 1 (Aa .u32)) a0,(Aa .u64) a1] (.tup [(Ax 1 (Aa .u32)) r.1,(Aa .u64) r.2]):=⟨fun {r} h=>by
 refine pw {T:=Cf,an:=(fun _=>.ask),nl:=(fun s=>bif Nat.beq s 4 then [(0,1)] else [])} Tryz.func219 ?_
 refine Z ?_
 refine Gb h (fun o1 h=>?_)
 refine Z ?_
 refine Fy h (fun (v7,v8,o9)=>[(7,(Aa .u64 v7)),(8,(Aa .i64 v8))]) (fun (v7,v8,o9)=>[(0,.rows 129 1 (List.map (Aa .u32) o9))]) (fun (v7,v8,o9)=>o1.length=o9.length) ?_
 rintro ⟨v7,v8,o9⟩ _ _ _ h _ _ q9
 refine Z ?_
 refine Au h (fun _ h=>?_) (fun _ h=>?_)
 exact Y
 replace h:=C3 h
 refine Hx (Hr rfl (A6 ?_))
 refine En [.fz 6] ?_
 exact Y⟩
instance {a0 a1:List Int}:OK (Mx a0 a1) fun r=>Aw Tryz.prog 106 [(Ax 1 (Aa .u32)) a0,(Ax 1 (Aa .u32)) a1] ((Ax 1 (Aa .u32)) r):=⟨fun {r} h=>by
 refine pw {T:=Cf,an:=(fun _=>.ask),nl:=(fun s=>bif Nat.beq s 4 then [(0,1)] else [])} Tryz.func106 ?_
 refine Z ?_
 refine Gb h (fun o1 h=>?_)
 refine Z ?_
 refine Fy h (fun (v10,v11,o12)=>[(6,(Aa .u32 v10)),(7,(Aa .i64 v11))]) (fun (v10,v11,o12)=>[(0,.rows 129 1 (List.map (Aa .u32) o12))]) (fun (v10,v11,o12)=>o1.length=o12.length) ?_
 rintro ⟨v10,v11,o12⟩ _ _ _ h _ _ q12
 refine Z ?_
 refine Au h (fun _ h=>?_) (fun _ h=>?_)
 refine ZS ?_
 refine B9 ?_
 refine ZS ?_
 refine B9 ?_
 refine ZO ?_
 refine Cd h (fun v14=>[(8,(Aa .u32 v14))]) (fun v14=>[]) ?_ ?_
 intro _ h _ _ _
 exact Y
 rintro v14 _ h
 exact Y
 replace h:=C3 h
 refine Hx (Hr rfl (A6 ?_))
 refine En [.fz 5] ?_
 exact Y⟩
instance {a0 a1:List Int}:OK (Ot a0 a1) fun r=>Aw Tryz.prog 138 [(Ax 1 (Aa .u32)) a0,(Ax 1 (Aa .u32)) a1] (.tup [(Ax 1 (Aa .u32)) r.1,(Ax 1 (Aa .u32)) r.2]):=⟨fun {r} h=>by
 refine pw {T:=Cf,an:=(fun s=>bif Nat.beq s 50 then .frz 0 else bif Nat.beq s 47 then .own else .ask),nl:=(fun s=>bif Nat.beq s 9 then [(0,1)] else bif Nat.beq s 5 then [(0,1)] else bif Nat.beq s 4 then [(0,1)] else [])} Tryz.func138 ?_
 refine Z ?_
 refine Bt h (fun _ h=>?_)
 refine Z ?_
 refine Au h (fun _ h=>?_) (fun _ h=>?_)
 exact Y
 refine Z ?_
 refine Au h (fun _ h=>?_) (fun _ h=>?_)
 exact Y
 refine Z ?_
 refine Gb h (fun o6 h=>?_)
 refine Z ?_
 refine Fy h (fun (v33,v34,o35)=>[(9,(.sl 1 (List.map (Aa .u32) v33))),(10,(Aa .i64 v34))]) (fun (v33,v34,o35)=>[(0,.rows 129 1 (List.map (Aa .u32) o35))]) (fun (v33,v34,o35)=>o6.length=o35.length) ?_
 rintro ⟨v33,v34,o35⟩ _ _ _ h _ _ q35
 refine Z ?_
 refine Au h (fun _ h=>?_) (fun _ h=>?_)
 refine Z ?_
 refine B1 h (fun _ _ _ _ h=>?_)
 refine Z ?_
 refine U2 h (fun o38 h=>?_)
 refine Z ?_
 refine Dx h (fun v39 hcv39 h=>?_)
 refine Afy.mk _ (OK.ok hcv39 :) rfl ?_
 refine Z ?_
 refine Bt h (fun _ h=>?_)
 refine Z ?_
 refine A9 h (fun v44=>[(11,(Aa .u64 v44))]) (fun v44=>[]) ?_
 rintro v44 _ _ _ h _ _
 refine Z ?_
 refine F2 h (fun _ h=>?_) (fun _ h=>?_)
 refine Z ?_
 refine Bt h (fun _ h=>?_)
 refine Z ?_
 refine Bt h (fun _ h=>?_)
 refine Z ?_
 refine Bt h (fun _ h=>?_)
 refine Z ?_
 refine Au h (fun _ h=>?_) (fun _ h=>?_)
 exact Y
 replace h:=C3 h
 refine Z ?_
 refine Bt h (fun _ h=>?_)
 refine Z ?_
 refine Bt h (fun _ h=>?_)
 refine Z ?_
 refine Bt h (fun _ h=>?_)
 refine Z ?_
 refine A9 h (fun (v54,v55)=>[(9,(.sl 1 (List.map (Aa .u32) v54))),(11,(Aa .u64 v55))]) (fun (v54,v55)=>[]) ?_
 rintro ⟨v54,v55⟩ _ _ _ h _ _
 exact Y
 replace h:=C3 h
 refine Z ?_
 refine Bt h (fun _ h=>?_)
 refine Z ?_
 refine Bt h (fun _ h=>?_)
 refine Z ?_
 refine Bt h (fun _ h=>?_)
 refine Z ?_
 refine A9 h (fun (v54,v55)=>[(9,(.sl 1 (List.map (Aa .u32) v54))),(11,(Aa .u64 v55))]) (fun (v54,v55)=>[]) ?_
 rintro ⟨v54,v55⟩ _ _ _ h _ _
 exact Y
 replace h:=C3 h
 refine Hx (Hr rfl (A6 ?_))
 refine En [.fz 8] ?_
 exact Y⟩
instance {a0 a1:List Int}:OK (Tt a0 a1) fun r=>Aw Tryz.prog 137 [(Ax 1 (Aa .u32)) a0,(Ax 1 (Aa .u32)) a1] ((Ax 1 (Aa .u32)) r):=⟨fun {r} h=>by
 refine pw {T:=Cf,an:=(fun _=>.ask),nl:=(fun s=>bif Nat.beq s 4 then [(0,1)] else [])} Tryz.func137 ?_
 refine Z ?_
 refine A9 h (fun (v2,v3)=>[(0,(.sl 1 (List.map (Aa .u32) v2))),(1,(.sl 1 (List.map (Aa .u32) v3)))]) (fun (v2,v3)=>[]) ?_
 rintro ⟨v2,v3⟩ _ _ _ h _ _
 exact Y⟩
instance {a0:Bool} {a1 a2:List Int}:OK (I0 a0 a1 a2) fun r=>Aw Tryz.prog 76 [Ao a0,(Ax 1 (Aa .u32)) a1,(Ax 1 (Aa .u32)) a2] (Cg r):=⟨fun {r} h=>by
 refine pw {T:=Cf,an:=(fun _=>.ask),nl:=(fun s=>bif Nat.beq s 21 then [(1,1)] else [])} Tryz.func76 ?_
 refine Z ?_
 refine Bt h (fun _ h=>?_)
 refine Z ?_
 refine Bt h (fun _ h=>?_)
 refine ZO ?_
 refine A6 (A6 ?_)
 refine Cd h (fun v4=>[(19,(Ao v4))]) (fun v4=>[]) ?_ ?_
 intro _ h _ _ _
 exact Y
 rintro v4 _ h
 refine Au h (fun _ h=>?_) (fun _ h=>?_)
 exact Y
 refine Z ?_
 refine Bt h (fun _ h=>?_)
 refine ZO ?_
 refine A6 (A6 ?_)
 refine Cd h (fun v7=>[(33,(Ao v7))]) (fun v7=>[]) ?_ ?_
 intro _ h _ _ _
 exact Y
 rintro v7 _ h
 exact Y⟩
instance {a0:An}:OK (K0 a0) fun r=>Aw Tryz.prog 102 [Cg a0] (Cg r):=⟨fun {r} h=>by
 refine pw C0 Tryz.func102 ?_
 exact Y⟩
instance {a0:An}:OK (Qs a0) fun r=>Aw Tryz.prog 51 [Cg a0] ((Aa .i64) r):=⟨fun {r} h=>by
 refine pw C0 Tryz.func51 ?_
 exact Y⟩
end Go.Ab
