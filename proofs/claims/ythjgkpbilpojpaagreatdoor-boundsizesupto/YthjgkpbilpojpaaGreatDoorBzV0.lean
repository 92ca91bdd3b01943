/- The contracts of the functions, each by its walk (made by a program). -/
import Derived.Test.YthjgkpbilpojpaaGreatDoorBzHand
import Derived.Test.YthjgkpbilpojpaaGreatDoorBzDef
namespace Go.Ab
open Go Go.Proofs
set_option maxRecDepth 10000
set_option maxHeartbeats 4000000
set_option linter.unusedVariables false
theorem Aqu (x0 x1 y0 y1:Int):Lk Tryz.prog 97 [.int .i64 x0,.int .i64 x1] [.int .i64 y0,.int .i64 y1] (x0==y0&&(x1==y1)):=by
 have u:Tryz.prog.underlying 97=some (.struct #[⟨ "v",3,0,false,"","amortcost/bound",0⟩,⟨ "con",3,1,false,"","amortcost/bound",8⟩]):=by kernel_rfl
 have u3:Tryz.prog.underlying 3=some (.int .i64):=by kernel_rfl
 have s:Tryz.prog.stoodInHeld 97=false:=by kernel_rfl
 have g:Tryz.prog.eqGuardType Tryz.prog.depth 97=false:=by kernel_rfl
 intro w op x y
 constructor
 .unfold eqGuard
  cases op <;> simp [program,Sem.run,g]
 .show (Op.equalIn (9999+1) 97 _ _).run _ w=_
  unfold Op.equalIn
  simp only [Sem.run_bind,run_underlying u,Result.andThen_ok]
  have hp:(program).run Tryz.prog w = .ok Tryz.prog w:=rfl
  simp only [hp,Result.andThen_ok,s]
  simp [Aek w u3,Aob w u3 9998]
  by_cases h0:x0=y0 <;> by_cases h1:x1=y1 <;> simp [*]
def M9 (a:Fs):List Value:=[.int .i64 a.v,.int .i64 a.con]
theorem Abt (a b:Fs):Lk Tryz.prog 97 (M9 a) (M9 b) (Ia a b):=Aqu a.v a.con b.v b.con
theorem Abu (a:Fs):Nt Tryz.prog 97 (M9 a):=by
 have u:Tryz.prog.underlying 97=some (.struct #[⟨ "v",3,0,false,"","amortcost/bound",0⟩,⟨ "con",3,1,false,"","amortcost/bound",8⟩]):=by kernel_rfl
 have u3:Tryz.prog.underlying 3=some (.int .i64):=by kernel_rfl
 refine ⟨⟨_,u⟩,fun w e=>?_⟩
 show (Instr.checkKey e (9999+1) 97 _).run _ w=_
 unfold Instr.checkKey
 simp only [Sem.run_bind,run_underlying u,Result.andThen_ok]
 simp [M9,Aek w u3,Apr u3]
instance {a0 a1:List Int}:OK (Mu a0 a1) fun r=>Aw Tryz.prog 87 [(As 1 (O .u32)) a0,(As 1 (O .u32)) a1] ((O .i64) r):=⟨fun {r} h=>by
 refine pw C0 Tryz.func87 ?_
 refine Z ?_
 refine An h (fun _ h=>?_) (fun _ h=>?_)
 exact Y
 refine Z ?_
 refine A5 h (fun v5=>[(4,(O .i64 0)),(5,(O .i64 v5))]) (fun v5=>[]) ?_
 rintro v5 _ _ _ h _ _
 exact Y⟩
instance {a0:List Int}:OK (H8 a0) fun r=>Aw Tryz.prog 135 [(As 1 (O .u32)) a0] ((As 1 (O .u32)) r):=⟨fun {r} h=>by
 refine pw {T:=Ce,an:=(fun _=>.ask),nl:=(fun s=>bif Nat.beq s 2 then [(0,1)] else [])} Tryz.func135 ?_
 refine Z ?_
 refine A5 h (fun v2=>[(3,(O .i64 v2))]) (fun v2=>[]) ?_
 rintro v2 _ _ _ h _ _
 exact Y⟩
instance {a0:List Int} {a1:Int}:OK (Ou a0 a1) fun r=>Aw Tryz.prog 250 [(As 1 (O .u32)) a0,(O .u64) a1] (.tup [(As 1 (O .u32)) r.1,(O .u64) r.2]):=⟨fun {r} h=>by
 refine pw {T:=Ce,an:=(fun _=>.ask),nl:=(fun s=>bif Nat.beq s 4 then [(0,1)] else [])} Tryz.func250 ?_
 refine Z ?_
 refine Ge h (fun o1 h=>?_)
 refine Z ?_
 refine Ep h (fun (v7,v8,o9)=>[(7,(O .u64 v7)),(8,(O .i64 v8))]) (fun (v7,v8,o9)=>[(0,.rows 105 1 (List.map (O .u32) o9))]) (fun (v7,v8,o9)=>o1.length=o9.length) ?_
 rintro ⟨v7,v8,o9⟩ _ _ _ h _ _ q9
 refine Z ?_
 refine An h (fun _ h=>?_) (fun _ h=>?_)
 exact Y
 replace h:=B9 h
 refine Ez (Ew rfl (Ay ?_))
 refine C4 [.fz 6] ?_
 exact Y⟩
instance {a0:Int}:OK (Lz a0) fun r=>Aw Tryz.prog 132 [(O .u64) a0] ((As 1 (O .u32)) r):=⟨fun {r} h=>by
 refine pw {T:=Ce,an:=(fun s=>bif Nat.beq s 3 then .own else .ask),nl:=(fun s=>bif Nat.beq s 3 then [(0,1)] else bif Nat.beq s 2 then [(0,1)] else [])} Tryz.func132 ?_
 refine Z ?_
 refine A5 h (fun (v10,o11)=>[(0,(O .u64 v10)),(3,(.arr 0 o11.length 0 o11.length))]) (fun (v10,o11)=>[(0,.rows 105 1 (List.map (O .u32) o11))]) ?_
 rintro ⟨v10,o11⟩ _ _ _ h _ _
 exact Y⟩
instance {a0:List Int} {a1:Int}:OK (Qz a0 a1) fun r=>Br Tryz.prog 251 [(As 1 (O .u32)) a0,(O .u64) a1] [] (.arr 0 r.length 0 r.length) [.rows 105 1 (List.map (O .u32) r)]:=⟨fun {r} h=>by
 refine aw {T:=Ce,an:=(fun _=>.ask),nl:=(fun s=>bif Nat.beq s 4 then [(0,1)] else [])} false Tryz.func251 ?_
 refine Z ?_
 refine Ge h (fun o1 h=>?_)
 refine Z ?_
 refine Ep h (fun (v7,v8,o9)=>[(6,(O .u64 v7)),(15,(O .i64 v8))]) (fun (v7,v8,o9)=>[(0,.rows 105 1 (List.map (O .u32) o9))]) (fun (v7,v8,o9)=>o1.length=o9.length) ?_
 rintro ⟨v7,v8,o9⟩ _ _ _ h _ _ q9
 refine Z ?_
 refine An h (fun _ h=>?_) (fun _ h=>?_)
 exact Y
 replace h:=B9 h
 refine Z ?_
 refine I4 h (fun _ _ hiv16 _ h=>?_)
 refine Z ?_
 refine Lp (f:=(O .u32)) (x:=(B1 v7)) (j:=(a0.length:Int)) rfl rfl (Nat.zero_add _) hiv16 ?_
 refine Z ?_
 cases h
 exact ⟨congrArg (fun q_=>AV.arr 0 q_ 0 q_) (Gd (l:=o9) q9 (a0.length:Int) (B1 v7)),rfl,trivial⟩⟩
instance {a0:List Int} {a1:Int}:OK (Abo a0 a1) fun r=>Aw Tryz.prog 251 [(As 1 (O .u32)) a0,(O .u64) a1] ((As 1 (O .u32)) r):=⟨fun {r} h=>by
 refine pw {T:=Ce,an:=(fun _=>.ask),nl:=(fun s=>bif Nat.beq s 4 then [(0,1)] else [])} Tryz.func251 ?_
 refine Z ?_
 refine Ge h (fun o1 h=>?_)
 refine Z ?_
 refine Ep h (fun (v7,v8,o9)=>[(6,(O .u64 v7)),(15,(O .i64 v8))]) (fun (v7,v8,o9)=>[(0,.rows 105 1 (List.map (O .u32) o9))]) (fun (v7,v8,o9)=>o1.length=o9.length) ?_
 rintro ⟨v7,v8,o9⟩ _ _ _ h _ _ q9
 exact Y⟩
instance {a0 a1:Nat} {a2 b0:List Int}:OK (Tv a0 a1 a2 b0) fun r=>Br Tryz.prog 252 [(.arr 0 b0.length a0 a1),(As 1 (O .u32)) a2] [.rows 105 1 (List.map (O .u32) b0)] ((O .u32) r.1) [.rows 105 1 (List.map (O .u32) r.2)]:=⟨fun {r} h=>by
 refine aw C0 true Tryz.func252 ?_
 refine Z ?_
 refine Bx h (fun _ _ _ _ h=>?_)
 refine Z ?_
 refine Bx h (fun _ _ _ _ h=>?_)
 refine Z ?_
 refine Q8 h (fun _ _ _ _ h=>?_)
 refine Z ?_
 refine Q8 h (fun _ _ _ _ h=>?_)
 refine Z ?_
 refine Sl h (fun _ h=>?_)
 refine Z ?_
 refine Sn h (fun _ h=>?_)
 refine Z ?_
 refine A5 h (fun (v9,v10)=>[(9,(O .u64 v9)),(10,(O .u64 v10))]) (fun (v9,v10)=>[]) ?_
 rintro ⟨v9,v10⟩ _ _ _ h _ _
 refine Ay (Ay ?_)
 refine Cg h (fun v12=>[(71,(Ar v12))]) (fun v12=>[]) ?_ ?_
 intro _ h _ _ _
 exact Y
 rintro v12 _ h
 refine An h (fun _ h=>?_) (fun _ h=>?_)
 exact Y
 replace h:=B9 h
 refine Z ?_
 refine Ep h (fun (v24,v25,o26)=>[(11,(O .i64 v24)),(78,(O .i64 v25))]) (fun (v24,v25,o26)=>[(0,.rows 105 1 (List.map (O .u32) o26))]) (fun (v24,v25,o26)=>b0.length=o26.length) ?_
 rintro ⟨v24,v25,o26⟩ _ _ _ h _ _ q26
 refine Z ?_
 refine An h (fun _ h=>?_) (fun _ h=>?_)
 refine Z ?_
 refine Q8 h (fun _ _ _ _ h=>?_)
 refine Z ?_
 refine Bx h (fun _ _ _ _ h=>?_)
 refine Z ?_
 refine Sn h (fun _ h=>?_)
 refine Z ?_
 refine Bx h (fun _ _ _ _ h=>?_)
 refine Z ?_
 refine Sl h (fun _ h=>?_)
 refine Z ?_
 refine A5 h (fun (v32,v33)=>[(11,(O .i64 v32)),(13,(O .i64 v33))]) (fun (v32,v33)=>[]) ?_
 rintro ⟨v32,v33⟩ _ _ _ h _ _
 exact Y
 replace h:=B9 h
 refine Z ?_
 refine Q8 h (fun _ _ _ _ h=>?_)
 refine Z ?_
 refine An h (fun _ h=>?_) (fun _ h=>?_)
 exact Y
 refine Z ?_
 refine Ep h (fun (v46,v47,o48)=>[(15,(O .u32 v46)),(136,(O .i64 v47))]) (fun (v46,v47,o48)=>[(0,.rows 105 1 (List.map (O .u32) o48))]) (fun (v46,v47,o48)=>b0.length=o48.length) ?_
 rintro ⟨v46,v47,o48⟩ _ _ _ h _ _ q48
 exact Y⟩
instance {a0 a1:List Int}:OK (Oo a0 a1) fun r=>Aw Tryz.prog 200 [(As 1 (O .u32)) a0,(As 1 (O .u32)) a1] (.tup [(As 1 (O .u32)) r.1,(As 1 (O .u32)) r.2]):=⟨fun {r} h=>by
 refine pw {T:=Ce,an:=(fun _=>.ask),nl:=(fun s=>bif Nat.beq s 5 then [(0,1)] else bif Nat.beq s 4 then [(0,1)] else [])} Tryz.func200 ?_
 refine Z ?_
 refine Bh h (fun _ h=>?_)
 refine Z ?_
 refine An h (fun _ h=>?_) (fun _ h=>?_)
 exact Y
 refine Z ?_
 refine An h (fun _ h=>?_) (fun _ h=>?_)
 exact Y
 refine Z ?_
 refine Bx h (fun _ _ _ _ h=>?_)
 refine Z ?_
 refine Sl h (fun _ h=>?_)
 refine Z ?_
 refine A9 [] h (fun v9 h=>?_)
 refine Z ?_
 refine Bh h (fun _ h=>?_)
 refine Z ?_
 refine Km h (fun v12 h=>?_)
 refine Z ?_
 refine Ge h (fun o13 h=>?_)
 refine Z ?_
 refine Ep h (fun (v19,o20,o21)=>[(13,(O .i64 v19))]) (fun (v19,o20,o21)=>[(0,.rows 105 1 (List.map (O .u32) o20)),(1,.rows 105 1 (List.map (O .u32) o21))]) (fun (v19,o20,o21)=>v9.length=o20.length/\o13.length=o21.length) ?_ (h0:=(⟨rfl,rfl⟩))
 rintro ⟨v19,o20,o21⟩ _ _ _ h _ hn1 ⟨q20,q21⟩
 refine Z ?_
 refine An h (fun _ h=>?_) (fun _ h=>?_)
 refine Z ?_
 refine Aph (f:=(O .u32)) rfl q20 h (fun v22 h=>?_)
 refine Z ?_
 refine C5 h (fun v23 hcv23 h=>?_)
 have okv23:=(OK.ok hcv23 :)
 rw [<-q20] at okv23
 refine Fy.act [0] _ _ _ _ okv23 rfl rfl ⟨rfl,trivial⟩ ?_
 refine C5 h (fun v24 hgv24 h=>?_)
 refine Z ?_
 refine I4 h (fun _ _ hiv25 _ h=>?_)
 refine Z ?_
 refine Lp (f:=(O .u32)) (x:=v23.1) (j:=v19) rfl rfl (Nat.zero_add _) hiv25 ?_
 refine Z ?_
 exact hn1 _ _ _ _ (Option.some.inj h) ⟨rfl,trivial⟩ ⟨⟨rfl,rfl⟩,⟨rfl,rfl⟩,trivial⟩ (⟨Hn hgv24,Gd (l:=o21) q21 v19 v23.1⟩)
 replace h:=B9 h
 refine Ez (Ew rfl (Ay ?_))
 refine C4 [.fz 10] ?_
 refine Z ?_
 refine Bh h (fun _ h=>?_)
 refine Z ?_
 refine Bh h (fun _ h=>?_)
 refine ZO ?_
 refine Ay ?_
 refine C4 [.fz 12] ?_
 exact Y⟩
instance {a0:List Int}:OK (Qy a0) fun r=>Aw Tryz.prog 249 [(As 1 (O .u32)) a0] (.tup [(O .u64) r.1,Ar r.2]):=⟨fun {r} h=>by
 refine pw C0 Tryz.func249 ?_
 refine Z ?_
 refine A5 h (fun (v3,v4)=>[(2,(O .u64 0)),(3,(Ar false)),(4,(O .u64 v3)),(9,(O .i64 v4))]) (fun (v3,v4)=>[]) ?_
 rintro ⟨v3,v4⟩ _ _ _ h _ _
 exact Y⟩
instance {a0 a1:List Int}:OK (Tt a0 a1) fun r=>Aw Tryz.prog 199 [(As 1 (O .u32)) a0,(As 1 (O .u32)) a1] ((As 1 (O .u32)) r):=⟨fun {r} h=>by
 refine pw {T:=Ce,an:=(fun _=>.ask),nl:=(fun s=>bif Nat.beq s 4 then [(0,1)] else [])} Tryz.func199 ?_
 refine Z ?_
 refine A5 h (fun (v12,v13)=>[(0,(.sl 1 (List.map (O .u32) v12))),(1,(.sl 1 (List.map (O .u32) v13))),(4,(.sl 1 (List.map (O .u32) [])))]) (fun (v12,v13)=>[]) ?_
 rintro ⟨v12,v13⟩ _ _ _ h _ _
 refine Z ?_
 refine An h (fun _ h=>?_) (fun _ h=>?_)
 refine Mn (Ix (Ay (Ay ?_)))
 refine Cg h (fun v14=>[(21,(Ar v14))]) (fun v14=>[]) ?_ ?_
 intro _ h _ _ _
 exact Y
 rintro v14 _ h
 refine An h (fun _ h=>?_) (fun _ h=>?_)
 refine Z ?_
 refine Bh h (fun _ h=>?_)
 refine Z ?_
 refine Bh h (fun _ h=>?_)
 refine Z ?_
 refine A5 h (fun (v18,v19)=>[(5,(O .u64 v18)),(7,(O .u64 v19))]) (fun (v18,v19)=>[]) ?_
 rintro ⟨v18,v19⟩ _ _ _ h _ _
 exact Y
 exact Y
 exact Y⟩
instance {a0:List Int}:OK (On a0) fun r=>Aw Tryz.prog 198 [(As 1 (O .u32)) a0] (Ar r):=⟨fun {r} h=>by
 refine pw C0 Tryz.func198 ?_
 exact Y⟩
instance {a0:Ft}:OK (W1 a0) fun r=>Aw Tryz.prog 133 [M3 a0] (M3 r):=⟨fun {r} h=>by
 refine pw {T:=Ce,an:=(fun _=>.ask),nl:=(fun s=>bif Nat.beq s 13 then [(1,1)] else [])} Tryz.func133 ?_
 exact Y⟩
instance {a0:Ft}:OK (Lx a0) fun r=>Aw Tryz.prog 75 [M3 a0] (B0 r):=⟨fun {r} h=>by
 refine pw C0 Tryz.func75 ?_
 exact Y⟩
instance {a0:Int}:OK (Ob a0) fun r=>Aw Tryz.prog 74 [(O .i64) a0] ((As 1 (O .u32)) r):=⟨fun {r} h=>by
 refine pw {T:=Ce,an:=(fun _=>.ask),nl:=(fun s=>bif Nat.beq s 2 then [(0,1)] else [])} Tryz.func74 ?_
 exact Y⟩
instance {a0:Int}:OK (Eo a0) fun r=>Aw Tryz.prog 28 [(O .i64) a0] (B0 r):=⟨fun {r} h=>by
 refine pw C0 Tryz.func28 ?_
 exact Y⟩
instance {a0:List Int}:OK (Qs a0) fun r=>Aw Tryz.prog 134 [(As 1 (O .u32)) a0] ((As 1 (O .u32)) r):=⟨fun {r} h=>by
 refine pw {T:=Ce,an:=(fun _=>.ask),nl:=(fun s=>bif Nat.beq s 2 then [(0,1)] else [])} Tryz.func134 ?_
 refine Z ?_
 refine Ge h (fun _ h=>?_)
 refine Z ?_
 refine A5 h (fun (v14,v15,o16)=>[(3,(.arr 0 o16.length 0 o16.length)),(4,(O .u64 v14)),(13,(O .i64 v15))]) (fun (v14,v15,o16)=>[(0,.rows 105 1 (List.map (O .u32) o16))]) ?_
 rintro ⟨v14,v15,o16⟩ _ _ _ h _ _
 refine Z ?_
 refine An h (fun _ h=>?_) (fun _ h=>?_)
 exact Y
 replace h:=B9 h
 refine Z ?_
 refine An h (fun _ h=>?_) (fun _ h=>?_)
 refine Z ?_
 refine M8 h (fun _ h=>?_)
 refine ZO ?_
 refine Ay ?_
 refine C4 [.fz 3] ?_
 exact Y
 refine Mn (Ay ?_)
 refine C4 [.fz 3] ?_
 exact Y⟩
instance {a0:Ak}:OK (Jt a0) fun r=>Aw Tryz.prog 76 [B0 a0] (M3 r):=⟨fun {r} h=>by
 refine pw {T:=Ce,an:=(fun _=>.ask),nl:=(fun s=>bif Nat.beq s 20 then [(1,1)] else [])} Tryz.func76 ?_
 refine Z ?_
 refine Bh h (fun _ h=>?_)
 refine Z ?_
 refine Bh h (fun _ h=>?_)
 refine ZO ?_
 refine Ay (Ay ?_)
 refine Cg h (fun v5=>[(18,(Ar v5))]) (fun v5=>[]) ?_ ?_
 intro _ h _ _ _
 exact Y
 rintro v5 _ h
 exact Y⟩
instance {a0 a1:List Int}:OK (Kf a0 a1) fun r=>Aw Tryz.prog 77 [(As 1 (O .u32)) a0,(As 1 (O .u32)) a1] ((As 1 (O .u32)) r):=⟨fun {r} h=>by
 refine pw {T:=Ce,an:=(fun _=>.ask),nl:=(fun s=>bif Nat.beq s 4 then [(0,1)] else [])} Tryz.func77 ?_
 refine ZS ?_
 refine Bw ?_
 refine ZO ?_
 refine Ay (Ay ?_)
 refine Cg h (fun v1=>[(17,(Ar v1))]) (fun v1=>[]) ?_ ?_
 intro _ h _ _ _
 exact Y
 rintro v1 _ h
 refine An h (fun _ h=>?_) (fun _ h=>?_)
 exact Y
 refine Z ?_
 refine Ge h (fun o2 h=>?_)
 refine Z ?_
 refine Ep h (fun (v23,o24)=>[(26,(O .i64 v23))]) (fun (v23,o24)=>[(0,.rows 105 1 (List.map (O .u32) o24))]) (fun (v23,o24)=>o2.length=o24.length) ?_
 rintro ⟨v23,o24⟩ _ _ _ h _ _ q24
 refine Z ?_
 refine An h (fun _ h=>?_) (fun _ h=>?_)
 refine Z ?_
 refine Ep h (fun (v31,v32,o33)=>[(7,(O .u64 v31)),(31,(O .i64 v32))]) (fun (v31,v32,o33)=>[(0,.rows 105 1 (List.map (O .u32) o33))]) (fun (v31,v32,o33)=>o2.length=o33.length) ?_
 rintro ⟨v31,v32,o33⟩ _ _ _ h _ _ q33
 exact Y
 replace h:=B9 h
 refine Ez (Ew rfl (Ay ?_))
 refine C4 [.fz 5] ?_
 exact Y⟩
instance {a0 a1:Ak}:OK (Gk a0 a1) fun r=>Aw Tryz.prog 31 [B0 a0,B0 a1] (B0 r):=⟨fun {r} h=>by
 refine pw C0 Tryz.func31 ?_
 exact Y⟩
instance {a0 a1:Int}:OK (Oc a0 a1) fun r=>Aw Tryz.prog 79 [(O .i64) a0,(O .i64) a1] (B0 r):=⟨fun {r} h=>by
 refine pw C0 Tryz.func79 ?_
 exact Y⟩
instance {a0 a1:Int}:OK (Ms a0 a1) fun r=>Aw Tryz.prog 33 [(O .i64) a0,(O .i64) a1] (B0 r):=⟨fun {r} h=>by
 refine pw C0 Tryz.func33 ?_
 refine Z ?_
 refine Bh h (fun _ h=>?_)
 refine Z ?_
 refine A5 h (fun (v7,v8,v9,v10)=>[(9,(O .i64 v7))]) (fun (v7,v8,v9,v10)=>[(1,.cells 34 [(Ar v8),(.sl 1 (List.map (O .u32) v9)),(.sl 1 (List.map (O .u32) v10))])]) ?_
 rintro ⟨v7,v8,v9,v10⟩ _ _ _ h _ _
 exact Y⟩
instance {a0 a1:List Int}:OK (Tg a0 a1) fun r=>Aw Tryz.prog 136 [(As 1 (O .u32)) a0,(As 1 (O .u32)) a1] ((As 1 (O .u32)) r):=⟨fun {r} h=>by
 refine pw {T:=Ce,an:=(fun _=>.ask),nl:=(fun s=>bif Nat.beq s 4 then [(0,1)] else [])} Tryz.func136 ?_
 refine ZS ?_
 refine Bw ?_
 refine ZS ?_
 refine Bw ?_
 refine ZO ?_
 refine Cg h (fun (v1,v2)=>[(0,(.sl 1 (List.map (O .u32) v1))),(1,(.sl 1 (List.map (O .u32) v2)))]) (fun (v1,v2)=>[]) ?_ ?_
 intro _ h _ _ _
 exact Y
 rintro ⟨v1,v2⟩ _ h
 refine Z ?_
 refine Ge h (fun _ h=>?_)
 refine Z ?_
 refine A5 h (fun (v20,v21,o22)=>[(5,(.arr 0 o22.length 0 o22.length)),(6,(O .u32 v20)),(22,(O .i64 v21))]) (fun (v20,v21,o22)=>[(0,.rows 105 1 (List.map (O .u32) o22))]) ?_
 rintro ⟨v20,v21,o22⟩ _ _ _ h _ _
 refine Z ?_
 refine An h (fun _ h=>?_) (fun _ h=>?_)
 refine Z ?_
 refine Bx h (fun _ _ _ _ h=>?_)
 refine ZS ?_
 refine Bw ?_
 refine ZO ?_
 refine Cg h (fun v25=>[(8,(O .u32 v25))]) (fun v25=>[]) ?_ ?_
 intro _ h _ _ _
 exact Y
 rintro v25 _ h
 exact Y
 exact Y⟩
instance {a0 a1:List Int}:OK (Qt a0 a1) fun r=>Aw Tryz.prog 137 [(As 1 (O .u32)) a0,(As 1 (O .u32)) a1] ((As 1 (O .u32)) r):=⟨fun {r} h=>by
 refine pw {T:=Ce,an:=(fun _=>.ask),nl:=(fun s=>bif Nat.beq s 4 then [(0,1)] else [])} Tryz.func137 ?_
 refine Z ?_
 refine Ge h (fun _ h=>?_)
 refine Z ?_
 refine A5 h (fun (v8,v9,o10)=>[(5,(.arr 0 o10.length 0 o10.length)),(6,(O .i64 v8)),(14,(O .i64 v9))]) (fun (v8,v9,o10)=>[(0,.rows 105 1 (List.map (O .u32) o10))]) ?_
 rintro ⟨v8,v9,o10⟩ _ _ _ h _ _
 refine Z ?_
 refine An h (fun _ h=>?_) (fun _ h=>?_)
 refine Z ?_
 refine Bx h (fun _ _ _ _ h=>?_)
 refine ZS ?_
 refine Bw ?_
 refine ZO ?_
 refine Cg h (fun v13=>[(8,(O .i64 v13))]) (fun v13=>[]) ?_ ?_
 intro _ h _ _ _
 exact Y
 rintro v13 _ h
 exact Y
 replace h:=B9 h
 refine Ez (Ew rfl (Ay ?_))
 refine C4 [.fz 5] ?_
 exact Y⟩
instance {a0 a1:Ft}:OK (Ws a0 a1) fun r=>Aw Tryz.prog 78 [M3 a0,M3 a1] (M3 r):=⟨fun {r} h=>by
 refine pw C0 Tryz.func78 ?_
 exact Y⟩
instance {a0 a1:Ak}:OK (Iz a0 a1) fun r=>Aw Tryz.prog 32 [B0 a0,B0 a1] (B0 r):=⟨fun {r} h=>by
 refine pw C0 Tryz.func32 ?_
 exact Y⟩
instance {a0:List Ak} {a1:Int}:OK (Su a0 a1) fun r=>Aw Tryz.prog 11 [(As 3 B0) a0,(O .i64) a1] (.tup [B0 r.1,Ar r.2]):=⟨fun {r} h=>by
 refine pw C0 Tryz.func11 ?_
 refine Z ?_
 refine Bh h (fun _ h=>?_)
 refine Z ?_
 refine An h (fun _ h=>?_) (fun _ h=>?_)
 exact Y
 refine Z ?_
 refine A5 h (fun (v9,v10,v11,v12)=>[(16,(O .i64 v9))]) (fun (v9,v10,v11,v12)=>[(1,.cells 34 [(Ar v10),(.sl 1 (List.map (O .u32) v11)),(.sl 1 (List.map (O .u32) v12))])]) ?_
 rintro ⟨v9,v10,v11,v12⟩ _ _ _ h _ _
 exact Y⟩
instance {a0 a1:Int}:OK (Kc a0 a1) fun r=>Aw Tryz.prog 30 [(O .i64) a0,(O .i64) a1] (.tup [B0 r.1,Ar r.2]):=⟨fun {r} h=>by
 refine pw C0 Tryz.func30 ?_
 refine ZS ?_
 refine Bw ?_
 refine ZO ?_
 refine Ay (Ay ?_)
 refine Cg h (fun v2=>[(11,(Ar v2))]) (fun v2=>[]) ?_ ?_
 intro _ h _ _ _
 exact Y
 rintro v2 _ h
 exact Y⟩
instance {a0:Cw} {a1:Int}:OK (Aa7 a0 a1) fun r=>Aw Tryz.prog 72 [H9 a0,(O .i64) a1] (.tup [Fp r.1,Ar r.2]):=⟨fun {r} h=>by
 refine pw {T:=Ce,an:=(fun _=>.ask),nl:=(fun s=>bif Nat.beq s 21 then [(2,3)] else [])} Tryz.func72 ?_
 exact Y⟩
instance {a0:List Az} {a1 a2:Int}:OK (Oq a0 a1 a2) fun r=>Aw Tryz.prog 202 [(As 3 Co) a0,(O .i64) a1,(O .i64) a2] ((As 1 Ar) r):=⟨fun {r} h=>by
 refine pw {T:=Ce,an:=(fun _=>.ask),nl:=(fun s=>bif Nat.beq s 6 then [(0,1)] else [])} Tryz.func202 ?_
 refine ZS ?_
 refine Bw ?_
 refine ZO ?_
 refine Ay (Ay ?_)
 refine Cg h (fun v2=>[(34,(Ar v2))]) (fun v2=>[]) ?_ ?_
 intro _ h _ _ _
 exact Y
 rintro v2 _ h
 refine An h (fun _ h=>?_) (fun _ h=>?_)
 exact Y
 refine Z ?_
 refine Bx h (fun _ _ _ _ h=>?_)
 refine Z ?_
 refine Bx h (fun _ _ _ _ h=>?_)
 refine Z ?_
 refine Ge h (fun o5 h=>?_)
 refine Z ?_
 refine Ep h (fun (v28,o29)=>[(49,(O .i64 v28))]) (fun (v28,o29)=>[(0,.rows 4 1 (List.map Ar o29))]) (fun (v28,o29)=>o5.length=o29.length) ?_
 rintro ⟨v28,o29⟩ _ _ _ h _ _ q29
 refine Z ?_
 refine An h (fun _ h=>?_) (fun _ h=>?_)
 refine Z ?_
 refine Bx h (fun _ v30 _ _ h=>?_)
 refine ZO ?_
 refine Ay ?_
 refine Afx h (fun o3_ h hj3=>?_)
 refine P0 (fun (o36:(List Bool))=>o36=o3_/\o5.length=o36.length) (fun o36=>[]) (fun o36=>[(0,.rows 4 1 (List.map Ar o36))]) (fun _=>rfl) ?_ ?_
 intro K3 hK3
 refine Z ?_
 refine Fq h (fun _ h=>?_) (fun _ h=>?_)
 refine Z ?_
 refine Fq h (fun _ h=>?_) (fun _ h=>?_)
 refine Z ?_
 refine Bx h (fun _ v32 _ _ h=>?_)
 refine Z ?_
 refine I4 h (fun _ _ hiv33 _ h=>?_)
 refine Z ?_
 refine Lp (f:=Ar) (x:=((v30.Args.length:Int)==v32.Vars)) (j:=v28) rfl rfl (Nat.zero_add _) hiv33 ?_
 refine Z ?_
 exact hK3 (Cl o29 v28 ((v30.Args.length:Int)==v32.Vars)) _ _ _ ⟨(Option.some.inj h),Gd (l:=o29) q29 v28 ((v30.Args.length:Int)==v32.Vars)⟩ trivial ⟨⟨rfl,rfl⟩,⟨rfl,rfl⟩,trivial⟩
 refine Z ?_
 refine I4 h (fun _ _ hiv34 _ h=>?_)
 refine Z ?_
 refine Lp (f:=Ar) (x:=false) (j:=v28) rfl rfl (Nat.zero_add _) hiv34 ?_
 refine Z ?_
 exact hK3 (Cl o29 v28 false) _ _ _ ⟨(Option.some.inj h),Gd (l:=o29) q29 v28 false⟩ trivial ⟨⟨rfl,rfl⟩,⟨rfl,rfl⟩,trivial⟩
 refine Z ?_
 refine I4 h (fun _ _ hiv35 _ h=>?_)
 refine Z ?_
 refine Lp (f:=Ar) (x:=false) (j:=v28) rfl rfl (Nat.zero_add _) hiv35 ?_
 refine Z ?_
 exact hK3 (Cl o29 v28 false) _ _ _ ⟨(Option.some.inj h),Gd (l:=o29) q29 v28 false⟩ trivial ⟨⟨rfl,rfl⟩,⟨rfl,rfl⟩,trivial⟩
 rintro o36 u3 ⟨hJ3,q36⟩
 have h:=hj3 _ hJ3
 refine Z ?_
 refine Ep h (fun (v42,o43)=>[(80,(O .i64 v42))]) (fun (v42,o43)=>[(0,.rows 4 1 (List.map Ar o43))]) (fun (v42,o43)=>o5.length=o43.length) ?_
 rintro ⟨v42,o43⟩ _ _ _ h _ _ q43
 exact Y
 exact Y⟩
abbrev Ag8 (k:Nat):Prop:=∀{a0:Aj},OK (Ov k a0) fun r=>Aw Tryz.prog 259 [Fp a0] ((O .i64) r)
theorem Aqv (k:Nat):Ag8 k:=by
 induction k with
 | zero=>exact okz
 | succ k ih=>
  refine @fun a0=>⟨fun {r} h=>?_⟩
  .unfold Ov at h
   refine pw C0 Tryz.func259 ?_
   refine Z ?_
   refine A5 h (fun (v5,v6)=>[(3,(O .i64 v5)),(9,(O .i64 v6))]) (fun (v5,v6)=>[]) ?_
   rintro ⟨v5,v6⟩ _ _ _ h _ _
   exact Y
instance {k:Nat}:Ag8 k:=(Aqv k)
abbrev Ag9 (k:Nat):Prop:=∀{a0:Aj} {a1:List Aj},OK (M1 k a0 a1) fun r=>Aw Tryz.prog 261 [Fp a0,(Hq 3 Bl) a1] (Fp r)
theorem Aqw (k:Nat):Ag9 k:=by
 induction k with
 | zero=>exact okz
 | succ k ih=>
  refine @fun a0 a1=>⟨fun {r} h=>?_⟩
  .unfold M1 at h
   refine pw {T:=Ce,an:=(fun _=>.ask),nl:=(fun s=>bif Nat.beq s 42 then [(0,3)] else [])} Tryz.func261 ?_
   refine ZS ?_
   refine Bw ?_
   refine ZO ?_
   refine Ay (Ay ?_)
   refine Cg h (fun v3=>[(22,(Ar v3))]) (fun v3=>[]) ?_ ?_
   intro _ h _ _ _
   exact Y
   rintro v3 _ h
   refine An h (fun _ h=>?_) (fun _ h=>?_)
   exact Y
   refine ZS ?_
   refine Bw ?_
   refine ZO ?_
   refine Ay (Ay ?_)
   refine C4 [.own 5 2 27 3] ?_
   refine Z ?_
   refine A5 h (fun (v18,o19)=>[(37,(O .i64 v18))]) (fun (v18,o19)=>[(2,.cells 27 [(O .i64 a0.Kind),(O .i64 a0.Num),(.arr 3 o19.length 0 o19.length)]),(3,.rows 27 3 (Bl o19))]) ?_
   rintro ⟨v18,o19⟩ _ _ _ h _ _
   exact Y
instance {k:Nat}:Ag9 k:=(Aqw k)
abbrev Aha (k:Nat):Prop:=∀{a0:Aj} {a1:List Int},OK (Ow k a0 a1) fun r=>Aw Tryz.prog 260 [Fp a0,(As 1 (O .i64)) a1] ((O .i64) r)
theorem Aqx (k:Nat):Aha k:=by
 induction k with
 | zero=>exact okz
 | succ k ih=>
  refine @fun a0 a1=>⟨fun {r} h=>?_⟩
  .unfold Ow at h
   refine pw C0 Tryz.func260 ?_
   refine ZS ?_
   refine Bw ?_
   refine ZO ?_
   refine Ay (Ay ?_)
   refine Cg h (fun v2=>[(22,(Ar v2))]) (fun v2=>[]) ?_ ?_
   intro _ h _ _ _
   exact Y
   rintro v2 _ h
   refine An h (fun _ h=>?_) (fun _ h=>?_)
   exact Y
   refine Z ?_
   refine A5 h (fun (v7,v8)=>[(5,(O .i64 v7)),(31,(O .i64 v8))]) (fun (v7,v8)=>[]) ?_
   rintro ⟨v7,v8⟩ _ _ _ h _ _
   exact Y
instance {k:Nat}:Aha k:=(Aqx k)
instance {a0:List Az} {a1:Aj} {a2:Int}:OK (Qx a0 a1 a2) fun r=>Aw Tryz.prog 216 [(As 3 Co) a0,Fp a1,(O .i64) a2] (.tup [(Hq 3 Bl) r.1,Ar r.2]):=⟨fun {r} h=>by
 refine pw {T:=Ce,an:=(fun s=>bif Nat.beq s 14 then .own else .ask),nl:=(fun s=>bif Nat.beq s 14 then [(0,3)] else bif Nat.beq s 6 then [(0,3)] else [])} Tryz.func216 ?_
 refine ZS ?_
 refine Bw ?_
 refine ZO ?_
 refine Ay (Ay ?_)
 refine Cg h (fun v2=>[(31,(Ar v2))]) (fun v2=>[]) ?_ ?_
 intro _ h _ _ _
 exact Y
 rintro v2 _ h
 refine An h (fun _ h=>?_) (fun _ h=>?_)
 exact Y
 refine Z ?_
 refine Bx h (fun _ _ _ _ h=>?_)
 refine ZO ?_
 refine Ay (Ay ?_)
 refine Cg h (fun v5=>[(53,(Ar v5))]) (fun v5=>[]) ?_ ?_
 intro _ h _ _ _
 exact Y
 rintro v5 _ h
 refine An h (fun _ h=>?_) (fun _ h=>?_)
 exact Y
 refine Z ?_
 refine Ge h (fun o6 h=>?_)
 refine Z ?_
 refine Ep h (fun (v12,o13)=>[(61,(O .i64 v12))]) (fun (v12,o13)=>[(2,.rows 3 1 (List.map (O .i64) o13))]) (fun (v12,o13)=>o6.length=o13.length) ?_
 rintro ⟨v12,o13⟩ _ _ _ h _ _ q13
 refine Z ?_
 refine An h (fun _ h=>?_) (fun _ h=>?_)
 exact Y
 replace h:=B9 h
 refine Z ?_
 refine Bx h (fun _ _ _ _ h=>?_)
 refine ZO ?_
 refine Ix ?_
 refine C4 [.fz 9] ?_
 refine Z ?_
 refine A5 h (fun v23=>[(6,(.sl 3 (Bl []))),(7,(Ar false)),(79,(O .i64 v23))]) (fun v23=>[]) ?_
 rintro v23 _ _ _ h _ _
 refine Z ?_
 refine An h (fun _ h=>?_) (fun _ h=>?_)
 exact Y
 replace h:=B9 h
 refine Z ?_
 refine Bx h (fun _ _ _ _ h=>?_)
 refine Z ?_
 refine A5 h (fun (v41,o42)=>[(14,(.arr 3 o42.length 0 o42.length)),(95,(O .i64 v41))]) (fun (v41,o42)=>[(3,.rows 27 3 (Bl o42))]) ?_
 rintro ⟨v41,o42⟩ _ _ _ h _ _
 exact Y⟩
instance {a0:List Az} {a1:Aj} {a2:Int}:OK (Abj a0 a1 a2) fun r=>Aw Tryz.prog 197 [(As 3 Co) a0,Fp a1,(O .i64) a2] (.tup [(Hq 3 Bl) r.1,Ar r.2]):=⟨fun {r} h=>by
 refine pw {T:=Ce,an:=(fun s=>bif Nat.beq s 10 then .own else .ask),nl:=(fun s=>bif Nat.beq s 10 then [(0,3)] else bif Nat.beq s 6 then [(0,3)] else [])} Tryz.func197 ?_
 refine Z ?_
 refine Bh h (fun _ h=>?_)
 refine Z ?_
 refine An h (fun _ h=>?_) (fun _ h=>?_)
 exact Y
 refine Z ?_
 refine Bh h (fun _ h=>?_)
 refine Z ?_
 refine A5 h (fun (v13,o14)=>[(10,(.arr 1 o14.length 0 o14.length)),(28,(O .i64 v13))]) (fun (v13,o14)=>[(1,.rows 27 3 (Bl o14))]) ?_
 rintro ⟨v13,o14⟩ _ _ _ h _ _
 exact Y⟩
abbrev Ahb (k:Nat):Prop:=∀{a0:List Az} {a1:Aj} {a2:Be},OK (Tf k a0 a1 a2) fun r=>Aw Tryz.prog 131 [(As 3 Co) a0,Fp a1,F7 a2] (.tup [(O .i64) r.1,Ar r.2])
abbrev Ahc (k:Nat):Prop:=∀{a0:List Az} {a1:List Aj} {a2:List Be},OK (Ts k a0 a1 a2) fun r=>Aw Tryz.prog 196 [(As 3 Co) a0,(Hq 3 Bl) a1,(Hq 2 Hr) a2] (.tup [(O .i64) r.1,Ar r.2])
theorem Ahd (k:Nat):Ahb k/\Ahc k:=by
 induction k with
 | zero=>exact ⟨okz,okz⟩
 | succ k ih=>
  obtain ⟨i0_,i1_⟩:=ih
  refine ⟨@fun a0 a1 a2=>⟨fun {r} h=>?_⟩,@fun a0 a1 a2=>⟨fun {r} h=>?_⟩⟩
  .unfold Tf at h
   refine pw C0 Tryz.func131 ?_
   refine Z ?_
   refine An h (fun _ h=>?_) (fun _ h=>?_)
   exact Y
   refine Z ?_
   refine An h (fun _ h=>?_) (fun _ h=>?_)
   exact Y
   refine Z ?_
   refine An h (fun _ h=>?_) (fun _ h=>?_)
   refine Z ?_
   refine An h (fun _ h=>?_) (fun _ h=>?_)
   exact Y
   refine Z ?_
   refine A5 h (fun (v8,v9)=>[(6,(O .i64 0)),(7,(Ar false)),(8,(O .i64 v8)),(55,(O .i64 v9))]) (fun (v8,v9)=>[]) ?_
   rintro ⟨v8,v9⟩ _ _ _ h _ _
   exact Y
   exact Y
  .unfold Ts at h
   refine pw C0 Tryz.func196 ?_
   refine Z ?_
   refine An h (fun _ h=>?_) (fun _ h=>?_)
   exact Y
   refine Z ?_
   refine A5 h (fun (v5,v6)=>[(6,(O .i64 0)),(7,(Ar false)),(8,(O .i64 v5)),(20,(O .i64 v6))]) (fun (v5,v6)=>[]) ?_
   rintro ⟨v5,v6⟩ _ _ _ h _ _
   exact Y
instance {k:Nat}:Ahb k:=(Ahd k).1
instance {k:Nat}:Ahc k:=(Ahd k).2
instance {a0:List Az}:OK (Abc a0) fun r=>Aw Tryz.prog 93 [O1 (Hs.mk a0 [] [] [])] (Ar r):=⟨fun {r} h=>by
 refine pw C0 Tryz.func93 ?_
 refine Z ?_
 refine Ge h (fun _ h=>?_)
 refine Z ?_
 refine A5 h (fun _=>[(2,(Ar false)),(20,(O .i64 0))]) (fun _=>[]) ?_
 rintro _ _ _ _ h _ _
 replace h:=B9 h
 refine Z ?_
 refine A5 h (fun _=>[(2,(Ar false)),(40,(O .i64 0))]) (fun _=>[]) ?_
 rintro _ _ _ _ h _ _
 exact Y⟩
instance {a0:List Az}:OK (Aba a0) fun r=>Aw Tryz.prog 91 [O1 (Hs.mk a0 [] [] [])] (Ar r):=⟨fun {r} h=>by
 refine pw C0 Tryz.func91 ?_
 refine Z ?_
 refine A5 h (fun _=>[(2,(Ar false)),(4,(Ar false)),(21,(O .i64 0))]) (fun _=>[]) ?_
 rintro _ _ _ _ h _ _
 exact Y⟩
instance {a0:Int}:OK (Tw a0) fun r=>Aw Tryz.prog 253 [(O .u8) a0] (Ar r):=⟨fun {r} h=>by
 refine pw C0 Tryz.func253 ?_
 exact Y⟩
instance {a0:ByteArray}:OK (T0 a0) fun r=>Aw Tryz.prog 284 [Ek a0] (Ar r):=⟨fun {r} h=>by
 refine pw C0 Tryz.func284 ?_
 exact Y⟩
instance {a0:Int}:OK (M2 a0) fun r=>Aw Tryz.prog 285 [(O .u8) a0] (Ar r):=⟨fun {r} h=>by
 refine pw C0 Tryz.func285 ?_
 exact Y⟩
instance {a0:Int}:OK (Q2 a0) fun r=>Aw Tryz.prog 280 [(O .u8) a0] (Ar r):=⟨fun {r} h=>by
 refine pw C0 Tryz.func280 ?_
 exact Y⟩
instance {a0:Int}:OK (Ox a0) fun r=>Aw Tryz.prog 281 [(O .u8) a0] (Ar r):=⟨fun {r} h=>by
 refine pw C0 Tryz.func281 ?_
 exact Y⟩
instance {a0:Int}:OK (Q3 a0) fun r=>Aw Tryz.prog 283 [(O .u8) a0] (Ar r):=⟨fun {r} h=>by
 refine pw C0 Tryz.func283 ?_
 exact Y⟩
instance {a0:ByteArray}:OK (Tz a0) fun r=>Aw Tryz.prog 282 [Ek a0,(.fn 283 [])] (Ek r):=⟨fun {r} h=>by
 refine pw C0 Tryz.func282 ?_
 refine Z ?_
 refine A5 h (fun v3=>[(5,(O .i64 v3))]) (fun v3=>[]) ?_
 rintro v3 _ _ _ h _ _
 exact Y⟩
instance {a0:ByteArray}:OK (Xd a0) fun r=>Aw Tryz.prog 282 [Ek a0,(.fn 285 [])] (Ek r):=⟨fun {r} h=>by
 refine pw C0 Tryz.func282 ?_
 refine Z ?_
 refine A5 h (fun v3=>[(5,(O .i64 v3))]) (fun v3=>[]) ?_
 rintro v3 _ _ _ h _ _
 exact Y⟩
instance {a0:ByteArray}:OK (T2 a0) fun r=>Aw Tryz.prog 287 [Ek a0] (Ek r):=⟨fun {r} h=>by
 refine pw C0 Tryz.func287 ?_
 refine ZS ?_
 refine Bw ?_
 refine ZS ?_
 refine Bw ?_
 refine ZO ?_
 refine Xl (fun (x:Unit)=>(.inr x)) h (fun _=>[(2,(Ek (ByteArray.mk #[])))]) (fun _=>[]) ?_ ?_
 intro _ h _ _ _
 exact Y
 rintro _ _ h
 exact Y⟩
instance {a0:ByteArray}:OK (T1 a0) fun r=>Aw Tryz.prog 286 [Ek a0] (Ar r):=⟨fun {r} h=>by
 refine pw C0 Tryz.func286 ?_
 refine Z ?_
 refine A5 h (fun (v2,v3)=>[(2,(Ar false)),(3,(O .i64 v2)),(7,(O .i64 v3))]) (fun (v2,v3)=>[]) ?_
 rintro ⟨v2,v3⟩ _ _ _ h _ _
 exact Y⟩
instance {a0:ByteArray} {a1:Int}:OK (Tx a0 a1) fun r=>Aw Tryz.prog 254 [Ek a0,(O .i64) a1] (.tup [Xc r.1,(O .i64) r.2]):=⟨fun {r} h=>by
 refine pw C0 Tryz.func254 ?_
 refine Z ?_
 refine So h (fun _ h=>?_)
 refine ZO ?_
 refine Ix (Ay ?_)
 refine Cg h (fun v6=>[(23,(Ar v6))]) (fun v6=>[]) ?_ ?_
 intro _ h _ _ _
 exact Y
 rintro v6 _ h
 refine An h (fun _ h=>?_) (fun _ h=>?_)
 exact Y
 refine Z ?_
 refine Bh h (fun _ h=>?_)
 refine Z ?_
 refine An h (fun _ h=>?_) (fun _ h=>?_)
 refine Z ?_
 refine Aat h (fun _ _ _ _ h=>?_)
 refine Z ?_
 refine Bh h (fun _ h=>?_)
 refine ZO ?_
 refine Ay (Ay ?_)
 refine Cg h (fun v14=>[(67,(Ar v14))]) (fun v14=>[]) ?_ ?_
 intro _ h _ _ _
 exact Y
 rintro v14 _ h
 exact Y
 exact Y⟩
instance {a0:ByteArray}:OK (W9 a0) fun r=>Aw Tryz.prog 201 [Ek a0] (.tup [(As 3 Xc) r.1,(O .i64) r.2.1,(O .i64) r.2.2]):=⟨fun {r} h=>by
 refine pw {T:=Ce,an:=(fun s=>bif Nat.beq s 5 then .own else .ask),nl:=(fun s=>bif Nat.beq s 5 then [(0,3)] else bif Nat.beq s 2 then [(0,3)] else [])} Tryz.func201 ?_
 refine Z ?_
 refine An h (fun _ h=>?_) (fun _ h=>?_)
 exact Y
 refine Z ?_
 refine A5 h (fun (v26,o27)=>[(2,(.sl 3 (List.map Xc []))),(3,(O .i64 0)),(4,(O .i64 0)),(5,(.arr 0 o27.length 0 o27.length)),(6,(O .i64 v26))]) (fun (v26,o27)=>[(0,.rows 282 3 (List.map Xc o27))]) ?_
 rintro ⟨v26,o27⟩ _ _ _ h _ _
 refine Z ?_
 refine An h (fun _ h=>?_) (fun _ h=>?_)
 refine Z ?_
 refine So h (fun _ h=>?_)
 refine Z ?_
 refine Bh h (fun _ h=>?_)
 refine Z ?_
 refine An h (fun _ h=>?_) (fun _ h=>?_)
 exact Y
 refine Z ?_
 refine So h (fun _ h=>?_)
 refine Z ?_
 refine An h (fun _ h=>?_) (fun _ h=>?_)
 refine Z ?_
 refine A5 h (fun v32=>[(6,(O .i64 v32))]) (fun v32=>[]) ?_
 rintro v32 _ _ _ h _ _
 exact Y
 exact Y
 exact Y⟩
instance {a0:ByteArray}:OK (Og a0) fun r=>Aw Tryz.prog 144 [Ek a0] (Ar r):=⟨fun {r} h=>by
 refine pw C0 Tryz.func144 ?_
 exact Y⟩
end Go.Ab
namespace Go.Ab
open Go Go.Proofs
set_option maxRecDepth 10000
set_option maxHeartbeats 4000000
set_option linter.unusedVariables false
abbrev Ahe (k:Nat):Prop:=∀{a0:Aj} {a1:Int},OK (Ot k a0 a1) fun r=>Aw Tryz.prog 203 [Fp a0,(O .i64) a1] (Ar r)
abbrev Ahf (k:Nat):Prop:=∀{a0:Aj} {b0:Int},OK (Ty k a0 b0) fun r=>Br Tryz.prog 255 [Fp a0,(.loc 0 0)] [.cells 3 [(O .i64 b0)]] (Ar r) [.cells 3 [(O .i64 b0)]]
abbrev Ahg (k:Nat):Prop:=∀{a0:List Aj} {b0:Int},OK (Q4 k a0 b0) fun r=>Br Tryz.prog 146 [(Hq 3 Bl) a0,(.fn 255 [(.loc 0 0)])] [.cells 3 [(O .i64 b0)]] (Ar r) [.cells 3 [(O .i64 b0)]]
abbrev Ahh (k:Nat):Prop:=∀{a0:List Aj} {b0:Int},OK (Xe k a0 b0) fun r=>Br Tryz.prog 204 [(Hq 3 Bl) a0,(.fn 255 [(.loc 0 0)])] [.cells 3 [(O .i64 b0)]] ((O .i64) r) [.cells 3 [(O .i64 b0)]]
theorem Xm (k:Nat):Ahe k/\Ahf k/\Ahg k/\Ahh k:=by
 induction k with
 | zero=>exact ⟨okz,okz,okz,okz⟩
 | succ k ih=>
  obtain ⟨i0_,i1_,i2_,i3_⟩:=ih
  refine ⟨@fun a0 a1=>⟨fun {r} h=>?_⟩,@fun a0 b0=>⟨fun {r} h=>?_⟩,@fun a0 b0=>⟨fun {r} h=>?_⟩,@fun a0 b0=>⟨fun {r} h=>?_⟩⟩
  .unfold Ot at h
   refine pw C0 Tryz.func203 ?_
   refine Z ?_
   refine Fq h (fun _ h=>?_) (fun _ h=>?_)
   refine Z ?_
   refine Fq h (fun _ h=>?_) (fun _ h=>?_)
   exact Y
   refine Z ?_
   refine A9 [1] h (fun _ h=>?_)
   exact Y
   refine Z ?_
   refine A9 [1] h (fun _ h=>?_)
   exact Y
  .unfold Ty at h
   refine aw C0 true Tryz.func255 ?_
   exact Y
  .unfold Q4 at h
   refine aw C0 true Tryz.func146 ?_
   refine Z ?_
   refine A9 [0] h (fun _ h=>?_)
   exact Y
  .unfold Xe at h
   refine aw C0 true Tryz.func204 ?_
   refine Z ?_
   refine A5 h (fun v3=>[(4,(O .i64 0)),(8,(O .i64 v3))]) (fun v3=>[]) ?_
   rintro v3 _ _ _ h _ _
   refine Z ?_
   refine An h (fun _ h=>?_) (fun _ h=>?_)
   refine Z ?_
   refine Bx h (fun _ _ _ _ h=>?_)
   refine Z ?_
   refine A9 [0] h (fun _ h=>?_)
   exact Y
   exact Y
instance {k:Nat}:Ahe k:=(Xm k).1
instance {k:Nat}:Ahf k:=(Xm k).2.1
instance {k:Nat}:Ahg k:=(Xm k).2.2.1
instance {k:Nat}:Ahh k:=(Xm k).2.2.2
abbrev Ahi (k:Nat):Prop:=∀{a0:List Aj} {b1:E8},OK (Q5 k a0 b1) fun r=>Br Tryz.prog 146 [(Hq 3 Bl) a0,(.fn 154 [(.loc 0 0)])] [.cells 169 [(.loc 1 0)],.cells 171 [(.sl 3 (List.map Co b1.data)),(O .i64 b1.vars),(O .i64 b1.left)]] (Ar r.1) [.cells 169 [(.loc 1 0)],.cells 171 [(.sl 3 (List.map Co r.2.data)),(O .i64 r.2.vars),(O .i64 r.2.left)]]
abbrev Ahj (k:Nat):Prop:=∀{a0:List Aj} {b1:E8},OK (T3 k a0 b1) fun r=>Br Tryz.prog 204 [(Hq 3 Bl) a0,(.fn 154 [(.loc 0 0)])] [.cells 169 [(.loc 1 0)],.cells 171 [(.sl 3 (List.map Co b1.data)),(O .i64 b1.vars),(O .i64 b1.left)]] ((O .i64) r.1) [.cells 169 [(.loc 1 0)],.cells 171 [(.sl 3 (List.map Co r.2.data)),(O .i64 r.2.vars),(O .i64 r.2.left)]]
abbrev Ahk (k:Nat):Prop:=∀{a0:Aj} {b0:E8},OK (Kg k a0 b0) fun r=>Br Tryz.prog 96 [(.loc 0 0),Fp a0] [.cells 171 [(.sl 3 (List.map Co b0.data)),(O .i64 b0.vars),(O .i64 b0.left)]] (Ar r.1) [.cells 171 [(.sl 3 (List.map Co r.2.data)),(O .i64 r.2.vars),(O .i64 r.2.left)]]
abbrev Ahl (k:Nat):Prop:=∀{a0:Aj} {b1:E8},OK (Tl k a0 b1) fun r=>Br Tryz.prog 154 [Fp a0,(.loc 0 0)] [.cells 169 [(.loc 1 0)],.cells 171 [(.sl 3 (List.map Co b1.data)),(O .i64 b1.vars),(O .i64 b1.left)]] (Ar r.1) [.cells 169 [(.loc 1 0)],.cells 171 [(.sl 3 (List.map Co r.2.data)),(O .i64 r.2.vars),(O .i64 r.2.left)]]
theorem Xn (k:Nat):Ahi k/\Ahj k/\Ahk k/\Ahl k:=by
 induction k with
 | zero=>exact ⟨okz,okz,okz,okz⟩
 | succ k ih=>
  obtain ⟨i0_,i1_,i2_,i3_⟩:=ih
  refine ⟨@fun a0 b1=>⟨fun {r} h=>?_⟩,@fun a0 b1=>⟨fun {r} h=>?_⟩,@fun a0 b0=>⟨fun {r} h=>?_⟩,@fun a0 b1=>⟨fun {r} h=>?_⟩⟩
  .unfold Q5 at h
   refine aw C0 true Tryz.func146 ?_
   refine Z ?_
   refine A9 [0,1] h (fun _ h=>?_)
   exact Y
  .unfold T3 at h
   refine aw C0 true Tryz.func204 ?_
   refine Z ?_
   refine A5 h (fun (v3,v4,v5,v6)=>[(4,(O .i64 0)),(8,(O .i64 v3))]) (fun (v3,v4,v5,v6)=>[(1,.cells 171 [(.sl 3 (List.map Co v4)),(O .i64 v5),(O .i64 v6)])]) ?_
   rintro ⟨v3,v4,v5,v6⟩ _ _ _ h _ _
   refine Z ?_
   refine An h (fun _ h=>?_) (fun _ h=>?_)
   refine Z ?_
   refine Bx h (fun _ _ _ _ h=>?_)
   refine Z ?_
   refine A9 [0,1] h (fun _ h=>?_)
   exact Y
   exact Y
  .unfold Kg at h
   refine aw C0 true Tryz.func96 ?_
   refine Z ?_
   refine An h (fun _ h=>?_) (fun _ h=>?_)
   exact Y
   refine ZS ?_
   refine Bw ?_
   refine ZS ?_
   refine Bw ?_
   refine ZO ?_
   refine Xl (fun (x:(Int×Int))=>(.inl x)) h (fun (v8,v9)=>[(4,(Ar false)),(5,(O .i64 v8)),(6,(O .i64 v9))]) (fun (v8,v9)=>[]) ?_ ?_
   intro _ h _ _ _
   refine ZS ?_
   refine Bw ?_
   refine ZO ?_
   refine Cg h (fun v3=>[(21,(Ar v3))]) (fun v3=>[]) ?_ ?_
   intro _ h _ _ _
   exact Y
   rintro v3 _ h
   refine An h (fun _ h=>?_) (fun _ h=>?_)
   exact Y
   refine Z ?_
   refine An h (fun _ h=>?_) (fun _ h=>?_)
   exact Y
   refine Z ?_
   refine An h (fun _ h=>?_) (fun _ h=>?_)
   refine Ay (Ay ?_)
   refine Cg h (fun v4=>[(53,(Ar v4))]) (fun v4=>[]) ?_ ?_
   intro _ h _ _ _
   exact Y
   rintro v4 _ h
   exact Y
   refine Z ?_
   refine An h (fun _ h=>?_) (fun _ h=>?_)
   exact Y
   refine ZS ?_
   refine Bw ?_
   refine ZO ?_
   refine Cg h (fun v7=>[(74,(Ar v7))]) (fun v7=>[]) ?_ ?_
   intro _ h _ _ _
   exact Y
   rintro v7 _ h
   exact Y
   rintro ⟨v8,v9⟩ _ h
   refine Ay (Ay ?_)
   refine Cg h (fun v10=>[(91,(Ar v10))]) (fun v10=>[]) ?_ ?_
   intro _ h _ _ _
   exact Y
   rintro v10 _ h
   refine An h (fun _ h=>?_) (fun _ h=>?_)
   exact Y
   refine Mn (Ay (Ay ?_))
   refine Cg h (fun v11=>[(103,(Ar v11))]) (fun v11=>[]) ?_ ?_
   intro _ h _ _ _
   exact Y
   rintro v11 _ h
   refine An h (fun _ h=>?_) (fun _ h=>?_)
   exact Y
   refine Z ?_
   refine A9 [1,0] h (fun _ h=>?_)
   exact Y
  .unfold Tl at h
   refine aw C0 true Tryz.func154 ?_
   refine Z ?_
   refine A9 [1] h (fun _ h=>?_)
   exact Y
instance {k:Nat}:Ahi k:=(Xn k).1
instance {k:Nat}:Ahj k:=(Xn k).2.1
instance {k:Nat}:Ahk k:=(Xn k).2.2.1
instance {k:Nat}:Ahl k:=(Xn k).2.2.2
instance {a0:List Az} {a1:Aj} {a2:Int}:OK (Lu a0 a1 a2) fun r=>Aw Tryz.prog 45 [(As 3 Co) a0,Fp a1,(O .i64) a2] (Ar r):=⟨fun {r} h=>by
 refine pw C0 Tryz.func45 ?_
 refine Z ?_
 refine A9 [1] h (fun _ h=>?_)
 exact Y⟩
instance {a0:List Az} {a1 a2:Int}:OK (M0 a0 a1 a2) fun r=>Aw Tryz.prog 145 [(As 3 Co) a0,(O .i64) a1,(O .i64) a2] (Ar r):=⟨fun {r} h=>by
 refine pw C0 Tryz.func145 ?_
 refine Z ?_
 refine Bx h (fun _ _ _ _ h=>?_)
 refine Z ?_
 refine Bx h (fun _ _ _ _ h=>?_)
 refine Z ?_
 refine An h (fun _ h=>?_) (fun _ h=>?_)
 exact Y
 refine Z ?_
 refine Bh h (fun _ h=>?_)
 refine Z ?_
 refine A5 h (fun v11=>[(6,(Ar false)),(29,(O .i64 v11))]) (fun v11=>[]) ?_
 rintro v11 _ _ _ h _ _
 exact Y⟩
instance {a0:List Az}:OK (S4 a0) fun r=>Aw Tryz.prog 89 [(As 3 Co) a0] (Ar r):=⟨fun {r} h=>by
 refine pw C0 Tryz.func89 ?_
 refine Z ?_
 refine An h (fun _ h=>?_) (fun _ h=>?_)
 exact Y
 refine Z ?_
 refine A5 h (fun (v31,o32,o33)=>[(2,(Ar false)),(15,(O .i64 v31))]) (fun (v31,o32,o33)=>[(0,.map (Bd Ar o32)),(1,.map (Bd Ar o33))]) ?_
 rintro ⟨v31,o32,o33⟩ _ _ _ h _ _
 refine Z ?_
 refine An h (fun _ h=>?_) (fun _ h=>?_)
 refine ZS ?_
 refine Bw ?_
 refine ZO ?_
 refine Ay (Ay ?_)
 refine Cg h (fun v41=>[(49,(Ar v41))]) (fun v41=>[]) ?_ ?_
 intro _ h _ _ _
 refine Z ?_
 refine Bx h (fun _ _ _ _ h=>?_)
 refine Z ?_
 refine Bh h (fun _ h=>?_)
 refine Z ?_
 refine Fq h (fun _ h=>?_) (fun _ h=>?_)
 exact Y
 refine Z ?_
 refine Bx h (fun _ _ _ _ h=>?_)
 refine Z ?_
 refine Pz (f:=Ar) (l:=o32) rfl (false:Bool) h (fun j_ hb h=>?_) (fun hb h=>?_)
 exact Y
 exact Y
 rintro v41 _ h
 refine An h (fun _ h=>?_) (fun _ h=>?_)
 exact Y
 refine Z ?_
 refine Bx h (fun _ _ _ _ h=>?_)
 refine Z ?_
 refine N6 (f:=Ar) (l:=o32) (x:=true) rfl rfl ?_
 refine ZO ?_
 refine Ay (Ay ?_)
 refine Cg h (fun v45=>[(71,(Ar v45))]) (fun v45=>[]) ?_ ?_
 intro _ h _ _ _
 exact Y
 rintro v45 _ h
 refine An h (fun _ h=>?_) (fun _ h=>?_)
 exact Y
 refine Z ?_
 refine Bx h (fun _ _ _ _ h=>?_)
 refine Z ?_
 refine A5 h (fun (v52,o53)=>[(2,(Ar false)),(78,(O .i64 v52))]) (fun (v52,o53)=>[(1,.map (Bd Ar o53))]) ?_
 rintro ⟨v52,o53⟩ _ _ _ h _ _
 refine Z ?_
 refine An h (fun _ h=>?_) (fun _ h=>?_)
 refine Z ?_
 refine Bx h (fun _ _ _ _ h=>?_)
 refine Z ?_
 refine Bh h (fun _ h=>?_)
 refine Z ?_
 refine Fq h (fun _ h=>?_) (fun _ h=>?_)
 exact Y
 refine Z ?_
 refine Pz (f:=Ar) (l:=o53) rfl (false:Bool) h (fun j_ hb h=>?_) (fun hb h=>?_)
 refine Z ?_
 refine Fq h (fun _ h=>?_) (fun _ h=>?_)
 exact Y
 refine Z ?_
 refine Bh h (fun _ h=>?_)
 refine Z ?_
 refine An h (fun _ h=>?_) (fun _ h=>?_)
 exact Y
 refine Z ?_
 refine N6 (f:=Ar) (l:=o53) (x:=true) rfl rfl ?_
 exact Y
 refine Z ?_
 refine Bh h (fun _ h=>?_)
 refine Z ?_
 refine An h (fun _ h=>?_) (fun _ h=>?_)
 exact Y
 refine Z ?_
 refine N6 (f:=Ar) (l:=o53) (x:=true) rfl rfl ?_
 exact Y
 exact Y
 exact Y⟩
instance {a0:List Az}:OK (Abe a0) fun r=>Aw Tryz.prog 95 [O1 (Hs.mk a0 [] [] [])] (Ar r):=⟨fun {r} h=>by
 refine pw C0 Tryz.func95 ?_
 refine Z ?_
 refine Ge h (fun _ h=>?_)
 refine Z ?_
 refine A5 h (fun _=>[(2,(Ar false)),(18,(O .i64 0))]) (fun _=>[]) ?_
 rintro _ _ _ _ h _ _
 replace h:=B9 h
 refine Z ?_
 refine A5 h (fun _=>[(2,(Ar false)),(30,(O .i64 0))]) (fun _=>[]) ?_
 rintro _ _ _ _ h _ _
 exact Y⟩
instance {a0:List Az}:OK (Abd a0) fun r=>Aw Tryz.prog 94 [O1 (Hs.mk a0 [] [] [])] (Ar r):=⟨fun {r} h=>by
 refine pw C0 Tryz.func94 ?_
 refine Z ?_
 refine Ge h (fun _ h=>?_)
 refine Z ?_
 refine A5 h (fun _=>[(2,(Ar false)),(17,(O .i64 0))]) (fun _=>[]) ?_
 rintro _ _ _ _ h _ _
 exact Y⟩
instance {a0:List Az}:OK (Abb a0) fun r=>Aw Tryz.prog 92 [O1 (Hs.mk a0 [] [] [])] (Ar r):=⟨fun {r} h=>by
 refine pw C0 Tryz.func92 ?_
 refine Z ?_
 refine Ge h (fun _ h=>?_)
 refine Z ?_
 refine A5 h (fun _=>[(2,(Ar false)),(20,(O .i64 0))]) (fun _=>[]) ?_
 rintro _ _ _ _ h _ _
 replace h:=B9 h
 refine Z ?_
 refine A5 h (fun _=>[(2,(Ar false)),(33,(O .i64 0))]) (fun _=>[]) ?_
 rintro _ _ _ _ h _ _
 exact Y⟩
instance {a0:Aj} {b0:Hs}:OK (Abh a0 b0) fun r=>Br Tryz.prog 147 [Fp a0,(.loc 0 0)] [.cells 113 [(.sl 3 (List.map Co b0.Data)),(.sl 7 (List.map Oz b0.Codes)),(.sl 3 (Bl b0.Vars)),(.sl 8 (List.map O0 b0.Exprs))]] (Ar r) [.cells 113 [(.sl 3 (List.map Co b0.Data)),(.sl 7 (List.map Oz b0.Codes)),(.sl 3 (Bl b0.Vars)),(.sl 8 (List.map O0 b0.Exprs))]]:=⟨fun {r} h=>by
 refine aw C0 true Tryz.func147 ?_
 exact Y⟩
instance {a0:List Aj} {b0:Hs}:OK (Abk a0 b0) fun r=>Br Tryz.prog 204 [(Hq 3 Bl) a0,(.fn 147 [(.loc 0 0)])] [.cells 113 [(.sl 3 (List.map Co b0.Data)),(.sl 7 (List.map Oz b0.Codes)),(.sl 3 (Bl b0.Vars)),(.sl 8 (List.map O0 b0.Exprs))]] ((O .i64) r) [.cells 113 [(.sl 3 (List.map Co b0.Data)),(.sl 7 (List.map Oz b0.Codes)),(.sl 3 (Bl b0.Vars)),(.sl 8 (List.map O0 b0.Exprs))]]:=⟨fun {r} h=>by
 refine aw C0 true Tryz.func204 ?_
 refine Z ?_
 refine A5 h (fun v3=>[(4,(O .i64 0)),(8,(O .i64 v3))]) (fun v3=>[]) ?_
 rintro v3 _ _ _ h _ _
 refine Z ?_
 refine An h (fun _ h=>?_) (fun _ h=>?_)
 refine Z ?_
 refine Bx h (fun _ _ _ _ h=>?_)
 refine Z ?_
 refine A9 [0] h (fun _ h=>?_)
 exact Y
 exact Y⟩
instance {a0:List Aj} {b0:Hs}:OK (Abg a0 b0) fun r=>Br Tryz.prog 146 [(Hq 3 Bl) a0,(.fn 147 [(.loc 0 0)])] [.cells 113 [(.sl 3 (List.map Co b0.Data)),(.sl 7 (List.map Oz b0.Codes)),(.sl 3 (Bl b0.Vars)),(.sl 8 (List.map O0 b0.Exprs))]] (Ar r) [.cells 113 [(.sl 3 (List.map Co b0.Data)),(.sl 7 (List.map Oz b0.Codes)),(.sl 3 (Bl b0.Vars)),(.sl 8 (List.map O0 b0.Exprs))]]:=⟨fun {r} h=>by
 refine aw C0 true Tryz.func146 ?_
 refine Z ?_
 refine A9 [0] h (fun _ h=>?_)
 exact Y⟩
instance {a0:List Az}:OK (Aa9 a0) fun r=>Aw Tryz.prog 90 [O1 (Hs.mk a0 [] [] [])] (Ar r):=⟨fun {r} h=>by
 refine pw C0 Tryz.func90 ?_
 refine Z ?_
 refine A9 [0] h (fun _ h=>?_)
 exact Y⟩
instance {a0:List Az}:OK (Qb a0) fun r=>Aw Tryz.prog 44 [O1 (Hs.mk a0 [] [] [])] (Ar r):=⟨fun {r} h=>by
 refine pw C0 Tryz.func44 ?_
 exact Y⟩
instance {a0:List Az} {a1:Aj}:OK (Abf a0 a1) fun r=>Aw Tryz.prog 130 [(As 3 Co) a0,Fp a1] (Ar r):=⟨fun {r} h=>by
 refine pw {T:=Ce,an:=(fun _=>.ask),nl:=(fun s=>bif Nat.beq s 6 then [(1,7),(2,3),(3,8)] else [])} Tryz.func130 ?_
 exact Y⟩
instance {a0:List Az} {a1:Aj} {a2:Be}:OK (Aa8 a0 a1 a2) fun r=>Aw Tryz.prog 73 [(As 3 Co) a0,Fp a1,F7 a2] ((O .i64) r):=⟨fun {r} h=>by
 refine pw C0 Tryz.func73 ?_
 exact Y⟩
instance {a0:Cw} {a1:Bq}:OK (Gj a0 a1) fun r=>Aw Tryz.prog 27 [H9 a0,Dh a1] (.tup [(O .i64) r.1,(O .i64) r.2.1,Ar r.2.2]):=⟨fun {r} h=>by
 refine pw C0 Tryz.func27 ?_
 refine Z ?_
 refine Bh h (fun v3 h=>?_)
 refine Z ?_
 refine An h (fun _ h=>?_) (fun _ h=>?_)
 exact Y
 refine Z ?_
 refine An h (fun _ h=>?_) (fun _ h=>?_)
 exact Y
 refine Z ?_
 refine An h (fun _ h=>?_) (fun _ h=>?_)
 refine Ay (Ay ?_)
 refine Cg h (fun v7=>[(47,(Ar v7))]) (fun v7=>[]) ?_ ?_
 intro _ h _ _ _
 exact Y
 rintro v7 _ h
 refine An h (fun _ h=>?_) (fun _ h=>?_)
 exact Y
 refine Z ?_
 refine A5 h (fun v11=>[(4,(O .i64 0)),(5,(O .i64 0)),(6,(Ar v3.2)),(51,(O .i64 v11))]) (fun v11=>[]) ?_
 rintro v11 _ _ _ h _ _
 exact Y
 exact Y⟩
instance {a0:Int}:OK (Tm a0) fun r=>Aw Tryz.prog 160 [(O .i64) a0] (Ar r):=⟨fun {r} h=>by
 refine pw C0 Tryz.func160 ?_
 exact Y⟩
instance {a0 a1:Int}:OK (I2 a0 a1) fun r=>Aw Tryz.prog 107 [(O .i64) a0,(O .i64) a1] ((O .i64) r):=⟨fun {r} h=>by
 refine pw C0 Tryz.func107 ?_
 exact Y⟩
instance {a0:List Int}:OK (K6 a0) fun r=>Aw Tryz.prog 117 [(As 1 (O .i64)) a0] ((O .i64) r):=⟨fun {r} h=>by
 refine pw C0 Tryz.func117 ?_
 refine Z ?_
 refine A5 h (fun v2=>[(2,(O .i64 0)),(8,(O .i64 v2))]) (fun v2=>[]) ?_
 rintro v2 _ _ _ h _ _
 exact Y⟩
instance {a0:Int}:OK (W7 a0) fun r=>Aw Tryz.prog 176 [(O .i64) a0] (Ar r):=⟨fun {r} h=>by
 refine pw C0 Tryz.func176 ?_
 exact Y⟩
instance {a0 a1:Int}:OK (S9 a0 a1) fun r=>Aw Tryz.prog 118 [(O .i64) a0,(O .i64) a1] ((O .i64) r):=⟨fun {r} h=>by
 refine pw C0 Tryz.func118 ?_
 exact Y⟩
instance {a0 a1:B6}:OK (S8 a0 a1) fun r=>Aw Tryz.prog 116 [Dw a0,Dw a1] ((O .i64) r):=⟨fun {r} h=>by
 refine pw C0 Tryz.func116 ?_
 exact Y⟩
instance {a0 a1:List B6}:OK (Wy a0 a1) fun r=>Aw Tryz.prog 115 [(As 2 Dw) a0,(As 2 Dw) a1,(.fn 116 [])] ((O .i64) r):=⟨fun {r} h=>by
 refine pw C0 Tryz.func115 ?_
 refine Z ?_
 refine A5 h (fun v6=>[(6,(O .i64 0)),(13,(O .i64 v6))]) (fun v6=>[]) ?_
 rintro v6 _ _ _ h _ _
 exact Y⟩
instance {a0 a1:Ct}:OK (Jr a0 a1) fun r=>Aw Tryz.prog 63 [K8 a0,K8 a1] ((O .i64) r):=⟨fun {r} h=>by
 refine pw C0 Tryz.func63 ?_
 exact Y⟩
instance {a0 a1:Bb}:OK (Td a0 a1) fun r=>Aw Tryz.prog 128 [Dn a0,Dn a1] ((O .i64) r):=⟨fun {r} h=>by
 refine pw C0 Tryz.func128 ?_
 exact Y⟩
instance {a0 a1:List Bb}:OK (W0 a0 a1) fun r=>Aw Tryz.prog 127 [(As 3 Dn) a0,(As 3 Dn) a1,(.fn 128 [])] ((O .i64) r):=⟨fun {r} h=>by
 refine pw C0 Tryz.func127 ?_
 refine Z ?_
 refine A5 h (fun v6=>[(6,(O .i64 0)),(13,(O .i64 v6))]) (fun v6=>[]) ?_
 rintro v6 _ _ _ h _ _
 exact Y⟩
abbrev Ahm (k:Nat):Prop:=∀{a0 a1:Be},OK (Mx k a0 a1) fun r=>Aw Tryz.prog 126 [F7 a0,F7 a1] ((O .i64) r)
abbrev Ahn (k:Nat):Prop:=∀{a0 a1:List Be},OK (Tq k a0 a1) fun r=>Aw Tryz.prog 194 [(Hq 2 Hr) a0,(Hq 2 Hr) a1,(.fn 126 [])] ((O .i64) r)
theorem Aho (k:Nat):Ahm k/\Ahn k:=by
 induction k with
 | zero=>exact ⟨okz,okz⟩
 | succ k ih=>
  obtain ⟨i0_,i1_⟩:=ih
  refine ⟨@fun a0 a1=>⟨fun {r} h=>?_⟩,@fun a0 a1=>⟨fun {r} h=>?_⟩⟩
  .unfold Mx at h
   refine pw C0 Tryz.func126 ?_
   exact Y
  .unfold Tq at h
   refine pw C0 Tryz.func194 ?_
   refine Z ?_
   refine A5 h (fun v6=>[(6,(O .i64 0)),(13,(O .i64 v6))]) (fun v6=>[]) ?_
   rintro v6 _ _ _ h _ _
   exact Y
instance {k:Nat}:Ahm k:=(Aho k).1
instance {k:Nat}:Ahn k:=(Aho k).2
instance {a0 a1:Bq}:OK (Tc a0 a1) fun r=>Aw Tryz.prog 125 [Dh a0,Dh a1] ((O .i64) r):=⟨fun {r} h=>by
 refine pw C0 Tryz.func125 ?_
 exact Y⟩
instance {a0 a1:List Bq}:OK (Wz a0 a1) fun r=>Aw Tryz.prog 124 [(As 3 Dh) a0,(As 3 Dh) a1,(.fn 125 [])] ((O .i64) r):=⟨fun {r} h=>by
 refine pw C0 Tryz.func124 ?_
 refine Z ?_
 refine A5 h (fun v6=>[(6,(O .i64 0)),(13,(O .i64 v6))]) (fun v6=>[]) ?_
 rintro v6 _ _ _ h _ _
 exact Y⟩
instance {a0 a1:Bc}:OK (K4 a0 a1) fun r=>Aw Tryz.prog 69 [Gn a0,Gn a1] ((O .i64) r):=⟨fun {r} h=>by
 refine pw C0 Tryz.func69 ?_
 exact Y⟩
instance {a0:Int}:OK (Qu a0) fun r=>Aw Tryz.prog 161 [(O .i64) a0] (Ar r):=⟨fun {r} h=>by
 refine pw C0 Tryz.func161 ?_
 exact Y⟩
instance {a0:Int}:OK (Qd a0) fun r=>Aw Tryz.prog 50 [(O .i64) a0] (Ar r):=⟨fun {r} h=>by
 refine pw C0 Tryz.func50 ?_
 exact Y⟩
instance {a0:Ct}:OK (Mw a0) fun r=>Aw Tryz.prog 108 [K8 a0] (Ar r):=⟨fun {r} h=>by
 refine pw C0 Tryz.func108 ?_
 refine ZS ?_
 refine Bw ?_
 refine ZO ?_
 refine Ay (Ay ?_)
 refine Cg h (fun v3=>[(14,(Ar v3))]) (fun v3=>[]) ?_ ?_
 intro _ h _ _ _
 exact Y
 rintro v3 _ h
 refine An h (fun _ h=>?_) (fun _ h=>?_)
 exact Y
 refine Z ?_
 refine A5 h (fun v8=>[(2,(Ar false)),(18,(O .i64 v8))]) (fun v8=>[]) ?_
 rintro v8 _ _ _ h _ _
 exact Y⟩
instance {a0:Int}:OK (Gm a0) fun r=>Aw Tryz.prog 120 [(O .i64) a0] (Ek r):=⟨fun {r} h=>by
 exact Ap3 h⟩
instance {b1:List Int}:OK (Q6 b1) fun r=>Br Tryz.prog 164 [(.loc 0 0)] [.cells 187 [(.loc 0 0),(.arr 1 b1.length 0 b1.length)],.rows 5 1 (List.map (O .u8) b1)] (.tup []) [.cells 187 [(.loc 0 0),(.arr 1 b1.length 0 b1.length)],.rows 5 1 (List.map (O .u8) b1)]:=⟨fun {r} h=>by
 cases h
 exact Ap6 _ _⟩
instance {a0:Int} {b1:List Int}:OK (Qw a0 b1) fun r=>Br Tryz.prog 215 [(.loc 0 0),(O .u8) a0] [.cells 187 [(.loc 0 0),(.arr 1 b1.length 0 b1.length)],.rows 5 1 (List.map (O .u8) b1)] (.val .nilIface) [.cells 187 [(.loc 0 0),(.arr 1 r.length 0 r.length)],.rows 5 1 (List.map (O .u8) r)]:=⟨fun {r} h=>by
 refine aw C0 true Tryz.func215 ?_
 refine Z ?_
 refine A9 [0,1] h (fun _ h=>?_)
 exact Y⟩
instance {a0:ByteArray} {b1:List Int}:OK (E9 a0 b1) fun r=>Br Tryz.prog 110 [(.loc 0 0),Ek a0] [.cells 187 [(.loc 0 0),(.arr 1 b1.length 0 b1.length)],.rows 5 1 (List.map (O .u8) b1)] (.tup [(O .i64) r.1,.val .nilIface]) [.cells 187 [(.loc 0 0),(.arr 1 r.2.length 0 r.2.length)],.rows 5 1 (List.map (O .u8) r.2)]:=⟨fun {r} h=>by
 refine aw C0 true Tryz.func110 ?_
 refine Z ?_
 refine A9 [0,1] h (fun _ h=>?_)
 exact Y⟩
abbrev Ahp (k:Nat):Prop:=∀{a0:Be} {b1:List Int},OK (Oh k a0 b1) fun r=>Br Tryz.prog 155 [(.loc 0 0),F7 a0] [.cells 187 [(.loc 0 0),(.arr 1 b1.length 0 b1.length)],.rows 5 1 (List.map (O .u8) b1)] (.tup []) [.cells 187 [(.loc 0 0),(.arr 1 r.length 0 r.length)],.rows 5 1 (List.map (O .u8) r)]
theorem Aqy (k:Nat):Ahp k:=by
 induction k with
 | zero=>exact okz
 | succ k ih=>
  refine @fun a0 b1=>⟨fun {r} h=>?_⟩
  .unfold Oh at h
   refine aw C0 true Tryz.func155 ?_
   refine Z ?_
   refine Bh h (fun _ h=>?_)
   refine Z ?_
   refine A9 [0,1] h (fun _ h=>?_)
   refine Z ?_
   refine An h (fun _ h=>?_) (fun _ h=>?_)
   refine Z ?_
   refine A9 [0,1] h (fun _ h=>?_)
   refine Z ?_
   refine A5 h (fun (v15,o16)=>[(20,(O .i64 v15))]) (fun (v15,o16)=>[(0,.cells 187 [(.loc 0 0),(.arr 1 o16.length 0 o16.length)]),(1,.rows 5 1 (List.map (O .u8) o16))]) ?_
   rintro ⟨v15,o16⟩ _ _ _ h _ _
   refine Z ?_
   refine An h (fun _ h=>?_) (fun _ h=>?_)
   refine Z ?_
   refine Bx h (fun _ _ _ _ h=>?_)
   refine Z ?_
   refine A9 [0,1] h (fun _ h=>?_)
   refine Z ?_
   refine A9 [0,1] h (fun _ h=>?_)
   exact Y
   replace h:=B9 h
   refine Z ?_
   refine A9 [0,1] h (fun _ h=>?_)
   exact Y
   exact Y
instance {k:Nat}:Ahp k:=(Aqy k)
instance {b1:List Int}:OK (I3 b1) fun r=>Br Tryz.prog 111 [(.loc 0 0)] [.cells 187 [(.loc 0 0),(.arr 1 b1.length 0 b1.length)],.rows 5 1 (List.map (O .u8) b1)] (Ek r) [.cells 187 [(.loc 0 0),(.fb r)],.dead]:=⟨fun {r} h=>by
 exact Agx h⟩
instance {b1:List Int}:OK (Tn b1) fun r=>Br Tryz.prog 164 [(.loc 0 0)] [.cells 187 [(.val (.pointer none)),(.arr 1 b1.length 0 b1.length)],.rows 5 1 (List.map (O .u8) b1)] (.tup []) [.cells 187 [(.loc 0 0),(.arr 1 b1.length 0 b1.length)],.rows 5 1 (List.map (O .u8) b1)]:=⟨fun {r} h=>by
 cases h
 exact Ap7 _ _⟩
instance {a0:ByteArray} {b1:List Int}:OK (Gv a0 b1) fun r=>Br Tryz.prog 110 [(.loc 0 0),Ek a0] [.cells 187 [(.val (.pointer none)),(.arr 1 b1.length 0 b1.length)],.rows 5 1 (List.map (O .u8) b1)] (.tup [(O .i64) r.1,(.val .nilIface)]) [.cells 187 [(.loc 0 0),(.arr 1 r.2.length 0 r.2.length)],.rows 5 1 (List.map (O .u8) r.2)]:=⟨fun {r} h=>by
 refine aw C0 true Tryz.func110 ?_
 refine Z ?_
 refine A9 [0,1] h (fun _ h=>?_)
 exact Y⟩
instance {a0:Int} {a1:Be}:OK (I1 a0 a1) fun r=>Aw Tryz.prog 99 [(O .i64) a0,F7 a1] (Ek r):=⟨fun {r} h=>by
 refine pw C0 Tryz.func99 ?_
 refine ZS ?_
 refine Bw ?_
 refine ZS ?_
 refine Bw ?_
 refine ZO ?_
 refine Ay ?_
 refine C4 [.own 5 1 5 1] ?_
 refine Z ?_
 refine Bh h (fun _ h=>?_)
 refine Z ?_
 refine Fr h (fun h=>?_)
 refine Z ?_
 refine Fr h (fun h=>?_)
 refine Z ?_
 refine A9 [1,2] h (fun _ h=>?_)
 refine Z ?_
 refine A9 [1,2] h (fun _ h=>?_)
 refine Z ?_
 refine A9 [1,2] h (fun _ h=>?_)
 exact Y⟩
abbrev Ahq (k:Nat):Prop:=∀{a0:Aj} {a1:Be} {b1:List (ByteArray×Int)} {b2:List (ByteArray×(List B7))} {b0_0:List Az} {b0_1:List Aj} {b0_2 b0_3:Int} {b0_4:List Aj},OK (Oj k a0 a1 b1 b2 b0_0 b0_1 b0_2 b0_3 b0_4) fun r=>Br Tryz.prog 157 [(.loc 0 0),Fp a0,F7 a1] [.cells 118 [(.sl 3 (List.map Co b0_0)),(.sl 3 (Bl b0_1)),(O .i64 b0_2),(O .i64 b0_3),(.sl 3 (Bl b0_4)),(.mp 1),(.mp 2)],.map (Bd (O .i64) b1),.map (Bd (As 5 C6) b2)] ((O .i64) r) [.cells 118 [(.sl 3 (List.map Co b0_0)),(.sl 3 (Bl b0_1)),(O .i64 b0_2),(O .i64 b0_3),(.sl 3 (Bl b0_4)),(.mp 1),(.mp 2)],.map (Bd (O .i64) b1),.map (Bd (As 5 C6) b2)]
abbrev Ahr (k:Nat):Prop:=∀{a0:Aj} {a1:Be} {b1:List (ByteArray×Int)} {b2:List (ByteArray×(List B7))} {b0_0:List Az} {b0_1:List Aj} {b0_2 b0_3:Int} {b0_4:List Aj},OK (Mv k a0 a1 b1 b2 b0_0 b0_1 b0_2 b0_3 b0_4) fun r=>Br Tryz.prog 100 [(.loc 0 0),Fp a0,F7 a1] [.cells 118 [(.sl 3 (List.map Co b0_0)),(.sl 3 (Bl b0_1)),(O .i64 b0_2),(O .i64 b0_3),(.sl 3 (Bl b0_4)),(.mp 1),(.mp 2)],.map (Bd (O .i64) b1),.map (Bd (As 5 C6) b2)] ((O .i64) r) [.cells 118 [(.sl 3 (List.map Co b0_0)),(.sl 3 (Bl b0_1)),(O .i64 b0_2),(O .i64 b0_3),(.sl 3 (Bl b0_4)),(.mp 1),(.mp 2)],.map (Bd (O .i64) b1),.map (Bd (As 5 C6) b2)]
abbrev Ahs (k:Nat):Prop:=∀{a0:List Aj} {a1:List Be} {b1:List (ByteArray×Int)} {b2:List (ByteArray×(List B7))} {b0_0:List Az} {b0_1:List Aj} {b0_2 b0_3:Int} {b0_4:List Aj},OK (Oi k a0 a1 b1 b2 b0_0 b0_1 b0_2 b0_3 b0_4) fun r=>Br Tryz.prog 156 [(.loc 0 0),(Hq 3 Bl) a0,(Hq 2 Hr) a1] [.cells 118 [(.sl 3 (List.map Co b0_0)),(.sl 3 (Bl b0_1)),(O .i64 b0_2),(O .i64 b0_3),(.sl 3 (Bl b0_4)),(.mp 1),(.mp 2)],.map (Bd (O .i64) b1),.map (Bd (As 5 C6) b2)] ((O .i64) r) [.cells 118 [(.sl 3 (List.map Co b0_0)),(.sl 3 (Bl b0_1)),(O .i64 b0_2),(O .i64 b0_3),(.sl 3 (Bl b0_4)),(.mp 1),(.mp 2)],.map (Bd (O .i64) b1),.map (Bd (As 5 C6) b2)]
theorem Abv (k:Nat):Ahq k/\Ahr k/\Ahs k:=by
 induction k with
 | zero=>exact ⟨okz,okz,okz⟩
 | succ k ih=>
  obtain ⟨i0_,i1_,i2_⟩:=ih
  refine ⟨@fun a0 a1 b1 b2 b0_0 b0_1 b0_2 b0_3 b0_4=>⟨fun {r} h=>?_⟩,@fun a0 a1 b1 b2 b0_0 b0_1 b0_2 b0_3 b0_4=>⟨fun {r} h=>?_⟩,@fun a0 a1 b1 b2 b0_0 b0_1 b0_2 b0_3 b0_4=>⟨fun {r} h=>?_⟩⟩
  .unfold Oj at h
   refine aw {T:=Ce,an:=(fun s=>bif Nat.beq s 9 then .own else .ask),nl:=(fun s=>bif Nat.beq s 9 then [(0,3)] else [])} true Tryz.func157 ?_
   refine Z ?_
   refine Bh h (fun _ h=>?_)
   refine Z ?_
   refine An h (fun _ h=>?_) (fun _ h=>?_)
   exact Y
   refine Z ?_
   refine Bh h (fun _ h=>?_)
   refine Z ?_
   refine A5 h (fun (v14,o15)=>[(9,(.arr 5 o15.length 0 o15.length)),(38,(O .i64 v14))]) (fun (v14,o15)=>[(5,.rows 27 3 (Bl o15))]) ?_
   rintro ⟨v14,o15⟩ _ _ _ h _ _
   refine Z ?_
   refine An h (fun _ h=>?_) (fun _ h=>?_)
   exact Y
   replace h:=B9 h
   refine Ez (Ew rfl (Ay ?_))
   refine C4 [.fz 9] ?_
   refine Z ?_
   refine A9 [0,1,2] h (fun _ h=>?_)
   exact Y
  .unfold Mv at h
   refine aw C0 true Tryz.func100 ?_
   refine Z ?_
   refine An h (fun _ h=>?_) (fun _ h=>?_)
   refine Z ?_
   refine An h (fun _ h=>?_) (fun _ h=>?_)
   refine Z ?_
   refine A9 [0,1,2] h (fun _ h=>?_)
   exact Y
   exact Y
   refine Z ?_
   refine An h (fun _ h=>?_) (fun _ h=>?_)
   exact Y
   refine Z ?_
   refine An h (fun _ h=>?_) (fun _ h=>?_)
   refine Z ?_
   refine An h (fun _ h=>?_) (fun _ h=>?_)
   exact Y
   refine Z ?_
   refine A5 h (fun (v7,v8)=>[(6,(O .i64 0)),(7,(O .i64 v7)),(50,(O .i64 v8))]) (fun (v7,v8)=>[]) ?_
   rintro ⟨v7,v8⟩ _ _ _ h _ _
   refine Z ?_
   refine An h (fun _ h=>?_) (fun _ h=>?_)
   refine Z ?_
   refine Bx h (fun _ _ _ _ h=>?_)
   refine Z ?_
   refine A9 [0,1,2] h (fun _ h=>?_)
   exact Y
   exact Y
   exact Y
  .unfold Oi at h
   refine aw C0 true Tryz.func156 ?_
   refine Z ?_
   refine An h (fun _ h=>?_) (fun _ h=>?_)
   exact Y
   refine Z ?_
   refine A5 h (fun (v5,v6)=>[(6,(O .i64 0)),(7,(O .i64 v5)),(18,(O .i64 v6))]) (fun (v5,v6)=>[]) ?_
   rintro ⟨v5,v6⟩ _ _ _ h _ _
   refine Z ?_
   refine An h (fun _ h=>?_) (fun _ h=>?_)
   refine Z ?_
   refine Bx h (fun _ _ _ _ h=>?_)
   refine Z ?_
   refine Bx h (fun _ _ _ _ h=>?_)
   refine Z ?_
   refine A9 [0,1,2] h (fun _ h=>?_)
   exact Y
   exact Y
instance {k:Nat}:Ahq k:=(Abv k).1
instance {k:Nat}:Ahr k:=(Abv k).2.1
instance {k:Nat}:Ahs k:=(Abv k).2.2
instance {a0:Int} {b1:List (ByteArray×Int)} {b2:List (ByteArray×(List B7))} {b0_0:List Az} {b0_1:List Aj} {b0_2 b0_3:Int} {b0_4:List Aj}:OK (Kh a0 b1 b2 b0_0 b0_1 b0_2 b0_3 b0_4) fun r=>Br Tryz.prog 101 [(.loc 0 0),(O .i64) a0] [.cells 118 [(.sl 3 (List.map Co b0_0)),(.sl 3 (Bl b0_1)),(O .i64 b0_2),(O .i64 b0_3),(.sl 3 (Bl b0_4)),(.mp 1),(.mp 2)],.map (Bd (O .i64) b1),.map (Bd (As 5 C6) b2)] (Fp r) [.cells 118 [(.sl 3 (List.map Co b0_0)),(.sl 3 (Bl b0_1)),(O .i64 b0_2),(O .i64 b0_3),(.sl 3 (Bl b0_4)),(.mp 1),(.mp 2)],.map (Bd (O .i64) b1),.map (Bd (As 5 C6) b2)]:=⟨fun {r} h=>by
 refine aw C0 true Tryz.func101 ?_
 exact Y⟩
instance {a0:Int} {a1:Be} {b1:List (ByteArray×Int)} {b2:List (ByteArray×(List B7))} {b0_0:List Az} {b0_1:List Aj} {b0_2 b0_3:Int} {b0_4:List Aj}:OK (Kd a0 a1 b1 b2 b0_0 b0_1 b0_2 b0_3 b0_4) fun r=>Br Tryz.prog 48 [(.loc 0 0),(O .i64) a0,F7 a1] [.cells 118 [(.sl 3 (List.map Co b0_0)),(.sl 3 (Bl b0_1)),(O .i64 b0_2),(O .i64 b0_3),(.sl 3 (Bl b0_4)),(.mp 1),(.mp 2)],.map (Bd (O .i64) b1),.map (Bd (As 5 C6) b2)] ((O .i64) r.1) [.cells 118 [(.sl 3 (List.map Co b0_0)),(.sl 3 (Bl b0_1)),(O .i64 b0_2),(O .i64 b0_3),(.sl 3 (Bl b0_4)),(.mp 1),(.mp 2)],.map (Bd (O .i64) r.2),.map (Bd (As 5 C6) b2)]:=⟨fun {r} h=>by
 refine aw C0 true Tryz.func48 ?_
 refine Z ?_
 refine Bh h (fun _ h=>?_)
 refine ZO ?_
 refine Ay ?_
 refine Cg h (fun (v3,v4)=>[(8,(O .i64 v3)),(9,(Ar v4))]) (fun (v3,v4)=>[]) ?_ ?_
 intro _ h _ _ _
 refine Z ?_
 refine Pz (f:=(O .i64)) (l:=b1) rfl (0:Int) h (fun j_ hb h=>?_) (fun hb h=>?_)
 exact Y
 exact Y
 rintro ⟨v3,v4⟩ _ h
 refine Z ?_
 refine An h (fun _ h=>?_) (fun _ h=>?_)
 refine Z ?_
 refine A9 [0,1,2] h (fun _ h=>?_)
 refine Z ?_
 refine A9 [0,1,2] h (fun _ h=>?_)
 refine ZS ?_
 refine Bw ?_
 refine ZO ?_
 refine Cg h (fun v7=>[(8,(O .i64 v7))]) (fun v7=>[]) ?_ ?_
 intro _ h _ _ _
 exact Y
 rintro v7 _ h
 refine Z ?_
 refine N6 (f:=(O .i64)) (l:=b1) (x:=v7) rfl rfl ?_
 exact Y
 exact Y⟩
end Go.Ab
namespace Go.Ab
open Go Go.Proofs
set_option maxRecDepth 10000
set_option maxHeartbeats 4000000
set_option linter.unusedVariables false
instance {a0:Bc} {b1:List (ByteArray×Int)} {b2:List (ByteArray×(List B7))} {b0_0:List Az} {b0_1:List Aj} {b0_2 b0_3:Int} {b0_4:List Aj}:OK (Mr a0 b1 b2 b0_0 b0_1 b0_2 b0_3 b0_4) fun r=>Br Tryz.prog 20 [(.loc 0 0),Gn a0] [.cells 118 [(.sl 3 (List.map Co b0_0)),(.sl 3 (Bl b0_1)),(O .i64 b0_2),(O .i64 b0_3),(.sl 3 (Bl b0_4)),(.mp 1),(.mp 2)],.map (Bd (O .i64) b1),.map (Bd (As 5 C6) b2)] ((O .i64) r.1) [.cells 118 [(.sl 3 (List.map Co b0_0)),(.sl 3 (Bl b0_1)),(O .i64 b0_2),(O .i64 b0_3),(.sl 3 (Bl b0_4)),(.mp 1),(.mp 2)],.map (Bd (O .i64) r.2),.map (Bd (As 5 C6) b2)]:=⟨fun {r} h=>by
 refine aw C0 true Tryz.func20 ?_
 refine Z ?_
 refine A5 h (fun (v5,v6,o7)=>[(5,(O .i64 v5)),(13,(O .i64 v6))]) (fun (v5,v6,o7)=>[(1,.map (Bd (O .i64) o7))]) ?_
 rintro ⟨v5,v6,o7⟩ _ _ _ h _ _
 refine Z ?_
 refine An h (fun _ h=>?_) (fun _ h=>?_)
 refine Z ?_
 refine Bx h (fun _ _ _ _ h=>?_)
 refine Z ?_
 refine An h (fun _ h=>?_) (fun _ h=>?_)
 refine Z ?_
 refine A9 [0,1,2] h (fun _ h=>?_)
 exact Y
 exact Y
 replace h:=B9 h
 refine Z ?_
 refine A5 h (fun (v15,v16)=>[(5,(O .i64 v15)),(31,(O .i64 v16))]) (fun (v15,v16)=>[]) ?_
 rintro ⟨v15,v16⟩ _ _ _ h _ _
 exact Y⟩
instance {a0:Int} {b1:List (ByteArray×Int)} {b2:List (ByteArray×(List B7))} {b0_0:List Az} {b0_1:List Aj} {b0_2 b0_3:Int} {b0_4:List Aj}:OK (N9 a0 b1 b2 b0_0 b0_1 b0_2 b0_3 b0_4) fun r=>Br Tryz.prog 47 [(.loc 0 0),(O .i64) a0] [.cells 118 [(.sl 3 (List.map Co b0_0)),(.sl 3 (Bl b0_1)),(O .i64 b0_2),(O .i64 b0_3),(.sl 3 (Bl b0_4)),(.mp 1),(.mp 2)],.map (Bd (O .i64) b1),.map (Bd (As 5 C6) b2)] (Ar r) [.cells 118 [(.sl 3 (List.map Co b0_0)),(.sl 3 (Bl b0_1)),(O .i64 b0_2),(O .i64 b0_3),(.sl 3 (Bl b0_4)),(.mp 1),(.mp 2)],.map (Bd (O .i64) b1),.map (Bd (As 5 C6) b2)]:=⟨fun {r} h=>by
 refine aw C0 true Tryz.func47 ?_
 exact Y⟩
instance {a0:B6} {b2:List (ByteArray×Int)} {b3:List (ByteArray×(List B7))} {b1_0:List Az} {b1_1:List Aj} {b1_2 b1_3:Int} {b1_4:List Aj}:OK (Qp a0 b2 b3 b1_0 b1_1 b1_2 b1_3 b1_4) fun r=>Br Tryz.prog 103 [Dw a0,(.loc 0 0)] [.cells 73 [(.loc 1 0)],.cells 118 [(.sl 3 (List.map Co b1_0)),(.sl 3 (Bl b1_1)),(O .i64 b1_2),(O .i64 b1_3),(.sl 3 (Bl b1_4)),(.mp 2),(.mp 3)],.map (Bd (O .i64) b2),.map (Bd (As 5 C6) b3)] (Ar r) [.cells 73 [(.loc 1 0)],.cells 118 [(.sl 3 (List.map Co b1_0)),(.sl 3 (Bl b1_1)),(O .i64 b1_2),(O .i64 b1_3),(.sl 3 (Bl b1_4)),(.mp 2),(.mp 3)],.map (Bd (O .i64) b2),.map (Bd (As 5 C6) b3)]:=⟨fun {r} h=>by
 refine aw C0 true Tryz.func103 ?_
 refine Z ?_
 refine A9 [1,2,3] h (fun _ h=>?_)
 refine Z ?_
 refine Fq h (fun _ h=>?_) (fun _ h=>?_)
 exact Y
 refine Z ?_
 refine A9 [1,2,3] h (fun _ h=>?_)
 refine Z ?_
 refine Z5.mk 3 (by kernel_rfl) ?_
 exact Y⟩
instance {a0:List B6} {b2:List (ByteArray×Int)} {b3:List (ByteArray×(List B7))} {b1_0:List Az} {b1_1:List Aj} {b1_2 b1_3:Int} {b1_4:List Aj}:OK (W2 a0 b2 b3 b1_0 b1_1 b1_2 b1_3 b1_4) fun r=>Br Tryz.prog 158 [(As 2 Dw) a0,(.fn 103 [(.loc 0 0)])] [.cells 73 [(.loc 1 0)],.cells 118 [(.sl 3 (List.map Co b1_0)),(.sl 3 (Bl b1_1)),(O .i64 b1_2),(O .i64 b1_3),(.sl 3 (Bl b1_4)),(.mp 2),(.mp 3)],.map (Bd (O .i64) b2),.map (Bd (As 5 C6) b3)] ((O .i64) r) [.cells 73 [(.loc 1 0)],.cells 118 [(.sl 3 (List.map Co b1_0)),(.sl 3 (Bl b1_1)),(O .i64 b1_2),(O .i64 b1_3),(.sl 3 (Bl b1_4)),(.mp 2),(.mp 3)],.map (Bd (O .i64) b2),.map (Bd (As 5 C6) b3)]:=⟨fun {r} h=>by
 refine aw C0 true Tryz.func158 ?_
 refine Z ?_
 refine A5 h (fun v3=>[(4,(O .i64 0)),(8,(O .i64 v3))]) (fun v3=>[]) ?_
 rintro v3 _ _ _ h _ _
 refine Z ?_
 refine An h (fun _ h=>?_) (fun _ h=>?_)
 refine Z ?_
 refine Bx h (fun _ _ _ _ h=>?_)
 refine Z ?_
 refine A9 [0,1,2,3] h (fun _ h=>?_)
 exact Y
 exact Y⟩
instance {a0:List B6} {b2:List (ByteArray×Int)} {b3:List (ByteArray×(List B7))} {b1_0:List Az} {b1_1:List Aj} {b1_2 b1_3:Int} {b1_4:List Aj}:OK (Wu a0 b2 b3 b1_0 b1_1 b1_2 b1_3 b1_4) fun r=>Br Tryz.prog 102 [(As 2 Dw) a0,(.fn 103 [(.loc 0 0)])] [.cells 73 [(.loc 1 0)],.cells 118 [(.sl 3 (List.map Co b1_0)),(.sl 3 (Bl b1_1)),(O .i64 b1_2),(O .i64 b1_3),(.sl 3 (Bl b1_4)),(.mp 2),(.mp 3)],.map (Bd (O .i64) b2),.map (Bd (As 5 C6) b3)] (Ar r) [.cells 73 [(.loc 1 0)],.cells 118 [(.sl 3 (List.map Co b1_0)),(.sl 3 (Bl b1_1)),(O .i64 b1_2),(O .i64 b1_3),(.sl 3 (Bl b1_4)),(.mp 2),(.mp 3)],.map (Bd (O .i64) b2),.map (Bd (As 5 C6) b3)]:=⟨fun {r} h=>by
 refine aw C0 true Tryz.func102 ?_
 refine Z ?_
 refine A9 [0,1,2,3] h (fun _ h=>?_)
 exact Y⟩
instance {a0:Ct} {b1:List (ByteArray×Int)} {b2:List (ByteArray×(List B7))} {b0_0:List Az} {b0_1:List Aj} {b0_2 b0_3:Int} {b0_4:List Aj}:OK (Qc a0 b1 b2 b0_0 b0_1 b0_2 b0_3 b0_4) fun r=>Br Tryz.prog 49 [(.loc 0 0),K8 a0] [.cells 118 [(.sl 3 (List.map Co b0_0)),(.sl 3 (Bl b0_1)),(O .i64 b0_2),(O .i64 b0_3),(.sl 3 (Bl b0_4)),(.mp 1),(.mp 2)],.map (Bd (O .i64) b1),.map (Bd (As 5 C6) b2)] (Ar r) [.cells 118 [(.sl 3 (List.map Co b0_0)),(.sl 3 (Bl b0_1)),(O .i64 b0_2),(O .i64 b0_3),(.sl 3 (Bl b0_4)),(.mp 1),(.mp 2)],.map (Bd (O .i64) b1),.map (Bd (As 5 C6) b2)]:=⟨fun {r} h=>by
 refine aw C0 true Tryz.func49 ?_
 refine Z ?_
 refine A9 [3,0,1,2] h (fun _ h=>?_)
 exact Y⟩
instance {a0:Bc} {b1:List (ByteArray×Int)} {b2:List (ByteArray×(List B7))} {b0_0:List Az} {b0_1:List Aj} {b0_2 b0_3:Int} {b0_4:List Aj}:OK (P6 a0 b1 b2 b0_0 b0_1 b0_2 b0_3 b0_4) fun r=>Br Tryz.prog 19 [(.loc 0 0),Gn a0] [.cells 118 [(.sl 3 (List.map Co b0_0)),(.sl 3 (Bl b0_1)),(O .i64 b0_2),(O .i64 b0_3),(.sl 3 (Bl b0_4)),(.mp 1),(.mp 2)],.map (Bd (O .i64) b1),.map (Bd (As 5 C6) b2)] (Ar r.1) [.cells 118 [(.sl 3 (List.map Co b0_0)),(.sl 3 (Bl b0_1)),(O .i64 b0_2),(O .i64 b0_3),(.sl 3 (Bl b0_4)),(.mp 1),(.mp 2)],.map (Bd (O .i64) r.2),.map (Bd (As 5 C6) b2)]:=⟨fun {r} h=>by
 refine aw C0 true Tryz.func19 ?_
 refine Z ?_
 refine A5 h (fun (v6,o7)=>[(4,(Ar false)),(12,(O .i64 v6))]) (fun (v6,o7)=>[(1,.map (Bd (O .i64) o7))]) ?_
 rintro ⟨v6,o7⟩ _ _ _ h _ _
 refine Z ?_
 refine An h (fun _ h=>?_) (fun _ h=>?_)
 refine Z ?_
 refine Bx h (fun _ _ _ _ h=>?_)
 refine Z ?_
 refine A9 [0,1,2] h (fun _ h=>?_)
 refine Z ?_
 refine Fq h (fun _ h=>?_) (fun _ h=>?_)
 exact Y
 refine Z ?_
 refine A9 [0,1,2] h (fun _ h=>?_)
 exact Y
 replace h:=B9 h
 refine Z ?_
 refine A5 h (fun v18=>[(4,(Ar false)),(34,(O .i64 v18))]) (fun v18=>[]) ?_
 rintro v18 _ _ _ h _ _
 refine Z ?_
 refine An h (fun _ h=>?_) (fun _ h=>?_)
 refine Z ?_
 refine Bx h (fun _ _ _ _ h=>?_)
 refine Z ?_
 refine Fq h (fun _ h=>?_) (fun _ h=>?_)
 exact Y
 refine Z ?_
 refine A9 [0,1,2] h (fun _ h=>?_)
 exact Y
 exact Y⟩
instance {a0:Bc} {b1:List (ByteArray×Int)} {b2:List (ByteArray×(List B7))} {b0_0:List Az} {b0_1:List Aj} {b0_2 b0_3:Int} {b0_4:List Aj}:OK (Qo a0 b1 b2 b0_0 b0_1 b0_2 b0_3 b0_4) fun r=>Br Tryz.prog 98 [(.loc 0 0),Gn a0] [.cells 118 [(.sl 3 (List.map Co b0_0)),(.sl 3 (Bl b0_1)),(O .i64 b0_2),(O .i64 b0_3),(.sl 3 (Bl b0_4)),(.mp 1),(.mp 2)],.map (Bd (O .i64) b1),.map (Bd (As 5 C6) b2)] (Ar r.1) [.cells 118 [(.sl 3 (List.map Co b0_0)),(.sl 3 (Bl b0_1)),(O .i64 b0_2),(O .i64 b0_3),(.sl 3 (Bl b0_4)),(.mp 1),(.mp 2)],.map (Bd (O .i64) r.2),.map (Bd (As 5 C6) b2)]:=⟨fun {r} h=>by
 refine aw C0 true Tryz.func98 ?_
 refine ZS ?_
 refine Bw ?_
 refine ZO ?_
 refine Ay (Ay ?_)
 refine Cg h (fun (v4,o5)=>[(18,(Ar v4))]) (fun (v4,o5)=>[(1,.map (Bd (O .i64) o5))]) ?_ ?_
 intro _ h _ _ _
 refine Z ?_
 refine A9 [0,1,2] h (fun _ h=>?_)
 refine Z ?_
 refine Fq h (fun _ h=>?_) (fun _ h=>?_)
 exact Y
 refine Z ?_
 refine A9 [0,1,2] h (fun _ h=>?_)
 exact Y
 rintro ⟨v4,o5⟩ _ h
 refine An h (fun _ h=>?_) (fun _ h=>?_)
 exact Y
 refine Z ?_
 refine A5 h (fun (v9,o10)=>[(4,(Ar false)),(22,(O .i64 v9))]) (fun (v9,o10)=>[(1,.map (Bd (O .i64) o10))]) ?_
 rintro ⟨v9,o10⟩ _ _ _ h _ _
 refine Z ?_
 refine An h (fun _ h=>?_) (fun _ h=>?_)
 refine Z ?_
 refine Bx h (fun _ _ _ _ h=>?_)
 refine Z ?_
 refine A9 [0,1,2] h (fun _ h=>?_)
 exact Y
 replace h:=B9 h
 refine Z ?_
 refine A5 h (fun v22=>[(4,(Ar false)),(54,(O .i64 v22))]) (fun v22=>[]) ?_
 rintro v22 _ _ _ h _ _
 refine Z ?_
 refine An h (fun _ h=>?_) (fun _ h=>?_)
 refine Z ?_
 refine Bx h (fun _ _ _ _ h=>?_)
 refine ZO ?_
 refine Ay (Ay ?_)
 refine Cg h (fun v26=>[(74,(Ar v26))]) (fun v26=>[]) ?_ ?_
 intro _ h _ _ _
 exact Y
 rintro v26 _ h
 exact Y
 exact Y⟩
instance {a0:Ak}:OK (Iy a0) fun r=>Aw Tryz.prog 29 [B0 a0] (B0 r):=⟨fun {r} h=>by
 refine pw C0 Tryz.func29 ?_
 exact Y⟩
instance {a0:Ft}:OK (Of a0) fun r=>Aw Tryz.prog 86 [M3 a0] ((O .i64) r):=⟨fun {r} h=>by
 refine pw C0 Tryz.func86 ?_
 exact Y⟩
instance {a0:Ak}:OK (Gl a0) fun r=>Aw Tryz.prog 53 [B0 a0] ((O .i64) r):=⟨fun {r} h=>by
 refine pw C0 Tryz.func53 ?_
 exact Y⟩
instance {a0 a1:List Int}:OK (K5 a0 a1) fun r=>Aw Tryz.prog 97 [(As 1 (O .u32)) a0,(As 1 (O .u32)) a1] (Ar r):=⟨fun {r} h=>by
 refine pw C0 Tryz.func97 ?_
 refine Z ?_
 refine An h (fun _ h=>?_) (fun _ h=>?_)
 exact Y
 refine Z ?_
 refine A5 h (fun v3=>[(4,(Ar false)),(13,(O .i64 v3))]) (fun v3=>[]) ?_
 rintro v3 _ _ _ h _ _
 exact Y⟩
instance {a0:List Ai} {b1:List (ByteArray×Int)} {b2:List (ByteArray×(List B7))} {b0_0:List Az} {b0_1:List Aj} {b0_2 b0_3:Int} {b0_4:List Aj}:OK (Sx a0 b1 b2 b0_0 b0_1 b0_2 b0_3 b0_4) fun r=>Br Tryz.prog 46 [(.loc 0 0),(As 5 Bt) a0] [.cells 118 [(.sl 3 (List.map Co b0_0)),(.sl 3 (Bl b0_1)),(O .i64 b0_2),(O .i64 b0_3),(.sl 3 (Bl b0_4)),(.mp 1),(.mp 2)],.map (Bd (O .i64) b1),.map (Bd (As 5 C6) b2)] (Ar r.1) [.cells 118 [(.sl 3 (List.map Co b0_0)),(.sl 3 (Bl b0_1)),(O .i64 b0_2),(O .i64 b0_3),(.sl 3 (Bl b0_4)),(.mp 1),(.mp 2)],.map (Bd (O .i64) r.2),.map (Bd (As 5 C6) b2)]:=⟨fun {r} h=>by
 refine aw C0 true Tryz.func46 ?_
 refine Z ?_
 refine An h (fun _ h=>?_) (fun _ h=>?_)
 exact Y
 refine Z ?_
 refine A5 h (fun (v10,o11)=>[(4,(Ar false)),(14,(O .i64 v10))]) (fun (v10,o11)=>[(1,.map (Bd (O .i64) o11))]) ?_
 rintro ⟨v10,o11⟩ _ _ _ h _ _
 refine Z ?_
 refine An h (fun _ h=>?_) (fun _ h=>?_)
 refine Z ?_
 refine Bx h (fun _ _ _ _ h=>?_)
 refine Z ?_
 refine Bh h (fun _ h=>?_)
 refine ZO ?_
 refine Ay ?_
 refine Cg h (fun v18=>[(8,(Ar v18))]) (fun v18=>[]) ?_ ?_
 intro _ h _ _ _
 exact Y
 rintro v18 _ h
 refine Z ?_
 refine Fq h (fun _ h=>?_) (fun _ h=>?_)
 exact Y
 refine Z ?_
 refine Bh h (fun _ h=>?_)
 refine Z ?_
 refine Fq h (fun _ h=>?_) (fun _ h=>?_)
 exact Y
 refine Z ?_
 refine A9 [0,1,2] h (fun _ h=>?_)
 exact Y
 exact Y⟩
theorem Aht {a0:Cw} {a1:List (List Ai)} {r:(Bool×Cw×(List (ByteArray×Int))×(List (ByteArray×(List B7)))×(List Az)×(List Aj)×Int×Int×(List Aj))} (h:Lr a0 a1=some (.inl r)):Br Tryz.prog 18 [H9 a0,(As 1 (As 5 Bt)) a1] [] (.tup [.loc 3 0,Ar r.1]) [.cells 29 [(.sl 3 (List.map Co r.2.1.Data)),(.sl 3 (Bl r.2.1.Vars)),(O .i64 r.2.1.Res.Kind),(O .i64 r.2.1.Res.Num),(.sl 3 (Bl r.2.1.Res.Args))],.map (Bd (O .i64) r.2.2.1),.map (Bd (As 5 C6) r.2.2.2.1),.cells 118 [(.sl 3 (List.map Co r.2.2.2.2.1)),(.sl 3 (Bl r.2.2.2.2.2.1)),(O .i64 r.2.2.2.2.2.2.1),(O .i64 r.2.2.2.2.2.2.2.1),(.sl 3 (Bl r.2.2.2.2.2.2.2.2)),(.mp 1),(.mp 2)]]:=by
 refine aw {T:=Ce,an:=(fun _=>.ask),nl:=(fun s=>bif Nat.beq s 18 then [(1,7),(2,3),(3,8)] else [])} true Tryz.func18 ?_
 refine ZS ?_
 refine Bw ?_
 refine ZO ?_
 refine Ay (Ay ?_)
 refine Cg h (fun v4=>[(29,(Ar v4))]) (fun v4=>[]) ?_ ?_
 intro _ h _ _ _
 exact Y
 rintro v4 _ h
 refine An h (fun _ h=>?_) (fun _ h=>?_)
 exact Y
 refine Z ?_
 refine A5 h (fun v8=>[(4,(.val (.pointer none))),(5,(Ar false)),(33,(O .i64 v8))]) (fun v8=>[]) ?_
 rintro v8 _ _ _ h _ _
 refine Z ?_
 refine An h (fun _ h=>?_) (fun _ h=>?_)
 exact Y
 replace h:=B9 h
 refine Z ?_
 refine A5 h (fun (v18,o19)=>[(4,(.val (.pointer none))),(5,(Ar false)),(50,(O .i64 v18))]) (fun (v18,o19)=>[(1,.map (Bd (O .i64) o19))]) ?_
 rintro ⟨v18,o19⟩ _ _ _ h _ _
 refine Z ?_
 refine An h (fun _ h=>?_) (fun _ h=>?_)
 refine Z ?_
 refine Bx h (fun _ _ _ _ h=>?_)
 refine Z ?_
 refine A9 [3,1,2] h (fun _ h=>?_)
 exact Y
 exact Y
theorem Ahu {a0:Cw} {a1:List (List Ai)} {r:Bool} (h:Lr a0 a1=some (.inr r)):Br Tryz.prog 18 [H9 a0,(As 1 (As 5 Bt)) a1] [] (.tup [.val (.pointer none),Ar r]) []:=by
 refine aw {T:=Ce,an:=(fun _=>.ask),nl:=(fun s=>bif Nat.beq s 18 then [(1,7),(2,3),(3,8)] else [])} true Tryz.func18 ?_
 refine ZS ?_
 refine Bw ?_
 refine ZO ?_
 refine Ay (Ay ?_)
 refine Cg h (fun v4=>[(29,(Ar v4))]) (fun v4=>[]) ?_ ?_
 intro _ h _ _ _
 exact Y
 rintro v4 _ h
 refine An h (fun _ h=>?_) (fun _ h=>?_)
 exact Y
 refine Z ?_
 refine A5 h (fun v8=>[(4,(.val (.pointer none))),(5,(Ar false)),(33,(O .i64 v8))]) (fun v8=>[]) ?_
 rintro v8 _ _ _ h _ _
 refine Z ?_
 refine An h (fun _ h=>?_) (fun _ h=>?_)
 exact Y
 replace h:=B9 h
 refine Z ?_
 refine A5 h (fun (v18,o19)=>[(4,(.val (.pointer none))),(5,(Ar false)),(50,(O .i64 v18))]) (fun (v18,o19)=>[(1,.map (Bd (O .i64) o19))]) ?_
 rintro ⟨v18,o19⟩ _ _ _ h _ _
 refine Z ?_
 refine An h (fun _ h=>?_) (fun _ h=>?_)
 refine Z ?_
 refine Bx h (fun _ _ _ _ h=>?_)
 refine Z ?_
 refine A9 [3,1,2] h (fun _ h=>?_)
 exact Y
 exact Y
instance {a0:Cw} {a1:List Ai}:OK (Js a0 a1) fun r=>Aw Tryz.prog 71 [H9 a0,(As 5 Bt) a1] (Ar r):=⟨fun {r} h=>by
 refine pw C0 Tryz.func71 ?_
 refine Z ?_
 refine C5 h (fun v2 hcv2 h=>?_)
 rcases v2 with v3 | v8
 refine Fy.act [] _ _ _ _ (Aht (a0:=a0) (a1:=[a1]) hcv2) rfl rfl trivial ?_
 exact Y
 refine Fy.act [] _ _ _ _ (Ahu (a0:=a0) (a1:=[a1]) hcv2) rfl rfl trivial ?_
 exact Y⟩
instance {a0:Cw} {a1:List Ai}:OK (P9 a0 a1) fun r=>Aw Tryz.prog 26 [H9 a0,(As 5 Bt) a1] (Ar r):=⟨fun {r} h=>by
 refine pw C0 Tryz.func26 ?_
 refine Z ?_
 refine Bh h (fun _ h=>?_)
 refine Z ?_
 refine An h (fun _ h=>?_) (fun _ h=>?_)
 exact Y
 refine Z ?_
 refine A5 h (fun v14=>[(4,(Ar false)),(18,(O .i64 v14))]) (fun v14=>[]) ?_
 rintro v14 _ _ _ h _ _
 refine Z ?_
 refine An h (fun _ h=>?_) (fun _ h=>?_)
 refine Z ?_
 refine Bx h (fun _ _ _ _ h=>?_)
 refine Z ?_
 refine An h (fun _ h=>?_) (fun _ h=>?_)
 exact Y
 refine Z ?_
 refine A5 h (fun v20=>[(4,(Ar false)),(31,(O .i64 v20))]) (fun v20=>[]) ?_
 rintro v20 _ _ _ h _ _
 exact Y
 exact Y⟩
instance {a0:Cw} {a1:List Ai} {a2:List Oy}:OK (Ss a0 a1 a2) fun r=>Aw Tryz.prog 10 [H9 a0,(As 5 Bt) a1,(As 3 Ap2) a2] (.tup [B0 r.1,(O .i64) r.2]):=⟨fun {r} h=>by
 refine pw {T:=Ce,an:=(fun _=>.ask),nl:=(fun s=>bif Nat.beq s 112 then [(1,1),(2,1)] else bif Nat.beq s 67 then [(1,1),(2,1)] else bif Nat.beq s 47 then [(1,1),(2,1)] else bif Nat.beq s 32 then [(1,1),(2,1)] else [])} Tryz.func10 ?_
 refine Z ?_
 refine Bh h (fun _ h=>?_)
 refine Z ?_
 refine An h (fun _ h=>?_) (fun _ h=>?_)
 exact Y
 refine Z ?_
 refine A5 h (fun v6=>[(7,(O .i64 0)),(35,(O .i64 v6))]) (fun v6=>[]) ?_
 rintro v6 _ _ _ h _ _
 refine Z ?_
 refine An h (fun _ h=>?_) (fun _ h=>?_)
 exact Y
 replace h:=B9 h
 refine Z ?_
 refine A5 h (fun (v16,o17)=>[(7,(O .i64 0)),(52,(O .i64 v16))]) (fun (v16,o17)=>[(2,.map (N7 M9 (O .i64) o17))]) ?_
 rintro ⟨v16,o17⟩ _ _ _ h _ _
 refine Z ?_
 refine An h (fun _ h=>?_) (fun _ h=>?_)
 refine Z ?_
 refine Bx h (fun _ v18 _ _ h=>?_)
 refine ZO ?_
 refine Ay (Ay ?_)
 refine Cg h (fun v20=>[(14,(Ar v20))]) (fun v20=>[]) ?_ ?_
 intro _ h _ _ _
 refine Z ?_
 refine Af5 (eq:=Ia) (g:=M9) (k:=(Fs.mk v18.Var v18.Con)) Abt Abu (f:=(O .i64)) (l:=o17) rfl (0:Int) rfl h (fun j_ hb h=>?_) (fun hb h=>?_)
 exact Y
 exact Y
 rintro v20 _ h
 refine Z ?_
 refine An h (fun _ h=>?_) (fun _ h=>?_)
 exact Y
 refine Z ?_
 refine Apq (eq:=Ia) (g:=M9) (k:=(Fs.mk v18.Var v18.Con)) Abt Abu (f:=(O .i64)) (l:=o17) (x:=v18.N) rfl rfl rfl rfl h (fun o21 h=>?_)
 exact Y
 replace h:=B9 h
 refine Z ?_
 refine Bh h (fun _ h=>?_)
 refine Z ?_
 refine A5 h (fun (v57,v58,v59,v60)=>[(7,(O .i64 0)),(80,(O .i64 v57))]) (fun (v57,v58,v59,v60)=>[(3,.cells 34 [(Ar v58),(.sl 1 (List.map (O .u32) v59)),(.sl 1 (List.map (O .u32) v60))])]) ?_
 rintro ⟨v57,v58,v59,v60⟩ _ _ _ h _ _
 refine Z ?_
 refine An h (fun _ h=>?_) (fun _ h=>?_)
 refine Z ?_
 refine Bx h (fun _ _ _ _ h=>?_)
 refine Z ?_
 refine A5 h (fun (v72,v73,v74,v75)=>[(7,(O .i64 0)),(90,(O .i64 v72))]) (fun (v72,v73,v74,v75)=>[(5,.cells 34 [(Ar v73),(.sl 1 (List.map (O .u32) v74)),(.sl 1 (List.map (O .u32) v75))])]) ?_
 rintro ⟨v72,v73,v74,v75⟩ _ _ _ h _ _
 refine Z ?_
 refine An h (fun _ h=>?_) (fun _ h=>?_)
 refine Z ?_
 refine Bx h (fun _ v76 _ _ h=>?_)
 refine Z ?_
 refine Bh h (fun v78 h=>?_)
 refine ZO ?_
 refine Ay ?_
 refine Cg h (fun (v79,v80)=>[(24,(O .i64 v79)),(25,(Ar v80))]) (fun (v79,v80)=>[]) ?_ ?_
 intro _ h _ _ _
 refine Z ?_
 refine Af5 (eq:=Ia) (g:=M9) (k:=(Fs.mk v76.Var v78.1)) Abt Abu (f:=(O .i64)) (l:=o17) rfl (0:Int) rfl h (fun j_ hb h=>?_) (fun hb h=>?_)
 exact Y
 exact Y
 rintro ⟨v79,v80⟩ _ h
 exact Y
 exact Y
 exact Y⟩
instance {a0:Cw} {a1:List Ai} {a2 a3:Int}:OK (P3 a0 a1 a2 a3) fun r=>Aw Tryz.prog 9 [H9 a0,(As 5 Bt) a1,(O .i64) a2,(O .i64) a3] (.tup [(As 3 B0) r.1,Ar r.2]):=⟨fun {r} h=>by
 refine pw {T:=Ce,an:=(fun s=>bif Nat.beq s 10 then .own else .ask),nl:=(fun s=>bif Nat.beq s 10 then [(0,3)] else bif Nat.beq s 8 then [(0,3)] else [])} Tryz.func9 ?_
 refine Z ?_
 refine Bh h (fun _ h=>?_)
 refine Z ?_
 refine An h (fun _ h=>?_) (fun _ h=>?_)
 exact Y
 refine Z ?_
 refine A5 h (fun (v44,o45)=>[(8,(.sl 3 (List.map B0 []))),(9,(Ar false)),(10,(.arr 1 o45.length 0 o45.length)),(23,(O .i64 v44))]) (fun (v44,o45)=>[(1,.rows 34 3 (List.map B0 o45))]) ?_
 rintro ⟨v44,o45⟩ _ _ _ h _ hn1
 refine Z ?_
 refine An h (fun _ h=>?_) (fun _ h=>?_)
 refine Z ?_
 refine Bx h (fun _ _ _ _ h=>?_)
 refine ZS ?_
 refine Bw ?_
 refine ZS ?_
 refine Bw ?_
 refine ZO ?_
 refine Xl (fun (v51:Int)=>(.inl v51)) h (fun v51=>[(8,(.sl 3 (List.map B0 []))),(9,(Ar false)),(13,(O .i64 v51))]) (fun v51=>[]) ?_ ?_
 intro _ h _ _ _
 exact Y
 rintro v51 _ h
 refine Z ?_
 refine A5 h (fun o57=>[(10,(.arr 1 o57.length 0 o57.length))]) (fun o57=>[(1,.rows 34 3 (List.map B0 o57))]) ?_
 rintro o57 _ _ _ h _ _
 refine Z ?_
 refine An h (fun _ h=>?_) (fun _ h=>?_)
 exact Y
 replace h:=B9 h
 refine Z ?_
 refine Bh h (fun v61 h=>?_)
 refine Z ?_
 refine I4 h (fun _ _ hiv62 _ h=>?_)
 refine Z ?_
 refine Lp (f:=B0) (x:=v61) (j:=v51) rfl rfl (Nat.zero_add _) hiv62 ?_
 refine Z ?_
 exact hn1 _ _ _ _ (Option.some.inj h) ⟨rfl,rfl,congrArg (fun q=>AV.arr 1 q 0 q) (Gd (l:=o57) rfl v51 v61),rfl,trivial⟩ ⟨⟨rfl,rfl⟩,⟨rfl,rfl⟩,trivial⟩ trivial
 exact Y⟩
instance  : OK (Aa2) fun r=>Aw Tryz.prog 17 [] (F7 r):=⟨fun {r} h=>by
 refine pw {T:=Ce,an:=(fun _=>.ask),nl:=(fun s=>bif Nat.beq s 1 then [(1,2)] else [])} Tryz.func17 ?_
 exact Y⟩
instance {a0 a1:Int}:OK (Kb a0 a1) fun r=>Aw Tryz.prog 7 [(O .i64) a0,(O .i64) a1] (Gn r):=⟨fun {r} h=>by
 refine pw {T:=Ce,an:=(fun _=>.ask),nl:=(fun s=>bif Nat.beq s 21 then [(1,3)] else bif Nat.beq s 12 then [(0,2)] else [])} Tryz.func7 ?_
 refine ZS ?_
 refine Bw ?_
 refine ZS ?_
 refine Bw ?_
 refine ZO ?_
 refine Ay ?_
 refine C4 [.own 5 1 69 2] ?_
 refine Z ?_
 refine A5 h (fun (v10,o11)=>[(1,(O .i64 v10))]) (fun (v10,o11)=>[(1,.cells 69 [(O .i64 0),(.arr 2 o11.length 0 o11.length)]),(2,.rows 69 2 (Hr o11))]) ?_
 rintro ⟨v10,o11⟩ _ _ _ h _ _
 refine Z ?_
 refine An h (fun _ h=>?_) (fun _ h=>?_)
 exact Y
 replace h:=B9 h
 refine Ez (Ew rfl (Ay ?_))
 refine C4 [.fzc 5 1] ?_
 exact Y⟩
instance  : OK (Sq) fun r=>Aw Tryz.prog 5 [] (H9 r):=⟨fun {r} h=>by
 refine pw {T:=Ce,an:=(fun _=>.ask),nl:=(fun s=>bif Nat.beq s 24 then [(2,3)] else bif Nat.beq s 12 then [(2,3)] else bif Nat.beq s 11 then [(2,3)] else bif Nat.beq s 10 then [(1,3)] else bif Nat.beq s 6 then [(2,3)] else [])} Tryz.func5 ?_
 exact Y⟩
instance {a0 a1:Ak}:OK (Wq a0 a1) fun r=>Aw Tryz.prog 40 [B0 a0,B0 a1] ((O .i64) r):=⟨fun {r} h=>by
 refine pw C0 Tryz.func40 ?_
 exact Y⟩
instance {a0 a1:Ak}:OK (Aa4 a0 a1) fun r=>Aw Tryz.prog 39 [B0 a0,B0 a1] (B0 r):=⟨fun {r} h=>by
 refine pw C0 Tryz.func39 ?_
 exact Y⟩
abbrev Ahv (k:Nat):Prop:=∀{a0:Be},OK (Tk k a0) fun r=>Aw Tryz.prog 143 [F7 a0] (F7 r)
theorem Aqz (k:Nat):Ahv k:=by
 induction k with
 | zero=>exact okz
 | succ k ih=>
  refine @fun a0=>⟨fun {r} h=>?_⟩
  .unfold Tk at h
   refine pw {T:=Ce,an:=(fun _=>.ask),nl:=(fun s=>bif Nat.beq s 17 then [(0,2)] else [])} Tryz.func143 ?_
   refine ZS ?_
   refine Bw ?_
   refine ZS ?_
   refine Bw ?_
   refine ZO ?_
   refine Ay (Ay ?_)
   refine C4 [.own 3 1 69 2] ?_
   refine Z ?_
   refine A5 h (fun (v15,o16)=>[(12,(O .i64 v15))]) (fun (v15,o16)=>[(2,.cells 69 [(O .i64 a0.Num),(.arr 3 o16.length 0 o16.length)]),(3,.rows 69 2 (Hr o16))]) ?_
   rintro ⟨v15,o16⟩ _ _ _ h _ _
   exact Y
instance {k:Nat}:Ahv k:=(Aqz k)
instance {a0:List B6}:OK (S5 a0) fun r=>Aw Tryz.prog 104 [(As 2 Dw) a0] ((As 2 Dw) r):=⟨fun {r} h=>by
 exact Aqa h⟩
instance {a0:Bc}:OK (Wt a0) fun r=>Aw Tryz.prog 85 [Gn a0] (Gn r):=⟨fun {r} h=>by
 refine pw {T:=Ce,an:=(fun _=>.ask),nl:=(fun s=>bif Nat.beq s 44 then [(0,3)] else bif Nat.beq s 17 then [(0,3)] else [])} Tryz.func85 ?_
 refine ZS ?_
 refine Bw ?_
 refine ZS ?_
 refine Bw ?_
 refine ZO ?_
 refine Ay (Ay ?_)
 refine C4 [.own 3 0 72 3,.own 3 1 84 3] ?_
 refine Z ?_
 refine A5 h (fun (v16,o17)=>[(12,(O .i64 v16))]) (fun (v16,o17)=>[(2,.cells 40 [(.arr 3 o17.length 0 o17.length),(.arr 4 0 0 0)]),(3,.rows 72 3 (List.map Dh o17))]) ?_
 rintro ⟨v16,o17⟩ _ _ _ h _ _
 refine Z ?_
 refine An h (fun _ h=>?_) (fun _ h=>?_)
 exact Y
 replace h:=B9 h
 refine Z ?_
 refine A5 h (fun (v35,o36)=>[(31,(O .i64 v35))]) (fun (v35,o36)=>[(2,.cells 40 [(.arr 3 o17.length 0 o17.length),(.arr 4 o36.length 0 o36.length)]),(4,.rows 84 3 (List.map Dn o36))]) ?_
 rintro ⟨v35,o36⟩ _ _ _ h _ _
 exact Y⟩
instance {a0:Cw} {a1 a2:List Ai}:OK (Aa3 a0 a1 a2) fun r=>Aw Tryz.prog 38 [H9 a0,(As 5 Bt) a1,(As 5 Bt) a2,(.fn 39 [])] (.tup [(As 5 Bt) r.1,(O .i64) r.2]):=⟨fun {r} h=>by
 refine pw {T:=Ce,an:=(fun s=>bif Nat.beq s 10 then .own else .ask),nl:=(fun s=>bif Nat.beq s 10 then [(0,5)] else bif Nat.beq s 8 then [(0,5)] else [])} Tryz.func38 ?_
 refine ZS ?_
 refine Bw ?_
 refine ZO ?_
 refine Ay (Ay ?_)
 refine Cg h (fun v4=>[(25,(Ar v4))]) (fun v4=>[]) ?_ ?_
 intro _ h _ _ _
 exact Y
 rintro v4 _ h
 refine An h (fun _ h=>?_) (fun _ h=>?_)
 exact Y
 refine Z ?_
 refine A5 h (fun (v77,v78,o79)=>[(1,(.sl 5 (List.map Bt v77))),(2,(.sl 5 (List.map Bt v78))),(10,(.arr 1 o79.length 0 o79.length))]) (fun (v77,v78,o79)=>[(1,.rows 42 5 (List.map Bt o79))]) ?_
 rintro ⟨v77,v78,o79⟩ _ _ _ h _ _
 refine Ay (Ay ?_)
 refine Cg h (fun v80=>[(33,(Ar v80))]) (fun v80=>[]) ?_ ?_
 intro _ h _ _ _
 exact Y
 rintro v80 _ h
 refine An h (fun _ h=>?_) (fun _ h=>?_)
 refine ZS ?_
 refine Bw ?_
 refine ZO ?_
 refine Ay ?_
 refine Cg h (fun v84=>[(11,(O .i64 v84))]) (fun v84=>[]) ?_ ?_
 intro _ h _ _ _
 exact Y
 rintro v84 _ h
 refine Z ?_
 refine Bh h (fun _ h=>?_)
 refine Z ?_
 refine Bh h (fun _ h=>?_)
 refine ZS ?_
 refine Bw ?_
 refine ZO ?_
 refine Ay (Ay ?_)
 refine C4 [.nil 14 0 3,.nil 14 1 3] ?_
 refine ZS ?_
 refine Bw ?_
 refine ZO ?_
 refine Cg h (fun (v93,v94,v95,v96,v97,v98)=>[(2,(.sl 5 (List.map Bt v93)))]) (fun (v93,v94,v95,v96,v97,v98)=>[(3,.cells 34 [(Ar v94),(.sl 1 (List.map (O .u32) v95)),(.sl 1 (List.map (O .u32) v96))]),(4,.cells 40 [(.sl 3 (List.map Dh v97)),(.sl 3 (List.map Dn v98))])]) ?_ ?_
 intro _ h _ _ _
 exact Y
 rintro ⟨v93,v94,v95,v96,v97,v98⟩ _ h
 refine ZS ?_
 refine Bw ?_
 refine ZO ?_
 refine Cg h (fun (v102,v103,v104,v105,v106,v107)=>[(1,(.sl 5 (List.map Bt v102)))]) (fun (v102,v103,v104,v105,v106,v107)=>[(2,.cells 34 [(Ar v103),(.sl 1 (List.map (O .u32) v104)),(.sl 1 (List.map (O .u32) v105))]),(4,.cells 40 [(.sl 3 (List.map Dh v106)),(.sl 3 (List.map Dn v107))])]) ?_ ?_
 intro _ h _ _ _
 exact Y
 rintro ⟨v102,v103,v104,v105,v106,v107⟩ _ h
 exact Y
 exact Y⟩
instance {a0:Cw} {a1 a2:List Ai}:OK (Aa0 a0 a1 a2) fun r=>Aw Tryz.prog 14 [H9 a0,(As 5 Bt) a1,(As 5 Bt) a2] (.tup [(As 5 Bt) r.1,(O .i64) r.2]):=⟨fun {r} h=>by
 refine pw {T:=Ce,an:=(fun _=>.ask),nl:=(fun s=>bif Nat.beq s 6 then [(0,5)] else [])} Tryz.func14 ?_
 exact Y⟩
instance {a0 a1:Ak}:OK (Aa5 a0 a1) fun r=>Aw Tryz.prog 41 [B0 a0,B0 a1] (B0 r):=⟨fun {r} h=>by
 refine pw C0 Tryz.func41 ?_
 exact Y⟩
instance {a0:Cw} {a1 a2:List Ai}:OK (Agg a0 a1 a2) fun r=>Aw Tryz.prog 38 [H9 a0,(As 5 Bt) a1,(As 5 Bt) a2,(.fn 41 [])] (.tup [(As 5 Bt) r.1,(O .i64) r.2]):=⟨fun {r} h=>by
 refine pw {T:=Ce,an:=(fun s=>bif Nat.beq s 10 then .own else .ask),nl:=(fun s=>bif Nat.beq s 10 then [(0,5)] else bif Nat.beq s 8 then [(0,5)] else [])} Tryz.func38 ?_
 refine ZS ?_
 refine Bw ?_
 refine ZO ?_
 refine Ay (Ay ?_)
 refine Cg h (fun v4=>[(25,(Ar v4))]) (fun v4=>[]) ?_ ?_
 intro _ h _ _ _
 exact Y
 rintro v4 _ h
 refine An h (fun _ h=>?_) (fun _ h=>?_)
 exact Y
 refine Z ?_
 refine A5 h (fun (v77,v78,o79)=>[(1,(.sl 5 (List.map Bt v77))),(2,(.sl 5 (List.map Bt v78))),(10,(.arr 1 o79.length 0 o79.length))]) (fun (v77,v78,o79)=>[(1,.rows 42 5 (List.map Bt o79))]) ?_
 rintro ⟨v77,v78,o79⟩ _ _ _ h _ _
 refine Ay (Ay ?_)
 refine Cg h (fun v80=>[(33,(Ar v80))]) (fun v80=>[]) ?_ ?_
 intro _ h _ _ _
 exact Y
 rintro v80 _ h
 refine An h (fun _ h=>?_) (fun _ h=>?_)
 refine ZS ?_
 refine Bw ?_
 refine ZO ?_
 refine Ay ?_
 refine Cg h (fun v84=>[(11,(O .i64 v84))]) (fun v84=>[]) ?_ ?_
 intro _ h _ _ _
 exact Y
 rintro v84 _ h
 refine Z ?_
 refine Bh h (fun _ h=>?_)
 refine Z ?_
 refine Bh h (fun _ h=>?_)
 refine ZS ?_
 refine Bw ?_
 refine ZO ?_
 refine Ay (Ay ?_)
 refine C4 [.nil 14 0 3,.nil 14 1 3] ?_
 refine ZS ?_
 refine Bw ?_
 refine ZO ?_
 refine Cg h (fun (v93,v94,v95,v96,v97,v98)=>[(2,(.sl 5 (List.map Bt v93)))]) (fun (v93,v94,v95,v96,v97,v98)=>[(3,.cells 34 [(Ar v94),(.sl 1 (List.map (O .u32) v95)),(.sl 1 (List.map (O .u32) v96))]),(4,.cells 40 [(.sl 3 (List.map Dh v97)),(.sl 3 (List.map Dn v98))])]) ?_ ?_
 intro _ h _ _ _
 exact Y
 rintro ⟨v93,v94,v95,v96,v97,v98⟩ _ h
 refine ZS ?_
 refine Bw ?_
 refine ZO ?_
 refine Cg h (fun (v102,v103,v104,v105,v106,v107)=>[(1,(.sl 5 (List.map Bt v102)))]) (fun (v102,v103,v104,v105,v106,v107)=>[(2,.cells 34 [(Ar v103),(.sl 1 (List.map (O .u32) v104)),(.sl 1 (List.map (O .u32) v105))]),(4,.cells 40 [(.sl 3 (List.map Dh v106)),(.sl 3 (List.map Dn v107))])]) ?_ ?_
 intro _ h _ _ _
 exact Y
 rintro ⟨v102,v103,v104,v105,v106,v107⟩ _ h
 exact Y
 exact Y⟩
instance {a0:Cw} {a1 a2:List Ai}:OK (Aa1 a0 a1 a2) fun r=>Aw Tryz.prog 15 [H9 a0,(As 5 Bt) a1,(As 5 Bt) a2] (.tup [(As 5 Bt) r.1,(O .i64) r.2]):=⟨fun {r} h=>by
 refine pw {T:=Ce,an:=(fun _=>.ask),nl:=(fun s=>bif Nat.beq s 6 then [(0,5)] else [])} Tryz.func15 ?_
 exact Y⟩
instance {a0:List Int}:OK (H7 a0) fun r=>Aw Tryz.prog 88 [(As 1 (O .u32)) a0] ((As 1 (O .u32)) r):=⟨fun {r} h=>by
 refine pw {T:=Ce,an:=(fun _=>.ask),nl:=(fun s=>bif Nat.beq s 2 then [(0,1)] else [])} Tryz.func88 ?_
 refine Z ?_
 refine A5 h (fun v2=>[(3,(O .i64 v2))]) (fun v2=>[]) ?_
 rintro v2 _ _ _ h _ _
 exact Y⟩
instance {a0:List Int}:OK (Qm a0) fun r=>Aw Tryz.prog 82 [(As 1 (O .u32)) a0] ((As 1 (O .u32)) r):=⟨fun {r} h=>by
 refine pw {T:=Ce,an:=(fun s=>bif Nat.beq s 3 then .own else .ask),nl:=(fun s=>bif Nat.beq s 3 then [(0,1)] else bif Nat.beq s 2 then [(0,1)] else [])} Tryz.func82 ?_
 refine Z ?_
 refine A5 h (fun (v13,v14,o15)=>[(3,(.arr 0 o15.length 0 o15.length)),(4,(O .u64 v13)),(5,(O .i64 v14))]) (fun (v13,v14,o15)=>[(0,.rows 105 1 (List.map (O .u32) o15))]) ?_
 rintro ⟨v13,v14,o15⟩ _ _ _ h _ _
 refine Z ?_
 refine An h (fun _ h=>?_) (fun _ h=>?_)
 exact Y
 replace h:=B9 h
 refine Z ?_
 refine An h (fun _ h=>?_) (fun _ h=>?_)
 refine Z ?_
 refine M8 h (fun _ h=>?_)
 refine ZO ?_
 refine Ay ?_
 refine C4 [.fz 3] ?_
 exact Y
 refine Mn (Ay ?_)
 refine C4 [.fz 3] ?_
 exact Y⟩
instance {a0 a1:List Int}:OK (Tj a0 a1) fun r=>Aw Tryz.prog 142 [(As 1 (O .u32)) a0,(As 1 (O .u32)) a1] ((O .u64) r):=⟨fun {r} h=>by
 refine pw C0 Tryz.func142 ?_
 exact Y⟩
instance {a0:Int}:OK (Lt a0) fun r=>Aw Tryz.prog 37 [(O .u64) a0] ((As 1 (O .u32)) r):=⟨fun {r} h=>by
 refine pw {T:=Ce,an:=(fun s=>bif Nat.beq s 3 then .own else .ask),nl:=(fun s=>bif Nat.beq s 3 then [(0,1)] else bif Nat.beq s 2 then [(0,1)] else [])} Tryz.func37 ?_
 refine Z ?_
 refine A5 h (fun (v10,o11)=>[(0,(O .u64 v10)),(3,(.arr 0 o11.length 0 o11.length))]) (fun (v10,o11)=>[(0,.rows 105 1 (List.map (O .u32) o11))]) ?_
 rintro ⟨v10,o11⟩ _ _ _ h _ _
 exact Y⟩
instance {a0 a1:List Int}:OK (My a0 a1) fun r=>Aw Tryz.prog 139 [(As 1 (O .u32)) a0,(As 1 (O .u32)) a1] ((O .i64) r):=⟨fun {r} h=>by
 refine pw C0 Tryz.func139 ?_
 refine Z ?_
 refine An h (fun _ h=>?_) (fun _ h=>?_)
 exact Y
 refine Z ?_
 refine A5 h (fun v5=>[(4,(O .i64 0)),(5,(O .i64 v5))]) (fun v5=>[]) ?_
 rintro v5 _ _ _ h _ _
 exact Y⟩
end Go.Ab
namespace Go.Ab
open Go Go.Proofs
set_option maxRecDepth 10000
set_option maxHeartbeats 4000000
set_option linter.unusedVariables false
instance {a0 a1:List Int}:OK (Jq a0 a1) fun r=>Aw Tryz.prog 43 [(As 1 (O .u32)) a0,(As 1 (O .u32)) a1] ((As 1 (O .u32)) r):=⟨fun {r} h=>by
 refine pw {T:=Ce,an:=(fun _=>.ask),nl:=(fun s=>bif Nat.beq s 4 then [(0,1)] else [])} Tryz.func43 ?_
 refine Z ?_
 refine Ge h (fun o1 h=>?_)
 refine Z ?_
 refine Ep h (fun (v25,o26)=>[(6,(O .i64 v25))]) (fun (v25,o26)=>[(0,.rows 105 1 (List.map (O .u32) o26))]) (fun (v25,o26)=>o1.length=o26.length) ?_
 rintro ⟨v25,o26⟩ _ _ _ h _ _ q26
 refine Z ?_
 refine An h (fun _ h=>?_) (fun _ h=>?_)
 refine Z ?_
 refine Ep h (fun (v35,v36,o37)=>[(7,(O .u64 v35)),(8,(O .i64 v36))]) (fun (v35,v36,o37)=>[(0,.rows 105 1 (List.map (O .u32) o37))]) (fun (v35,v36,o37)=>o1.length=o37.length) ?_
 rintro ⟨v35,v36,o37⟩ _ _ _ h _ _ q37
 refine Ay (Ay ?_)
 refine Cg h (fun v38=>[(29,(Ar v38))]) (fun v38=>[]) ?_ ?_
 intro _ h _ _ _
 exact Y
 rintro v38 _ h
 refine An h (fun _ h=>?_) (fun _ h=>?_)
 refine Z ?_
 refine I4 h (fun _ _ _ _ h=>?_)
 refine ZS ?_
 refine Bw ?_
 refine ZO ?_
 refine Cg h (fun v42=>[(7,(O .u64 v42))]) (fun v42=>[]) ?_ ?_
 intro _ h _ _ _
 exact Y
 rintro v42 _ h
 exact Y
 exact Y
 replace h:=B9 h
 refine Ez (Ew rfl (Ay ?_))
 refine C4 [.fz 5] ?_
 exact Y⟩
instance {a0:List Int} {a1:Int}:OK (Ti a0 a1) fun r=>Aw Tryz.prog 141 [(As 1 (O .u32)) a0,(O .u64) a1] (.tup [(As 1 (O .u32)) r.1,(O .u64) r.2]):=⟨fun {r} h=>by
 refine pw {T:=Ce,an:=(fun _=>.ask),nl:=(fun s=>bif Nat.beq s 4 then [(0,1)] else [])} Tryz.func141 ?_
 refine Z ?_
 refine Ge h (fun o1 h=>?_)
 refine Z ?_
 refine Ep h (fun (v7,v8,o9)=>[(7,(O .u64 v7)),(8,(O .i64 v8))]) (fun (v7,v8,o9)=>[(0,.rows 105 1 (List.map (O .u32) o9))]) (fun (v7,v8,o9)=>o1.length=o9.length) ?_
 rintro ⟨v7,v8,o9⟩ _ _ _ h _ _ q9
 refine Z ?_
 refine An h (fun _ h=>?_) (fun _ h=>?_)
 exact Y
 replace h:=B9 h
 refine Ez (Ew rfl (Ay ?_))
 refine C4 [.fz 6] ?_
 exact Y⟩
instance {a0 a1:List Int}:OK (Mz a0 a1) fun r=>Aw Tryz.prog 140 [(As 1 (O .u32)) a0,(As 1 (O .u32)) a1] ((As 1 (O .u32)) r):=⟨fun {r} h=>by
 refine pw {T:=Ce,an:=(fun _=>.ask),nl:=(fun s=>bif Nat.beq s 4 then [(0,1)] else [])} Tryz.func140 ?_
 refine Z ?_
 refine Ge h (fun o1 h=>?_)
 refine Z ?_
 refine Ep h (fun (v10,v11,o12)=>[(6,(O .u32 v10)),(7,(O .i64 v11))]) (fun (v10,v11,o12)=>[(0,.rows 105 1 (List.map (O .u32) o12))]) (fun (v10,v11,o12)=>o1.length=o12.length) ?_
 rintro ⟨v10,v11,o12⟩ _ _ _ h _ _ q12
 refine Z ?_
 refine An h (fun _ h=>?_) (fun _ h=>?_)
 refine ZS ?_
 refine Bw ?_
 refine ZS ?_
 refine Bw ?_
 refine ZO ?_
 refine Cg h (fun v14=>[(8,(O .u32 v14))]) (fun v14=>[]) ?_ ?_
 intro _ h _ _ _
 exact Y
 rintro v14 _ h
 exact Y
 replace h:=B9 h
 refine Ez (Ew rfl (Ay ?_))
 refine C4 [.fz 5] ?_
 exact Y⟩
instance {a0 a1:List Int}:OK (Oe a0 a1) fun r=>Aw Tryz.prog 84 [(As 1 (O .u32)) a0,(As 1 (O .u32)) a1] (.tup [(As 1 (O .u32)) r.1,(As 1 (O .u32)) r.2]):=⟨fun {r} h=>by
 refine pw {T:=Ce,an:=(fun s=>bif Nat.beq s 50 then .frz 0 else bif Nat.beq s 47 then .own else .ask),nl:=(fun s=>bif Nat.beq s 9 then [(0,1)] else bif Nat.beq s 5 then [(0,1)] else bif Nat.beq s 4 then [(0,1)] else [])} Tryz.func84 ?_
 refine Z ?_
 refine Bh h (fun _ h=>?_)
 refine Z ?_
 refine An h (fun _ h=>?_) (fun _ h=>?_)
 exact Y
 refine Z ?_
 refine An h (fun _ h=>?_) (fun _ h=>?_)
 exact Y
 refine Z ?_
 refine Ge h (fun o6 h=>?_)
 refine Z ?_
 refine Ep h (fun (v33,v34,o35)=>[(9,(.sl 1 (List.map (O .u32) v33))),(10,(O .i64 v34))]) (fun (v33,v34,o35)=>[(0,.rows 105 1 (List.map (O .u32) o35))]) (fun (v33,v34,o35)=>o6.length=o35.length) ?_
 rintro ⟨v33,v34,o35⟩ _ _ _ h _ _ q35
 refine Z ?_
 refine An h (fun _ h=>?_) (fun _ h=>?_)
 refine Z ?_
 refine Bx h (fun _ _ _ _ h=>?_)
 refine Z ?_
 refine M8 h (fun o38 h=>?_)
 refine Z ?_
 refine C5 h (fun v39 hcv39 h=>?_)
 refine Ae4.mk _ (OK.ok hcv39 :) rfl ?_
 refine Z ?_
 refine Bh h (fun _ h=>?_)
 refine Z ?_
 refine A5 h (fun v44=>[(11,(O .u64 v44))]) (fun v44=>[]) ?_
 rintro v44 _ _ _ h _ _
 refine Z ?_
 refine Fq h (fun _ h=>?_) (fun _ h=>?_)
 refine Z ?_
 refine Bh h (fun _ h=>?_)
 refine Z ?_
 refine Bh h (fun _ h=>?_)
 refine Z ?_
 refine Bh h (fun _ h=>?_)
 refine Z ?_
 refine An h (fun _ h=>?_) (fun _ h=>?_)
 exact Y
 replace h:=B9 h
 refine Z ?_
 refine Bh h (fun _ h=>?_)
 refine Z ?_
 refine Bh h (fun _ h=>?_)
 refine Z ?_
 refine Bh h (fun _ h=>?_)
 refine Z ?_
 refine A5 h (fun (v54,v55)=>[(9,(.sl 1 (List.map (O .u32) v54))),(11,(O .u64 v55))]) (fun (v54,v55)=>[]) ?_
 rintro ⟨v54,v55⟩ _ _ _ h _ _
 exact Y
 replace h:=B9 h
 refine Z ?_
 refine Bh h (fun _ h=>?_)
 refine Z ?_
 refine Bh h (fun _ h=>?_)
 refine Z ?_
 refine Bh h (fun _ h=>?_)
 refine Z ?_
 refine A5 h (fun (v54,v55)=>[(9,(.sl 1 (List.map (O .u32) v54))),(11,(O .u64 v55))]) (fun (v54,v55)=>[]) ?_
 rintro ⟨v54,v55⟩ _ _ _ h _ _
 exact Y
 replace h:=B9 h
 refine Ez (Ew rfl (Ay ?_))
 refine C4 [.fz 8] ?_
 exact Y⟩
instance {a0 a1:List Int}:OK (S3 a0 a1) fun r=>Aw Tryz.prog 83 [(As 1 (O .u32)) a0,(As 1 (O .u32)) a1] ((As 1 (O .u32)) r):=⟨fun {r} h=>by
 refine pw {T:=Ce,an:=(fun _=>.ask),nl:=(fun s=>bif Nat.beq s 4 then [(0,1)] else [])} Tryz.func83 ?_
 refine Z ?_
 refine A5 h (fun (v2,v3)=>[(0,(.sl 1 (List.map (O .u32) v2))),(1,(.sl 1 (List.map (O .u32) v3)))]) (fun (v2,v3)=>[]) ?_
 rintro ⟨v2,v3⟩ _ _ _ h _ _
 exact Y⟩
instance {a0:Bool} {a1 a2:List Int}:OK (I0 a0 a1 a2) fun r=>Aw Tryz.prog 36 [Ar a0,(As 1 (O .u32)) a1,(As 1 (O .u32)) a2] (B0 r):=⟨fun {r} h=>by
 refine pw {T:=Ce,an:=(fun _=>.ask),nl:=(fun s=>bif Nat.beq s 21 then [(1,1)] else [])} Tryz.func36 ?_
 refine Z ?_
 refine Bh h (fun _ h=>?_)
 refine Z ?_
 refine Bh h (fun _ h=>?_)
 refine ZO ?_
 refine Ay (Ay ?_)
 refine Cg h (fun v4=>[(19,(Ar v4))]) (fun v4=>[]) ?_ ?_
 intro _ h _ _ _
 exact Y
 rintro v4 _ h
 refine An h (fun _ h=>?_) (fun _ h=>?_)
 exact Y
 refine Z ?_
 refine Bh h (fun _ h=>?_)
 refine ZO ?_
 refine Ay (Ay ?_)
 refine Cg h (fun v7=>[(33,(Ar v7))]) (fun v7=>[]) ?_ ?_
 intro _ h _ _ _
 exact Y
 rintro v7 _ h
 exact Y⟩
instance {a0:Ak}:OK (K2 a0) fun r=>Aw Tryz.prog 42 [B0 a0] (B0 r):=⟨fun {r} h=>by
 refine pw C0 Tryz.func42 ?_
 exact Y⟩
instance {a0:Ak}:OK (Qa a0) fun r=>Aw Tryz.prog 34 [B0 a0] ((O .i64) r):=⟨fun {r} h=>by
 refine pw C0 Tryz.func34 ?_
 exact Y⟩
instance {a0 a1:List Int}:OK (Th a0 a1) fun r=>Aw Tryz.prog 138 [(As 1 (O .u32)) a0,(As 1 (O .u32)) a1] ((As 1 (O .u32)) r):=⟨fun {r} h=>by
 refine pw {T:=Ce,an:=(fun s=>bif Nat.beq s 5 then .own else .ask),nl:=(fun s=>bif Nat.beq s 5 then [(0,1)] else bif Nat.beq s 4 then [(0,1)] else [])} Tryz.func138 ?_
 refine Z ?_
 refine A5 h (fun (v21,v22,o23)=>[(5,(.arr 0 o23.length 0 o23.length)),(6,(O .u32 v21)),(7,(O .i64 v22))]) (fun (v21,v22,o23)=>[(0,.rows 105 1 (List.map (O .u32) o23))]) ?_
 rintro ⟨v21,v22,o23⟩ _ _ _ h _ _
 refine Ay (Ay ?_)
 refine Cg h (fun v24=>[(22,(Ar v24))]) (fun v24=>[]) ?_ ?_
 intro _ h _ _ _
 exact Y
 rintro v24 _ h
 refine An h (fun _ h=>?_) (fun _ h=>?_)
 refine ZS ?_
 refine Bw ?_
 refine ZS ?_
 refine Bw ?_
 refine ZO ?_
 refine Cg h (fun v26=>[(8,(O .u32 v26))]) (fun v26=>[]) ?_ ?_
 intro _ h _ _ _
 exact Y
 rintro v26 _ h
 refine ZS ?_
 refine Bw ?_
 refine ZO ?_
 refine Cg h (fun v28=>[(8,(O .u32 v28))]) (fun v28=>[]) ?_ ?_
 intro _ h _ _ _
 exact Y
 rintro v28 _ h
 exact Y
 exact Y⟩
instance {a0 a1:Ak}:OK (Od a0 a1) fun r=>Aw Tryz.prog 80 [B0 a0,B0 a1] (B0 r):=⟨fun {r} h=>by
 refine pw C0 Tryz.func80 ?_
 exact Y⟩
instance {a0:Ak}:OK (S0 a0) fun r=>Aw Tryz.prog 81 [B0 a0] (B0 r):=⟨fun {r} h=>by
 refine pw C0 Tryz.func81 ?_
 exact Y⟩
instance {a0 a1:Ak}:OK (Sw a0 a1) fun r=>Aw Tryz.prog 35 [B0 a0,B0 a1] (B0 r):=⟨fun {r} h=>by
 refine pw C0 Tryz.func35 ?_
 exact Y⟩
instance {a0 a1:Ak}:OK (P4 a0 a1) fun r=>Aw Tryz.prog 12 [B0 a0,B0 a1] ((O .i64) r):=⟨fun {r} h=>by
 refine pw C0 Tryz.func12 ?_
 exact Y⟩
instance {a0:Int}:OK (H5 a0) fun r=>Aw Tryz.prog 13 [(O .i64) a0] (B0 r):=⟨fun {r} h=>by
 refine pw C0 Tryz.func13 ?_
 exact Y⟩
instance  : OK (Wo) fun r=>Aw Tryz.prog 4 [] (Ar r):=⟨fun {r} h=>by
 refine pw {T:=Ce,an:=(fun _=>.ask),nl:=(fun s=>bif Nat.beq s 37 then [(3,3),(4,3)] else bif Nat.beq s 18 then [(3,3),(4,3)] else bif Nat.beq s 12 then [(3,3),(4,3)] else [])} Tryz.func4 ?_
 exact Y⟩
instance {a0:List B6}:OK (Agh a0) fun r=>Br Tryz.prog 104 [(As 2 Dw) a0] [] (.arr 1 r.2.length 0 r.2.length) [.rows 126 2 (List.map Dw r.1),.rows 126 2 (List.map Dw r.2)]:=⟨fun {r} h=>by
 exact Aqb h⟩
instance {a0:Int}:OK (W8 a0) fun r=>Aw Tryz.prog 193 [(O .u64) a0] ((O .i64) r):=⟨fun {r} h=>by
 refine pw C0 Tryz.func193 ?_
 refine ZS ?_
 refine Bw ?_
 refine ZS ?_
 refine Bw ?_
 refine ZO ?_
 refine Cg h (fun (v2,v3)=>[(0,(O .u64 v2)),(2,(O .i64 v3))]) (fun (v2,v3)=>[]) ?_ ?_
 intro _ h _ _ _
 exact Y
 rintro ⟨v2,v3⟩ _ h
 refine ZS ?_
 refine Bw ?_
 refine ZO ?_
 refine Cg h (fun (v5,v6)=>[(0,(O .u64 v5)),(2,(O .i64 v6))]) (fun (v5,v6)=>[]) ?_ ?_
 intro _ h _ _ _
 exact Y
 rintro ⟨v5,v6⟩ _ h
 refine ZS ?_
 refine Bw ?_
 refine ZO ?_
 refine Cg h (fun (v8,v9)=>[(0,(O .u64 v8)),(2,(O .i64 v9))]) (fun (v8,v9)=>[]) ?_ ?_
 intro _ h _ _ _
 exact Y
 rintro ⟨v8,v9⟩ _ h
 exact Y⟩
instance {a0:Int}:OK (Qq a0) fun r=>Aw Tryz.prog 123 [(O .u64) a0] ((O .i64) r):=⟨fun {r} h=>by
 refine pw C0 Tryz.func123 ?_
 exact Y⟩
instance {a0 a1:B6}:OK (S6 a0 a1) fun r=>Aw Tryz.prog 106 [Dw a0,Dw a1] ((O .i64) r):=⟨fun {r} h=>by
 refine pw C0 Tryz.func106 ?_
 exact Y⟩
instance {a0 a1:Int} {b0:List B6}:OK (Abl a0 a1 b0) fun r=>Br Tryz.prog 217 [(.arr 0 b0.length 0 b0.length),(O .i64) a0,(O .i64) a1,(.fn 106 [])] [.rows 126 2 (List.map Dw b0)] (.tup []) [.rows 126 2 (List.map Dw r)]:=⟨fun {r} h=>by
 refine aw C0 true Tryz.func217 ?_
 refine Z ?_
 refine Ep h (fun (v21,o22)=>[(8,(O .i64 v21))]) (fun (v21,o22)=>[(0,.rows 126 2 (List.map Dw o22))]) (fun (v21,o22)=>b0.length=o22.length) ?_
 rintro ⟨v21,o22⟩ _ _ _ h _ _ q22
 refine Z ?_
 refine An h (fun _ h=>?_) (fun _ h=>?_)
 refine Z ?_
 refine Ep h (fun (v31,o32)=>[(9,(O .i64 v31))]) (fun (v31,o32)=>[(0,.rows 126 2 (List.map Dw o32))]) (fun (v31,o32)=>b0.length=o32.length) ?_
 rintro ⟨v31,o32⟩ _ _ _ h _ _ q32
 refine Ay (Ay ?_)
 refine Cg h (fun v36=>[(34,(Ar v36))]) (fun v36=>[]) ?_ ?_
 intro _ h _ _ _
 exact Y
 rintro v36 _ h
 exact Y
 exact Y⟩
instance {a0 a1 a2:Int} {b0:List B6}:OK (Abi a0 a1 a2 b0) fun r=>Br Tryz.prog 159 [(.arr 0 b0.length 0 b0.length),(O .i64) a0,(O .i64) a1,(O .i64) a2,(.fn 106 [])] [.rows 126 2 (List.map Dw b0)] (.tup []) [.rows 126 2 (List.map Dw r)]:=⟨fun {r} h=>by
 refine aw C0 true Tryz.func159 ?_
 refine Z ?_
 refine A5 h (fun _=>[(1,(O .i64 a0)),(2,(O .i64 a1)),(3,(O .i64 a2)),(10,(Ar true)),(11,(Ar true))]) (fun _=>[]) ?_
 rintro _ _ _ _ h _ _
 refine Z ?_
 refine An h (fun _ h=>?_) (fun _ h=>?_)
 refine Z ?_
 refine A9 [0] h (fun _ h=>?_)
 refine C5 h (fun v2 hgv2 h=>?_)
 exact Y
 exact Y⟩
theorem Aq0 {b0:List B6} {r:(List B6)} (h:Agi b0=some r):Br Tryz.prog 105 [(.arr 0 b0.length 0 b0.length),(.fn 106 [])] [.rows 126 2 (List.map Dw b0)] (.tup []) [.rows 126 2 (List.map Dw r)]:=by
 refine aw C0 true Tryz.func105 ?_
 refine Z ?_
 refine Bh h (fun _ h=>?_)
 refine Z ?_
 refine A9 [0] h (fun _ h=>?_)
 refine C5 h (fun v3 hgv3 h=>?_)
 exact Y
instance {b0:List B6}:OK (Wv b0) fun r=>Br Tryz.prog 105 [(.arr 0 b0.length 0 b0.length),(.fn 106 [])] [.rows 126 2 (List.map Dw b0)] (.tup []) [.rows 126 2 (List.map Dw r)]:=⟨fun {r} h=>by
 unfold Wv at h
 cases hb:Nat.ble b0.length 12 with
 | true=>rw [hb] at h; exact Aq0 h
 | false=>rw [hb] at h; exact Aqn (eA:=Dw) (cmp:=S6) (g:=106) (enters_of Tryz.func106 (by kernel_rfl) rfl) (fun x y n h=>(OK.ok h :)) (fun x=>⟨_,rfl⟩) h (by rintro rfl; cases hb)⟩
instance {a0:Int} {a1:List B6}:OK (Aa6 a0 a1) fun r=>Aw Tryz.prog 52 [(O .i64) a0,(As 2 Dw) a1] (.tup [K8 r.1,(O .i64) r.2]):=⟨fun {r} h=>by
 refine pw {T:=Ce,an:=(fun _=>.ask),nl:=(fun s=>bif Nat.beq s 63 then [(1,2)] else bif Nat.beq s 55 then [(0,2)] else [])} Tryz.func52 ?_
 refine ZS ?_
 refine Bw ?_
 refine ZS ?_
 refine Bw ?_
 refine ZO ?_
 refine Ay ?_
 refine C4 [.own 6 1 126 2] ?_
 refine Z ?_
 refine A9 [] h (fun _ h=>?_)
 refine Z ?_
 refine A9 [4] h (fun _ h=>?_)
 refine C5 h (fun v8 hgv8 h=>?_)
 refine Z ?_
 refine A5 h (fun (v37,o38)=>[(8,(O .i64 v37))]) (fun (v37,o38)=>[(1,.cells 82 [(O .i64 a0),(.arr 2 o38.length 0 o38.length)]),(2,.rows 126 2 (List.map Dw o38))]) ?_
 rintro ⟨v37,o38⟩ _ _ _ h _ _
 refine Z ?_
 refine An h (fun _ h=>?_) (fun _ h=>?_)
 refine Z ?_
 refine I4 h (fun _ v39 _ _ h=>?_)
 refine Z ?_
 refine A5 h (fun (v44,v45)=>[(8,(O .i64 v44))]) (fun (v44,v45)=>[(5,.cells 126 [(O .i64 v39.Var),(O .i64 v45)])]) ?_
 rintro ⟨v44,v45⟩ _ _ _ h _ _
 refine Ay (Ay ?_)
 refine Cg h (fun v47=>[(39,(Ar v47))]) (fun v47=>[]) ?_ ?_
 intro _ h _ _ _
 exact Y
 rintro v47 _ h
 exact Y
 replace h:=B9 h
 refine Ez (Ew rfl (Ay (Ay ?_)))
 refine C4 [.fzc 6 1] ?_
 exact Y⟩
instance {a0:Int}:OK (Wr a0) fun r=>Aw Tryz.prog 51 [(O .i64) a0] (Ar r):=⟨fun {r} h=>by
 refine pw C0 Tryz.func51 ?_
 exact Y⟩
instance {a0:Ct}:OK (Wp a0) fun r=>Aw Tryz.prog 22 [K8 a0] (.tup [K8 r.1,(O .i64) r.2]):=⟨fun {r} h=>by
 refine pw {T:=Ce,an:=(fun _=>.ask),nl:=(fun s=>bif Nat.beq s 41 then [(1,2)] else bif Nat.beq s 30 then [(1,2)] else bif Nat.beq s 19 then [(1,2)] else [])} Tryz.func22 ?_
 refine Z ?_
 refine A5 h (fun v6=>[(3,(O .i64 0)),(11,(O .i64 v6))]) (fun v6=>[]) ?_
 rintro v6 _ _ _ h _ _
 refine Z ?_
 refine An h (fun _ h=>?_) (fun _ h=>?_)
 exact Y
 replace h:=B9 h
 refine Ez (Ew rfl (Ay (Ay ?_)))
 refine Cg h (fun v13=>[(29,(Ar v13))]) (fun v13=>[]) ?_ ?_
 intro _ h _ _ _
 exact Y
 rintro v13 _ h
 refine An h (fun _ h=>?_) (fun _ h=>?_)
 exact Y
 refine Z ?_
 refine A5 h (fun v17=>[(3,(O .i64 0)),(34,(O .i64 v17))]) (fun v17=>[]) ?_
 rintro v17 _ _ _ h _ _
 exact Y⟩
instance  : OK (Sv) fun r=>Br Tryz.prog 21 [] [] (.loc 1 0) [.map (Bd (O .i64) r.1),.cells 124 [(.mp 0),(.arr 2 r.2.length 0 r.2.length)],.rows 42 5 (List.map Bt r.2)]:=⟨fun {r} h=>by
 refine aw C0 true Tryz.func21 ?_
 refine ZS ?_
 refine Bw ?_
 refine ZS ?_
 refine Bw ?_
 refine ZO ?_
 refine C4 [.own 3 1 42 5] ?_
 exact Y⟩
instance {a0:Int} {a1:Be}:OK (Xf a0 a1) fun r=>Aw Tryz.prog 48 [(.val (.pointer none)),(O .i64) a0,F7 a1] ((O .i64) r):=⟨fun {r} h=>by
 refine pw C0 Tryz.func48 ?_
 exact Y⟩
instance {a0:Bc}:OK (Agj a0) fun r=>Aw Tryz.prog 20 [(.val (.pointer none)),Gn a0] ((O .i64) r):=⟨fun {r} h=>by
 refine pw C0 Tryz.func20 ?_
 refine Z ?_
 refine A5 h (fun (v5,v6)=>[(5,(O .i64 v5)),(13,(O .i64 v6))]) (fun (v5,v6)=>[]) ?_
 rintro ⟨v5,v6⟩ _ _ _ h _ _
 refine Z ?_
 refine An h (fun _ h=>?_) (fun _ h=>?_)
 exact Y
 replace h:=B9 h
 refine Z ?_
 refine A5 h (fun (v13,v14)=>[(5,(O .i64 v13)),(31,(O .i64 v14))]) (fun (v13,v14)=>[]) ?_
 rintro ⟨v13,v14⟩ _ _ _ h _ _
 exact Y⟩
instance {a0:Ct} {a1:Int}:OK (Oa a0 a1) fun r=>Aw Tryz.prog 65 [K8 a0,(O .i64) a1] ((As 3 Dn) r):=⟨fun {r} h=>by
 refine pw {T:=Ce,an:=(fun _=>.ask),nl:=(fun s=>bif Nat.beq s 4 then [(0,3)] else [])} Tryz.func65 ?_
 exact Y⟩
instance {a0:List Ak}:OK (K7 a0) fun r=>Aw Tryz.prog 177 [(As 3 B0) a0] ((As 3 B0) r):=⟨fun {r} h=>by
 refine pw {T:=Ce,an:=(fun _=>.ask),nl:=(fun s=>bif Nat.beq s 2 then [(0,3)] else [])} Tryz.func177 ?_
 refine Z ?_
 refine A5 h (fun v3=>[(3,(O .i64 v3))]) (fun v3=>[]) ?_
 rintro v3 _ _ _ h _ _
 refine Z ?_
 refine Fq h (fun _ h=>?_) (fun _ h=>?_)
 refine Z ?_
 refine Bx h (fun _ _ _ _ h=>?_)
 refine Z ?_
 refine Bh h (fun _ h=>?_)
 refine Z ?_
 refine An h (fun _ h=>?_) (fun _ h=>?_)
 exact Y
 replace h:=B9 h
 refine Z ?_
 refine Py (f:=B0) (z:=((Ak.mk false [] []):Ak)) (by repeat (first | exact E5.nil | apply E5.sl | apply E5.same)) h (fun o7 h=>?_)
 refine Z ?_
 refine Ep h (fun (v12,o13)=>[(25,(O .i64 v12))]) (fun (v12,o13)=>[(0,.rows 34 3 (List.map B0 o13))]) (fun (v12,o13)=>o7.length=o13.length) ?_
 rintro ⟨v12,o13⟩ _ _ _ h _ _ q13
 exact Y
 replace h:=B9 h
 refine Z ?_
 refine Py (f:=B0) (z:=((Ak.mk false [] []):Ak)) (by repeat (first | exact E5.nil | apply E5.sl | apply E5.same)) h (fun o7 h=>?_)
 refine Z ?_
 refine Ep h (fun (v12,o13)=>[(25,(O .i64 v12))]) (fun (v12,o13)=>[(0,.rows 34 3 (List.map B0 o13))]) (fun (v12,o13)=>o7.length=o13.length) ?_
 rintro ⟨v12,o13⟩ _ _ _ h _ _ q13
 exact Y⟩
instance {a0 a1 b0:Ak}:OK (To a0 a1 b0) fun r=>Br Tryz.prog 180 [B0 a0,B0 a1,(.loc 0 0)] [.cells 34 [(Ar b0.Neg),(.sl 1 (List.map (O .u32) b0.Num)),(.sl 1 (List.map (O .u32) b0.Den))]] (B0 r) [.cells 34 [(Ar b0.Neg),(.sl 1 (List.map (O .u32) b0.Num)),(.sl 1 (List.map (O .u32) b0.Den))]]:=⟨fun {r} h=>by
 refine aw C0 true Tryz.func180 ?_
 exact Y⟩
instance {a0 a1:List Ak} {b0:Ak}:OK (Ok a0 a1 b0) fun r=>Br Tryz.prog 178 [(As 3 B0) a0,(As 3 B0) a1,(.fn 180 [(.loc 0 0)])] [.cells 34 [(Ar b0.Neg),(.sl 1 (List.map (O .u32) b0.Num)),(.sl 1 (List.map (O .u32) b0.Den))]] ((As 3 B0) r) [.cells 34 [(Ar b0.Neg),(.sl 1 (List.map (O .u32) b0.Num)),(.sl 1 (List.map (O .u32) b0.Den))]]:=⟨fun {r} h=>by
 refine aw {T:=Ce,an:=(fun _=>.ask),nl:=(fun s=>bif Nat.beq s 6 then [(0,3)] else [])} true Tryz.func178 ?_
 refine Z ?_
 refine Py (f:=B0) (z:=((Ak.mk false [] []):Ak)) (by repeat (first | exact E5.nil | apply E5.sl | apply E5.same)) h (fun o1 h=>?_)
 refine Z ?_
 refine Ep h (fun (v15,o16)=>[(19,(O .i64 v15))]) (fun (v15,o16)=>[(1,.rows 34 3 (List.map B0 o16))]) (fun (v15,o16)=>o1.length=o16.length) ?_
 rintro ⟨v15,o16⟩ _ _ _ h _ _ q16
 refine Z ?_
 refine An h (fun _ h=>?_) (fun _ h=>?_)
 refine ZS ?_
 refine Bw ?_
 refine ZS ?_
 refine Bw ?_
 refine ZO ?_
 refine Ay (Ay ?_)
 refine C4 [.nil 9 1 1,.nil 9 2 1,.nil 10 1 1,.nil 10 2 1] ?_
 refine ZS ?_
 refine Bw ?_
 refine ZO ?_
 refine Cg h (fun (v20,v21,v22)=>[]) (fun (v20,v21,v22)=>[(2,.cells 34 [(Ar v20),(.sl 1 (List.map (O .u32) v21)),(.sl 1 (List.map (O .u32) v22))])]) ?_ ?_
 intro _ h _ _ _
 exact Y
 rintro ⟨v20,v21,v22⟩ _ h
 refine ZS ?_
 refine Bw ?_
 refine ZO ?_
 refine Cg h (fun (v24,v25,v26)=>[]) (fun (v24,v25,v26)=>[(3,.cells 34 [(Ar v24),(.sl 1 (List.map (O .u32) v25)),(.sl 1 (List.map (O .u32) v26))])]) ?_ ?_
 intro _ h _ _ _
 exact Y
 rintro ⟨v24,v25,v26⟩ _ h
 refine Z ?_
 refine A9 [0] h (fun _ h=>?_)
 exact Y
 exact Y⟩
instance {a0 a1:Int}:OK (Xg a0 a1) fun r=>Aw Tryz.prog 33 [(O .i64) a0,(O .i64) a1] (B0 r):=⟨fun {r} h=>by
 refine pw C0 Tryz.func33 ?_
 refine Z ?_
 refine Bh h (fun _ h=>?_)
 refine Z ?_
 refine A5 h (fun (v7,v8,v9,v10)=>[(9,(O .i64 v7))]) (fun (v7,v8,v9,v10)=>[(1,.cells 34 [(Ar v8),(.sl 1 (List.map (O .u32) v9)),(.sl 1 (List.map (O .u32) v10))])]) ?_
 rintro ⟨v7,v8,v9,v10⟩ _ _ _ h _ _
 exact Y⟩
instance {a0:Int}:OK (Tu a0) fun r=>Br Tryz.prog 242 [(O .i64) a0] [] (.arr 0 r.length 0 r.length) [.rows 34 3 (List.map B0 r)]:=⟨fun {r} h=>by
 refine aw {T:=Ce,an:=(fun _=>.ask),nl:=(fun s=>bif Nat.beq s 2 then [(0,3)] else [])} false Tryz.func242 ?_
 refine Z ?_
 refine Py (f:=B0) (z:=((Ak.mk false [] []):Ak)) (by repeat (first | exact E5.nil | apply E5.sl | apply E5.same)) h (fun o1 h=>?_)
 refine Z ?_
 refine Ep h (fun (v5,o6)=>[(9,(O .i64 v5))]) (fun (v5,o6)=>[(0,.rows 34 3 (List.map B0 o6))]) (fun (v5,o6)=>o1.length=o6.length) ?_
 rintro ⟨v5,o6⟩ _ _ _ h _ _ q6
 refine Z ?_
 refine An h (fun _ h=>?_) (fun _ h=>?_)
 exact Y
 replace h:=B9 h
 refine Z ?_
 cases h
 exact ⟨congrArg (fun q_=>AV.arr 0 q_ 0 q_) q6,rfl,trivial⟩⟩
instance {a0 a1:Int}:OK (Qv a0 a1) fun r=>Aw Tryz.prog 179 [(O .i64) a0,(O .i64) a1] ((As 3 B0) r):=⟨fun {r} h=>by
 refine pw {T:=Ce,an:=(fun _=>.ask),nl:=(fun s=>bif Nat.beq s 4 then [(0,3)] else [])} Tryz.func179 ?_
 refine Z ?_
 refine A9 [] h (fun v1 h=>?_)
 refine Z ?_
 refine Ep h (fun (v7,o8)=>[(6,(O .i64 v7))]) (fun (v7,o8)=>[(0,.rows 34 3 (List.map B0 o8))]) (fun (v7,o8)=>v1.length=o8.length) ?_
 rintro ⟨v7,o8⟩ _ _ _ h _ _ q8
 exact Y⟩
instance {a0 a1:List Ak}:OK (Ta a0 a1) fun r=>Aw Tryz.prog 119 [(As 3 B0) a0,(As 3 B0) a1] (.tup [(As 3 B0) r.1,Ar r.2]):=⟨fun {r} h=>by
 refine pw {T:=Ce,an:=(fun _=>.ask),nl:=(fun s=>bif Nat.beq s 6 then [(0,3)] else bif Nat.beq s 4 then [(0,3)] else [])} Tryz.func119 ?_
 refine ZS ?_
 refine Bw ?_
 refine ZO ?_
 refine Ay (Ay ?_)
 refine Cg h (fun v1=>[(19,(Ar v1))]) (fun v1=>[]) ?_ ?_
 intro _ h _ _ _
 exact Y
 rintro v1 _ h
 refine An h (fun _ h=>?_) (fun _ h=>?_)
 exact Y
 refine Z ?_
 refine Bh h (fun _ h=>?_)
 refine Z ?_
 refine Bh h (fun _ h=>?_)
 refine ZO ?_
 refine Ay (Ay ?_)
 refine Cg h (fun v4=>[(31,(Ar v4))]) (fun v4=>[]) ?_ ?_
 intro _ h _ _ _
 exact Y
 rintro v4 _ h
 refine An h (fun _ h=>?_) (fun _ h=>?_)
 exact Y
 refine Z ?_
 refine An h (fun _ h=>?_) (fun _ h=>?_)
 exact Y
 refine Z ?_
 refine A5 h (fun (v25,v26)=>[(6,(.sl 3 (List.map B0 v25))),(40,(O .i64 v26))]) (fun (v25,v26)=>[]) ?_
 rintro ⟨v25,v26⟩ _ _ _ h _ _
 refine Z ?_
 refine An h (fun _ h=>?_) (fun _ h=>?_)
 refine Z ?_
 refine Bx h (fun _ _ _ _ h=>?_)
 refine Z ?_
 refine A5 h (fun (v36,v37)=>[(6,(.sl 3 (List.map B0 v36))),(47,(O .i64 v37))]) (fun (v36,v37)=>[]) ?_
 rintro ⟨v36,v37⟩ _ _ _ h _ _
 refine Z ?_
 refine An h (fun _ h=>?_) (fun _ h=>?_)
 refine Z ?_
 refine Bx h (fun _ _ _ _ h=>?_)
 refine Z ?_
 refine Bh h (fun _ h=>?_)
 refine Z ?_
 refine Bh h (fun _ h=>?_)
 refine Z ?_
 refine An h (fun _ h=>?_) (fun _ h=>?_)
 exact Y
 refine Z ?_
 refine Bh h (fun _ h=>?_)
 refine Z ?_
 refine A9 [2] h (fun _ h=>?_)
 exact Y
 exact Y
 exact Y⟩
theorem Aq1 {a0:List Bb} {r:(List Ak)} (h:Xh a0=some r):Aw Tryz.prog 64 [(As 3 Dn) a0] ((As 3 B0) r):=by
 refine pw {T:=Ce,an:=(fun s=>bif Nat.beq s 10 then .own else .ask),nl:=(fun s=>bif Nat.beq s 2 then [(0,3)] else [])} Tryz.func64 ?_
 refine Z ?_
 refine Bh h (fun _ h=>?_)
 refine Z ?_
 refine Ep h (fun (v14,o15)=>[(3,(.arr 0 1 0 1)),(13,(O .i64 v14))]) (fun (v14,o15)=>[(0,.rows 34 3 (List.map B0 o15))]) (fun (v14,o15)=>1=o15.length) ?_
 rintro ⟨v14,o15⟩ _ _ _ h _ _ q15
 refine Z ?_
 refine An h (fun _ h=>?_) (fun _ h=>?_)
 refine Z ?_
 refine Bx h (fun _ _ _ _ h=>?_)
 refine Z ?_
 refine An h (fun _ h=>?_) (fun _ h=>?_)
 exact Y
 refine Z ?_
 refine Py (f:=B0) (z:=((Ak.mk false [] []):Ak)) (by repeat (first | exact E5.nil | apply E5.sl | apply E5.same)) h (fun o23 h=>?_)
 exact Y
 exact Y
theorem Aq2 {a0:List Bb} {r:(List Ak)} (h:Xi a0=some r):Aw Tryz.prog 64 [(As 3 Dn) a0] ((As 3 B0) r):=by
 refine pw {T:=Ce,an:=(fun _=>.ask),nl:=(fun s=>bif Nat.beq s 2 then [(0,3)] else [])} Tryz.func64 ?_
 refine Z ?_
 refine Bh h (fun _ h=>?_)
 refine Z ?_
 refine A5 h (fun (v9,v10)=>[(3,(.sl 3 (List.map B0 v9))),(13,(O .i64 v10))]) (fun (v9,v10)=>[]) ?_
 rintro ⟨v9,v10⟩ _ _ _ h _ _
 refine Z ?_
 refine An h (fun _ h=>?_) (fun _ h=>?_)
 refine Z ?_
 refine Bx h (fun _ v11 _ _ h=>?_)
 refine Z ?_
 refine An h (fun _ h=>?_) (fun _ h=>?_)
 exact Y
 refine Z ?_
 refine Py (f:=B0) (z:=((Ak.mk false [] []):Ak)) (by repeat (first | exact E5.nil | apply E5.sl | apply E5.same)) h (fun o13 h=>?_)
 refine Z ?_
 refine Bh h (fun v15 h=>?_)
 refine Z ?_
 refine I4 h (fun _ _ hiv16 _ h=>?_)
 refine Z ?_
 refine Lp (f:=B0) (x:=v15) (j:=v11.Deg) rfl rfl (Nat.zero_add _) hiv16 ?_
 refine ZO ?_
 refine C4 [.fz 8] ?_
 exact Y
 exact Y
instance {a0:List Bb}:OK (Ke a0) fun r=>Aw Tryz.prog 64 [(As 3 Dn) a0] ((As 3 B0) r):=⟨fun {r} h=>by
 unfold Ke at h
 cases hv:Xj a0 with
 | true=>rw [hv] at h; exact Aq1 h
 | false=>rw [hv] at h; exact Aq2 h⟩
instance {a0:Int} {a1:Be} {b1:List (ByteArray×Int)} {b2:List (ByteArray×(List B7))} {b0_0:List Az} {b0_1:List Aj} {b0_2 b0_3:Int} {b0_4:List Aj}:OK (Mt a0 a1 b1 b2 b0_0 b0_1 b0_2 b0_3 b0_4) fun r=>Br Tryz.prog 59 [(.loc 0 0),(O .i64) a0,F7 a1] [.cells 118 [(.sl 3 (List.map Co b0_0)),(.sl 3 (Bl b0_1)),(O .i64 b0_2),(O .i64 b0_3),(.sl 3 (Bl b0_4)),(.mp 1),(.mp 2)],.map (Bd (O .i64) b1),.map (Bd (As 5 C6) b2)] ((As 3 Dh) r.1) [.cells 118 [(.sl 3 (List.map Co b0_0)),(.sl 3 (Bl b0_1)),(O .i64 b0_2),(O .i64 b0_3),(.sl 3 (Bl b0_4)),(.mp 1),(.mp 2)],.map (Bd (O .i64) r.2),.map (Bd (As 5 C6) b2)]:=⟨fun {r} h=>by
 refine aw {T:=Ce,an:=(fun _=>.ask),nl:=(fun s=>bif Nat.beq s 6 then [(0,3)] else [])} true Tryz.func59 ?_
 refine Z ?_
 refine A9 [0,1,2] h (fun _ h=>?_)
 exact Y⟩
instance {b0_0:ByteArray}:OK (Abp b0_0) fun r=>Br Tryz.prog 111 [(.loc 0 0)] [.cells 187 [(.loc 0 0),(.fb b0_0)]] (Ek r) [.cells 187 [(.loc 0 0),(.fb b0_0)]]:=⟨fun {r} h=>by
 exact Agy h⟩
instance {b0_0:ByteArray}:OK (Agk b0_0) fun r=>Br Tryz.prog 111 [(.loc 0 0)] [.cells 187 [(.val (.pointer none)),(.fb b0_0)]] (Ek r) [.cells 187 [(.val (.pointer none)),(.fb b0_0)]]:=⟨fun {r} h=>by
 exact Agy h⟩
instance {b1:List Int}:OK (T5 b1) fun r=>Br Tryz.prog 111 [(.loc 0 0)] [.cells 187 [(.val (.pointer none)),(.arr 1 b1.length 0 b1.length)],.rows 5 1 (List.map (O .u8) b1)] (Ek r) [.cells 187 [(.val (.pointer none)),(.fb r)],.dead]:=⟨fun {r} h=>by
 exact Agx h⟩
instance {a0:List Bq} {b1:List (ByteArray×Int)} {b2:List (ByteArray×(List B7))} {b0_0:List Az} {b0_1:List Aj} {b0_2 b0_3:Int} {b0_4:List Aj}:OK (Qi a0 b1 b2 b0_0 b0_1 b0_2 b0_3 b0_4) fun r=>Br Tryz.prog 57 [(.loc 0 0),(As 3 Dh) a0] [.cells 118 [(.sl 3 (List.map Co b0_0)),(.sl 3 (Bl b0_1)),(O .i64 b0_2),(O .i64 b0_3),(.sl 3 (Bl b0_4)),(.mp 1),(.mp 2)],.map (Bd (O .i64) b1),.map (Bd (As 5 C6) b2)] (.tup [(As 5 C6) r.1,(O .i64) r.2.1]) [.cells 118 [(.sl 3 (List.map Co b0_0)),(.sl 3 (Bl b0_1)),(O .i64 b0_2),(O .i64 b0_3),(.sl 3 (Bl b0_4)),(.mp 1),(.mp 2)],.map (Bd (O .i64) b1),.map (Bd (As 5 C6) r.2.2)]:=⟨fun {r} h=>by
 refine aw {T:=Ce,an:=(fun _=>.ask),nl:=(fun s=>bif Nat.beq s 9 then [(0,5)] else bif Nat.beq s 4 then [(0,5)] else [])} true Tryz.func57 ?_
 refine ZS ?_
 refine Bw ?_
 refine ZS ?_
 refine Bw ?_
 refine ZO ?_
 refine Ay (Ay ?_)
 refine C4 [.own 6 1 5 1] ?_
 refine Z ?_
 refine P1 ?_
 refine Z ?_
 refine An h (fun _ h=>?_) (fun _ h=>?_)
 refine Z ?_
 refine Bx h (fun _ _ _ _ h=>?_)
 refine Z ?_
 refine Bh h (fun _ h=>?_)
 refine Z ?_
 refine A9 [3,4] h (fun _ h=>?_)
 refine Z ?_
 refine A5 h (fun (v17,o18)=>[(18,(O .i64 v17))]) (fun (v17,o18)=>[(3,.cells 187 [(.loc 3 0),(.arr 4 o18.length 0 o18.length)]),(4,.rows 5 1 (List.map (O .u8) o18))]) ?_
 rintro ⟨v17,o18⟩ _ _ _ h _ _
 refine Z ?_
 refine An h (fun _ h=>?_) (fun _ h=>?_)
 refine Z ?_
 refine Bx h (fun _ _ _ _ h=>?_)
 refine Z ?_
 refine Bh h (fun _ h=>?_)
 refine Z ?_
 refine A9 [3,4] h (fun _ h=>?_)
 exact Y
 replace h:=B9 h
 refine Ez (Ew rfl (Ay (Ay ?_)))
 refine Cg h (fun (v25,v26,v27)=>[(9,(.sl 5 (List.map C6 v25))),(10,(Ar v26))]) (fun (v25,v26,v27)=>[(3,.cells 187 [(.loc 3 0),(.fb v27)]),(4,.dead)]) ?_ ?_
 intro _ h _ _ _
 refine Z ?_
 refine A9 [3,4] h (fun _ h=>?_)
 refine Z ?_
 refine Pz (f:=(As 5 C6)) (l:=b2) rfl ([]:(List B7)) h (fun j_ hb h=>?_) (fun hb h=>?_)
 exact Y
 exact Y
 rintro ⟨v25,v26,v27⟩ _ h
 refine Z ?_
 refine An h (fun _ h=>?_) (fun _ h=>?_)
 exact Y
 refine Z ?_
 refine Bx h (fun _ _ _ _ h=>?_)
 refine Z ?_
 refine A9 [0,1,2] h (fun _ h=>?_)
 refine Z ?_
 refine Bx h (fun _ v31 _ _ h=>?_)
 refine Z ?_
 refine Bh h (fun v32 h=>?_)
 refine Z ?_
 refine Xk h (fun _ h=>?_)
 refine Z ?_
 refine A5 h (fun _=>[(4,(.sl 5 (List.map C6 []))),(5,(O .i64 0)),(12,(.sl 5 (List.map C6 [(B7.mk v31.Index v32)]))),(56,(O .i64 0))]) (fun _=>[]) ?_
 rintro _ _ _ _ h _ _
 refine Z ?_
 refine An h (fun _ h=>?_) (fun _ h=>?_)
 exact Y
 replace h:=B9 h
 refine Z ?_
 refine A9 [3] h (fun _ h=>?_)
 refine Z ?_
 refine N6 (f:=(As 5 C6)) (l:=b2) (x:=[(B7.mk v31.Index v32)]) rfl rfl ?_
 exact Y
 refine Ez (Ew rfl (Ay (Ay ?_)))
 refine Cg h (fun (v39,v40,v41)=>[(9,(.sl 5 (List.map C6 v39))),(10,(Ar v40))]) (fun (v39,v40,v41)=>[(3,.cells 187 [(.val (.pointer none)),(.fb v41)]),(4,.dead)]) ?_ ?_
 intro _ h _ _ _
 refine Z ?_
 refine A9 [3,4] h (fun _ h=>?_)
 refine Z ?_
 refine Pz (f:=(As 5 C6)) (l:=b2) rfl ([]:(List B7)) h (fun j_ hb h=>?_) (fun hb h=>?_)
 exact Y
 exact Y
 rintro ⟨v39,v40,v41⟩ _ h
 refine Z ?_
 refine An h (fun _ h=>?_) (fun _ h=>?_)
 exact Y
 refine Z ?_
 refine Bx h (fun _ _ _ _ h=>?_)
 refine Z ?_
 refine A9 [0,1,2] h (fun _ h=>?_)
 refine Z ?_
 refine Bx h (fun _ v45 _ _ h=>?_)
 refine Z ?_
 refine Bh h (fun v46 h=>?_)
 refine Z ?_
 refine Xk h (fun _ h=>?_)
 refine Z ?_
 refine A5 h (fun _=>[(4,(.sl 5 (List.map C6 []))),(5,(O .i64 0)),(12,(.sl 5 (List.map C6 [(B7.mk v45.Index v46)]))),(56,(O .i64 0))]) (fun _=>[]) ?_
 rintro _ _ _ _ h _ _
 refine Z ?_
 refine An h (fun _ h=>?_) (fun _ h=>?_)
 exact Y
 replace h:=B9 h
 refine Z ?_
 refine A9 [3] h (fun _ h=>?_)
 refine Z ?_
 refine N6 (f:=(As 5 C6)) (l:=b2) (x:=[(B7.mk v45.Index v46)]) rfl rfl ?_
 exact Y⟩
instance {a0:Int}:OK (Xb a0) fun r=>Br Tryz.prog 240 [(.val (.slice none 0 0)),(O .i64) a0] [] (.arr 0 r.length 0 r.length) [.rows 84 3 (List.map Dn r)]:=⟨fun {r} h=>by
 exact Aqt h⟩
end Go.Ab
