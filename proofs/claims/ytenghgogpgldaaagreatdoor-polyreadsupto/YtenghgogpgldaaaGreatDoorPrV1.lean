/- The contracts of the functions, each by its walk (made by a program). -/
import Derived.Test.YtenghgogpgldaaaGreatDoorPrV0
namespace Go.Ab
open Go Go.Proofs
set_option maxRecDepth 10000
set_option maxHeartbeats 4000000
set_option linter.unusedVariables false
instance {a0 a1:List Int}:OK (H4 a0 a1) fun r=>Aq Tryz.prog 111 [(Ap 1 (O .u32)) a0,(Ap 1 (O .u32)) a1] ((Ap 1 (O .u32)) r):=⟨fun {r} h=>by
 refine pw {T:=B5,an:=(fun _=>.ask),nl:=(fun s=>bif Nat.beq s 4 then [(0,1)] else [])} Tryz.func111 ?_
 refine Z ?_
 refine Em h (fun o1 h=>?_)
 refine Z ?_
 refine Ea h (fun (v25,o26)=>[(6,(O .i64 v25))]) (fun (v25,o26)=>[(0,.rows 133 1 (List.map (O .u32) o26))]) (fun (v25,o26)=>o1.length=o26.length) ?_
 rintro ⟨v25,o26⟩ _ _ _ h _ _ q26
 refine Z ?_
 refine Al h (fun _ h=>?_) (fun _ h=>?_)
 refine Z ?_
 refine Ea h (fun (v35,v36,o37)=>[(7,(O .u64 v35)),(8,(O .i64 v36))]) (fun (v35,v36,o37)=>[(0,.rows 133 1 (List.map (O .u32) o37))]) (fun (v35,v36,o37)=>o1.length=o37.length) ?_
 rintro ⟨v35,v36,o37⟩ _ _ _ h _ _ q37
 refine Ay (Ay ?_)
 refine Br h (fun v38=>[(29,(Ao v38))]) (fun v38=>[]) ?_ ?_
 intro _ h _ _ _
 exact Y
 rintro v38 _ h
 refine Al h (fun _ h=>?_) (fun _ h=>?_)
 refine Z ?_
 refine H6 h (fun _ _ _ _ h=>?_)
 refine ZS ?_
 refine Bw ?_
 refine ZO ?_
 refine Br h (fun v42=>[(7,(O .u64 v42))]) (fun v42=>[]) ?_ ?_
 intro _ h _ _ _
 exact Y
 rintro v42 _ h
 exact Y
 exact Y
 replace h:=Bz h
 refine Ej (Ei rfl (Ay ?_))
 refine Dm [.fz 5] ?_
 exact Y⟩
instance {a0:List Int} {a1:Int}:OK (Oa a0 a1) fun r=>Aq Tryz.prog 232 [(Ap 1 (O .u32)) a0,(O .u64) a1] (.tup [(Ap 1 (O .u32)) r.1,(O .u64) r.2]):=⟨fun {r} h=>by
 refine pw {T:=B5,an:=(fun _=>.ask),nl:=(fun s=>bif Nat.beq s 4 then [(0,1)] else [])} Tryz.func232 ?_
 refine Z ?_
 refine Em h (fun o1 h=>?_)
 refine Z ?_
 refine Ea h (fun (v7,v8,o9)=>[(7,(O .u64 v7)),(8,(O .i64 v8))]) (fun (v7,v8,o9)=>[(0,.rows 133 1 (List.map (O .u32) o9))]) (fun (v7,v8,o9)=>o1.length=o9.length) ?_
 rintro ⟨v7,v8,o9⟩ _ _ _ h _ _ q9
 refine Z ?_
 refine Al h (fun _ h=>?_) (fun _ h=>?_)
 exact Y
 replace h:=Bz h
 refine Ej (Ei rfl (Ay ?_))
 refine Dm [.fz 6] ?_
 exact Y⟩
instance {a0 a1:List Int}:OK (Je a0 a1) fun r=>Aq Tryz.prog 114 [(Ap 1 (O .u32)) a0,(Ap 1 (O .u32)) a1] ((Ap 1 (O .u32)) r):=⟨fun {r} h=>by
 refine pw {T:=B5,an:=(fun _=>.ask),nl:=(fun s=>bif Nat.beq s 4 then [(0,1)] else [])} Tryz.func114 ?_
 refine Z ?_
 refine Em h (fun o1 h=>?_)
 refine Z ?_
 refine Ea h (fun (v10,v11,o12)=>[(6,(O .u32 v10)),(7,(O .i64 v11))]) (fun (v10,v11,o12)=>[(0,.rows 133 1 (List.map (O .u32) o12))]) (fun (v10,v11,o12)=>o1.length=o12.length) ?_
 rintro ⟨v10,v11,o12⟩ _ _ _ h _ _ q12
 refine Z ?_
 refine Al h (fun _ h=>?_) (fun _ h=>?_)
 refine ZS ?_
 refine Bw ?_
 refine ZS ?_
 refine Bw ?_
 refine ZO ?_
 refine Br h (fun v14=>[(8,(O .u32 v14))]) (fun v14=>[]) ?_ ?_
 intro _ h _ _ _
 exact Y
 rintro v14 _ h
 exact Y
 replace h:=Bz h
 refine Ej (Ei rfl (Ay ?_))
 refine Dm [.fz 5] ?_
 exact Y⟩
instance {a0 a1:List Int}:OK (Km a0 a1) fun r=>Aq Tryz.prog 157 [(Ap 1 (O .u32)) a0,(Ap 1 (O .u32)) a1] (.tup [(Ap 1 (O .u32)) r.1,(Ap 1 (O .u32)) r.2]):=⟨fun {r} h=>by
 refine pw {T:=B5,an:=(fun s=>bif Nat.beq s 50 then .frz 0 else bif Nat.beq s 47 then .own else .ask),nl:=(fun s=>bif Nat.beq s 9 then [(0,1)] else bif Nat.beq s 5 then [(0,1)] else bif Nat.beq s 4 then [(0,1)] else [])} Tryz.func157 ?_
 refine Z ?_
 refine Bc h (fun _ h=>?_)
 refine Z ?_
 refine Al h (fun _ h=>?_) (fun _ h=>?_)
 exact Y
 refine Z ?_
 refine Al h (fun _ h=>?_) (fun _ h=>?_)
 exact Y
 refine Z ?_
 refine Em h (fun o6 h=>?_)
 refine Z ?_
 refine Ea h (fun (v33,v34,o35)=>[(9,(.sl 1 (List.map (O .u32) v33))),(10,(O .i64 v34))]) (fun (v33,v34,o35)=>[(0,.rows 133 1 (List.map (O .u32) o35))]) (fun (v33,v34,o35)=>o6.length=o35.length) ?_
 rintro ⟨v33,v34,o35⟩ _ _ _ h _ _ q35
 refine Z ?_
 refine Al h (fun _ h=>?_) (fun _ h=>?_)
 refine Z ?_
 refine Bq h (fun _ _ _ _ h=>?_)
 refine Z ?_
 refine Oo h (fun o38 h=>?_)
 refine Z ?_
 refine Cn h (fun v39 hcv39 h=>?_)
 refine Ym.mk _ (OK.ok hcv39 :) rfl ?_
 refine Z ?_
 refine Bc h (fun _ h=>?_)
 refine Z ?_
 refine Ax h (fun v44=>[(11,(O .u64 v44))]) (fun v44=>[]) ?_
 rintro v44 _ _ _ h _ _
 refine Z ?_
 refine El h (fun _ h=>?_) (fun _ h=>?_)
 refine Z ?_
 refine Bc h (fun _ h=>?_)
 refine Z ?_
 refine Bc h (fun _ h=>?_)
 refine Z ?_
 refine Bc h (fun _ h=>?_)
 refine Z ?_
 refine Al h (fun _ h=>?_) (fun _ h=>?_)
 exact Y
 replace h:=Bz h
 refine Z ?_
 refine Bc h (fun _ h=>?_)
 refine Z ?_
 refine Bc h (fun _ h=>?_)
 refine Z ?_
 refine Bc h (fun _ h=>?_)
 refine Z ?_
 refine Ax h (fun (v54,v55)=>[(9,(.sl 1 (List.map (O .u32) v54))),(11,(O .u64 v55))]) (fun (v54,v55)=>[]) ?_
 rintro ⟨v54,v55⟩ _ _ _ h _ _
 exact Y
 replace h:=Bz h
 refine Z ?_
 refine Bc h (fun _ h=>?_)
 refine Z ?_
 refine Bc h (fun _ h=>?_)
 refine Z ?_
 refine Bc h (fun _ h=>?_)
 refine Z ?_
 refine Ax h (fun (v54,v55)=>[(9,(.sl 1 (List.map (O .u32) v54))),(11,(O .u64 v55))]) (fun (v54,v55)=>[]) ?_
 rintro ⟨v54,v55⟩ _ _ _ h _ _
 exact Y
 replace h:=Bz h
 refine Ej (Ei rfl (Ay ?_))
 refine Dm [.fz 8] ?_
 exact Y⟩
instance {a0 a1:List Int}:OK (N0 a0 a1) fun r=>Aq Tryz.prog 156 [(Ap 1 (O .u32)) a0,(Ap 1 (O .u32)) a1] ((Ap 1 (O .u32)) r):=⟨fun {r} h=>by
 refine pw {T:=B5,an:=(fun _=>.ask),nl:=(fun s=>bif Nat.beq s 4 then [(0,1)] else [])} Tryz.func156 ?_
 refine Z ?_
 refine Ax h (fun (v2,v3)=>[(0,(.sl 1 (List.map (O .u32) v2))),(1,(.sl 1 (List.map (O .u32) v3)))]) (fun (v2,v3)=>[]) ?_
 rintro ⟨v2,v3⟩ _ _ _ h _ _
 exact Y⟩
instance {a0:Bool} {a1 a2:List Int}:OK (Hh a0 a1 a2) fun r=>Aq Tryz.prog 87 [Ao a0,(Ap 1 (O .u32)) a1,(Ap 1 (O .u32)) a2] (C1 r):=⟨fun {r} h=>by
 refine pw {T:=B5,an:=(fun _=>.ask),nl:=(fun s=>bif Nat.beq s 21 then [(1,1)] else [])} Tryz.func87 ?_
 refine Z ?_
 refine Bc h (fun _ h=>?_)
 refine Z ?_
 refine Bc h (fun _ h=>?_)
 refine ZO ?_
 refine Ay (Ay ?_)
 refine Br h (fun v4=>[(19,(Ao v4))]) (fun v4=>[]) ?_ ?_
 intro _ h _ _ _
 exact Y
 rintro v4 _ h
 refine Al h (fun _ h=>?_) (fun _ h=>?_)
 exact Y
 refine Z ?_
 refine Bc h (fun _ h=>?_)
 refine ZO ?_
 refine Ay (Ay ?_)
 refine Br h (fun v7=>[(33,(Ao v7))]) (fun v7=>[]) ?_ ?_
 intro _ h _ _ _
 exact Y
 rintro v7 _ h
 exact Y⟩
instance {a0:Int}:OK (Kg a0) fun r=>Aq Tryz.prog 43 [(O .i64) a0] (C1 r):=⟨fun {r} h=>by
 refine pw C0 Tryz.func43 ?_
 exact Y⟩
instance  : OK (Qg) fun r=>Aq Tryz.prog 10 [] (Ao r):=⟨fun {r} h=>by
 refine pw {T:=B5,an:=(fun _=>.ask),nl:=(fun s=>bif Nat.beq s 28 then [(0,3),(1,3),(4,3)] else bif Nat.beq s 8 then [(1,2)] else bif Nat.beq s 7 then [(0,3),(1,3),(4,3)] else [])} Tryz.func10 ?_
 exact Y⟩
instance {a0:List Aw} {a1:Bh}:OK (Nc a0 a1) fun r=>Aq Tryz.prog 22 [(Ap 5 Bx) a0,Du a1] (C1 r):=⟨fun {r} h=>by
 refine pw C0 Tryz.func22 ?_
 refine Z ?_
 refine Bc h (fun _ h=>?_)
 refine Z ?_
 refine Ax h (fun (v9,v10,v11,v12)=>[(11,(O .i64 v9))]) (fun (v9,v10,v11,v12)=>[(2,.cells 34 [(Ao v10),(.sl 1 (List.map (O .u32) v11)),(.sl 1 (List.map (O .u32) v12))])]) ?_
 rintro ⟨v9,v10,v11,v12⟩ _ _ _ h _ _
 exact Y⟩
instance {a0:Nat} {b0:List Int}:OK (Lz a0 b0) fun r=>Bp Tryz.prog 61 [(.arr 0 b0.length 0 a0)] [.rows 3 1 (List.map (O .i64) b0)] (.arr 0 r.2.length 0 r.1) [.rows 3 1 (List.map (O .i64) r.2)]:=⟨fun {r} h=>by
 refine aw {T:=B5,an:=(fun _=>.ask),nl:=(fun s=>bif Nat.beq s 2 then [(0,1)] else [])} false Tryz.func61 ?_
 refine Z ?_
 refine Al h (fun _ h=>?_) (fun _ h=>?_)
 exact Y
 refine Z ?_
 refine Ax h (fun v23=>[(2,(.sl 1 (List.map (O .i64) []))),(3,(O .i64 v23))]) (fun v23=>[]) ?_
 rintro v23 _ _ _ h _ _
 refine Z ?_
 refine Al h (fun _ h=>?_) (fun _ h=>?_)
 refine Z ?_
 refine Fr h (fun _ _ _ _ h=>?_)
 refine Z ?_
 refine Fr h (fun _ _ _ _ h=>?_)
 refine Z ?_
 refine Al h (fun _ h=>?_) (fun _ h=>?_)
 refine Z ?_
 refine Ls (f:=(O .i64)) (l:=b0) rfl rfl h (fun v26 h=>?_)
 refine Z ?_
 refine Ea h (fun (v31,v32,o33)=>[(3,(O .i64 v31)),(5,(O .i64 v32))]) (fun (v31,v32,o33)=>[(0,.rows 3 1 (List.map (O .i64) o33))]) (fun (v31,v32,o33)=>b0.length=o33.length) ?_
 rintro ⟨v31,v32,o33⟩ _ _ _ h _ _ q33
 refine Z ?_
 refine Al h (fun _ h=>?_) (fun _ h=>?_)
 refine Z ?_
 refine Fr h (fun _ _ _ _ h=>?_)
 refine Z ?_
 refine Fr h (fun _ _ _ _ h=>?_)
 refine Z ?_
 refine Al h (fun _ h=>?_) (fun _ h=>?_)
 refine Z ?_
 refine Fr h (fun _ v36 _ _ h=>?_)
 refine Z ?_
 refine Fr h (fun _ _ hiv37 _ h=>?_)
 refine Z ?_
 refine Hx (f:=(O .i64)) (x:=v36) (j:=(((0:Nat):Int)+v31)) rfl rfl rfl (P5 _ hiv37) ?_
 exact Y
 exact Y
 replace h:=Bz h
 refine Z ?_
 refine Ub (f:=(O .i64)) (l:=o33) rfl q33 h (fun v42 h=>?_) (fun h=>?_)
 refine Z ?_
 refine Agh (f:=(O .i64)) (l:=o33) (z:=(0:Int)) rfl rfl q33 h (fun o43 hco43 h=>?_)
 refine Z ?_
 refine Zk (f:=(O .i64)) (l:=o43) rfl (Zi q33 hco43) h (fun v44 h=>?_)
 replace h:=Bz h
 refine Z ?_
 cases h
 exact ⟨congrArg (fun q_=>AV.arr 0 q_ 0 _) (Zi q33 hco43),rfl,trivial⟩
 refine Z ?_
 refine Zk (f:=(O .i64)) (l:=o33) rfl q33 h (fun v45 h=>?_)
 replace h:=Bz h
 refine Z ?_
 cases h
 exact ⟨congrArg (fun q_=>AV.arr 0 q_ 0 _) q33,rfl,trivial⟩
 exact Y
 exact Y⟩
instance {a0 a1:Int}:OK (L2 a0 a1) fun r=>Aq Tryz.prog 117 [(O .i64) a0,(O .i64) a1] (Ao r):=⟨fun {r} h=>by
 refine pw C0 Tryz.func117 ?_
 exact Y⟩
instance {a0 a1:Int} {b0:List Int}:OK (Vd a0 a1 b0) fun r=>Bp Tryz.prog 180 [(.arr 0 b0.length 0 b0.length),(O .i64) a0,(O .i64) a1] [.rows 3 1 (List.map (O .i64) b0)] (.tup []) [.rows 3 1 (List.map (O .i64) r)]:=⟨fun {r} h=>by
 refine aw C0 true Tryz.func180 ?_
 refine Z ?_
 refine Ea h (fun (v21,o22)=>[(6,(O .i64 v21))]) (fun (v21,o22)=>[(0,.rows 3 1 (List.map (O .i64) o22))]) (fun (v21,o22)=>b0.length=o22.length) ?_
 rintro ⟨v21,o22⟩ _ _ _ h _ _ q22
 refine Z ?_
 refine Al h (fun _ h=>?_) (fun _ h=>?_)
 refine Z ?_
 refine Ea h (fun (v31,o32)=>[(7,(O .i64 v31))]) (fun (v31,o32)=>[(0,.rows 3 1 (List.map (O .i64) o32))]) (fun (v31,o32)=>b0.length=o32.length) ?_
 rintro ⟨v31,o32⟩ _ _ _ h _ _ q32
 refine Ay (Ay ?_)
 refine Br h (fun v36=>[(30,(Ao v36))]) (fun v36=>[]) ?_ ?_
 intro _ h _ _ _
 exact Y
 rintro v36 _ h
 exact Y
 exact Y⟩
instance {a0 a1 a2:Int} {b0:List Int}:OK (Uw a0 a1 a2 b0) fun r=>Bp Tryz.prog 119 [(.arr 0 b0.length 0 b0.length),(O .i64) a0,(O .i64) a1,(O .i64) a2] [.rows 3 1 (List.map (O .i64) b0)] (.tup []) [.rows 3 1 (List.map (O .i64) r)]:=⟨fun {r} h=>by
 refine aw C0 true Tryz.func119 ?_
 refine Z ?_
 refine Ax h (fun _=>[(1,(O .i64 a0)),(2,(O .i64 a1)),(3,(O .i64 a2)),(8,(Ao true)),(9,(Ao true))]) (fun _=>[]) ?_
 rintro _ _ _ _ h _ _
 refine Z ?_
 refine Al h (fun _ h=>?_) (fun _ h=>?_)
 refine Z ?_
 refine A5 [0] h (fun _ h=>?_)
 refine Cn h (fun v2 hgv2 h=>?_)
 exact Y
 exact Y⟩
theorem Ahn {b0:List Int} {r:(List Int)} (h:Aad b0=some r):Bp Tryz.prog 60 [(.arr 0 b0.length 0 b0.length)] [.rows 3 1 (List.map (O .i64) b0)] (.tup []) [.rows 3 1 (List.map (O .i64) r)]:=by
 refine aw C0 true Tryz.func60 ?_
 refine Z ?_
 refine Bc h (fun _ h=>?_)
 refine Z ?_
 refine A5 [0] h (fun _ h=>?_)
 refine Cn h (fun v3 hgv3 h=>?_)
 exact Y
instance {b0:List Int}:OK (Np b0) fun r=>Bp Tryz.prog 60 [(.arr 0 b0.length 0 b0.length)] [.rows 3 1 (List.map (O .i64) b0)] (.tup []) [.rows 3 1 (List.map (O .i64) r)]:=⟨fun {r} h=>by
 cases b0 with
 | nil=>exact Ahn h
 | cons b l=>exact Ahe h (by simp)⟩
instance {a0:List Aw}:OK (Lv a0) fun r=>Aq Tryz.prog 29 [(Ap 5 Bx) a0] ((Ap 1 (O .i64)) r):=⟨fun {r} h=>by
 refine pw {T:=B5,an:=(fun s=>bif Nat.beq s 3 then .own else .ask),nl:=(fun s=>bif Nat.beq s 3 then [(0,1)] else bif Nat.beq s 2 then [(0,1)] else [])} Tryz.func29 ?_
 refine Z ?_
 refine Ax h (fun (v152,o153)=>[(3,(.arr 0 o153.length 0 o153.length)),(14,(O .i64 v152))]) (fun (v152,o153)=>[(0,.rows 3 1 (List.map (O .i64) o153))]) ?_
 rintro ⟨v152,o153⟩ _ _ _ h _ _
 refine Z ?_
 refine Al h (fun _ h=>?_) (fun _ h=>?_)
 refine Z ?_
 refine Bq h (fun _ _ _ _ h=>?_)
 refine Z ?_
 refine Ax h (fun (v164,o165)=>[(3,(.arr 0 o165.length 0 o165.length)),(22,(O .i64 v164))]) (fun (v164,o165)=>[(0,.rows 3 1 (List.map (O .i64) o165))]) ?_
 rintro ⟨v164,o165⟩ _ _ _ h _ _
 refine Z ?_
 refine Al h (fun _ h=>?_) (fun _ h=>?_)
 exact Y
 replace h:=Bz h
 refine Z ?_
 refine Ax h (fun (v207,o208)=>[(3,(.arr 0 o208.length 0 o208.length)),(36,(O .i64 v207))]) (fun (v207,o208)=>[(0,.rows 3 1 (List.map (O .i64) o208))]) ?_
 rintro ⟨v207,o208⟩ _ _ _ h _ _
 refine Z ?_
 refine Al h (fun _ h=>?_) (fun _ h=>?_)
 refine Z ?_
 refine Bq h (fun _ _ _ _ h=>?_)
 refine Z ?_
 refine Ax h (fun (v219,o220)=>[(3,(.arr 0 o220.length 0 o220.length)),(44,(O .i64 v219))]) (fun (v219,o220)=>[(0,.rows 3 1 (List.map (O .i64) o220))]) ?_
 rintro ⟨v219,o220⟩ _ _ _ h _ _
 exact Y
 exact Y
 replace h:=Bz h
 refine Z ?_
 refine A5 [0] h (fun v229 h=>?_)
 refine Cn h (fun v230 hgv230 h=>?_)
 refine Z ?_
 refine Cn h (fun v231 hcv231 h=>?_)
 have okv231:=(OK.ok hcv231 :)
 rw [<-(F2 hgv230)] at okv231
 refine Er.act [0] _ _ _ _ okv231 rfl rfl ⟨rfl,trivial⟩ ?_
 refine ZO ?_
 refine Dm [.fzp 2] ?_
 refine Zj (f:=(O .i64)) (l:=v231.2) rfl rfl h (fun o232 h=>?_)
 exact Y⟩
instance {a0:Int}:OK (Nx a0) fun r=>Aq Tryz.prog 118 [(O .i64) a0] (Ao r):=⟨fun {r} h=>by
 refine pw C0 Tryz.func118 ?_
 exact Y⟩
instance {a0:List Int} {a1:Int}:OK (Ly a0 a1) fun r=>Aq Tryz.prog 59 [(Ap 1 (O .i64)) a0,(O .i64) a1] (.tup [(O .i64) r.1,Ao r.2]):=⟨fun {r} h=>by
 refine pw C0 Tryz.func59 ?_
 refine Z ?_
 refine Ax h (fun (v4,v5)=>[(7,(O .i64 v4)),(8,(O .i64 v5))]) (fun (v4,v5)=>[]) ?_
 rintro ⟨v4,v5⟩ _ _ _ h _ _
 exact Y⟩
instance {a0:List Aw} {a1:Int}:OK (Nh a0 a1) fun r=>Aq Tryz.prog 26 [(Ap 5 Bx) a0,(O .i64) a1] (Ao r):=⟨fun {r} h=>by
 refine pw C0 Tryz.func26 ?_
 exact Y⟩
instance {a0:Aw}:OK (No a0) fun r=>Aq Tryz.prog 57 [Bx a0] (Ao r):=⟨fun {r} h=>by
 refine pw C0 Tryz.func57 ?_
 exact Y⟩
instance {a0:List Aw}:OK (Nv a0) fun r=>Aq Tryz.prog 115 [(Ap 5 Bx) a0,(.fn 57 [])] ((O .i64) r):=⟨fun {r} h=>by
 refine pw C0 Tryz.func115 ?_
 refine Z ?_
 refine Ax h (fun v3=>[(4,(O .i64 0)),(8,(O .i64 v3))]) (fun v3=>[]) ?_
 rintro v3 _ _ _ h _ _
 exact Y⟩
instance {a0:List Aw}:OK (Ql a0) fun r=>Aq Tryz.prog 56 [(Ap 5 Bx) a0,(.fn 57 [])] (Ao r):=⟨fun {r} h=>by
 refine pw C0 Tryz.func56 ?_
 exact Y⟩
instance {a0:List Aw}:OK (Nf a0) fun r=>Aq Tryz.prog 24 [(Ap 5 Bx) a0] (Ao r):=⟨fun {r} h=>by
 refine pw C0 Tryz.func24 ?_
 exact Y⟩
instance {a0:A3}:OK (Ki a0) fun r=>Aq Tryz.prog 72 [C1 a0] (C1 r):=⟨fun {r} h=>by
 refine pw C0 Tryz.func72 ?_
 exact Y⟩
instance {a0 a1:List Int}:OK (Nu a0 a1) fun r=>Aq Tryz.prog 112 [(Ap 1 (O .u32)) a0,(Ap 1 (O .u32)) a1] ((Ap 1 (O .u32)) r):=⟨fun {r} h=>by
 refine pw {T:=B5,an:=(fun s=>bif Nat.beq s 5 then .own else .ask),nl:=(fun s=>bif Nat.beq s 5 then [(0,1)] else bif Nat.beq s 4 then [(0,1)] else [])} Tryz.func112 ?_
 refine Z ?_
 refine Ax h (fun (v21,v22,o23)=>[(5,(.arr 0 o23.length 0 o23.length)),(6,(O .u32 v21)),(7,(O .i64 v22))]) (fun (v21,v22,o23)=>[(0,.rows 133 1 (List.map (O .u32) o23))]) ?_
 rintro ⟨v21,v22,o23⟩ _ _ _ h _ _
 refine Ay (Ay ?_)
 refine Br h (fun v24=>[(22,(Ao v24))]) (fun v24=>[]) ?_ ?_
 intro _ h _ _ _
 exact Y
 rintro v24 _ h
 refine Al h (fun _ h=>?_) (fun _ h=>?_)
 refine ZS ?_
 refine Bw ?_
 refine ZS ?_
 refine Bw ?_
 refine ZO ?_
 refine Br h (fun v26=>[(8,(O .u32 v26))]) (fun v26=>[]) ?_ ?_
 intro _ h _ _ _
 exact Y
 rintro v26 _ h
 refine ZS ?_
 refine Bw ?_
 refine ZO ?_
 refine Br h (fun v28=>[(8,(O .u32 v28))]) (fun v28=>[]) ?_ ?_
 intro _ h _ _ _
 exact Y
 rintro v28 _ h
 exact Y
 exact Y⟩
instance {a0 a1:A3}:OK (Ja a0 a1) fun r=>Aq Tryz.prog 55 [C1 a0,C1 a1] (C1 r):=⟨fun {r} h=>by
 refine pw C0 Tryz.func55 ?_
 exact Y⟩
instance {a0:Bool}:OK (L8 a0) fun r=>Aq Tryz.prog 176 [Ao a0] ((O .i64) r):=⟨fun {r} h=>by
 refine pw C0 Tryz.func176 ?_
 exact Y⟩
abbrev Abf (k:Nat):Prop:=∀{a0 a1:Bl},OK (Jc k a0 a1) fun r=>Aq Tryz.prog 109 [D6 a0,D6 a1] ((O .i64) r)
abbrev Abg (k:Nat):Prop:=∀{a0 a1:List Bl},OK (N5 k a0 a1) fun r=>Aq Tryz.prog 177 [(F6 2 F7) a0,(F6 2 F7) a1] ((O .i64) r)
theorem Abh (k:Nat):Abf k/\Abg k:=by
 induction k with
 | zero=>exact ⟨okz,okz⟩
 | succ k ih=>
  obtain ⟨i0_,i1_⟩:=ih
  refine ⟨@fun a0 a1=>⟨fun {r} h=>?_⟩,@fun a0 a1=>⟨fun {r} h=>?_⟩⟩
  .unfold Jc at h
   refine pw C0 Tryz.func109 ?_
   exact Y
  .unfold N5 at h
   refine pw C0 Tryz.func177 ?_
   refine Z ?_
   refine Al h (fun _ h=>?_) (fun _ h=>?_)
   exact Y
   refine Z ?_
   refine Ax h (fun v5=>[(4,(O .i64 0)),(20,(O .i64 v5))]) (fun v5=>[]) ?_
   rintro v5 _ _ _ h _ _
   exact Y
instance {k:Nat}:Abf k:=(Abh k).1
instance {k:Nat}:Abg k:=(Abh k).2
instance {a0:Bool}:OK (Ko a0) fun r=>Aq Tryz.prog 178 [Ao a0] ((O .i64) r):=⟨fun {r} h=>by
 refine pw C0 Tryz.func178 ?_
 exact Y⟩
instance {a0 a1:Dc}:OK (Nt a0 a1) fun r=>Aq Tryz.prog 110 [F8 a0,F8 a1] ((O .i64) r):=⟨fun {r} h=>by
 refine pw C0 Tryz.func110 ?_
 refine Z ?_
 refine Al h (fun _ h=>?_) (fun _ h=>?_)
 exact Y
 refine Z ?_
 refine Ax h (fun v14=>[(4,(O .i64 0)),(24,(O .i64 v14))]) (fun v14=>[]) ?_
 rintro v14 _ _ _ h _ _
 exact Y⟩
instance {a0:Bool}:OK (Kl a0) fun r=>Aq Tryz.prog 108 [Ao a0] ((O .i64) r):=⟨fun {r} h=>by
 refine pw C0 Tryz.func108 ?_
 exact Y⟩
instance {a0 a1:Bh}:OK (Lx a0 a1) fun r=>Aq Tryz.prog 54 [Du a0,Du a1] ((O .i64) r):=⟨fun {r} h=>by
 refine pw C0 Tryz.func54 ?_
 refine Z ?_
 refine Al h (fun _ h=>?_) (fun _ h=>?_)
 exact Y
 refine Z ?_
 refine Ax h (fun v12=>[(4,(O .i64 0)),(27,(O .i64 v12))]) (fun v12=>[]) ?_
 rintro v12 _ _ _ h _ _
 refine Z ?_
 refine Al h (fun _ h=>?_) (fun _ h=>?_)
 exact Y
 replace h:=Bz h
 refine Z ?_
 refine Al h (fun _ h=>?_) (fun _ h=>?_)
 exact Y
 refine Z ?_
 refine Ax h (fun v31=>[(4,(O .i64 0)),(92,(O .i64 v31))]) (fun v31=>[]) ?_
 rintro v31 _ _ _ h _ _
 exact Y⟩
instance {a0:List Aw} {a1:Bh}:OK (Nd a0 a1) fun r=>Aq Tryz.prog 23 [(Ap 5 Bx) a0,Du a1] (C1 r):=⟨fun {r} h=>by
 refine pw C0 Tryz.func23 ?_
 refine Z ?_
 refine Bc h (fun _ h=>?_)
 refine Z ?_
 refine Ax h (fun (v9,v10,v11,v12)=>[(11,(O .i64 v9))]) (fun (v9,v10,v11,v12)=>[(2,.cells 34 [(Ao v10),(.sl 1 (List.map (O .u32) v11)),(.sl 1 (List.map (O .u32) v12))])]) ?_
 rintro ⟨v9,v10,v11,v12⟩ _ _ _ h _ _
 exact Y⟩
instance {a0:List Aw} {a1:Int}:OK (Ni a0 a1) fun r=>Aq Tryz.prog 27 [(Ap 5 Bx) a0,(O .i64) a1] (Ao r):=⟨fun {r} h=>by
 refine pw C0 Tryz.func27 ?_
 refine Z ?_
 refine Ax h (fun v31=>[(4,(Ao false)),(15,(O .i64 v31))]) (fun v31=>[]) ?_
 rintro v31 _ _ _ h _ _
 refine Z ?_
 refine Al h (fun _ h=>?_) (fun _ h=>?_)
 refine Z ?_
 refine Bq h (fun _ _ _ _ h=>?_)
 refine Z ?_
 refine Ax h (fun v36=>[(4,(Ao false)),(23,(O .i64 v36))]) (fun v36=>[]) ?_
 rintro v36 _ _ _ h _ _
 refine Z ?_
 refine Al h (fun _ h=>?_) (fun _ h=>?_)
 exact Y
 replace h:=Bz h
 refine Z ?_
 refine Ax h (fun v50=>[(4,(Ao false)),(36,(O .i64 v50))]) (fun v50=>[]) ?_
 rintro v50 _ _ _ h _ _
 refine Z ?_
 refine Al h (fun _ h=>?_) (fun _ h=>?_)
 refine Z ?_
 refine Bq h (fun _ _ _ _ h=>?_)
 refine Z ?_
 refine Ax h (fun v55=>[(4,(Ao false)),(44,(O .i64 v55))]) (fun v55=>[]) ?_
 rintro v55 _ _ _ h _ _
 exact Y
 exact Y
 exact Y⟩
instance {a0:A3}:OK (Nl a0) fun r=>Aq Tryz.prog 33 [C1 a0] ((O .i64) r):=⟨fun {r} h=>by
 refine pw C0 Tryz.func33 ?_
 exact Y⟩
instance {a0:List Aw}:OK (Ng a0) fun r=>Aq Tryz.prog 25 [(Ap 5 Bx) a0] (Ao r):=⟨fun {r} h=>by
 refine pw C0 Tryz.func25 ?_
 refine Z ?_
 refine Ax h (fun v4=>[(2,(Ao false)),(7,(O .i64 v4))]) (fun v4=>[]) ?_
 rintro v4 _ _ _ h _ _
 exact Y⟩
instance {a0:Nat} {a1:Int} {b0:List Int}:OK (Kh a0 a1 b0) fun r=>Bp Tryz.prog 62 [(.arr 0 b0.length 0 a0),(O .i64) a1] [.rows 3 1 (List.map (O .i64) b0)] (.arr 0 r.2.length 0 r.1) [.rows 3 1 (List.map (O .i64) r.2)]:=⟨fun {r} h=>by
 refine aw {T:=B5,an:=(fun _=>.ask),nl:=(fun s=>bif Nat.beq s 4 then [(0,1)] else [])} false Tryz.func62 ?_
 refine Z ?_
 refine Ax h (fun v2=>[(5,(O .i64 v2))]) (fun v2=>[]) ?_
 rintro v2 _ _ _ h _ _
 refine Z ?_
 refine El h (fun _ h=>?_) (fun _ h=>?_)
 refine Z ?_
 refine Fr h (fun _ _ _ _ h=>?_)
 refine Z ?_
 refine Al h (fun _ h=>?_) (fun _ h=>?_)
 exact Y
 replace h:=Bz h
 refine Ej (Ei rfl (Ay (Ay ?_)))
 refine Br h (fun v6=>[(31,(Ao v6))]) (fun v6=>[]) ?_ ?_
 intro _ h _ _ _
 exact Y
 rintro v6 _ h
 refine Al h (fun _ h=>?_) (fun _ h=>?_)
 exact Y
 refine Z ?_
 refine Zf (f:=(O .i64)) (l:=b0) (ys:=[0]) rfl rfl rfl h (fun v7 h=>?_)
 refine ZO ?_
 refine Ay ?_
 refine P7 h (fun o3_ h hj3=>?_)
 refine Kf (fun (o13:(List Int))=>o13=o3_/\v7.1.length=o13.length) (fun o13=>[]) (fun o13=>[(0,.rows 3 1 (List.map (O .i64) o13))]) (fun _=>rfl) ?_ ?_
 intro K3 hK3
 refine Z ?_
 refine Ub (f:=(O .i64)) (l:=v7.1) rfl rfl h (fun v9 h=>?_) (fun h=>?_)
 refine Z ?_
 refine Ls (f:=(O .i64)) (l:=v7.1) rfl rfl h (fun v10 h=>?_)
 refine Z ?_
 refine Zg (f:=(O .i64)) (l:=v7.1) rfl rfl rfl h (fun o11 hco11 h=>?_)
 refine Z ?_
 exact hK3 o11 _ _ _ ⟨(Option.some.inj h),(Zh rfl hco11)⟩ trivial ⟨⟨rfl,rfl⟩,trivial⟩
 refine Z ?_
 refine Ls (f:=(O .i64)) (l:=v7.1) rfl rfl h (fun v12 h=>?_)
 refine Z ?_
 exact hK3 v7.1 _ _ _ ⟨(Option.some.inj h),rfl⟩ trivial ⟨⟨rfl,rfl⟩,trivial⟩
 rintro o13 u3 ⟨hJ3,q13⟩
 have h:=hj3 _ hJ3
 refine Z ?_
 refine Fr h (fun _ _ hiv14 _ h=>?_)
 refine Z ?_
 refine Hx (f:=(O .i64)) (x:=a1) (j:=(((0:Nat):Int)+v2)) rfl rfl rfl (P5 _ hiv14) ?_
 refine Z ?_
 cases h
 exact ⟨congrArg (fun q_=>AV.arr 0 q_ 0 _) (Ef (l:=o13) q13 (((0:Nat):Int)+v2) a1),rfl,trivial⟩
 replace h:=Bz h
 refine ZO ?_
 refine M9 (Ej (Ei rfl (Ay (Ay ?_))))
 refine Br h (fun v6=>[(31,(Ao v6))]) (fun v6=>[]) ?_ ?_
 intro _ h _ _ _
 exact Y
 rintro v6 _ h
 refine Al h (fun _ h=>?_) (fun _ h=>?_)
 exact Y
 refine Z ?_
 refine Zf (f:=(O .i64)) (l:=b0) (ys:=[0]) rfl rfl rfl h (fun v7 h=>?_)
 refine ZO ?_
 refine Ay ?_
 refine P7 h (fun o5_ h hj5=>?_)
 refine Kf (fun (o13:(List Int))=>o13=o5_/\v7.1.length=o13.length) (fun o13=>[]) (fun o13=>[(0,.rows 3 1 (List.map (O .i64) o13))]) (fun _=>rfl) ?_ ?_
 intro K5 hK5
 refine Z ?_
 refine Ub (f:=(O .i64)) (l:=v7.1) rfl rfl h (fun v9 h=>?_) (fun h=>?_)
 refine Z ?_
 refine Ls (f:=(O .i64)) (l:=v7.1) rfl rfl h (fun v10 h=>?_)
 refine Z ?_
 refine Zg (f:=(O .i64)) (l:=v7.1) rfl rfl rfl h (fun o11 hco11 h=>?_)
 refine Z ?_
 exact hK5 o11 _ _ _ ⟨(Option.some.inj h),(Zh rfl hco11)⟩ trivial ⟨⟨rfl,rfl⟩,trivial⟩
 refine Z ?_
 refine Ls (f:=(O .i64)) (l:=v7.1) rfl rfl h (fun v12 h=>?_)
 refine Z ?_
 exact hK5 v7.1 _ _ _ ⟨(Option.some.inj h),rfl⟩ trivial ⟨⟨rfl,rfl⟩,trivial⟩
 rintro o13 u5 ⟨hJ5,q13⟩
 have h:=hj5 _ hJ5
 refine Z ?_
 refine Fr h (fun _ _ hiv14 _ h=>?_)
 refine Z ?_
 refine Hx (f:=(O .i64)) (x:=a1) (j:=(((0:Nat):Int)+v2)) rfl rfl rfl (P5 _ hiv14) ?_
 refine Z ?_
 cases h
 exact ⟨congrArg (fun q_=>AV.arr 0 q_ 0 _) (Ef (l:=o13) q13 (((0:Nat):Int)+v2) a1),rfl,trivial⟩⟩
instance {a0:List Aw}:OK (Nk a0) fun r=>Aq Tryz.prog 30 [(Ap 5 Bx) a0] ((Ap 1 (O .i64)) r):=⟨fun {r} h=>by
 refine pw {T:=B5,an:=(fun s=>bif Nat.beq s 3 then .own else .ask),nl:=(fun s=>bif Nat.beq s 3 then [(0,1)] else bif Nat.beq s 2 then [(0,1)] else [])} Tryz.func30 ?_
 refine Z ?_
 refine Ax h (fun (v183,v184,o185)=>[(3,(.arr 0 o185.length 0 v183)),(14,(O .i64 v184))]) (fun (v183,v184,o185)=>[(0,.rows 3 1 (List.map (O .i64) o185))]) ?_
 rintro ⟨v183,v184,o185⟩ _ _ _ h _ _
 refine Z ?_
 refine Al h (fun _ h=>?_) (fun _ h=>?_)
 refine Z ?_
 refine Bq h (fun _ _ _ _ h=>?_)
 refine Z ?_
 refine Ax h (fun (v197,v198,o199)=>[(3,(.arr 0 o199.length 0 v197)),(22,(O .i64 v198))]) (fun (v197,v198,o199)=>[(0,.rows 3 1 (List.map (O .i64) o199))]) ?_
 rintro ⟨v197,v198,o199⟩ _ _ _ h _ _
 refine Z ?_
 refine Al h (fun _ h=>?_) (fun _ h=>?_)
 refine Z ?_
 refine Bq h (fun _ _ _ _ h=>?_)
 refine Z ?_
 refine A5 [0] h (fun _ h=>?_)
 exact Y
 replace h:=Bz h
 refine Z ?_
 refine Ax h (fun (v249,v250,o251)=>[(3,(.arr 0 o251.length 0 v249)),(35,(O .i64 v250))]) (fun (v249,v250,o251)=>[(0,.rows 3 1 (List.map (O .i64) o251))]) ?_
 rintro ⟨v249,v250,o251⟩ _ _ _ h _ _
 refine Z ?_
 refine Al h (fun _ h=>?_) (fun _ h=>?_)
 refine Z ?_
 refine Bq h (fun _ _ _ _ h=>?_)
 refine Z ?_
 refine Ax h (fun (v263,v264,o265)=>[(3,(.arr 0 o265.length 0 v263)),(43,(O .i64 v264))]) (fun (v263,v264,o265)=>[(0,.rows 3 1 (List.map (O .i64) o265))]) ?_
 rintro ⟨v263,v264,o265⟩ _ _ _ h _ _
 refine Z ?_
 refine Al h (fun _ h=>?_) (fun _ h=>?_)
 refine Z ?_
 refine Bq h (fun _ _ _ _ h=>?_)
 refine Z ?_
 refine A5 [0] h (fun _ h=>?_)
 exact Y
 exact Y
 exact Y
 replace h:=Bz h
 refine ZS ?_
 refine Bw ?_
 refine ZO ?_
 refine Dm [.fzp 2] ?_
 refine Zj (f:=(O .i64)) (l:=o185) rfl rfl h (fun o277 h=>?_)
 exact Y⟩
instance {a0:List Aw} {a1:Bh} {a2:Int}:OK (Qf a0 a1 a2) fun r=>Aq Tryz.prog 5 [(Ap 5 Bx) a0,Du a1,(O .i64) a2] (Ao r):=⟨fun {r} h=>by
 refine pw C0 Tryz.func5 ?_
 refine ZS ?_
 refine Bw ?_
 refine ZO ?_
 refine Ay (Ay ?_)
 refine Br h (fun v4=>[(14,(Ao v4))]) (fun v4=>[]) ?_ ?_
 intro _ h _ _ _
 exact Y
 rintro v4 _ h
 exact Y⟩
end Go.Ab
