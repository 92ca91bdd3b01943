/- The contracts of the functions, each by its walk (made by a program). -/
import Derived.Test.YtjjkmepjaemceaaGreatDoorBsV0
namespace Go.Ab
open Go Go.Proofs
set_option maxRecDepth 10000
set_option maxHeartbeats 4000000
set_option linter.unusedVariables false
instance {a0 a1:List Int}:OK (Tp a0 a1) fun r=>Aw Tryz.prog 104 [(Ax 1 (Aa .u32)) a0,(Ax 1 (Aa .u32)) a1] ((Ax 1 (Aa .u32)) r):=⟨fun {r} h=>by
 refine pw {T:=Cf,an:=(fun s=>bif Nat.beq s 5 then .own else .ask),nl:=(fun s=>bif Nat.beq s 5 then [(0,1)] else bif Nat.beq s 4 then [(0,1)] else [])} Tryz.func104 ?_
 refine Z ?_
 refine A9 h (fun (v21,v22,o23)=>[(5,(.arr 0 o23.length 0 o23.length)),(6,(Aa .u32 v21)),(7,(Aa .i64 v22))]) (fun (v21,v22,o23)=>[(0,.rows 129 1 (List.map (Aa .u32) o23))]) ?_
 rintro ⟨v21,v22,o23⟩ _ _ _ h _ _
 refine A6 (A6 ?_)
 refine Cd h (fun v24=>[(22,(Ao v24))]) (fun v24=>[]) ?_ ?_
 intro _ h _ _ _
 exact Y
 rintro v24 _ h
 refine Au h (fun _ h=>?_) (fun _ h=>?_)
 refine ZS ?_
 refine B9 ?_
 refine ZS ?_
 refine B9 ?_
 refine ZO ?_
 refine Cd h (fun v26=>[(8,(Aa .u32 v26))]) (fun v26=>[]) ?_ ?_
 intro _ h _ _ _
 exact Y
 rintro v26 _ h
 refine ZS ?_
 refine B9 ?_
 refine ZO ?_
 refine Cd h (fun v28=>[(8,(Aa .u32 v28))]) (fun v28=>[]) ?_ ?_
 intro _ h _ _ _
 exact Y
 rintro v28 _ h
 exact Y
 exact Y⟩
instance {a0 a1:An}:OK (Qq a0 a1) fun r=>Aw Tryz.prog 50 [Cg a0,Cg a1] (Cg r):=⟨fun {r} h=>by
 refine pw C0 Tryz.func50 ?_
 exact Y⟩
instance {a0:An}:OK (Tq a0) fun r=>Aw Tryz.prog 107 [Cg a0] (Cg r):=⟨fun {r} h=>by
 refine pw C0 Tryz.func107 ?_
 exact Y⟩
instance {a0 a1:An}:OK (Xg a0 a1) fun r=>Aw Tryz.prog 52 [Cg a0,Cg a1] (Cg r):=⟨fun {r} h=>by
 refine pw C0 Tryz.func52 ?_
 exact Y⟩
instance {a0 a1:An}:OK (Oj a0 a1) fun r=>Aw Tryz.prog 14 [Cg a0,Cg a1] ((Aa .i64) r):=⟨fun {r} h=>by
 refine pw C0 Tryz.func14 ?_
 exact Y⟩
instance {a0:Int}:OK (Mq a0) fun r=>Aw Tryz.prog 30 [(Aa .i64) a0] (Cg r):=⟨fun {r} h=>by
 refine pw C0 Tryz.func30 ?_
 exact Y⟩
instance  : OK (Xc) fun r=>Aw Tryz.prog 7 [] (Ao r):=⟨fun {r} h=>by
 refine pw {T:=Cf,an:=(fun _=>.ask),nl:=(fun s=>bif Nat.beq s 37 then [(3,3),(4,3)] else bif Nat.beq s 18 then [(3,3),(4,3)] else bif Nat.beq s 12 then [(3,3),(4,3)] else [])} Tryz.func7 ?_
 exact Y⟩
instance {a0 a1:Int}:OK (Acv a0 a1) fun r=>Aw Tryz.prog 44 [(Aa .i64) a0,(Aa .i64) a1] (.tup [Cg r.1,Ao r.2]):=⟨fun {r} h=>by
 refine pw C0 Tryz.func44 ?_
 refine ZS ?_
 refine B9 ?_
 refine ZO ?_
 refine A6 (A6 ?_)
 refine Cd h (fun v2=>[(11,(Ao v2))]) (fun v2=>[]) ?_ ?_
 intro _ h _ _ _
 exact Y
 rintro v2 _ h
 exact Y⟩
abbrev Aio (k:Nat):Prop:=∀{a0:List Al} {a1:Ag} {a2:List A0} {a3:Av},OK (Rg k a0 a1 a2 a3) fun r=>Aw Tryz.prog 207 [(Ax 3 Bs) a0,Da a1,(Ev 2 Gw) a2,E6 a3] (Cg r)
abbrev Aip (k:Nat):Prop:=∀{a0:List Al} {a1:Ag} {a2:A0} {a3:Av},OK (Ib k a0 a1 a2 a3) fun r=>Aw Tryz.prog 131 [(Ax 3 Bs) a0,Da a1,E7 a2,E6 a3] (Cg r)
theorem Aiq (k:Nat):Aio k/\Aip k:=by
 induction k with
 | zero=>exact ⟨okz,okz⟩
 | succ k ih=>
  obtain ⟨i0_,i1_⟩:=ih
  refine ⟨@fun a0 a1 a2 a3=>⟨fun {r} h=>?_⟩,@fun a0 a1 a2 a3=>⟨fun {r} h=>?_⟩⟩
  .unfold Rg at h
   refine pw {T:=Cf,an:=(fun s=>bif Nat.beq s 9 then .own else .ask),nl:=(fun s=>bif Nat.beq s 66 then [(0,3)] else bif Nat.beq s 60 then [(0,1)] else bif Nat.beq s 9 then [(0,4)] else [])} Tryz.func207 ?_
   refine Z ?_
   refine A9 h (fun (v65,o66)=>[(9,(.arr 3 o66.length 0 o66.length)),(28,(Aa .i64 v65))]) (fun (v65,o66)=>[(3,.rows 318 4 (List.map Aql o66))]) ?_
   rintro ⟨v65,o66⟩ _ _ _ h _ _
   refine Z ?_
   refine Au h (fun _ h=>?_) (fun _ h=>?_)
   refine Z ?_
   refine B1 h (fun _ v67 _ _ h=>?_)
   refine ZS ?_
   refine B9 ?_
   refine ZO ?_
   refine A6 ?_
   refine En [.own 12 2 3 1,.own 12 3 25 3] ?_
   refine Z ?_
   refine Bt h (fun _ h=>?_)
   refine Z ?_
   refine Bt h (fun _ h=>?_)
   refine Z ?_
   refine A9 h (fun (v85,o86,o87)=>[(52,(Aa .i64 v85))]) (fun (v85,o86,o87)=>[(5,.cells 318 [(Aa .i64 v67.Num),(.sl 2 (Gw v67.Kids)),(.arr 6 o86.length 0 o86.length),(.arr 7 o87.length 0 o87.length)]),(6,.rows 3 1 (List.map (Aa .i64) o86)),(7,.rows 25 3 (Bd o87))]) ?_
   rintro ⟨v85,o86,o87⟩ _ _ _ h _ _
   refine Z ?_
   refine Au h (fun _ h=>?_) (fun _ h=>?_)
   exact Y
   replace h:=C3 h
   refine Hx (Hr rfl ?_)
   refine En [.fzc 12 2,.fzc 12 3] ?_
   exact Y
   replace h:=C3 h
   refine Z ?_
   refine Ap9 (f:=Cg) (z:=((An.mk false [] []):An)) (by repeat (first | exact Iv.nil | apply Iv.sl | apply Iv.same)) h (fun o97 h=>?_)
   refine Z ?_
   refine Fy h (fun (v101,o102)=>[(86,(Aa .i64 v101))]) (fun (v101,o102)=>[(4,.rows 41 3 (List.map Cg o102))]) (fun (v101,o102)=>o97.length=o102.length) ?_
   rintro ⟨v101,o102⟩ _ _ _ h _ _ q102
   refine Z ?_
   refine Au h (fun _ h=>?_) (fun _ h=>?_)
   exact Y
   replace h:=C3 h
   refine Z ?_
   refine Bt h (fun v106 h=>?_)
   refine Z ?_
   refine Ik h (fun _ _ hiv107 _ h=>?_)
   refine Z ?_
   refine Kv (f:=Cg) (x:=v106) (j:=0) rfl rfl (Nat.zero_add _) hiv107 ?_
   refine Z ?_
   refine Bt h (fun _ h=>?_)
   refine Z ?_
   refine Fy h (fun (v175,o176)=>[(102,(Aa .i64 v175))]) (fun (v175,o176)=>[(4,.rows 41 3 (List.map Cg o176))]) (fun (v175,o176)=>o97.length=o176.length) ?_
   rintro ⟨v175,o176⟩ _ _ _ h _ _ q176
   refine Z ?_
   refine Au h (fun _ h=>?_) (fun _ h=>?_)
   refine Z ?_
   refine B1 h (fun _ _ _ _ h=>?_)
   refine Z ?_
   refine Fy h (fun (v209,o210)=>[(21,(Aa .i64 v209))]) (fun (v209,o210)=>[(4,.rows 41 3 (List.map Cg o210))]) (fun (v209,o210)=>o97.length=o210.length) ?_
   rintro ⟨v209,o210⟩ _ _ _ h _ _ q210
   refine Z ?_
   refine Au h (fun _ h=>?_) (fun _ h=>?_)
   refine Z ?_
   refine Ik h (fun _ _ _ _ h=>?_)
   refine ZO ?_
   refine A6 (A6 ?_)
   refine Cd h (fun v215=>[(130,(Ao v215))]) (fun v215=>[]) ?_ ?_
   intro _ h _ _ _
   exact Y
   rintro v215 _ h
   refine Au h (fun _ h=>?_) (fun _ h=>?_)
   exact Y
   refine Z ?_
   refine Ik h (fun _ _ _ _ h=>?_)
   refine Z ?_
   refine A9 h (fun (v224,v225,v226,v227)=>[(139,(Aa .i64 v224))]) (fun (v224,v225,v226,v227)=>[(7,.cells 41 [(Ao v225),(.sl 1 (List.map (Aa .u32) v226)),(.sl 1 (List.map (Aa .u32) v227))])]) ?_
   rintro ⟨v224,v225,v226,v227⟩ _ _ _ h _ _
   exact Y
   exact Y
   exact Y
  .unfold Ib at h
   refine pw C0 Tryz.func131 ?_
   refine Z ?_
   refine Bt h (fun _ h=>?_)
   refine Z ?_
   refine Au h (fun _ h=>?_) (fun _ h=>?_)
   refine Z ?_
   refine A9 h (fun (v13,v14,v15,v16)=>[(20,(Aa .i64 v13))]) (fun (v13,v14,v15,v16)=>[(4,.cells 41 [(Ao v14),(.sl 1 (List.map (Aa .u32) v15)),(.sl 1 (List.map (Aa .u32) v16))])]) ?_
   rintro ⟨v13,v14,v15,v16⟩ _ _ _ h _ _
   exact Y
   exact Y
instance {k:Nat}:Aio k:=(Aiq k).1
instance {k:Nat}:Aip k:=(Aiq k).2
instance {a0:List Al} {a1:Ag} {a2:A0}:OK (Xr a0 a1 a2) fun r=>Aw Tryz.prog 130 [(Ax 3 Bs) a0,Da a1,E7 a2] (Ao r):=⟨fun {r} h=>by
 refine pw C0 Tryz.func130 ?_
 exact Y⟩
instance {a0:List Al} {a1:Ag} {a2:A0} {a3:Av}:OK (Ms a0 a1 a2 a3) fun r=>Aw Tryz.prog 72 [(Ax 3 Bs) a0,Da a1,E7 a2,E6 a3] (.tup [Cg r.1,(Aa .i64) r.2]):=⟨fun {r} h=>by
 refine pw {T:=Cf,an:=(fun _=>.ask),nl:=(fun s=>bif Nat.beq s 21 then [(1,1),(2,1)] else bif Nat.beq s 15 then [(1,1),(2,1)] else [])} Tryz.func72 ?_
 exact Y⟩
instance {a0:Int} {b0:Av} {b1:List Av}:OK (Kb a0 b0 b1) fun r=>Ck Tryz.prog 70 [(Aa .i64) a0,(.loc 0 0),(.loc 1 0)] [.cells 31 [(Aa .i64 b0.Kind),(Aa .i64 b0.Num),(.sl 3 (E5 b0.Kids))],.cells 29 [(.sl 3 (E5 b1))]] (E6 r) [.cells 31 [(Aa .i64 b0.Kind),(Aa .i64 b0.Num),(.sl 3 (E5 b0.Kids))],.cells 29 [(.sl 3 (E5 b1))]]:=⟨fun {r} h=>by
 refine aw C0 true Tryz.func70 ?_
 exact Y⟩
instance {a0:Nat} {b0:List Int}:OK (Qt a0 b0) fun r=>Ck Tryz.prog 75 [(.arr 0 b0.length 0 a0)] [.rows 3 1 (List.map (Aa .i64) b0)] (.arr 0 r.2.length 0 r.1) [.rows 3 1 (List.map (Aa .i64) r.2)]:=⟨fun {r} h=>by
 refine aw {T:=Cf,an:=(fun _=>.ask),nl:=(fun s=>bif Nat.beq s 2 then [(0,1)] else [])} false Tryz.func75 ?_
 refine Z ?_
 refine Au h (fun _ h=>?_) (fun _ h=>?_)
 exact Y
 refine Z ?_
 refine A9 h (fun v23=>[(2,(.sl 1 (List.map (Aa .i64) []))),(3,(Aa .i64 v23))]) (fun v23=>[]) ?_
 rintro v23 _ _ _ h _ _
 refine Z ?_
 refine Au h (fun _ h=>?_) (fun _ h=>?_)
 refine Z ?_
 refine Jl h (fun _ _ _ _ h=>?_)
 refine Z ?_
 refine Jl h (fun _ _ _ _ h=>?_)
 refine Z ?_
 refine Au h (fun _ h=>?_) (fun _ h=>?_)
 refine Z ?_
 refine Agt (f:=(Aa .i64)) (l:=b0) rfl rfl h (fun v26 h=>?_)
 refine Z ?_
 refine Fy h (fun (v31,v32,o33)=>[(3,(Aa .i64 v31)),(5,(Aa .i64 v32))]) (fun (v31,v32,o33)=>[(0,.rows 3 1 (List.map (Aa .i64) o33))]) (fun (v31,v32,o33)=>b0.length=o33.length) ?_
 rintro ⟨v31,v32,o33⟩ _ _ _ h _ _ q33
 refine Z ?_
 refine Au h (fun _ h=>?_) (fun _ h=>?_)
 refine Z ?_
 refine Jl h (fun _ _ _ _ h=>?_)
 refine Z ?_
 refine Jl h (fun _ _ _ _ h=>?_)
 refine Z ?_
 refine Au h (fun _ h=>?_) (fun _ h=>?_)
 refine Z ?_
 refine Jl h (fun _ v36 _ _ h=>?_)
 refine Z ?_
 refine Jl h (fun _ _ hiv37 _ h=>?_)
 refine Z ?_
 refine Kv (f:=(Aa .i64)) (x:=v36) (j:=(((0:Nat):Int)+v31)) rfl rfl rfl (Ago _ hiv37) ?_
 exact Y
 exact Y
 replace h:=C3 h
 refine Z ?_
 refine Ap1 (f:=(Aa .i64)) (l:=o33) rfl q33 h (fun v42 h=>?_) (fun h=>?_)
 refine Z ?_
 refine Apz (f:=(Aa .i64)) (l:=o33) (z:=(0:Int)) rfl rfl q33 h (fun o43 hco43 h=>?_)
 refine Z ?_
 refine Agv (f:=(Aa .i64)) (l:=o43) rfl (Agu q33 hco43) h (fun v44 h=>?_)
 replace h:=C3 h
 refine Z ?_
 cases h
 exact ⟨congrArg (fun q_=>O.arr 0 q_ 0 _) (Agu q33 hco43),rfl,trivial⟩
 refine Z ?_
 refine Agv (f:=(Aa .i64)) (l:=o33) rfl q33 h (fun v45 h=>?_)
 replace h:=C3 h
 refine Z ?_
 cases h
 exact ⟨congrArg (fun q_=>O.arr 0 q_ 0 _) q33,rfl,trivial⟩
 exact Y
 exact Y⟩
instance {a0:Int}:OK (Acj a0) fun r=>Aw Tryz.prog 218 [(Aa .u64) a0] ((Aa .i64) r):=⟨fun {r} h=>by
 refine pw C0 Tryz.func218 ?_
 refine ZS ?_
 refine B9 ?_
 refine ZS ?_
 refine B9 ?_
 refine ZO ?_
 refine Cd h (fun (v2,v3)=>[(0,(Aa .u64 v2)),(2,(Aa .i64 v3))]) (fun (v2,v3)=>[]) ?_ ?_
 intro _ h _ _ _
 exact Y
 rintro ⟨v2,v3⟩ _ h
 refine ZS ?_
 refine B9 ?_
 refine ZO ?_
 refine Cd h (fun (v5,v6)=>[(0,(Aa .u64 v5)),(2,(Aa .i64 v6))]) (fun (v5,v6)=>[]) ?_ ?_
 intro _ h _ _ _
 exact Y
 rintro ⟨v5,v6⟩ _ h
 refine ZS ?_
 refine B9 ?_
 refine ZO ?_
 refine Cd h (fun (v8,v9)=>[(0,(Aa .u64 v8)),(2,(Aa .i64 v9))]) (fun (v8,v9)=>[]) ?_ ?_
 intro _ h _ _ _
 exact Y
 rintro ⟨v8,v9⟩ _ h
 exact Y⟩
instance {a0:Int}:OK (Ab6 a0) fun r=>Aw Tryz.prog 135 [(Aa .u64) a0] ((Aa .i64) r):=⟨fun {r} h=>by
 refine pw C0 Tryz.func135 ?_
 exact Y⟩
instance {a0 a1:Int}:OK (Aci a0 a1) fun r=>Aw Tryz.prog 214 [(Aa .i64) a0,(Aa .i64) a1] (Ao r):=⟨fun {r} h=>by
 refine pw C0 Tryz.func214 ?_
 exact Y⟩
instance {a0 a1:Int} {b0:List Int}:OK (Ach a0 a1 b0) fun r=>Ck Tryz.prog 208 [(.arr 0 b0.length 0 b0.length),(Aa .i64) a0,(Aa .i64) a1] [.rows 3 1 (List.map (Aa .i64) b0)] (.tup []) [.rows 3 1 (List.map (Aa .i64) r)]:=⟨fun {r} h=>by
 refine aw C0 true Tryz.func208 ?_
 refine Z ?_
 refine Fy h (fun (v21,o22)=>[(6,(Aa .i64 v21))]) (fun (v21,o22)=>[(0,.rows 3 1 (List.map (Aa .i64) o22))]) (fun (v21,o22)=>b0.length=o22.length) ?_
 rintro ⟨v21,o22⟩ _ _ _ h _ _ q22
 refine Z ?_
 refine Au h (fun _ h=>?_) (fun _ h=>?_)
 refine Z ?_
 refine Fy h (fun (v31,o32)=>[(7,(Aa .i64 v31))]) (fun (v31,o32)=>[(0,.rows 3 1 (List.map (Aa .i64) o32))]) (fun (v31,o32)=>b0.length=o32.length) ?_
 rintro ⟨v31,o32⟩ _ _ _ h _ _ q32
 refine A6 (A6 ?_)
 refine Cd h (fun v36=>[(30,(Ao v36))]) (fun v36=>[]) ?_ ?_
 intro _ h _ _ _
 exact Y
 rintro v36 _ h
 exact Y
 exact Y⟩
instance {a0 a1 a2:Int} {b0:List Int}:OK (Ab5 a0 a1 a2 b0) fun r=>Ck Tryz.prog 134 [(.arr 0 b0.length 0 b0.length),(Aa .i64) a0,(Aa .i64) a1,(Aa .i64) a2] [.rows 3 1 (List.map (Aa .i64) b0)] (.tup []) [.rows 3 1 (List.map (Aa .i64) r)]:=⟨fun {r} h=>by
 refine aw C0 true Tryz.func134 ?_
 refine Z ?_
 refine A9 h (fun _=>[(1,(Aa .i64 a0)),(2,(Aa .i64 a1)),(3,(Aa .i64 a2)),(8,(Ao true)),(9,(Ao true))]) (fun _=>[]) ?_
 rintro _ _ _ _ h _ _
 refine Z ?_
 refine Au h (fun _ h=>?_) (fun _ h=>?_)
 refine Z ?_
 refine B5 [0] h (fun _ h=>?_)
 refine Dx h (fun v2 hgv2 h=>?_)
 exact Y
 exact Y⟩
theorem Aq9 {b0:List Int} {r:(List Int)} (h:Ahe b0=some r):Ck Tryz.prog 74 [(.arr 0 b0.length 0 b0.length)] [.rows 3 1 (List.map (Aa .i64) b0)] (.tup []) [.rows 3 1 (List.map (Aa .i64) r)]:=by
 refine aw C0 true Tryz.func74 ?_
 refine Z ?_
 refine Bt h (fun _ h=>?_)
 refine Z ?_
 refine B5 [0] h (fun _ h=>?_)
 refine Dx h (fun v3 hgv3 h=>?_)
 exact Y
instance {b0:List Int}:OK (Tk b0) fun r=>Ck Tryz.prog 74 [(.arr 0 b0.length 0 b0.length)] [.rows 3 1 (List.map (Aa .i64) b0)] (.tup []) [.rows 3 1 (List.map (Aa .i64) r)]:=⟨fun {r} h=>by
 cases b0 with
 | nil=>exact Aq9 h
 | cons b l=>exact Aqy h (by simp)⟩
instance {a0:List A4}:OK (Mp a0) fun r=>Aw Tryz.prog 28 [(Ax 5 Dl) a0] ((Ax 1 (Aa .i64)) r):=⟨fun {r} h=>by
 refine pw {T:=Cf,an:=(fun s=>bif Nat.beq s 3 then .own else .ask),nl:=(fun s=>bif Nat.beq s 3 then [(0,1)] else bif Nat.beq s 2 then [(0,1)] else [])} Tryz.func28 ?_
 refine Z ?_
 refine A9 h (fun (v152,o153)=>[(3,(.arr 0 o153.length 0 o153.length)),(14,(Aa .i64 v152))]) (fun (v152,o153)=>[(0,.rows 3 1 (List.map (Aa .i64) o153))]) ?_
 rintro ⟨v152,o153⟩ _ _ _ h _ _
 refine Z ?_
 refine Au h (fun _ h=>?_) (fun _ h=>?_)
 refine Z ?_
 refine B1 h (fun _ _ _ _ h=>?_)
 refine Z ?_
 refine A9 h (fun (v164,o165)=>[(3,(.arr 0 o165.length 0 o165.length)),(22,(Aa .i64 v164))]) (fun (v164,o165)=>[(0,.rows 3 1 (List.map (Aa .i64) o165))]) ?_
 rintro ⟨v164,o165⟩ _ _ _ h _ _
 refine Z ?_
 refine Au h (fun _ h=>?_) (fun _ h=>?_)
 exact Y
 replace h:=C3 h
 refine Z ?_
 refine A9 h (fun (v207,o208)=>[(3,(.arr 0 o208.length 0 o208.length)),(36,(Aa .i64 v207))]) (fun (v207,o208)=>[(0,.rows 3 1 (List.map (Aa .i64) o208))]) ?_
 rintro ⟨v207,o208⟩ _ _ _ h _ _
 refine Z ?_
 refine Au h (fun _ h=>?_) (fun _ h=>?_)
 refine Z ?_
 refine B1 h (fun _ _ _ _ h=>?_)
 refine Z ?_
 refine A9 h (fun (v219,o220)=>[(3,(.arr 0 o220.length 0 o220.length)),(44,(Aa .i64 v219))]) (fun (v219,o220)=>[(0,.rows 3 1 (List.map (Aa .i64) o220))]) ?_
 rintro ⟨v219,o220⟩ _ _ _ h _ _
 exact Y
 exact Y
 replace h:=C3 h
 refine Z ?_
 refine B5 [0] h (fun v229 h=>?_)
 refine Dx h (fun v230 hgv230 h=>?_)
 refine Z ?_
 refine Dx h (fun v231 hcv231 h=>?_)
 have okv231:=(OK.ok hcv231 :)
 rw [<-(H8 hgv230)] at okv231
 refine Hh.act [0] _ _ _ _ okv231 rfl rfl ⟨rfl,trivial⟩ ?_
 refine ZO ?_
 refine En [.fzp 2] ?_
 refine Ap0 (f:=(Aa .i64)) (l:=v231.2) rfl rfl h (fun o232 h=>?_)
 exact Y⟩
instance {a0 a1:An}:OK (Ab4 a0 a1) fun r=>Aw Tryz.prog 132 [Cg a0,Cg a1] (Cg r):=⟨fun {r} h=>by
 refine pw C0 Tryz.func132 ?_
 exact Y⟩
instance {a0:An} {a1:Int}:OK (Xk a0 a1) fun r=>Aw Tryz.prog 73 [Cg a0,(Aa .i64) a1] (Cg r):=⟨fun {r} h=>by
 refine pw C0 Tryz.func73 ?_
 refine Z ?_
 refine Bt h (fun _ h=>?_)
 refine ZO ?_
 refine Cd h (fun (v5,v6,v7)=>[]) (fun (v5,v6,v7)=>[(0,.cells 41 [(Ao v5),(.sl 1 (List.map (Aa .u32) v6)),(.sl 1 (List.map (Aa .u32) v7))])]) ?_ ?_
 intro _ h _ _ _
 exact Y
 rintro ⟨v5,v6,v7⟩ _ h
 refine Z ?_
 refine Bt h (fun _ h=>?_)
 refine Z ?_
 refine A9 h (fun (v16,v17,v18,v19)=>[(14,(Aa .i64 v16))]) (fun (v16,v17,v18,v19)=>[(2,.cells 41 [(Ao v17),(.sl 1 (List.map (Aa .u32) v18)),(.sl 1 (List.map (Aa .u32) v19))])]) ?_
 rintro ⟨v16,v17,v18,v19⟩ _ _ _ h _ _
 exact Y⟩
instance {a0:Int}:OK (Acw a0) fun r=>Aw Tryz.prog 71 [(.val (.pointer none)),(Aa .i64) a0] (Da r):=⟨fun {r} h=>by
 refine pw C0 Tryz.func71 ?_
 exact Y⟩
instance {a0:Br} {a1:List A4} {a2:List Av} {a3:Av}:OK (Te a0 a1 a2 a3) fun r=>Aw Tryz.prog 27 [Gf a0,(Ax 5 Dl) a1,(Ev 3 E5) a2,E6 a3] (.tup [Cg r.1,(Aa .i64) r.2]):=⟨fun {r} h=>by
 refine pw {T:=Cf,an:=(fun _=>.ask),nl:=(fun s=>bif Nat.beq s 100 then [(1,1),(2,1)] else bif Nat.beq s 63 then [(1,1),(2,1)] else bif Nat.beq s 44 then [(1,1),(2,1)] else bif Nat.beq s 37 then [(1,1),(2,1)] else [])} Tryz.func27 ?_
 refine Z ?_
 refine Dx h (fun v5 hcv5 h=>?_)
 rcases v5 with v6 | v11
 refine Hh.act [] _ _ _ _ (Ah6 (a0:=a0) (a1:=[a1]) hcv5) rfl rfl trivial ?_
 refine Z ?_
 refine Au h (fun _ h=>?_) (fun _ h=>?_)
 exact Y
 refine Z ?_
 refine Au h (fun _ h=>?_) (fun _ h=>?_)
 exact Y
 refine Z ?_
 refine Bt h (fun _ h=>?_)
 refine Z ?_
 refine A9 h (fun v17=>[(9,(Aa .i64 0)),(49,(Aa .i64 v17))]) (fun v17=>[]) ?_
 rintro v17 _ _ _ h _ _
 refine Z ?_
 refine Au h (fun _ h=>?_) (fun _ h=>?_)
 refine Z ?_
 refine B1 h (fun _ _ _ _ h=>?_)
 refine Z ?_
 refine B5 [2,1] h (fun _ h=>?_)
 refine Z ?_
 refine B5 [7,5,6] h (fun _ h=>?_)
 exact Y
 replace h:=C3 h
 refine Z ?_
 refine Bt h (fun _ h=>?_)
 refine Z ?_
 refine A9 h (fun (v118,v119,v120,v121)=>[(9,(Aa .i64 0)),(68,(Aa .i64 v118))]) (fun (v118,v119,v120,v121)=>[(8,.cells 41 [(Ao v119),(.sl 1 (List.map (Aa .u32) v120)),(.sl 1 (List.map (Aa .u32) v121))])]) ?_
 rintro ⟨v118,v119,v120,v121⟩ _ _ _ h _ _
 refine Z ?_
 refine Au h (fun _ h=>?_) (fun _ h=>?_)
 refine Z ?_
 refine B1 h (fun _ _ _ _ h=>?_)
 refine Z ?_
 refine A9 h (fun (v132,v133,v134,v135)=>[(9,(Aa .i64 0)),(78,(Aa .i64 v132))]) (fun (v132,v133,v134,v135)=>[(10,.cells 41 [(Ao v133),(.sl 1 (List.map (Aa .u32) v134)),(.sl 1 (List.map (Aa .u32) v135))])]) ?_
 rintro ⟨v132,v133,v134,v135⟩ _ _ _ h _ _
 refine Z ?_
 refine Au h (fun _ h=>?_) (fun _ h=>?_)
 refine Z ?_
 refine B1 h (fun _ _ _ _ h=>?_)
 refine Z ?_
 refine B5 [7,5,6] h (fun _ h=>?_)
 refine Z ?_
 refine B5 [2,1] h (fun _ h=>?_)
 exact Y
 replace h:=C3 h
 refine Z ?_
 refine A9 h (fun (v177,v178,v179,v180)=>[(110,(Aa .i64 v177))]) (fun (v177,v178,v179,v180)=>[(10,.cells 41 [(Ao v178),(.sl 1 (List.map (Aa .u32) v179)),(.sl 1 (List.map (Aa .u32) v180))])]) ?_
 rintro ⟨v177,v178,v179,v180⟩ _ _ _ h _ _
 refine Z ?_
 refine Au h (fun _ h=>?_) (fun _ h=>?_)
 refine Z ?_
 refine B1 h (fun _ _ _ _ h=>?_)
 refine Z ?_
 refine Bt h (fun _ h=>?_)
 refine Z ?_
 refine A9 h (fun (v192,v193,v194,v195)=>[(122,(Aa .i64 v192))]) (fun (v192,v193,v194,v195)=>[(12,.cells 41 [(Ao v193),(.sl 1 (List.map (Aa .u32) v194)),(.sl 1 (List.map (Aa .u32) v195))])]) ?_
 rintro ⟨v192,v193,v194,v195⟩ _ _ _ h _ _
 refine Z ?_
 refine Au h (fun _ h=>?_) (fun _ h=>?_)
 refine Z ?_
 refine B1 h (fun _ _ _ _ h=>?_)
 refine Z ?_
 refine Bt h (fun _ h=>?_)
 refine Z ?_
 refine B5 [2,1] h (fun _ h=>?_)
 refine Z ?_
 refine Wm.mk 2 (by kernel_rfl) ?_
 exact Y
 exact Y
 exact Y
 exact Y
 refine Hh.act [] _ _ _ _ (Ah7 (a0:=a0) (a1:=[a1]) hcv5) rfl rfl trivial ?_
 refine Z ?_
 refine Au h (fun _ h=>?_) (fun _ h=>?_)
 exact Y
 refine Z ?_
 refine Au h (fun _ h=>?_) (fun _ h=>?_)
 exact Y
 refine Z ?_
 refine Bt h (fun _ h=>?_)
 refine Z ?_
 refine A9 h (fun v224=>[(9,(Aa .i64 0)),(49,(Aa .i64 v224))]) (fun v224=>[]) ?_
 rintro v224 _ _ _ h _ _
 refine Z ?_
 refine Au h (fun _ h=>?_) (fun _ h=>?_)
 refine Z ?_
 refine B1 h (fun _ _ _ _ h=>?_)
 refine Z ?_
 refine B5 [2,1] h (fun _ h=>?_)
 exact Y
 replace h:=C3 h
 refine Z ?_
 refine Bt h (fun _ h=>?_)
 refine Z ?_
 refine A9 h (fun (v325,v326,v327,v328)=>[(9,(Aa .i64 0)),(68,(Aa .i64 v325))]) (fun (v325,v326,v327,v328)=>[(4,.cells 41 [(Ao v326),(.sl 1 (List.map (Aa .u32) v327)),(.sl 1 (List.map (Aa .u32) v328))])]) ?_
 rintro ⟨v325,v326,v327,v328⟩ _ _ _ h _ _
 refine Z ?_
 refine Au h (fun _ h=>?_) (fun _ h=>?_)
 refine Z ?_
 refine B1 h (fun _ _ _ _ h=>?_)
 refine Z ?_
 refine A9 h (fun (v339,v340,v341,v342)=>[(9,(Aa .i64 0)),(78,(Aa .i64 v339))]) (fun (v339,v340,v341,v342)=>[(6,.cells 41 [(Ao v340),(.sl 1 (List.map (Aa .u32) v341)),(.sl 1 (List.map (Aa .u32) v342))])]) ?_
 rintro ⟨v339,v340,v341,v342⟩ _ _ _ h _ _
 refine Z ?_
 refine Au h (fun _ h=>?_) (fun _ h=>?_)
 refine Z ?_
 refine B1 h (fun _ _ _ _ h=>?_)
 refine Z ?_
 refine Bt h (fun _ h=>?_)
 refine Z ?_
 refine B5 [2,1] h (fun _ h=>?_)
 exact Y
 replace h:=C3 h
 refine Z ?_
 refine A9 h (fun (v384,v385,v386,v387)=>[(110,(Aa .i64 v384))]) (fun (v384,v385,v386,v387)=>[(6,.cells 41 [(Ao v385),(.sl 1 (List.map (Aa .u32) v386)),(.sl 1 (List.map (Aa .u32) v387))])]) ?_
 rintro ⟨v384,v385,v386,v387⟩ _ _ _ h _ _
 refine Z ?_
 refine Au h (fun _ h=>?_) (fun _ h=>?_)
 refine Z ?_
 refine B1 h (fun _ _ _ _ h=>?_)
 refine Z ?_
 refine Bt h (fun _ h=>?_)
 refine Z ?_
 refine A9 h (fun (v399,v400,v401,v402)=>[(122,(Aa .i64 v399))]) (fun (v399,v400,v401,v402)=>[(8,.cells 41 [(Ao v400),(.sl 1 (List.map (Aa .u32) v401)),(.sl 1 (List.map (Aa .u32) v402))])]) ?_
 rintro ⟨v399,v400,v401,v402⟩ _ _ _ h _ _
 refine Z ?_
 refine Au h (fun _ h=>?_) (fun _ h=>?_)
 refine Z ?_
 refine B1 h (fun _ _ _ _ h=>?_)
 refine Z ?_
 refine Bt h (fun _ h=>?_)
 refine Z ?_
 refine B5 [2,1] h (fun _ h=>?_)
 refine Z ?_
 refine Wm.mk 2 (by kernel_rfl) ?_
 exact Y
 exact Y
 exact Y
 exact Y⟩
instance {a0:Br} {a1:List A4} {a2:List Av} {a3:Av}:OK (Xb a0 a1 a2 a3) fun r=>Aw Tryz.prog 6 [Gf a0,(Ax 5 Dl) a1,(Ev 3 E5) a2,E6 a3] (Ao r):=⟨fun {r} h=>by
 refine pw {T:=Cf,an:=(fun s=>bif Nat.beq s 11 then .own else .ask),nl:=(fun s=>bif Nat.beq s 11 then [(0,3)] else [])} Tryz.func6 ?_
 refine Z ?_
 refine Bt h (fun _ h=>?_)
 refine Z ?_
 refine Au h (fun _ h=>?_) (fun _ h=>?_)
 exact Y
 refine Ll (A6 (A6 ?_))
 refine Cd h (fun v8=>[(41,(Ao v8))]) (fun v8=>[]) ?_ ?_
 intro _ h _ _ _
 refine Z ?_
 refine Yg h (fun _ h=>?_)
 refine Z ?_
 refine F2 h (fun _ h=>?_) (fun _ h=>?_)
 exact Y
 refine Z ?_
 refine Bt h (fun _ h=>?_)
 refine Z ?_
 refine F2 h (fun _ h=>?_) (fun _ h=>?_)
 exact Y
 refine Z ?_
 refine Dx h (fun v6 hcv6 h=>?_)
 refine Hh.mk _ (Aw.sub (OK.ok hcv6 :) ⟨Sub.of_eq (congrArg (O.sl 3) (Hi [a3]).symm),trivial⟩ (Sub.refl _)) rfl ?_
 exact Y
 rintro v8 _ h
 refine Au h (fun _ h=>?_) (fun _ h=>?_)
 exact Y
 refine Z ?_
 refine Bt h (fun _ h=>?_)
 refine Z ?_
 refine Au h (fun _ h=>?_) (fun _ h=>?_)
 exact Y
 refine Z ?_
 refine Bt h (fun _ h=>?_)
 refine Z ?_
 refine A9 h (fun (v33,o34)=>[(8,(Ao false)),(11,(.arr 3 o34.length 0 o34.length)),(55,(Aa .i64 v33))]) (fun (v33,o34)=>[(3,.rows 46 3 (List.map Uv o34))]) ?_
 rintro ⟨v33,o34⟩ _ _ _ h _ _
 refine Z ?_
 refine Au h (fun _ h=>?_) (fun _ h=>?_)
 refine Z ?_
 refine B1 h (fun _ _ _ _ h=>?_)
 refine ZS ?_
 refine B9 ?_
 refine ZO ?_
 refine A6 (A6 ?_)
 refine Cd h (fun v37=>[(67,(Ao v37))]) (fun v37=>[]) ?_ ?_
 intro _ h _ _ _
 exact Y
 rintro v37 _ h
 refine Cd h (fun (v39,v40,v41)=>[]) (fun (v39,v40,v41)=>[(4,.cells 31 [(Aa .i64 v39),(Aa .i64 v40),(.sl 3 (E5 v41))])]) ?_ ?_
 intro _ h _ _ _
 exact Y
 rintro ⟨v39,v40,v41⟩ _ h
 exact Y
 replace h:=C3 h
 refine Hx (Hr rfl (A6 ?_))
 refine En [.fz 11] ?_
 exact Y⟩
end Go.Ab
