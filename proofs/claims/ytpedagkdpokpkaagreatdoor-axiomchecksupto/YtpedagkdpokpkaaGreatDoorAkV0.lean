/- The contracts of the functions, each by its walk (made by a program). -/
import Derived.Test.YtpedagkdpokpkaaGreatDoorAkHand
import Derived.Test.YtpedagkdpokpkaaGreatDoorAkDef
namespace Go.Ab
open Go Go.Proofs
set_option maxRecDepth 10000
set_option maxHeartbeats 4000000
set_option linter.unusedVariables false
instance {a0:Int}:OK (Nr a0) fun r=>Ar Tryz.prog 86 [(O .i64) a0] (Al r):=⟨fun {r} h=>by
 refine pw C0 Tryz.func86 ?_
 exact Y⟩
instance {a0:Int}:OK (Ph a0) fun r=>Ar Tryz.prog 87 [(O .i64) a0] (Al r):=⟨fun {r} h=>by
 refine pw C0 Tryz.func87 ?_
 exact Y⟩
instance {a0:Ao}:OK (Fw a0) fun r=>Ar Tryz.prog 48 [B9 a0] (Al r):=⟨fun {r} h=>by
 refine pw C0 Tryz.func48 ?_
 refine ZS ?_
 refine Bv ?_
 refine ZO ?_
 refine Au (Au ?_)
 refine Bw h (fun v3=>[(14,(Al v3))]) (fun v3=>[]) ?_ ?_
 intro _ h _ _ _
 exact Y
 rintro v3 _ h
 refine Am h (fun _ h=>?_) (fun _ h=>?_)
 exact Y
 refine Z ?_
 refine A6 h (fun v8=>[(2,(Al false)),(18,(O .i64 v8))]) (fun v8=>[]) ?_
 rintro v8 _ _ _ h _ _
 exact Y⟩
instance {a0:List Ax}:OK (L7 a0) fun r=>Bh Tryz.prog 91 [(Ak 2 B2) a0] [] (.arr 1 r.2.length 0 r.2.length) [.rows 71 2 (List.map B2 r.1),.rows 71 2 (List.map B2 r.2)]:=⟨fun {r} h=>by
 exact Akt h⟩
instance {a0:Int}:OK (Ta a0) fun r=>Ar Tryz.prog 201 [(O .u64) a0] ((O .i64) r):=⟨fun {r} h=>by
 refine pw C0 Tryz.func201 ?_
 refine ZS ?_
 refine Bv ?_
 refine ZS ?_
 refine Bv ?_
 refine ZO ?_
 refine Bw h (fun (v2,v3)=>[(0,(O .u64 v2)),(2,(O .i64 v3))]) (fun (v2,v3)=>[]) ?_ ?_
 intro _ h _ _ _
 exact Y
 rintro ⟨v2,v3⟩ _ h
 refine ZS ?_
 refine Bv ?_
 refine ZO ?_
 refine Bw h (fun (v5,v6)=>[(0,(O .u64 v5)),(2,(O .i64 v6))]) (fun (v5,v6)=>[]) ?_ ?_
 intro _ h _ _ _
 exact Y
 rintro ⟨v5,v6⟩ _ h
 refine ZS ?_
 refine Bv ?_
 refine ZO ?_
 refine Bw h (fun (v8,v9)=>[(0,(O .u64 v8)),(2,(O .i64 v9))]) (fun (v8,v9)=>[]) ?_ ?_
 intro _ h _ _ _
 exact Y
 rintro ⟨v8,v9⟩ _ h
 exact Y⟩
instance {a0:Int}:OK (Lv a0) fun r=>Ar Tryz.prog 135 [(O .u64) a0] ((O .i64) r):=⟨fun {r} h=>by
 refine pw C0 Tryz.func135 ?_
 exact Y⟩
instance {a0:Int}:OK (Lz a0) fun r=>Ar Tryz.prog 202 [(O .i64) a0] (Al r):=⟨fun {r} h=>by
 refine pw C0 Tryz.func202 ?_
 exact Y⟩
instance {a0 a1:Int}:OK (G6 a0 a1) fun r=>Ar Tryz.prog 136 [(O .i64) a0,(O .i64) a1] ((O .i64) r):=⟨fun {r} h=>by
 refine pw C0 Tryz.func136 ?_
 exact Y⟩
instance {a0 a1:Ax}:OK (Ji a0 a1) fun r=>Ar Tryz.prog 148 [B2 a0,B2 a1] ((O .i64) r):=⟨fun {r} h=>by
 refine pw C0 Tryz.func148 ?_
 exact Y⟩
instance {a0 a1:Int} {b0:List Ax}:OK (Tn a0 a1 b0) fun r=>Bh Tryz.prog 264 [(.arr 0 b0.length 0 b0.length),(O .i64) a0,(O .i64) a1,(.fn 148 [])] [.rows 71 2 (List.map B2 b0)] (.tup []) [.rows 71 2 (List.map B2 r)]:=⟨fun {r} h=>by
 refine aw C0 true Tryz.func264 ?_
 refine Z ?_
 refine Dc h (fun (v21,o22)=>[(8,(O .i64 v21))]) (fun (v21,o22)=>[(0,.rows 71 2 (List.map B2 o22))]) (fun (v21,o22)=>b0.length=o22.length) ?_
 rintro ⟨v21,o22⟩ _ _ _ h _ _ q22
 refine Z ?_
 refine Am h (fun _ h=>?_) (fun _ h=>?_)
 refine Z ?_
 refine Dc h (fun (v31,o32)=>[(9,(O .i64 v31))]) (fun (v31,o32)=>[(0,.rows 71 2 (List.map B2 o32))]) (fun (v31,o32)=>b0.length=o32.length) ?_
 rintro ⟨v31,o32⟩ _ _ _ h _ _ q32
 refine Au (Au ?_)
 refine Bw h (fun v36=>[(34,(Al v36))]) (fun v36=>[]) ?_ ?_
 intro _ h _ _ _
 exact Y
 rintro v36 _ h
 exact Y
 exact Y⟩
instance {a0 a1 a2:Int} {b0:List Ax}:OK (P6 a0 a1 a2 b0) fun r=>Bh Tryz.prog 212 [(.arr 0 b0.length 0 b0.length),(O .i64) a0,(O .i64) a1,(O .i64) a2,(.fn 148 [])] [.rows 71 2 (List.map B2 b0)] (.tup []) [.rows 71 2 (List.map B2 r)]:=⟨fun {r} h=>by
 refine aw C0 true Tryz.func212 ?_
 refine Z ?_
 refine A6 h (fun _=>[(1,(O .i64 a0)),(2,(O .i64 a1)),(3,(O .i64 a2)),(10,(Al true)),(11,(Al true))]) (fun _=>[]) ?_
 rintro _ _ _ _ h _ _
 refine Z ?_
 refine Am h (fun _ h=>?_) (fun _ h=>?_)
 refine Z ?_
 refine A7 [0] h (fun _ h=>?_)
 refine Cl h (fun v2 hgv2 h=>?_)
 exact Y
 exact Y⟩
theorem Ali {b0:List Ax} {r:(List Ax)} (h:Yx b0=some r):Bh Tryz.prog 147 [(.arr 0 b0.length 0 b0.length),(.fn 148 [])] [.rows 71 2 (List.map B2 b0)] (.tup []) [.rows 71 2 (List.map B2 r)]:=by
 refine aw C0 true Tryz.func147 ?_
 refine Z ?_
 refine Be h (fun _ h=>?_)
 refine Z ?_
 refine A7 [0] h (fun _ h=>?_)
 refine Cl h (fun v3 hgv3 h=>?_)
 exact Y
instance {b0:List Ax}:OK (N1 b0) fun r=>Bh Tryz.prog 147 [(.arr 0 b0.length 0 b0.length),(.fn 148 [])] [.rows 71 2 (List.map B2 b0)] (.tup []) [.rows 71 2 (List.map B2 r)]:=⟨fun {r} h=>by
 unfold N1 at h
 cases hb:Nat.ble b0.length 12 with
 | true=>rw [hb] at h; exact Ali h
 | false=>rw [hb] at h; exact Ak8 (eA:=B2) (cmp:=Ji) (g:=148) (enters_of Tryz.func148 (by kernel_rfl) rfl) (fun x y n h=>(OK.ok h :)) (fun x=>⟨_,rfl⟩) h (by rintro rfl; cases hb)⟩
instance {a0:Int} {a1:List Ax}:OK (Ns a0 a1) fun r=>Ar Tryz.prog 88 [(O .i64) a0,(Ak 2 B2) a1] (.tup [B9 r.1,(O .i64) r.2]):=⟨fun {r} h=>by
 refine pw {T:=Bs,an:=(fun _=>.ask),nl:=(fun s=>bif Nat.beq s 63 then [(1,2)] else bif Nat.beq s 55 then [(0,2)] else [])} Tryz.func88 ?_
 refine ZS ?_
 refine Bv ?_
 refine ZS ?_
 refine Bv ?_
 refine ZO ?_
 refine Au ?_
 refine C5 [.own 6 1 71 2] ?_
 refine Z ?_
 refine A7 [] h (fun _ h=>?_)
 refine Z ?_
 refine A7 [4] h (fun _ h=>?_)
 refine Cl h (fun v8 hgv8 h=>?_)
 refine Z ?_
 refine A6 h (fun (v37,o38)=>[(8,(O .i64 v37))]) (fun (v37,o38)=>[(1,.cells 25 [(O .i64 a0),(.arr 2 o38.length 0 o38.length)]),(2,.rows 71 2 (List.map B2 o38))]) ?_
 rintro ⟨v37,o38⟩ _ _ _ h _ _
 refine Z ?_
 refine Am h (fun _ h=>?_) (fun _ h=>?_)
 refine Z ?_
 refine Fq h (fun _ v39 _ _ h=>?_)
 refine Z ?_
 refine A6 h (fun (v44,v45)=>[(8,(O .i64 v44))]) (fun (v44,v45)=>[(5,.cells 71 [(O .i64 v39.Var),(O .i64 v45)])]) ?_
 rintro ⟨v44,v45⟩ _ _ _ h _ _
 refine Au (Au ?_)
 refine Bw h (fun v47=>[(39,(Al v47))]) (fun v47=>[]) ?_ ?_
 intro _ h _ _ _
 exact Y
 rintro v47 _ h
 exact Y
 replace h:=Cf h
 refine Ed (Eb rfl (Au (Au ?_)))
 refine C5 [.fzc 6 1] ?_
 exact Y⟩
instance {a0:Int}:OK (S0 a0) fun r=>Bh Tryz.prog 149 [(.val (.slice none 0 0)),(O .i64) a0] [] (.arr 0 r.length 0 r.length) [.rows 71 2 (List.map B2 r)]:=⟨fun {r} h=>by
 exact Alb h⟩
instance {a0:List (List Ax)}:OK (Pi a0) fun r=>Ar Tryz.prog 89 [(Ak 1 (Ak 2 B2)) a0] ((Ak 2 B2) r):=⟨fun {r} h=>by
 refine pw {T:=Bs,an:=(fun _=>.ask),nl:=(fun s=>bif Nat.beq s 2 then [(0,2)] else [])} Tryz.func89 ?_
 refine Z ?_
 refine A6 h (fun (v2,v3)=>[(3,(O .i64 v2)),(11,(O .i64 v3))]) (fun (v2,v3)=>[]) ?_
 rintro ⟨v2,v3⟩ _ _ _ h _ _
 refine Z ?_
 refine Am h (fun _ h=>?_) (fun _ h=>?_)
 exact Y
 replace h:=Cf h
 refine Z ?_
 refine A7 [] h (fun _ h=>?_)
 refine Z ?_
 refine A6 h (fun (v14,o15)=>[(6,(.arr 0 o15.length 0 o15.length)),(27,(O .i64 v14))]) (fun (v14,o15)=>[(0,.rows 71 2 (List.map B2 o15))]) ?_
 rintro ⟨v14,o15⟩ _ _ _ h _ _
 exact Y⟩
instance {a0 a1:Ao}:OK (Iz a0 a1) fun r=>Ar Tryz.prog 49 [B9 a0,B9 a1] (.tup [B9 r.1,(O .i64) r.2]):=⟨fun {r} h=>by
 refine pw {T:=Bs,an:=(fun _=>.ask),nl:=(fun s=>bif Nat.beq s 14 then [(1,2)] else [])} Tryz.func49 ?_
 refine ZS ?_
 refine Bv ?_
 refine ZO ?_
 refine Au (Au ?_)
 refine Bw h (fun v6=>[(13,(Al v6))]) (fun v6=>[]) ?_ ?_
 intro _ h _ _ _
 exact Y
 rintro v6 _ h
 exact Y⟩
instance {a0:List Ax} {a1:Int}:OK (Pj a0 a1) fun r=>Ar Tryz.prog 90 [(Ak 2 B2) a0,(O .i64) a1] ((Ak 2 B2) r):=⟨fun {r} h=>by
 refine pw {T:=Bs,an:=(fun _=>.ask),nl:=(fun s=>bif Nat.beq s 4 then [(0,2)] else [])} Tryz.func90 ?_
 refine Z ?_
 refine A7 [] h (fun v1 h=>?_)
 refine Z ?_
 refine Dc h (fun (v6,o7)=>[(11,(O .i64 v6))]) (fun (v6,o7)=>[(1,.rows 71 2 (List.map B2 o7))]) (fun (v6,o7)=>v1.2.length=o7.length) ?_
 rintro ⟨v6,o7⟩ _ _ _ h _ _ q7
 refine Z ?_
 refine Am h (fun _ h=>?_) (fun _ h=>?_)
 refine Z ?_
 refine Fq h (fun _ v8 _ _ h=>?_)
 refine Z ?_
 refine Fq h (fun _ v9 hiv9 _ h=>?_)
 refine Z ?_
 refine Gl (f:=B2) (x:=(Ax.mk v9.Var (Ac (v8.Coef*a1)))) (j:=v6) rfl rfl (Nat.zero_add _) hiv9 ?_
 exact Y
 exact Y⟩
instance {a0 a1:Ao}:OK (I0 a0 a1) fun r=>Ar Tryz.prog 50 [B9 a0,B9 a1] (.tup [B9 r.1,(O .i64) r.2]):=⟨fun {r} h=>by
 refine pw {T:=Bs,an:=(fun _=>.ask),nl:=(fun s=>bif Nat.beq s 14 then [(1,2)] else [])} Tryz.func50 ?_
 refine ZS ?_
 refine Bv ?_
 refine ZO ?_
 refine Au (Au ?_)
 refine Bw h (fun v6=>[(13,(Al v6))]) (fun v6=>[]) ?_ ?_
 intro _ h _ _ _
 exact Y
 rintro v6 _ h
 exact Y⟩
instance {a0:Ds}:OK (Iy a0) fun r=>Ar Tryz.prog 24 [Gq a0] (Al r):=⟨fun {r} h=>by
 refine pw C0 Tryz.func24 ?_
 refine ZS ?_
 refine Bv ?_
 refine ZO ?_
 refine Au (Au ?_)
 refine Bw h (fun v4=>[(26,(Al v4))]) (fun v4=>[]) ?_ ?_
 intro _ h _ _ _
 exact Y
 rintro v4 _ h
 exact Y⟩
instance {a0:List Ax}:OK (Pk a0) fun r=>Ar Tryz.prog 91 [(Ak 2 B2) a0] ((Ak 2 B2) r):=⟨fun {r} h=>by
 exact Aks h⟩
instance {a0:Ao}:OK (Ng a0) fun r=>Ar Tryz.prog 51 [B9 a0] (B9 r):=⟨fun {r} h=>by
 refine pw C0 Tryz.func51 ?_
 exact Y⟩
instance {a0:Ds}:OK (Nc a0) fun r=>Ar Tryz.prog 25 [Gq a0] ((Ak 2 B9) r):=⟨fun {r} h=>by
 refine pw {T:=Bs,an:=(fun _=>.ask),nl:=(fun s=>bif Nat.beq s 2 then [(0,2)] else [])} Tryz.func25 ?_
 exact Y⟩
instance {a0:Nat} {b0:List Int}:OK (Nw a0 b0) fun r=>Bh Tryz.prog 109 [(.arr 0 b0.length 0 a0)] [.rows 3 1 (List.map (O .i64) b0)] (.arr 0 r.2.length 0 r.1) [.rows 3 1 (List.map (O .i64) r.2)]:=⟨fun {r} h=>by
 refine aw {T:=Bs,an:=(fun _=>.ask),nl:=(fun s=>bif Nat.beq s 2 then [(0,1)] else [])} false Tryz.func109 ?_
 refine Z ?_
 refine Am h (fun _ h=>?_) (fun _ h=>?_)
 exact Y
 refine Z ?_
 refine A6 h (fun v23=>[(2,(.sl 1 (List.map (O .i64) []))),(3,(O .i64 v23))]) (fun v23=>[]) ?_
 rintro v23 _ _ _ h _ _
 refine Z ?_
 refine Am h (fun _ h=>?_) (fun _ h=>?_)
 refine Z ?_
 refine E8 h (fun _ _ _ _ h=>?_)
 refine Z ?_
 refine E8 h (fun _ _ _ _ h=>?_)
 refine Z ?_
 refine Am h (fun _ h=>?_) (fun _ h=>?_)
 refine Z ?_
 refine M9 (f:=(O .i64)) (l:=b0) rfl rfl h (fun v26 h=>?_)
 refine Z ?_
 refine Dc h (fun (v31,v32,o33)=>[(3,(O .i64 v31)),(5,(O .i64 v32))]) (fun (v31,v32,o33)=>[(0,.rows 3 1 (List.map (O .i64) o33))]) (fun (v31,v32,o33)=>b0.length=o33.length) ?_
 rintro ⟨v31,v32,o33⟩ _ _ _ h _ _ q33
 refine Z ?_
 refine Am h (fun _ h=>?_) (fun _ h=>?_)
 refine Z ?_
 refine E8 h (fun _ _ _ _ h=>?_)
 refine Z ?_
 refine E8 h (fun _ _ _ _ h=>?_)
 refine Z ?_
 refine Am h (fun _ h=>?_) (fun _ h=>?_)
 refine Z ?_
 refine E8 h (fun _ v36 _ _ h=>?_)
 refine Z ?_
 refine E8 h (fun _ _ hiv37 _ h=>?_)
 refine Z ?_
 refine Gl (f:=(O .i64)) (x:=v36) (j:=(((0:Nat):Int)+v31)) rfl rfl rfl (M7 _ hiv37) ?_
 exact Y
 exact Y
 replace h:=Cf h
 refine Z ?_
 refine O1 (f:=(O .i64)) (l:=o33) rfl q33 h (fun v42 h=>?_) (fun h=>?_)
 refine Z ?_
 refine Aj3 (f:=(O .i64)) (l:=o33) (z:=(0:Int)) rfl rfl q33 h (fun o43 hco43 h=>?_)
 refine Z ?_
 refine Si (f:=(O .i64)) (l:=o43) rfl (Acr q33 hco43) h (fun v44 h=>?_)
 replace h:=Cf h
 refine Z ?_
 cases h
 exact ⟨congrArg (fun q_=>AV.arr 0 q_ 0 _) (Acr q33 hco43),rfl,trivial⟩
 refine Z ?_
 refine Si (f:=(O .i64)) (l:=o33) rfl q33 h (fun v45 h=>?_)
 replace h:=Cf h
 refine Z ?_
 cases h
 exact ⟨congrArg (fun q_=>AV.arr 0 q_ 0 _) q33,rfl,trivial⟩
 exact Y
 exact Y⟩
instance {a0 a1:Int}:OK (X3 a0 a1) fun r=>Ar Tryz.prog 219 [(O .i64) a0,(O .i64) a1] (Al r):=⟨fun {r} h=>by
 refine pw C0 Tryz.func219 ?_
 exact Y⟩
instance {a0 a1:Int} {b0:List Int}:OK (X2 a0 a1 b0) fun r=>Bh Tryz.prog 213 [(.arr 0 b0.length 0 b0.length),(O .i64) a0,(O .i64) a1] [.rows 3 1 (List.map (O .i64) b0)] (.tup []) [.rows 3 1 (List.map (O .i64) r)]:=⟨fun {r} h=>by
 refine aw C0 true Tryz.func213 ?_
 refine Z ?_
 refine Dc h (fun (v21,o22)=>[(6,(O .i64 v21))]) (fun (v21,o22)=>[(0,.rows 3 1 (List.map (O .i64) o22))]) (fun (v21,o22)=>b0.length=o22.length) ?_
 rintro ⟨v21,o22⟩ _ _ _ h _ _ q22
 refine Z ?_
 refine Am h (fun _ h=>?_) (fun _ h=>?_)
 refine Z ?_
 refine Dc h (fun (v31,o32)=>[(7,(O .i64 v31))]) (fun (v31,o32)=>[(0,.rows 3 1 (List.map (O .i64) o32))]) (fun (v31,o32)=>b0.length=o32.length) ?_
 rintro ⟨v31,o32⟩ _ _ _ h _ _ q32
 refine Au (Au ?_)
 refine Bw h (fun v36=>[(30,(Al v36))]) (fun v36=>[]) ?_ ?_
 intro _ h _ _ _
 exact Y
 rintro v36 _ h
 exact Y
 exact Y⟩
instance {a0 a1 a2:Int} {b0:List Int}:OK (Xs a0 a1 a2 b0) fun r=>Bh Tryz.prog 162 [(.arr 0 b0.length 0 b0.length),(O .i64) a0,(O .i64) a1,(O .i64) a2] [.rows 3 1 (List.map (O .i64) b0)] (.tup []) [.rows 3 1 (List.map (O .i64) r)]:=⟨fun {r} h=>by
 refine aw C0 true Tryz.func162 ?_
 refine Z ?_
 refine A6 h (fun _=>[(1,(O .i64 a0)),(2,(O .i64 a1)),(3,(O .i64 a2)),(8,(Al true)),(9,(Al true))]) (fun _=>[]) ?_
 rintro _ _ _ _ h _ _
 refine Z ?_
 refine Am h (fun _ h=>?_) (fun _ h=>?_)
 refine Z ?_
 refine A7 [0] h (fun _ h=>?_)
 refine Cl h (fun v2 hgv2 h=>?_)
 exact Y
 exact Y⟩
theorem Alj {b0:List Int} {r:(List Int)} (h:Adc b0=some r):Bh Tryz.prog 108 [(.arr 0 b0.length 0 b0.length)] [.rows 3 1 (List.map (O .i64) b0)] (.tup []) [.rows 3 1 (List.map (O .i64) r)]:=by
 refine aw C0 true Tryz.func108 ?_
 refine Z ?_
 refine Be h (fun _ h=>?_)
 refine Z ?_
 refine A7 [0] h (fun _ h=>?_)
 refine Cl h (fun v3 hgv3 h=>?_)
 exact Y
instance {b0:List Int}:OK (Ps b0) fun r=>Bh Tryz.prog 108 [(.arr 0 b0.length 0 b0.length)] [.rows 3 1 (List.map (O .i64) b0)] (.tup []) [.rows 3 1 (List.map (O .i64) r)]:=⟨fun {r} h=>by
 cases b0 with
 | nil=>exact Alj h
 | cons b l=>exact Akz h (by simp)⟩
instance {a0:List Ao}:OK (No a0) fun r=>Ar Tryz.prog 67 [(Ak 2 B9) a0] ((Ak 1 (O .i64)) r):=⟨fun {r} h=>by
 refine pw {T:=Bs,an:=(fun s=>bif Nat.beq s 3 then .own else .ask),nl:=(fun s=>bif Nat.beq s 3 then [(0,1)] else bif Nat.beq s 2 then [(0,1)] else [])} Tryz.func67 ?_
 refine Z ?_
 refine A6 h (fun (v38,o39)=>[(3,(.arr 0 o39.length 0 o39.length)),(10,(O .i64 v38))]) (fun (v38,o39)=>[(0,.rows 3 1 (List.map (O .i64) o39))]) ?_
 rintro ⟨v38,o39⟩ _ _ _ h _ _
 refine Z ?_
 refine Am h (fun _ h=>?_) (fun _ h=>?_)
 refine Z ?_
 refine B7 h (fun _ _ _ _ h=>?_)
 refine Z ?_
 refine A6 h (fun (v50,o51)=>[(3,(.arr 0 o51.length 0 o51.length)),(17,(O .i64 v50))]) (fun (v50,o51)=>[(0,.rows 3 1 (List.map (O .i64) o51))]) ?_
 rintro ⟨v50,o51⟩ _ _ _ h _ _
 exact Y
 replace h:=Cf h
 refine Z ?_
 refine A7 [0] h (fun v58 h=>?_)
 refine Cl h (fun v59 hgv59 h=>?_)
 refine Z ?_
 refine Cl h (fun v60 hcv60 h=>?_)
 have okv60:=(OK.ok hcv60 :)
 rw [<-(F3 hgv59)] at okv60
 refine Ea.act [0] _ _ _ _ okv60 rfl rfl ⟨rfl,trivial⟩ ?_
 refine ZO ?_
 refine C5 [.fzp 2] ?_
 refine Acs (f:=(O .i64)) (l:=v60.2) rfl rfl h (fun o61 h=>?_)
 exact Y⟩
instance {a0:List Ao}:OK (Pb a0) fun r=>Ar Tryz.prog 36 [(Ak 2 B9) a0] (Al r):=⟨fun {r} h=>by
 refine pw C0 Tryz.func36 ?_
 refine Z ?_
 refine Am h (fun _ h=>?_) (fun _ h=>?_)
 exact Y
 refine Z ?_
 refine A6 h (fun v4=>[(2,(Al false)),(10,(O .i64 v4))]) (fun v4=>[]) ?_
 rintro v4 _ _ _ h _ _
 exact Y⟩
instance {a0:Eo}:OK (Pf a0) fun r=>Ar Tryz.prog 69 [Kg a0] ((O .i64) r):=⟨fun {r} h=>by
 refine pw C0 Tryz.func69 ?_
 exact Y⟩
instance {a0:List Int}:OK (Gp a0) fun r=>Ar Tryz.prog 163 [(Ak 1 (O .u32)) a0] ((Ak 1 (O .u32)) r):=⟨fun {r} h=>by
 refine pw {T:=Bs,an:=(fun _=>.ask),nl:=(fun s=>bif Nat.beq s 2 then [(0,1)] else [])} Tryz.func163 ?_
 refine Z ?_
 refine A6 h (fun v2=>[(3,(O .i64 v2))]) (fun v2=>[]) ?_
 rintro v2 _ _ _ h _ _
 exact Y⟩
instance {a0:List Int}:OK (Nx a0) fun r=>Ar Tryz.prog 110 [(Ak 1 (O .u32)) a0] ((Ak 1 (O .u32)) r):=⟨fun {r} h=>by
 refine pw {T:=Bs,an:=(fun _=>.ask),nl:=(fun s=>bif Nat.beq s 2 then [(0,1)] else [])} Tryz.func110 ?_
 refine Z ?_
 refine Fc h (fun _ h=>?_)
 refine Z ?_
 refine A6 h (fun (v14,v15,o16)=>[(3,(.arr 0 o16.length 0 o16.length)),(4,(O .u64 v14)),(13,(O .i64 v15))]) (fun (v14,v15,o16)=>[(0,.rows 107 1 (List.map (O .u32) o16))]) ?_
 rintro ⟨v14,v15,o16⟩ _ _ _ h _ _
 refine Z ?_
 refine Am h (fun _ h=>?_) (fun _ h=>?_)
 exact Y
 replace h:=Cf h
 refine Z ?_
 refine Am h (fun _ h=>?_) (fun _ h=>?_)
 refine Z ?_
 refine Ii h (fun _ h=>?_)
 refine ZO ?_
 refine Au ?_
 refine C5 [.fz 3] ?_
 exact Y
 refine Gm (Au ?_)
 refine C5 [.fz 3] ?_
 exact Y⟩
instance {a0:Ai}:OK (Hj a0) fun r=>Ar Tryz.prog 68 [Bi a0] (Kg r):=⟨fun {r} h=>by
 refine pw {T:=Bs,an:=(fun _=>.ask),nl:=(fun s=>bif Nat.beq s 20 then [(1,1)] else [])} Tryz.func68 ?_
 refine Z ?_
 refine Be h (fun _ h=>?_)
 refine Z ?_
 refine Be h (fun _ h=>?_)
 refine ZO ?_
 refine Au (Au ?_)
 refine Bw h (fun v5=>[(18,(Al v5))]) (fun v5=>[]) ?_ ?_
 intro _ h _ _ _
 exact Y
 rintro v5 _ h
 exact Y⟩
instance {a0:Ai}:OK (Fp a0) fun r=>Ar Tryz.prog 38 [Bi a0] ((O .i64) r):=⟨fun {r} h=>by
 refine pw C0 Tryz.func38 ?_
 exact Y⟩
instance {a0:List Ao} {a1:List Ai}:OK (Pc a0 a1) fun r=>Ar Tryz.prog 52 [(Ak 2 B9) a0,(Ak 3 Bi) a1] (Al r):=⟨fun {r} h=>by
 refine pw C0 Tryz.func52 ?_
 refine Z ?_
 refine Am h (fun _ h=>?_) (fun _ h=>?_)
 exact Y
 refine Z ?_
 refine A6 h (fun v4=>[(4,(Al false)),(14,(O .i64 v4))]) (fun v4=>[]) ?_
 rintro v4 _ _ _ h _ _
 exact Y⟩
instance {a0:Ao} {a1:Int}:OK (Pm a0 a1) fun r=>Ar Tryz.prog 94 [B9 a0,(O .i64) a1] ((O .i64) r):=⟨fun {r} h=>by
 refine pw C0 Tryz.func94 ?_
 refine Z ?_
 refine A6 h (fun v4=>[(4,(O .i64 0)),(10,(O .i64 v4))]) (fun v4=>[]) ?_
 rintro v4 _ _ _ h _ _
 exact Y⟩
instance {a0:Ao} {b0:Int}:OK (Lt a0 b0) fun r=>Bh Tryz.prog 93 [B9 a0,(.loc 0 0)] [.cells 3 [(O .i64 b0)]] ((O .i64) r) [.cells 3 [(O .i64 b0)]]:=⟨fun {r} h=>by
 refine aw C0 true Tryz.func93 ?_
 exact Y⟩
instance {a0 a1:List Int}:OK (Ly a0 a1) fun r=>Ar Tryz.prog 189 [(Ak 1 (O .u32)) a0,(Ak 1 (O .u32)) a1] ((O .i64) r):=⟨fun {r} h=>by
 refine pw C0 Tryz.func189 ?_
 refine Z ?_
 refine Am h (fun _ h=>?_) (fun _ h=>?_)
 exact Y
 refine Z ?_
 refine A6 h (fun v5=>[(4,(O .i64 0)),(5,(O .i64 v5))]) (fun v5=>[]) ?_
 rintro v5 _ _ _ h _ _
 exact Y⟩
instance {a0:List Int} {a1:Int}:OK (L2 a0 a1) fun r=>Ar Tryz.prog 296 [(Ak 1 (O .u32)) a0,(O .u64) a1] (.tup [(Ak 1 (O .u32)) r.1,(O .u64) r.2]):=⟨fun {r} h=>by
 refine pw {T:=Bs,an:=(fun _=>.ask),nl:=(fun s=>bif Nat.beq s 4 then [(0,1)] else [])} Tryz.func296 ?_
 refine Z ?_
 refine Fc h (fun o1 h=>?_)
 refine Z ?_
 refine Dc h (fun (v7,v8,o9)=>[(7,(O .u64 v7)),(8,(O .i64 v8))]) (fun (v7,v8,o9)=>[(0,.rows 107 1 (List.map (O .u32) o9))]) (fun (v7,v8,o9)=>o1.length=o9.length) ?_
 rintro ⟨v7,v8,o9⟩ _ _ _ h _ _ q9
 refine Z ?_
 refine Am h (fun _ h=>?_) (fun _ h=>?_)
 exact Y
 replace h:=Cf h
 refine Ed (Eb rfl (Au ?_))
 refine C5 [.fz 6] ?_
 exact Y⟩
instance {a0:Int}:OK (Jm a0) fun r=>Ar Tryz.prog 222 [(O .u64) a0] ((Ak 1 (O .u32)) r):=⟨fun {r} h=>by
 refine pw {T:=Bs,an:=(fun s=>bif Nat.beq s 3 then .own else .ask),nl:=(fun s=>bif Nat.beq s 3 then [(0,1)] else bif Nat.beq s 2 then [(0,1)] else [])} Tryz.func222 ?_
 refine Z ?_
 refine A6 h (fun (v10,o11)=>[(0,(O .u64 v10)),(3,(.arr 0 o11.length 0 o11.length))]) (fun (v10,o11)=>[(0,.rows 107 1 (List.map (O .u32) o11))]) ?_
 rintro ⟨v10,o11⟩ _ _ _ h _ _
 exact Y⟩
instance {a0:List Int} {a1:Int}:OK (N5 a0 a1) fun r=>Bh Tryz.prog 297 [(Ak 1 (O .u32)) a0,(O .u64) a1] [] (.arr 0 r.length 0 r.length) [.rows 107 1 (List.map (O .u32) r)]:=⟨fun {r} h=>by
 refine aw {T:=Bs,an:=(fun _=>.ask),nl:=(fun s=>bif Nat.beq s 4 then [(0,1)] else [])} false Tryz.func297 ?_
 refine Z ?_
 refine Fc h (fun o1 h=>?_)
 refine Z ?_
 refine Dc h (fun (v7,v8,o9)=>[(6,(O .u64 v7)),(15,(O .i64 v8))]) (fun (v7,v8,o9)=>[(0,.rows 107 1 (List.map (O .u32) o9))]) (fun (v7,v8,o9)=>o1.length=o9.length) ?_
 rintro ⟨v7,v8,o9⟩ _ _ _ h _ _ q9
 refine Z ?_
 refine Am h (fun _ h=>?_) (fun _ h=>?_)
 exact Y
 replace h:=Cf h
 refine Z ?_
 refine Fq h (fun _ _ hiv16 _ h=>?_)
 refine Z ?_
 refine Gl (f:=(O .u32)) (x:=(Bu v7)) (j:=(a0.length:Int)) rfl rfl (Nat.zero_add _) hiv16 ?_
 refine Z ?_
 cases h
 exact ⟨congrArg (fun q_=>AV.arr 0 q_ 0 q_) (Dw (l:=o9) q9 (a0.length:Int) (Bu v7)),rfl,trivial⟩⟩
instance {a0:List Int} {a1:Int}:OK (Yy a0 a1) fun r=>Ar Tryz.prog 297 [(Ak 1 (O .u32)) a0,(O .u64) a1] ((Ak 1 (O .u32)) r):=⟨fun {r} h=>by
 refine pw {T:=Bs,an:=(fun _=>.ask),nl:=(fun s=>bif Nat.beq s 4 then [(0,1)] else [])} Tryz.func297 ?_
 refine Z ?_
 refine Fc h (fun o1 h=>?_)
 refine Z ?_
 refine Dc h (fun (v7,v8,o9)=>[(6,(O .u64 v7)),(15,(O .i64 v8))]) (fun (v7,v8,o9)=>[(0,.rows 107 1 (List.map (O .u32) o9))]) (fun (v7,v8,o9)=>o1.length=o9.length) ?_
 rintro ⟨v7,v8,o9⟩ _ _ _ h _ _ q9
 exact Y⟩
instance {a0 a1:Nat} {a2 b0:List Int}:OK (Qd a0 a1 a2 b0) fun r=>Bh Tryz.prog 298 [(.arr 0 b0.length a0 a1),(Ak 1 (O .u32)) a2] [.rows 107 1 (List.map (O .u32) b0)] ((O .u32) r.1) [.rows 107 1 (List.map (O .u32) r.2)]:=⟨fun {r} h=>by
 refine aw C0 true Tryz.func298 ?_
 refine Z ?_
 refine B7 h (fun _ _ _ _ h=>?_)
 refine Z ?_
 refine B7 h (fun _ _ _ _ h=>?_)
 refine Z ?_
 refine E8 h (fun _ _ _ _ h=>?_)
 refine Z ?_
 refine E8 h (fun _ _ _ _ h=>?_)
 refine Z ?_
 refine O3 h (fun _ h=>?_)
 refine Z ?_
 refine Sk h (fun _ h=>?_)
 refine Z ?_
 refine A6 h (fun (v9,v10)=>[(9,(O .u64 v9)),(10,(O .u64 v10))]) (fun (v9,v10)=>[]) ?_
 rintro ⟨v9,v10⟩ _ _ _ h _ _
 refine Au (Au ?_)
 refine Bw h (fun v12=>[(71,(Al v12))]) (fun v12=>[]) ?_ ?_
 intro _ h _ _ _
 exact Y
 rintro v12 _ h
 refine Am h (fun _ h=>?_) (fun _ h=>?_)
 exact Y
 replace h:=Cf h
 refine Z ?_
 refine Dc h (fun (v24,v25,o26)=>[(11,(O .i64 v24)),(78,(O .i64 v25))]) (fun (v24,v25,o26)=>[(0,.rows 107 1 (List.map (O .u32) o26))]) (fun (v24,v25,o26)=>b0.length=o26.length) ?_
 rintro ⟨v24,v25,o26⟩ _ _ _ h _ _ q26
 refine Z ?_
 refine Am h (fun _ h=>?_) (fun _ h=>?_)
 refine Z ?_
 refine E8 h (fun _ _ _ _ h=>?_)
 refine Z ?_
 refine B7 h (fun _ _ _ _ h=>?_)
 refine Z ?_
 refine Sk h (fun _ h=>?_)
 refine Z ?_
 refine B7 h (fun _ _ _ _ h=>?_)
 refine Z ?_
 refine O3 h (fun _ h=>?_)
 refine Z ?_
 refine A6 h (fun (v32,v33)=>[(11,(O .i64 v32)),(13,(O .i64 v33))]) (fun (v32,v33)=>[]) ?_
 rintro ⟨v32,v33⟩ _ _ _ h _ _
 exact Y
 replace h:=Cf h
 refine Z ?_
 refine E8 h (fun _ _ _ _ h=>?_)
 refine Z ?_
 refine Am h (fun _ h=>?_) (fun _ h=>?_)
 exact Y
 refine Z ?_
 refine Dc h (fun (v46,v47,o48)=>[(15,(O .u32 v46)),(136,(O .i64 v47))]) (fun (v46,v47,o48)=>[(0,.rows 107 1 (List.map (O .u32) o48))]) (fun (v46,v47,o48)=>b0.length=o48.length) ?_
 rintro ⟨v46,v47,o48⟩ _ _ _ h _ _ q48
 exact Y⟩
instance {a0 a1:List Int}:OK (L1 a0 a1) fun r=>Ar Tryz.prog 256 [(Ak 1 (O .u32)) a0,(Ak 1 (O .u32)) a1] (.tup [(Ak 1 (O .u32)) r.1,(Ak 1 (O .u32)) r.2]):=⟨fun {r} h=>by
 refine pw {T:=Bs,an:=(fun _=>.ask),nl:=(fun s=>bif Nat.beq s 5 then [(0,1)] else bif Nat.beq s 4 then [(0,1)] else [])} Tryz.func256 ?_
 refine Z ?_
 refine Be h (fun _ h=>?_)
 refine Z ?_
 refine Am h (fun _ h=>?_) (fun _ h=>?_)
 exact Y
 refine Z ?_
 refine Am h (fun _ h=>?_) (fun _ h=>?_)
 exact Y
 refine Z ?_
 refine B7 h (fun _ _ _ _ h=>?_)
 refine Z ?_
 refine O3 h (fun _ h=>?_)
 refine Z ?_
 refine A7 [] h (fun v9 h=>?_)
 refine Z ?_
 refine Be h (fun _ h=>?_)
 refine Z ?_
 refine L8 h (fun v12 h=>?_)
 refine Z ?_
 refine Fc h (fun o13 h=>?_)
 refine Z ?_
 refine Dc h (fun (v19,o20,o21)=>[(13,(O .i64 v19))]) (fun (v19,o20,o21)=>[(0,.rows 107 1 (List.map (O .u32) o20)),(1,.rows 107 1 (List.map (O .u32) o21))]) (fun (v19,o20,o21)=>v9.length=o20.length/\o13.length=o21.length) ?_ (h0:=(⟨rfl,rfl⟩))
 rintro ⟨v19,o20,o21⟩ _ _ _ h _ hn1 ⟨q20,q21⟩
 refine Z ?_
 refine Am h (fun _ h=>?_) (fun _ h=>?_)
 refine Z ?_
 refine M9 (f:=(O .u32)) rfl q20 h (fun v22 h=>?_)
 refine Z ?_
 refine Cl h (fun v23 hcv23 h=>?_)
 have okv23:=(OK.ok hcv23 :)
 rw [<-q20] at okv23
 refine Ea.act [0] _ _ _ _ okv23 rfl rfl ⟨rfl,trivial⟩ ?_
 refine Cl h (fun v24 hgv24 h=>?_)
 refine Z ?_
 refine Fq h (fun _ _ hiv25 _ h=>?_)
 refine Z ?_
 refine Gl (f:=(O .u32)) (x:=v23.1) (j:=v19) rfl rfl (Nat.zero_add _) hiv25 ?_
 refine Z ?_
 exact hn1 _ _ _ _ (Option.some.inj h) ⟨rfl,trivial⟩ ⟨⟨rfl,rfl⟩,⟨rfl,rfl⟩,trivial⟩ (⟨F3 hgv24,Dw (l:=o21) q21 v19 v23.1⟩)
 replace h:=Cf h
 refine Ed (Eb rfl (Au ?_))
 refine C5 [.fz 10] ?_
 refine Z ?_
 refine Be h (fun _ h=>?_)
 refine Z ?_
 refine Be h (fun _ h=>?_)
 refine ZO ?_
 refine Au ?_
 refine C5 [.fz 12] ?_
 exact Y⟩
instance {a0:List Int}:OK (N4 a0) fun r=>Ar Tryz.prog 295 [(Ak 1 (O .u32)) a0] (.tup [(O .u64) r.1,Al r.2]):=⟨fun {r} h=>by
 refine pw C0 Tryz.func295 ?_
 refine Z ?_
 refine A6 h (fun (v3,v4)=>[(2,(O .u64 0)),(3,(Al false)),(4,(O .u64 v3)),(9,(O .i64 v4))]) (fun (v3,v4)=>[]) ?_
 rintro ⟨v3,v4⟩ _ _ _ h _ _
 exact Y⟩
instance {a0 a1:List Int}:OK (Qb a0 a1) fun r=>Ar Tryz.prog 255 [(Ak 1 (O .u32)) a0,(Ak 1 (O .u32)) a1] ((Ak 1 (O .u32)) r):=⟨fun {r} h=>by
 refine pw {T:=Bs,an:=(fun _=>.ask),nl:=(fun s=>bif Nat.beq s 4 then [(0,1)] else [])} Tryz.func255 ?_
 refine Z ?_
 refine A6 h (fun (v12,v13)=>[(0,(.sl 1 (List.map (O .u32) v12))),(1,(.sl 1 (List.map (O .u32) v13))),(4,(.sl 1 (List.map (O .u32) [])))]) (fun (v12,v13)=>[]) ?_
 rintro ⟨v12,v13⟩ _ _ _ h _ _
 refine Z ?_
 refine Am h (fun _ h=>?_) (fun _ h=>?_)
 refine Gm (Ia (Au (Au ?_)))
 refine Bw h (fun v14=>[(21,(Al v14))]) (fun v14=>[]) ?_ ?_
 intro _ h _ _ _
 exact Y
 rintro v14 _ h
 refine Am h (fun _ h=>?_) (fun _ h=>?_)
 refine Z ?_
 refine Be h (fun _ h=>?_)
 refine Z ?_
 refine Be h (fun _ h=>?_)
 refine Z ?_
 refine A6 h (fun (v18,v19)=>[(5,(O .u64 v18)),(7,(O .u64 v19))]) (fun (v18,v19)=>[]) ?_
 rintro ⟨v18,v19⟩ _ _ _ h _ _
 exact Y
 exact Y
 exact Y⟩
instance {a0:List Int}:OK (L0 a0) fun r=>Ar Tryz.prog 254 [(Ak 1 (O .u32)) a0] (Al r):=⟨fun {r} h=>by
 refine pw C0 Tryz.func254 ?_
 exact Y⟩
instance {a0:Eo}:OK (S9 a0) fun r=>Ar Tryz.prog 191 [Kg a0] (Kg r):=⟨fun {r} h=>by
 refine pw {T:=Bs,an:=(fun _=>.ask),nl:=(fun s=>bif Nat.beq s 13 then [(1,1)] else [])} Tryz.func191 ?_
 exact Y⟩
instance {a0:Eo}:OK (I2 a0) fun r=>Ar Tryz.prog 133 [Kg a0] (Bi r):=⟨fun {r} h=>by
 refine pw C0 Tryz.func133 ?_
 exact Y⟩
instance {a0:Int}:OK (Lx a0) fun r=>Ar Tryz.prog 164 [(O .i64) a0] ((Ak 1 (O .u32)) r):=⟨fun {r} h=>by
 refine pw {T:=Bs,an:=(fun _=>.ask),nl:=(fun s=>bif Nat.beq s 2 then [(0,1)] else [])} Tryz.func164 ?_
 exact Y⟩
instance {a0:Int}:OK (Ee a0) fun r=>Ar Tryz.prog 112 [(O .i64) a0] (Bi r):=⟨fun {r} h=>by
 refine pw C0 Tryz.func112 ?_
 exact Y⟩
instance {a0 a1:List Int}:OK (Jl a0 a1) fun r=>Ar Tryz.prog 187 [(Ak 1 (O .u32)) a0,(Ak 1 (O .u32)) a1] ((Ak 1 (O .u32)) r):=⟨fun {r} h=>by
 refine pw {T:=Bs,an:=(fun _=>.ask),nl:=(fun s=>bif Nat.beq s 4 then [(0,1)] else [])} Tryz.func187 ?_
 refine ZS ?_
 refine Bv ?_
 refine ZO ?_
 refine Au (Au ?_)
 refine Bw h (fun v1=>[(17,(Al v1))]) (fun v1=>[]) ?_ ?_
 intro _ h _ _ _
 exact Y
 rintro v1 _ h
 refine Am h (fun _ h=>?_) (fun _ h=>?_)
 exact Y
 refine Z ?_
 refine Fc h (fun o2 h=>?_)
 refine Z ?_
 refine Dc h (fun (v23,o24)=>[(26,(O .i64 v23))]) (fun (v23,o24)=>[(0,.rows 107 1 (List.map (O .u32) o24))]) (fun (v23,o24)=>o2.length=o24.length) ?_
 rintro ⟨v23,o24⟩ _ _ _ h _ _ q24
 refine Z ?_
 refine Am h (fun _ h=>?_) (fun _ h=>?_)
 refine Z ?_
 refine Dc h (fun (v31,v32,o33)=>[(7,(O .u64 v31)),(31,(O .i64 v32))]) (fun (v31,v32,o33)=>[(0,.rows 107 1 (List.map (O .u32) o33))]) (fun (v31,v32,o33)=>o2.length=o33.length) ?_
 rintro ⟨v31,v32,o33⟩ _ _ _ h _ _ q33
 exact Y
 replace h:=Cf h
 refine Ed (Eb rfl (Au ?_))
 refine C5 [.fz 5] ?_
 exact Y⟩
instance {a0 a1:Ai}:OK (Ez a0 a1) fun r=>Ar Tryz.prog 151 [Bi a0,Bi a1] (Bi r):=⟨fun {r} h=>by
 refine pw C0 Tryz.func151 ?_
 exact Y⟩
instance {a0 a1:List Int}:OK (P4 a0 a1) fun r=>Ar Tryz.prog 188 [(Ak 1 (O .u32)) a0,(Ak 1 (O .u32)) a1] ((Ak 1 (O .u32)) r):=⟨fun {r} h=>by
 refine pw {T:=Bs,an:=(fun _=>.ask),nl:=(fun s=>bif Nat.beq s 4 then [(0,1)] else [])} Tryz.func188 ?_
 refine ZS ?_
 refine Bv ?_
 refine ZS ?_
 refine Bv ?_
 refine ZO ?_
 refine Bw h (fun (v1,v2)=>[(0,(.sl 1 (List.map (O .u32) v1))),(1,(.sl 1 (List.map (O .u32) v2)))]) (fun (v1,v2)=>[]) ?_ ?_
 intro _ h _ _ _
 exact Y
 rintro ⟨v1,v2⟩ _ h
 refine Z ?_
 refine Fc h (fun _ h=>?_)
 refine Z ?_
 refine A6 h (fun (v20,v21,o22)=>[(5,(.arr 0 o22.length 0 o22.length)),(6,(O .u32 v20)),(22,(O .i64 v21))]) (fun (v20,v21,o22)=>[(0,.rows 107 1 (List.map (O .u32) o22))]) ?_
 rintro ⟨v20,v21,o22⟩ _ _ _ h _ _
 refine Z ?_
 refine Am h (fun _ h=>?_) (fun _ h=>?_)
 refine Z ?_
 refine B7 h (fun _ _ _ _ h=>?_)
 refine ZS ?_
 refine Bv ?_
 refine ZO ?_
 refine Bw h (fun v25=>[(8,(O .u32 v25))]) (fun v25=>[]) ?_ ?_
 intro _ h _ _ _
 exact Y
 rintro v25 _ h
 exact Y
 exact Y⟩
end Go.Ab
namespace Go.Ab
open Go Go.Proofs
set_option maxRecDepth 10000
set_option maxHeartbeats 4000000
set_option linter.unusedVariables false
instance {a0 a1:List Int}:OK (N3 a0 a1) fun r=>Ar Tryz.prog 190 [(Ak 1 (O .u32)) a0,(Ak 1 (O .u32)) a1] ((Ak 1 (O .u32)) r):=⟨fun {r} h=>by
 refine pw {T:=Bs,an:=(fun _=>.ask),nl:=(fun s=>bif Nat.beq s 4 then [(0,1)] else [])} Tryz.func190 ?_
 refine Z ?_
 refine Fc h (fun _ h=>?_)
 refine Z ?_
 refine A6 h (fun (v8,v9,o10)=>[(5,(.arr 0 o10.length 0 o10.length)),(6,(O .i64 v8)),(14,(O .i64 v9))]) (fun (v8,v9,o10)=>[(0,.rows 107 1 (List.map (O .u32) o10))]) ?_
 rintro ⟨v8,v9,o10⟩ _ _ _ h _ _
 refine Z ?_
 refine Am h (fun _ h=>?_) (fun _ h=>?_)
 refine Z ?_
 refine B7 h (fun _ _ _ _ h=>?_)
 refine ZS ?_
 refine Bv ?_
 refine ZO ?_
 refine Bw h (fun v13=>[(8,(O .i64 v13))]) (fun v13=>[]) ?_ ?_
 intro _ h _ _ _
 exact Y
 rintro v13 _ h
 exact Y
 replace h:=Cf h
 refine Ed (Eb rfl (Au ?_))
 refine C5 [.fz 5] ?_
 exact Y⟩
instance {a0 a1:Eo}:OK (N0 a0 a1) fun r=>Ar Tryz.prog 132 [Kg a0,Kg a1] (Kg r):=⟨fun {r} h=>by
 refine pw C0 Tryz.func132 ?_
 exact Y⟩
instance {a0 a1:Ai}:OK (Jj a0 a1) fun r=>Ar Tryz.prog 150 [Bi a0,Bi a1] (Bi r):=⟨fun {r} h=>by
 refine pw C0 Tryz.func150 ?_
 exact Y⟩
instance {a0:List Ao} {a1:Ao} {a2:List Ai} {b0:Int}:OK (Pn a0 a1 a2 b0) fun r=>Bh Tryz.prog 95 [(Ak 2 B9) a0,B9 a1,(Ak 3 Bi) a2,(.fn 93 [(.loc 0 0)])] [.cells 3 [(O .i64 b0)]] (Bi r) [.cells 3 [(O .i64 b0)]]:=⟨fun {r} h=>by
 refine aw C0 true Tryz.func95 ?_
 refine Z ?_
 refine A7 [0] h (fun _ h=>?_)
 refine Z ?_
 refine Be h (fun _ h=>?_)
 refine Z ?_
 refine A6 h (fun (v13,v14,v15,v16)=>[(19,(O .i64 v13))]) (fun (v13,v14,v15,v16)=>[(3,.cells 50 [(Al v14),(.sl 1 (List.map (O .u32) v15)),(.sl 1 (List.map (O .u32) v16))])]) ?_
 rintro ⟨v13,v14,v15,v16⟩ _ _ _ h _ _
 refine Z ?_
 refine Am h (fun _ h=>?_) (fun _ h=>?_)
 refine Z ?_
 refine B7 h (fun _ _ _ _ h=>?_)
 refine Z ?_
 refine A7 [0] h (fun _ h=>?_)
 exact Y
 exact Y⟩
instance {a0:Ao}:OK (Po a0) fun r=>Ar Tryz.prog 96 [B9 a0] ((O .i64) r):=⟨fun {r} h=>by
 refine pw C0 Tryz.func96 ?_
 exact Y⟩
instance {a0:List Ao} {a1:Ao} {a2:List Ai}:OK (Tw a0 a1 a2) fun r=>Ar Tryz.prog 95 [(Ak 2 B9) a0,B9 a1,(Ak 3 Bi) a2,(.fn 96 [])] (Bi r):=⟨fun {r} h=>by
 refine pw C0 Tryz.func95 ?_
 refine Z ?_
 refine Be h (fun _ h=>?_)
 refine Z ?_
 refine Be h (fun _ h=>?_)
 refine Z ?_
 refine A6 h (fun (v13,v14,v15,v16)=>[(19,(O .i64 v13))]) (fun (v13,v14,v15,v16)=>[(2,.cells 50 [(Al v14),(.sl 1 (List.map (O .u32) v15)),(.sl 1 (List.map (O .u32) v16))])]) ?_
 rintro ⟨v13,v14,v15,v16⟩ _ _ _ h _ _
 exact Y⟩
instance {a0:List Ao}:OK (Pl a0) fun r=>Bh Tryz.prog 92 [(Ak 2 B9) a0] [] (.arr 1 r.2.length 0 r.2.length) [.rows 25 2 (List.map B9 r.1),.rows 25 2 (List.map B9 r.2)]:=⟨fun {r} h=>by
 exact Akw h⟩
instance {a0:List Ao} {a1:Ao} {a2:List Ai}:OK (Nh a0 a1 a2) fun r=>Ar Tryz.prog 53 [(Ak 2 B9) a0,B9 a1,(Ak 3 Bi) a2] (.tup [Bi r.1,Al r.2]):=⟨fun {r} h=>by
 refine pw {T:=Bs,an:=(fun _=>.ask),nl:=(fun s=>bif Nat.beq s 32 then [(1,1),(2,1)] else [])} Tryz.func53 ?_
 refine Z ?_
 refine A7 [] h (fun _ h=>?_)
 refine Z ?_
 refine Ii h (fun _ h=>?_)
 refine ZO ?_
 refine Au (Au ?_)
 refine C5 [.fz 8] ?_
 refine Z ?_
 refine Be h (fun _ h=>?_)
 refine Z ?_
 refine A6 h (fun v12=>[(7,(Al false)),(20,(O .i64 v12))]) (fun v12=>[]) ?_
 rintro v12 _ _ _ h _ _
 refine Z ?_
 refine Am h (fun _ h=>?_) (fun _ h=>?_)
 refine Z ?_
 refine B7 h (fun _ _ _ _ h=>?_)
 refine Z ?_
 refine A7 [4] h (fun _ h=>?_)
 exact Y
 exact Y⟩
instance {a0:List Ao} {a1:List Ai}:OK (Ni a0 a1) fun r=>Ar Tryz.prog 54 [(Ak 2 B9) a0,(Ak 3 Bi) a1] (Al r):=⟨fun {r} h=>by
 refine pw {T:=Bs,an:=(fun _=>.ask),nl:=(fun s=>bif Nat.beq s 9 then [(1,2)] else [])} Tryz.func54 ?_
 exact Y⟩
instance {a0:List Ao} {a1:Ao} {a2:List Ai}:OK (Lm a0 a1 a2) fun r=>Ar Tryz.prog 27 [(Ak 2 B9) a0,B9 a1,(Ak 3 Bi) a2] (Al r):=⟨fun {r} h=>by
 refine pw C0 Tryz.func27 ?_
 refine ZS ?_
 refine Bv ?_
 refine ZO ?_
 refine Au (Au ?_)
 refine Bw h (fun v5=>[(22,(Al v5))]) (fun v5=>[]) ?_ ?_
 intro _ h _ _ _
 exact Y
 rintro v5 _ h
 exact Y⟩
instance {a0:List Ao} {a1:Ds} {a2 a3:List Ai}:OK (O7 a0 a1 a2 a3) fun r=>Ar Tryz.prog 11 [(Ak 2 B9) a0,Gq a1,(Ak 3 Bi) a2,(Ak 3 Bi) a3] (Al r):=⟨fun {r} h=>by
 refine pw C0 Tryz.func11 ?_
 exact Y⟩
instance {a0:List Ao} {a1 a2:Int}:OK (O6 a0 a1 a2) fun r=>Ar Tryz.prog 8 [(Ak 2 B9) a0,(O .i64) a1,(O .i64) a2] (Al r):=⟨fun {r} h=>by
 refine pw C0 Tryz.func8 ?_
 refine Z ?_
 refine Am h (fun _ h=>?_) (fun _ h=>?_)
 exact Y
 refine Z ?_
 refine A6 h (fun v2=>[(6,(Al false)),(14,(O .i64 v2))]) (fun v2=>[]) ?_
 rintro v2 _ _ _ h _ _
 exact Y⟩
instance {a0:Ai}:OK (O9 a0) fun r=>Ar Tryz.prog 26 [Bi a0] (Al r):=⟨fun {r} h=>by
 refine pw C0 Tryz.func26 ?_
 exact Y⟩
instance {a0:List Ai} {a1:Int}:OK (Na a0 a1) fun r=>Ar Tryz.prog 10 [(Ak 3 Bi) a0,(O .i64) a1] (Al r):=⟨fun {r} h=>by
 refine pw C0 Tryz.func10 ?_
 refine Z ?_
 refine Am h (fun _ h=>?_) (fun _ h=>?_)
 exact Y
 refine Z ?_
 refine A6 h (fun v3=>[(4,(Al false)),(12,(O .i64 v3))]) (fun v3=>[]) ?_
 rintro v3 _ _ _ h _ _
 exact Y⟩
instance {a0:Ds}:OK (Ss a0) fun r=>Ar Tryz.prog 9 [Gq a0] (Al r):=⟨fun {r} h=>by
 refine pw C0 Tryz.func9 ?_
 exact Y⟩
instance {a0:List B3}:OK (Xh a0) fun r=>Ar Tryz.prog 120 [L6 (Gc.mk a0 [] [] [])] (Al r):=⟨fun {r} h=>by
 refine pw C0 Tryz.func120 ?_
 refine Z ?_
 refine Fc h (fun _ h=>?_)
 refine Z ?_
 refine A6 h (fun _=>[(2,(Al false)),(20,(O .i64 0))]) (fun _=>[]) ?_
 rintro _ _ _ _ h _ _
 replace h:=Cf h
 refine Z ?_
 refine A6 h (fun _=>[(2,(Al false)),(40,(O .i64 0))]) (fun _=>[]) ?_
 rintro _ _ _ _ h _ _
 exact Y⟩
instance {a0:List B3}:OK (Xf a0) fun r=>Ar Tryz.prog 118 [L6 (Gc.mk a0 [] [] [])] (Al r):=⟨fun {r} h=>by
 refine pw C0 Tryz.func118 ?_
 refine Z ?_
 refine A6 h (fun _=>[(2,(Al false)),(4,(Al false)),(21,(O .i64 0))]) (fun _=>[]) ?_
 rintro _ _ _ _ h _ _
 exact Y⟩
instance {a0:Int}:OK (Yh a0) fun r=>Ar Tryz.prog 282 [(O .u8) a0] (Al r):=⟨fun {r} h=>by
 refine pw C0 Tryz.func282 ?_
 exact Y⟩
instance {a0:ByteArray}:OK (Yq a0) fun r=>Ar Tryz.prog 325 [D4 a0] (Al r):=⟨fun {r} h=>by
 refine pw C0 Tryz.func325 ?_
 exact Y⟩
instance {a0:Int}:OK (Qh a0) fun r=>Ar Tryz.prog 326 [(O .u8) a0] (Al r):=⟨fun {r} h=>by
 refine pw C0 Tryz.func326 ?_
 exact Y⟩
instance {a0:Int}:OK (Tt a0) fun r=>Ar Tryz.prog 321 [(O .u8) a0] (Al r):=⟨fun {r} h=>by
 refine pw C0 Tryz.func321 ?_
 exact Y⟩
instance {a0:Int}:OK (Qg a0) fun r=>Ar Tryz.prog 322 [(O .u8) a0] (Al r):=⟨fun {r} h=>by
 refine pw C0 Tryz.func322 ?_
 exact Y⟩
instance {a0:Int}:OK (Yp a0) fun r=>Ar Tryz.prog 324 [(O .u8) a0] (Al r):=⟨fun {r} h=>by
 refine pw C0 Tryz.func324 ?_
 exact Y⟩
instance {a0:ByteArray}:OK (Yo a0) fun r=>Ar Tryz.prog 323 [D4 a0,(.fn 324 [])] (D4 r):=⟨fun {r} h=>by
 refine pw C0 Tryz.func323 ?_
 refine Z ?_
 refine A6 h (fun v3=>[(5,(O .i64 v3))]) (fun v3=>[]) ?_
 rintro v3 _ _ _ h _ _
 exact Y⟩
instance {a0:ByteArray}:OK (Add a0) fun r=>Ar Tryz.prog 323 [D4 a0,(.fn 326 [])] (D4 r):=⟨fun {r} h=>by
 refine pw C0 Tryz.func323 ?_
 refine Z ?_
 refine A6 h (fun v3=>[(5,(O .i64 v3))]) (fun v3=>[]) ?_
 rintro v3 _ _ _ h _ _
 exact Y⟩
instance {a0:ByteArray}:OK (Ys a0) fun r=>Ar Tryz.prog 328 [D4 a0] (D4 r):=⟨fun {r} h=>by
 refine pw C0 Tryz.func328 ?_
 refine ZS ?_
 refine Bv ?_
 refine ZS ?_
 refine Bv ?_
 refine ZO ?_
 refine Y9 (fun (x:Unit)=>(.inr x)) h (fun _=>[(2,(D4 (ByteArray.mk #[])))]) (fun _=>[]) ?_ ?_
 intro _ h _ _ _
 exact Y
 rintro _ _ h
 exact Y⟩
instance {a0:ByteArray}:OK (Yr a0) fun r=>Ar Tryz.prog 327 [D4 a0] (Al r):=⟨fun {r} h=>by
 refine pw C0 Tryz.func327 ?_
 refine Z ?_
 refine A6 h (fun (v2,v3)=>[(2,(Al false)),(3,(O .i64 v2)),(7,(O .i64 v3))]) (fun (v2,v3)=>[]) ?_
 rintro ⟨v2,v3⟩ _ _ _ h _ _
 exact Y⟩
instance {a0:ByteArray} {a1:Int}:OK (Yi a0 a1) fun r=>Ar Tryz.prog 283 [D4 a0,(O .i64) a1] (.tup [Tv r.1,(O .i64) r.2]):=⟨fun {r} h=>by
 refine pw C0 Tryz.func283 ?_
 refine Z ?_
 refine O4 h (fun _ h=>?_)
 refine ZO ?_
 refine Ia (Au ?_)
 refine Bw h (fun v6=>[(23,(Al v6))]) (fun v6=>[]) ?_ ?_
 intro _ h _ _ _
 exact Y
 rintro v6 _ h
 refine Am h (fun _ h=>?_) (fun _ h=>?_)
 exact Y
 refine Z ?_
 refine Be h (fun _ h=>?_)
 refine Z ?_
 refine Am h (fun _ h=>?_) (fun _ h=>?_)
 refine Z ?_
 refine Wt h (fun _ _ _ _ h=>?_)
 refine Z ?_
 refine Be h (fun _ h=>?_)
 refine ZO ?_
 refine Au (Au ?_)
 refine Bw h (fun v14=>[(67,(Al v14))]) (fun v14=>[]) ?_ ?_
 intro _ h _ _ _
 exact Y
 rintro v14 _ h
 exact Y
 exact Y⟩
instance {a0:ByteArray}:OK (X8 a0) fun r=>Ar Tryz.prog 236 [D4 a0] (.tup [(Ak 3 Tv) r.1,(O .i64) r.2.1,(O .i64) r.2.2]):=⟨fun {r} h=>by
 refine pw {T:=Bs,an:=(fun s=>bif Nat.beq s 5 then .own else .ask),nl:=(fun s=>bif Nat.beq s 5 then [(0,3)] else bif Nat.beq s 2 then [(0,3)] else [])} Tryz.func236 ?_
 refine Z ?_
 refine Am h (fun _ h=>?_) (fun _ h=>?_)
 exact Y
 refine Z ?_
 refine A6 h (fun (v26,o27)=>[(2,(.sl 3 (List.map Tv []))),(3,(O .i64 0)),(4,(O .i64 0)),(5,(.arr 0 o27.length 0 o27.length)),(6,(O .i64 v26))]) (fun (v26,o27)=>[(0,.rows 292 3 (List.map Tv o27))]) ?_
 rintro ⟨v26,o27⟩ _ _ _ h _ _
 refine Z ?_
 refine Am h (fun _ h=>?_) (fun _ h=>?_)
 refine Z ?_
 refine O4 h (fun _ h=>?_)
 refine Z ?_
 refine Be h (fun _ h=>?_)
 refine Z ?_
 refine Am h (fun _ h=>?_) (fun _ h=>?_)
 exact Y
 refine Z ?_
 refine O4 h (fun _ h=>?_)
 refine Z ?_
 refine Am h (fun _ h=>?_) (fun _ h=>?_)
 refine Z ?_
 refine A6 h (fun v32=>[(6,(O .i64 v32))]) (fun v32=>[]) ?_
 rintro v32 _ _ _ h _ _
 exact Y
 exact Y
 exact Y⟩
instance {a0:ByteArray}:OK (S5 a0) fun r=>Ar Tryz.prog 168 [D4 a0] (Al r):=⟨fun {r} h=>by
 refine pw C0 Tryz.func168 ?_
 exact Y⟩
abbrev Ad4 (k:Nat):Prop:=∀{a0:Aw} {a1:Int},OK (P8 k a0 a1) fun r=>Ar Tryz.prog 238 [Fj a0,(O .i64) a1] (Al r)
abbrev Ad5 (k:Nat):Prop:=∀{a0:Aw} {b0:Int},OK (To k a0 b0) fun r=>Bh Tryz.prog 284 [Fj a0,(.loc 0 0)] [.cells 3 [(O .i64 b0)]] (Al r) [.cells 3 [(O .i64 b0)]]
abbrev Ad6 (k:Nat):Prop:=∀{a0:List Aw} {b0:Int},OK (Tx k a0 b0) fun r=>Bh Tryz.prog 170 [(Hq 3 Bl) a0,(.fn 284 [(.loc 0 0)])] [.cells 3 [(O .i64 b0)]] (Al r) [.cells 3 [(O .i64 b0)]]
abbrev Ad7 (k:Nat):Prop:=∀{a0:List Aw} {b0:Int},OK (Yz k a0 b0) fun r=>Bh Tryz.prog 239 [(Hq 3 Bl) a0,(.fn 284 [(.loc 0 0)])] [.cells 3 [(O .i64 b0)]] ((O .i64) r) [.cells 3 [(O .i64 b0)]]
theorem T0 (k:Nat):Ad4 k/\Ad5 k/\Ad6 k/\Ad7 k:=by
 induction k with
 | zero=>exact ⟨okz,okz,okz,okz⟩
 | succ k ih=>
  obtain ⟨i0_,i1_,i2_,i3_⟩:=ih
  refine ⟨@fun a0 a1=>⟨fun {r} h=>?_⟩,@fun a0 b0=>⟨fun {r} h=>?_⟩,@fun a0 b0=>⟨fun {r} h=>?_⟩,@fun a0 b0=>⟨fun {r} h=>?_⟩⟩
  .unfold P8 at h
   refine pw C0 Tryz.func238 ?_
   refine Z ?_
   refine Eg h (fun _ h=>?_) (fun _ h=>?_)
   refine Z ?_
   refine Eg h (fun _ h=>?_) (fun _ h=>?_)
   exact Y
   refine Z ?_
   refine A7 [1] h (fun _ h=>?_)
   exact Y
   refine Z ?_
   refine A7 [1] h (fun _ h=>?_)
   exact Y
  .unfold To at h
   refine aw C0 true Tryz.func284 ?_
   exact Y
  .unfold Tx at h
   refine aw C0 true Tryz.func170 ?_
   refine Z ?_
   refine A7 [0] h (fun _ h=>?_)
   exact Y
  .unfold Yz at h
   refine aw C0 true Tryz.func239 ?_
   refine Z ?_
   refine A6 h (fun v3=>[(4,(O .i64 0)),(8,(O .i64 v3))]) (fun v3=>[]) ?_
   rintro v3 _ _ _ h _ _
   refine Z ?_
   refine Am h (fun _ h=>?_) (fun _ h=>?_)
   refine Z ?_
   refine B7 h (fun _ _ _ _ h=>?_)
   refine Z ?_
   refine A7 [0] h (fun _ h=>?_)
   exact Y
   exact Y
instance {k:Nat}:Ad4 k:=(T0 k).1
instance {k:Nat}:Ad5 k:=(T0 k).2.1
instance {k:Nat}:Ad6 k:=(T0 k).2.2.1
instance {k:Nat}:Ad7 k:=(T0 k).2.2.2
instance {a0:List B3} {a1 a2:Int}:OK (Tl a0 a1 a2) fun r=>Ar Tryz.prog 237 [(Ak 3 Cp) a0,(O .i64) a1,(O .i64) a2] ((Ak 1 Al) r):=⟨fun {r} h=>by
 refine pw {T:=Bs,an:=(fun _=>.ask),nl:=(fun s=>bif Nat.beq s 6 then [(0,1)] else [])} Tryz.func237 ?_
 refine ZS ?_
 refine Bv ?_
 refine ZO ?_
 refine Au (Au ?_)
 refine Bw h (fun v2=>[(34,(Al v2))]) (fun v2=>[]) ?_ ?_
 intro _ h _ _ _
 exact Y
 rintro v2 _ h
 refine Am h (fun _ h=>?_) (fun _ h=>?_)
 exact Y
 refine Z ?_
 refine B7 h (fun _ _ _ _ h=>?_)
 refine Z ?_
 refine B7 h (fun _ _ _ _ h=>?_)
 refine Z ?_
 refine Fc h (fun o5 h=>?_)
 refine Z ?_
 refine Dc h (fun (v28,o29)=>[(49,(O .i64 v28))]) (fun (v28,o29)=>[(0,.rows 4 1 (List.map Al o29))]) (fun (v28,o29)=>o5.length=o29.length) ?_
 rintro ⟨v28,o29⟩ _ _ _ h _ _ q29
 refine Z ?_
 refine Am h (fun _ h=>?_) (fun _ h=>?_)
 refine Z ?_
 refine B7 h (fun _ v30 _ _ h=>?_)
 refine ZO ?_
 refine Au ?_
 refine Sf h (fun o3_ h hj3=>?_)
 refine Je (fun (o36:(List Bool))=>o36=o3_/\o5.length=o36.length) (fun o36=>[]) (fun o36=>[(0,.rows 4 1 (List.map Al o36))]) (fun _=>rfl) ?_ ?_
 intro K3 hK3
 refine Z ?_
 refine Eg h (fun _ h=>?_) (fun _ h=>?_)
 refine Z ?_
 refine Eg h (fun _ h=>?_) (fun _ h=>?_)
 refine Z ?_
 refine B7 h (fun _ v32 _ _ h=>?_)
 refine Z ?_
 refine Fq h (fun _ _ hiv33 _ h=>?_)
 refine Z ?_
 refine Gl (f:=Al) (x:=((v30.Args.length:Int)==v32.Vars)) (j:=v28) rfl rfl (Nat.zero_add _) hiv33 ?_
 refine Z ?_
 exact hK3 (Bt o29 v28 ((v30.Args.length:Int)==v32.Vars)) _ _ _ ⟨(Option.some.inj h),Dw (l:=o29) q29 v28 ((v30.Args.length:Int)==v32.Vars)⟩ trivial ⟨⟨rfl,rfl⟩,⟨rfl,rfl⟩,trivial⟩
 refine Z ?_
 refine Fq h (fun _ _ hiv34 _ h=>?_)
 refine Z ?_
 refine Gl (f:=Al) (x:=false) (j:=v28) rfl rfl (Nat.zero_add _) hiv34 ?_
 refine Z ?_
 exact hK3 (Bt o29 v28 false) _ _ _ ⟨(Option.some.inj h),Dw (l:=o29) q29 v28 false⟩ trivial ⟨⟨rfl,rfl⟩,⟨rfl,rfl⟩,trivial⟩
 refine Z ?_
 refine Fq h (fun _ _ hiv35 _ h=>?_)
 refine Z ?_
 refine Gl (f:=Al) (x:=false) (j:=v28) rfl rfl (Nat.zero_add _) hiv35 ?_
 refine Z ?_
 exact hK3 (Bt o29 v28 false) _ _ _ ⟨(Option.some.inj h),Dw (l:=o29) q29 v28 false⟩ trivial ⟨⟨rfl,rfl⟩,⟨rfl,rfl⟩,trivial⟩
 rintro o36 u3 ⟨hJ3,q36⟩
 have h:=hj3 _ hJ3
 refine Z ?_
 refine Dc h (fun (v42,o43)=>[(80,(O .i64 v42))]) (fun (v42,o43)=>[(0,.rows 4 1 (List.map Al o43))]) (fun (v42,o43)=>o5.length=o43.length) ?_
 rintro ⟨v42,o43⟩ _ _ _ h _ _ q43
 exact Y
 exact Y⟩
abbrev Ad8 (k:Nat):Prop:=∀{a0:List Aw} {b1:Ei},OK (Y0 k a0 b1) fun r=>Bh Tryz.prog 170 [(Hq 3 Bl) a0,(.fn 178 [(.loc 0 0)])] [.cells 169 [(.loc 1 0)],.cells 171 [(.sl 3 (List.map Cp b1.data)),(O .i64 b1.vars),(O .i64 b1.left)]] (Al r.1) [.cells 169 [(.loc 1 0)],.cells 171 [(.sl 3 (List.map Cp r.2.data)),(O .i64 r.2.vars),(O .i64 r.2.left)]]
abbrev Ad9 (k:Nat):Prop:=∀{a0:List Aw} {b1:Ei},OK (Y1 k a0 b1) fun r=>Bh Tryz.prog 239 [(Hq 3 Bl) a0,(.fn 178 [(.loc 0 0)])] [.cells 169 [(.loc 1 0)],.cells 171 [(.sl 3 (List.map Cp b1.data)),(O .i64 b1.vars),(O .i64 b1.left)]] ((O .i64) r.1) [.cells 169 [(.loc 1 0)],.cells 171 [(.sl 3 (List.map Cp r.2.data)),(O .i64 r.2.vars),(O .i64 r.2.left)]]
abbrev Aea (k:Nat):Prop:=∀{a0:Aw} {b0:Ei},OK (Pt k a0 b0) fun r=>Bh Tryz.prog 123 [(.loc 0 0),Fj a0] [.cells 171 [(.sl 3 (List.map Cp b0.data)),(O .i64 b0.vars),(O .i64 b0.left)]] (Al r.1) [.cells 171 [(.sl 3 (List.map Cp r.2.data)),(O .i64 r.2.vars),(O .i64 r.2.left)]]
abbrev Aeb (k:Nat):Prop:=∀{a0:Aw} {b1:Ei},OK (S7 k a0 b1) fun r=>Bh Tryz.prog 178 [Fj a0,(.loc 0 0)] [.cells 169 [(.loc 1 0)],.cells 171 [(.sl 3 (List.map Cp b1.data)),(O .i64 b1.vars),(O .i64 b1.left)]] (Al r.1) [.cells 169 [(.loc 1 0)],.cells 171 [(.sl 3 (List.map Cp r.2.data)),(O .i64 r.2.vars),(O .i64 r.2.left)]]
theorem T1 (k:Nat):Ad8 k/\Ad9 k/\Aea k/\Aeb k:=by
 induction k with
 | zero=>exact ⟨okz,okz,okz,okz⟩
 | succ k ih=>
  obtain ⟨i0_,i1_,i2_,i3_⟩:=ih
  refine ⟨@fun a0 b1=>⟨fun {r} h=>?_⟩,@fun a0 b1=>⟨fun {r} h=>?_⟩,@fun a0 b0=>⟨fun {r} h=>?_⟩,@fun a0 b1=>⟨fun {r} h=>?_⟩⟩
  .unfold Y0 at h
   refine aw C0 true Tryz.func170 ?_
   refine Z ?_
   refine A7 [0,1] h (fun _ h=>?_)
   exact Y
  .unfold Y1 at h
   refine aw C0 true Tryz.func239 ?_
   refine Z ?_
   refine A6 h (fun (v3,v4,v5,v6)=>[(4,(O .i64 0)),(8,(O .i64 v3))]) (fun (v3,v4,v5,v6)=>[(1,.cells 171 [(.sl 3 (List.map Cp v4)),(O .i64 v5),(O .i64 v6)])]) ?_
   rintro ⟨v3,v4,v5,v6⟩ _ _ _ h _ _
   refine Z ?_
   refine Am h (fun _ h=>?_) (fun _ h=>?_)
   refine Z ?_
   refine B7 h (fun _ _ _ _ h=>?_)
   refine Z ?_
   refine A7 [0,1] h (fun _ h=>?_)
   exact Y
   exact Y
  .unfold Pt at h
   refine aw C0 true Tryz.func123 ?_
   refine Z ?_
   refine Am h (fun _ h=>?_) (fun _ h=>?_)
   exact Y
   refine ZS ?_
   refine Bv ?_
   refine ZS ?_
   refine Bv ?_
   refine ZO ?_
   refine Y9 (fun (x:(Int×Int))=>(.inl x)) h (fun (v8,v9)=>[(4,(Al false)),(5,(O .i64 v8)),(6,(O .i64 v9))]) (fun (v8,v9)=>[]) ?_ ?_
   intro _ h _ _ _
   refine ZS ?_
   refine Bv ?_
   refine ZO ?_
   refine Bw h (fun v3=>[(21,(Al v3))]) (fun v3=>[]) ?_ ?_
   intro _ h _ _ _
   exact Y
   rintro v3 _ h
   refine Am h (fun _ h=>?_) (fun _ h=>?_)
   exact Y
   refine Z ?_
   refine Am h (fun _ h=>?_) (fun _ h=>?_)
   exact Y
   refine Z ?_
   refine Am h (fun _ h=>?_) (fun _ h=>?_)
   refine Au (Au ?_)
   refine Bw h (fun v4=>[(53,(Al v4))]) (fun v4=>[]) ?_ ?_
   intro _ h _ _ _
   exact Y
   rintro v4 _ h
   exact Y
   refine Z ?_
   refine Am h (fun _ h=>?_) (fun _ h=>?_)
   exact Y
   refine ZS ?_
   refine Bv ?_
   refine ZO ?_
   refine Bw h (fun v7=>[(74,(Al v7))]) (fun v7=>[]) ?_ ?_
   intro _ h _ _ _
   exact Y
   rintro v7 _ h
   exact Y
   rintro ⟨v8,v9⟩ _ h
   refine Au (Au ?_)
   refine Bw h (fun v10=>[(91,(Al v10))]) (fun v10=>[]) ?_ ?_
   intro _ h _ _ _
   exact Y
   rintro v10 _ h
   refine Am h (fun _ h=>?_) (fun _ h=>?_)
   exact Y
   refine Gm (Au (Au ?_))
   refine Bw h (fun v11=>[(103,(Al v11))]) (fun v11=>[]) ?_ ?_
   intro _ h _ _ _
   exact Y
   rintro v11 _ h
   refine Am h (fun _ h=>?_) (fun _ h=>?_)
   exact Y
   refine Z ?_
   refine A7 [1,0] h (fun _ h=>?_)
   exact Y
  .unfold S7 at h
   refine aw C0 true Tryz.func178 ?_
   refine Z ?_
   refine A7 [1] h (fun _ h=>?_)
   exact Y
instance {k:Nat}:Ad8 k:=(T1 k).1
instance {k:Nat}:Ad9 k:=(T1 k).2.1
instance {k:Nat}:Aea k:=(T1 k).2.2.1
instance {k:Nat}:Aeb k:=(T1 k).2.2.2
instance {a0:List B3} {a1:Aw} {a2:Int}:OK (Nq a0 a1 a2) fun r=>Ar Tryz.prog 76 [(Ak 3 Cp) a0,Fj a1,(O .i64) a2] (Al r):=⟨fun {r} h=>by
 refine pw C0 Tryz.func76 ?_
 refine Z ?_
 refine A7 [1] h (fun _ h=>?_)
 exact Y⟩
instance {a0:List B3} {a1 a2:Int}:OK (S6 a0 a1 a2) fun r=>Ar Tryz.prog 169 [(Ak 3 Cp) a0,(O .i64) a1,(O .i64) a2] (Al r):=⟨fun {r} h=>by
 refine pw C0 Tryz.func169 ?_
 refine Z ?_
 refine B7 h (fun _ _ _ _ h=>?_)
 refine Z ?_
 refine B7 h (fun _ _ _ _ h=>?_)
 refine Z ?_
 refine Am h (fun _ h=>?_) (fun _ h=>?_)
 exact Y
 refine Z ?_
 refine Be h (fun _ h=>?_)
 refine Z ?_
 refine A6 h (fun v11=>[(6,(Al false)),(29,(O .i64 v11))]) (fun v11=>[]) ?_
 rintro v11 _ _ _ h _ _
 exact Y⟩
instance {a0:List B3}:OK (Xd a0) fun r=>Ar Tryz.prog 116 [(Ak 3 Cp) a0] (Al r):=⟨fun {r} h=>by
 refine pw C0 Tryz.func116 ?_
 refine Z ?_
 refine Am h (fun _ h=>?_) (fun _ h=>?_)
 exact Y
 refine Z ?_
 refine A6 h (fun (v31,o32,o33)=>[(2,(Al false)),(15,(O .i64 v31))]) (fun (v31,o32,o33)=>[(0,.map (Bf Al o32)),(1,.map (Bf Al o33))]) ?_
 rintro ⟨v31,o32,o33⟩ _ _ _ h _ _
 refine Z ?_
 refine Am h (fun _ h=>?_) (fun _ h=>?_)
 refine ZS ?_
 refine Bv ?_
 refine ZO ?_
 refine Au (Au ?_)
 refine Bw h (fun v41=>[(49,(Al v41))]) (fun v41=>[]) ?_ ?_
 intro _ h _ _ _
 refine Z ?_
 refine B7 h (fun _ _ _ _ h=>?_)
 refine Z ?_
 refine Be h (fun _ h=>?_)
 refine Z ?_
 refine Eg h (fun _ h=>?_) (fun _ h=>?_)
 exact Y
 refine Z ?_
 refine B7 h (fun _ _ _ _ h=>?_)
 refine Z ?_
 refine Sj (f:=Al) (l:=o32) rfl (false:Bool) h (fun j_ hb h=>?_) (fun hb h=>?_)
 exact Y
 exact Y
 rintro v41 _ h
 refine Am h (fun _ h=>?_) (fun _ h=>?_)
 exact Y
 refine Z ?_
 refine B7 h (fun _ _ _ _ h=>?_)
 refine Z ?_
 refine O2 (f:=Al) (l:=o32) (x:=true) rfl rfl ?_
 refine ZO ?_
 refine Au (Au ?_)
 refine Bw h (fun v45=>[(71,(Al v45))]) (fun v45=>[]) ?_ ?_
 intro _ h _ _ _
 exact Y
 rintro v45 _ h
 refine Am h (fun _ h=>?_) (fun _ h=>?_)
 exact Y
 refine Z ?_
 refine B7 h (fun _ _ _ _ h=>?_)
 refine Z ?_
 refine A6 h (fun (v52,o53)=>[(2,(Al false)),(78,(O .i64 v52))]) (fun (v52,o53)=>[(1,.map (Bf Al o53))]) ?_
 rintro ⟨v52,o53⟩ _ _ _ h _ _
 refine Z ?_
 refine Am h (fun _ h=>?_) (fun _ h=>?_)
 refine Z ?_
 refine B7 h (fun _ _ _ _ h=>?_)
 refine Z ?_
 refine Be h (fun _ h=>?_)
 refine Z ?_
 refine Eg h (fun _ h=>?_) (fun _ h=>?_)
 exact Y
 refine Z ?_
 refine Sj (f:=Al) (l:=o53) rfl (false:Bool) h (fun j_ hb h=>?_) (fun hb h=>?_)
 refine Z ?_
 refine Eg h (fun _ h=>?_) (fun _ h=>?_)
 exact Y
 refine Z ?_
 refine Be h (fun _ h=>?_)
 refine Z ?_
 refine Am h (fun _ h=>?_) (fun _ h=>?_)
 exact Y
 refine Z ?_
 refine O2 (f:=Al) (l:=o53) (x:=true) rfl rfl ?_
 exact Y
 refine Z ?_
 refine Be h (fun _ h=>?_)
 refine Z ?_
 refine Am h (fun _ h=>?_) (fun _ h=>?_)
 exact Y
 refine Z ?_
 refine O2 (f:=Al) (l:=o53) (x:=true) rfl rfl ?_
 exact Y
 exact Y
 exact Y⟩
instance {a0:List B3}:OK (Xj a0) fun r=>Ar Tryz.prog 122 [L6 (Gc.mk a0 [] [] [])] (Al r):=⟨fun {r} h=>by
 refine pw C0 Tryz.func122 ?_
 refine Z ?_
 refine Fc h (fun _ h=>?_)
 refine Z ?_
 refine A6 h (fun _=>[(2,(Al false)),(18,(O .i64 0))]) (fun _=>[]) ?_
 rintro _ _ _ _ h _ _
 replace h:=Cf h
 refine Z ?_
 refine A6 h (fun _=>[(2,(Al false)),(30,(O .i64 0))]) (fun _=>[]) ?_
 rintro _ _ _ _ h _ _
 exact Y⟩
instance {a0:List B3}:OK (Xi a0) fun r=>Ar Tryz.prog 121 [L6 (Gc.mk a0 [] [] [])] (Al r):=⟨fun {r} h=>by
 refine pw C0 Tryz.func121 ?_
 refine Z ?_
 refine Fc h (fun _ h=>?_)
 refine Z ?_
 refine A6 h (fun _=>[(2,(Al false)),(17,(O .i64 0))]) (fun _=>[]) ?_
 rintro _ _ _ _ h _ _
 exact Y⟩
instance {a0:List B3}:OK (Xg a0) fun r=>Ar Tryz.prog 119 [L6 (Gc.mk a0 [] [] [])] (Al r):=⟨fun {r} h=>by
 refine pw C0 Tryz.func119 ?_
 refine Z ?_
 refine Fc h (fun _ h=>?_)
 refine Z ?_
 refine A6 h (fun _=>[(2,(Al false)),(20,(O .i64 0))]) (fun _=>[]) ?_
 rintro _ _ _ _ h _ _
 replace h:=Cf h
 refine Z ?_
 refine A6 h (fun _=>[(2,(Al false)),(33,(O .i64 0))]) (fun _=>[]) ?_
 rintro _ _ _ _ h _ _
 exact Y⟩
instance {a0:Aw} {b0:Gc}:OK (Xu a0 b0) fun r=>Bh Tryz.prog 171 [Fj a0,(.loc 0 0)] [.cells 131 [(.sl 3 (List.map Cp b0.Data)),(.sl 7 (List.map L3 b0.Codes)),(.sl 3 (Bl b0.Vars)),(.sl 8 (List.map L5 b0.Exprs))]] (Al r) [.cells 131 [(.sl 3 (List.map Cp b0.Data)),(.sl 7 (List.map L3 b0.Codes)),(.sl 3 (Bl b0.Vars)),(.sl 8 (List.map L5 b0.Exprs))]]:=⟨fun {r} h=>by
 refine aw C0 true Tryz.func171 ?_
 exact Y⟩
instance {a0:List Aw} {b0:Gc}:OK (X9 a0 b0) fun r=>Bh Tryz.prog 239 [(Hq 3 Bl) a0,(.fn 171 [(.loc 0 0)])] [.cells 131 [(.sl 3 (List.map Cp b0.Data)),(.sl 7 (List.map L3 b0.Codes)),(.sl 3 (Bl b0.Vars)),(.sl 8 (List.map L5 b0.Exprs))]] ((O .i64) r) [.cells 131 [(.sl 3 (List.map Cp b0.Data)),(.sl 7 (List.map L3 b0.Codes)),(.sl 3 (Bl b0.Vars)),(.sl 8 (List.map L5 b0.Exprs))]]:=⟨fun {r} h=>by
 refine aw C0 true Tryz.func239 ?_
 refine Z ?_
 refine A6 h (fun v3=>[(4,(O .i64 0)),(8,(O .i64 v3))]) (fun v3=>[]) ?_
 rintro v3 _ _ _ h _ _
 refine Z ?_
 refine Am h (fun _ h=>?_) (fun _ h=>?_)
 refine Z ?_
 refine B7 h (fun _ _ _ _ h=>?_)
 refine Z ?_
 refine A7 [0] h (fun _ h=>?_)
 exact Y
 exact Y⟩
instance {a0:List Aw} {b0:Gc}:OK (Xt a0 b0) fun r=>Bh Tryz.prog 170 [(Hq 3 Bl) a0,(.fn 171 [(.loc 0 0)])] [.cells 131 [(.sl 3 (List.map Cp b0.Data)),(.sl 7 (List.map L3 b0.Codes)),(.sl 3 (Bl b0.Vars)),(.sl 8 (List.map L5 b0.Exprs))]] (Al r) [.cells 131 [(.sl 3 (List.map Cp b0.Data)),(.sl 7 (List.map L3 b0.Codes)),(.sl 3 (Bl b0.Vars)),(.sl 8 (List.map L5 b0.Exprs))]]:=⟨fun {r} h=>by
 refine aw C0 true Tryz.func170 ?_
 refine Z ?_
 refine A7 [0] h (fun _ h=>?_)
 exact Y⟩
instance {a0:List B3}:OK (Xe a0) fun r=>Ar Tryz.prog 117 [L6 (Gc.mk a0 [] [] [])] (Al r):=⟨fun {r} h=>by
 refine pw C0 Tryz.func117 ?_
 refine Z ?_
 refine A7 [0] h (fun _ h=>?_)
 exact Y⟩
instance {a0:List B3}:OK (W6 a0) fun r=>Ar Tryz.prog 75 [L6 (Gc.mk a0 [] [] [])] (Al r):=⟨fun {r} h=>by
 refine pw C0 Tryz.func75 ?_
 exact Y⟩
instance {a0:List Int}:OK (Kc a0) fun r=>Ar Tryz.prog 139 [(Ak 1 (O .i64)) a0] ((O .i64) r):=⟨fun {r} h=>by
 refine pw C0 Tryz.func139 ?_
 refine Z ?_
 refine A6 h (fun v2=>[(2,(O .i64 0)),(8,(O .i64 v2))]) (fun v2=>[]) ?_
 rintro v2 _ _ _ h _ _
 exact Y⟩
instance {a0:Int}:OK (Tm a0) fun r=>Ar Tryz.prog 262 [(O .i64) a0] (Al r):=⟨fun {r} h=>by
 refine pw C0 Tryz.func262 ?_
 exact Y⟩
instance {a0 a1:Int}:OK (Tc a0 a1) fun r=>Ar Tryz.prog 206 [(O .i64) a0,(O .i64) a1] ((O .i64) r):=⟨fun {r} h=>by
 refine pw C0 Tryz.func206 ?_
 exact Y⟩
instance {a0 a1:Ax}:OK (Xz a0 a1) fun r=>Ar Tryz.prog 205 [B2 a0,B2 a1] ((O .i64) r):=⟨fun {r} h=>by
 refine pw C0 Tryz.func205 ?_
 exact Y⟩
instance {a0 a1:List Ax}:OK (Xy a0 a1) fun r=>Ar Tryz.prog 204 [(Ak 2 B2) a0,(Ak 2 B2) a1,(.fn 205 [])] ((O .i64) r):=⟨fun {r} h=>by
 refine pw C0 Tryz.func204 ?_
 refine Z ?_
 refine A6 h (fun v6=>[(6,(O .i64 0)),(13,(O .i64 v6))]) (fun v6=>[]) ?_
 rintro v6 _ _ _ h _ _
 exact Y⟩
instance {a0 a1:Ao}:OK (Lw a0 a1) fun r=>Ar Tryz.prog 143 [B9 a0,B9 a1] ((O .i64) r):=⟨fun {r} h=>by
 refine pw C0 Tryz.func143 ?_
 exact Y⟩
instance {a0 a1:B5}:OK (Xp a0 a1) fun r=>Ar Tryz.prog 142 [Dt a0,Dt a1] ((O .i64) r):=⟨fun {r} h=>by
 refine pw C0 Tryz.func142 ?_
 exact Y⟩
instance {a0 a1:List B5}:OK (Xo a0 a1) fun r=>Ar Tryz.prog 141 [(Ak 3 Dt) a0,(Ak 3 Dt) a1,(.fn 142 [])] ((O .i64) r):=⟨fun {r} h=>by
 refine pw C0 Tryz.func141 ?_
 refine Z ?_
 refine A6 h (fun v6=>[(6,(O .i64 0)),(13,(O .i64 v6))]) (fun v6=>[]) ?_
 rintro v6 _ _ _ h _ _
 exact Y⟩
abbrev Aec (k:Nat):Prop:=∀{a0 a1:Cq},OK (Pu k a0 a1) fun r=>Ar Tryz.prog 140 [Gr a0,Gr a1] ((O .i64) r)
abbrev Aed (k:Nat):Prop:=∀{a0 a1:List Cq},OK (Tb k a0 a1) fun r=>Ar Tryz.prog 203 [(Hq 2 Hs) a0,(Hq 2 Hs) a1,(.fn 140 [])] ((O .i64) r)
theorem Aee (k:Nat):Aec k/\Aed k:=by
 induction k with
 | zero=>exact ⟨okz,okz⟩
 | succ k ih=>
  obtain ⟨i0_,i1_⟩:=ih
  refine ⟨@fun a0 a1=>⟨fun {r} h=>?_⟩,@fun a0 a1=>⟨fun {r} h=>?_⟩⟩
  .unfold Pu at h
   refine pw C0 Tryz.func140 ?_
   exact Y
  .unfold Tb at h
   refine pw C0 Tryz.func203 ?_
   refine Z ?_
   refine A6 h (fun v6=>[(6,(O .i64 0)),(13,(O .i64 v6))]) (fun v6=>[]) ?_
   rintro v6 _ _ _ h _ _
   exact Y
instance {k:Nat}:Aec k:=(Aee k).1
instance {k:Nat}:Aed k:=(Aee k).2
instance {a0 a1:Cu}:OK (Xn a0 a1) fun r=>Ar Tryz.prog 138 [D6 a0,D6 a1] ((O .i64) r):=⟨fun {r} h=>by
 refine pw C0 Tryz.func138 ?_
 exact Y⟩
instance {a0 a1:List Cu}:OK (Xm a0 a1) fun r=>Ar Tryz.prog 137 [(Ak 3 D6) a0,(Ak 3 D6) a1,(.fn 138 [])] ((O .i64) r):=⟨fun {r} h=>by
 refine pw C0 Tryz.func137 ?_
 refine Z ?_
 refine A6 h (fun v6=>[(6,(O .i64 0)),(13,(O .i64 v6))]) (fun v6=>[]) ?_
 rintro v6 _ _ _ h _ _
 exact Y⟩
instance {a0 a1:Ce}:OK (Sx a0 a1) fun r=>Ar Tryz.prog 82 [Fx a0,Fx a1] ((O .i64) r):=⟨fun {r} h=>by
 refine pw C0 Tryz.func82 ?_
 exact Y⟩
instance {a0:Int}:OK (Hn a0) fun r=>Ar Tryz.prog 129 [(O .i64) a0] (D4 r):=⟨fun {r} h=>by
 exact Akl h⟩
instance {b1:List Int}:OK (Y2 b1) fun r=>Bh Tryz.prog 182 [(.loc 0 0)] [.cells 178 [(.loc 0 0),(.arr 1 b1.length 0 b1.length)],.rows 5 1 (List.map (O .u8) b1)] (.tup []) [.cells 178 [(.loc 0 0),(.arr 1 b1.length 0 b1.length)],.rows 5 1 (List.map (O .u8) b1)]:=⟨fun {r} h=>by
 cases h
 exact Ako _ _⟩
instance {a0:Int} {b1:List Int}:OK (Qa a0 b1) fun r=>Bh Tryz.prog 252 [(.loc 0 0),(O .u8) a0] [.cells 178 [(.loc 0 0),(.arr 1 b1.length 0 b1.length)],.rows 5 1 (List.map (O .u8) b1)] (.val .nilIface) [.cells 178 [(.loc 0 0),(.arr 1 r.length 0 r.length)],.rows 5 1 (List.map (O .u8) r)]:=⟨fun {r} h=>by
 refine aw C0 true Tryz.func252 ?_
 refine Z ?_
 refine A7 [0,1] h (fun _ h=>?_)
 exact Y⟩
end Go.Ab
namespace Go.Ab
open Go Go.Proofs
set_option maxRecDepth 10000
set_option maxHeartbeats 4000000
set_option linter.unusedVariables false
instance {a0:ByteArray} {b1:List Int}:OK (Fk a0 b1) fun r=>Bh Tryz.prog 127 [(.loc 0 0),D4 a0] [.cells 178 [(.loc 0 0),(.arr 1 b1.length 0 b1.length)],.rows 5 1 (List.map (O .u8) b1)] (.tup [(O .i64) r.1,.val .nilIface]) [.cells 178 [(.loc 0 0),(.arr 1 r.2.length 0 r.2.length)],.rows 5 1 (List.map (O .u8) r.2)]:=⟨fun {r} h=>by
 refine aw C0 true Tryz.func127 ?_
 refine Z ?_
 refine A7 [0,1] h (fun _ h=>?_)
 exact Y⟩
abbrev Aef (k:Nat):Prop:=∀{a0:Cq} {b1:List Int},OK (P1 k a0 b1) fun r=>Bh Tryz.prog 183 [(.loc 0 0),Gr a0] [.cells 178 [(.loc 0 0),(.arr 1 b1.length 0 b1.length)],.rows 5 1 (List.map (O .u8) b1)] (.tup []) [.cells 178 [(.loc 0 0),(.arr 1 r.length 0 r.length)],.rows 5 1 (List.map (O .u8) r)]
theorem Alk (k:Nat):Aef k:=by
 induction k with
 | zero=>exact okz
 | succ k ih=>
  refine @fun a0 b1=>⟨fun {r} h=>?_⟩
  .unfold P1 at h
   refine aw C0 true Tryz.func183 ?_
   refine Z ?_
   refine Be h (fun _ h=>?_)
   refine Z ?_
   refine A7 [0,1] h (fun _ h=>?_)
   refine Z ?_
   refine Am h (fun _ h=>?_) (fun _ h=>?_)
   refine Z ?_
   refine A7 [0,1] h (fun _ h=>?_)
   refine Z ?_
   refine A6 h (fun (v15,o16)=>[(20,(O .i64 v15))]) (fun (v15,o16)=>[(0,.cells 178 [(.loc 0 0),(.arr 1 o16.length 0 o16.length)]),(1,.rows 5 1 (List.map (O .u8) o16))]) ?_
   rintro ⟨v15,o16⟩ _ _ _ h _ _
   refine Z ?_
   refine Am h (fun _ h=>?_) (fun _ h=>?_)
   refine Z ?_
   refine B7 h (fun _ _ _ _ h=>?_)
   refine Z ?_
   refine A7 [0,1] h (fun _ h=>?_)
   refine Z ?_
   refine A7 [0,1] h (fun _ h=>?_)
   exact Y
   replace h:=Cf h
   refine Z ?_
   refine A7 [0,1] h (fun _ h=>?_)
   exact Y
   exact Y
instance {k:Nat}:Aef k:=(Alk k)
instance {b1:List Int}:OK (I1 b1) fun r=>Bh Tryz.prog 131 [(.loc 0 0)] [.cells 178 [(.loc 0 0),(.arr 1 b1.length 0 b1.length)],.rows 5 1 (List.map (O .u8) b1)] (D4 r) [.cells 178 [(.loc 0 0),(.fb r)],.dead]:=⟨fun {r} h=>by
 exact Adu h⟩
instance {b1:List Int}:OK (Xw b1) fun r=>Bh Tryz.prog 182 [(.loc 0 0)] [.cells 178 [(.val (.pointer none)),(.arr 1 b1.length 0 b1.length)],.rows 5 1 (List.map (O .u8) b1)] (.tup []) [.cells 178 [(.loc 0 0),(.arr 1 b1.length 0 b1.length)],.rows 5 1 (List.map (O .u8) b1)]:=⟨fun {r} h=>by
 cases h
 exact Akp _ _⟩
instance {a0:ByteArray} {b1:List Int}:OK (Hm a0 b1) fun r=>Bh Tryz.prog 127 [(.loc 0 0),D4 a0] [.cells 178 [(.val (.pointer none)),(.arr 1 b1.length 0 b1.length)],.rows 5 1 (List.map (O .u8) b1)] (.tup [(O .i64) r.1,(.val .nilIface)]) [.cells 178 [(.loc 0 0),(.arr 1 r.2.length 0 r.2.length)],.rows 5 1 (List.map (O .u8) r.2)]:=⟨fun {r} h=>by
 refine aw C0 true Tryz.func127 ?_
 refine Z ?_
 refine A7 [0,1] h (fun _ h=>?_)
 exact Y⟩
instance {a0:Int} {a1:Cq}:OK (Ny a0 a1) fun r=>Ar Tryz.prog 128 [(O .i64) a0,Gr a1] (D4 r):=⟨fun {r} h=>by
 refine pw C0 Tryz.func128 ?_
 refine ZS ?_
 refine Bv ?_
 refine ZS ?_
 refine Bv ?_
 refine ZO ?_
 refine Au ?_
 refine C5 [.own 5 1 5 1] ?_
 refine Z ?_
 refine Be h (fun _ h=>?_)
 refine Z ?_
 refine Ev h (fun h=>?_)
 refine Z ?_
 refine Ev h (fun h=>?_)
 refine Z ?_
 refine A7 [1,2] h (fun _ h=>?_)
 refine Z ?_
 refine A7 [1,2] h (fun _ h=>?_)
 refine Z ?_
 refine A7 [1,2] h (fun _ h=>?_)
 exact Y⟩
abbrev Aeg (k:Nat):Prop:=∀{a0:Aw},OK (Qi k a0) fun r=>Ar Tryz.prog 329 [Fj a0] ((O .i64) r)
theorem All (k:Nat):Aeg k:=by
 induction k with
 | zero=>exact okz
 | succ k ih=>
  refine @fun a0=>⟨fun {r} h=>?_⟩
  .unfold Qi at h
   refine pw C0 Tryz.func329 ?_
   refine Z ?_
   refine A6 h (fun (v5,v6)=>[(3,(O .i64 v5)),(9,(O .i64 v6))]) (fun (v5,v6)=>[]) ?_
   rintro ⟨v5,v6⟩ _ _ _ h _ _
   exact Y
instance {k:Nat}:Aeg k:=(All k)
abbrev Aeh (k:Nat):Prop:=∀{a0:Aw} {a1:List Aw},OK (N6 k a0 a1) fun r=>Ar Tryz.prog 331 [Fj a0,(Hq 3 Bl) a1] (Fj r)
theorem Alm (k:Nat):Aeh k:=by
 induction k with
 | zero=>exact okz
 | succ k ih=>
  refine @fun a0 a1=>⟨fun {r} h=>?_⟩
  .unfold N6 at h
   refine pw {T:=Bs,an:=(fun _=>.ask),nl:=(fun s=>bif Nat.beq s 42 then [(0,3)] else [])} Tryz.func331 ?_
   refine ZS ?_
   refine Bv ?_
   refine ZO ?_
   refine Au (Au ?_)
   refine Bw h (fun v3=>[(22,(Al v3))]) (fun v3=>[]) ?_ ?_
   intro _ h _ _ _
   exact Y
   rintro v3 _ h
   refine Am h (fun _ h=>?_) (fun _ h=>?_)
   exact Y
   refine ZS ?_
   refine Bv ?_
   refine ZO ?_
   refine Au (Au ?_)
   refine C5 [.own 5 2 37 3] ?_
   refine Z ?_
   refine A6 h (fun (v18,o19)=>[(37,(O .i64 v18))]) (fun (v18,o19)=>[(2,.cells 37 [(O .i64 a0.Kind),(O .i64 a0.Num),(.arr 3 o19.length 0 o19.length)]),(3,.rows 37 3 (Bl o19))]) ?_
   rintro ⟨v18,o19⟩ _ _ _ h _ _
   exact Y
instance {k:Nat}:Aeh k:=(Alm k)
abbrev Aei (k:Nat):Prop:=∀{a0:Aw} {a1:List Int},OK (Qj k a0 a1) fun r=>Ar Tryz.prog 330 [Fj a0,(Ak 1 (O .i64)) a1] ((O .i64) r)
theorem Aln (k:Nat):Aei k:=by
 induction k with
 | zero=>exact okz
 | succ k ih=>
  refine @fun a0 a1=>⟨fun {r} h=>?_⟩
  .unfold Qj at h
   refine pw C0 Tryz.func330 ?_
   refine ZS ?_
   refine Bv ?_
   refine ZO ?_
   refine Au (Au ?_)
   refine Bw h (fun v2=>[(22,(Al v2))]) (fun v2=>[]) ?_ ?_
   intro _ h _ _ _
   exact Y
   rintro v2 _ h
   refine Am h (fun _ h=>?_) (fun _ h=>?_)
   exact Y
   refine Z ?_
   refine A6 h (fun (v7,v8)=>[(5,(O .i64 v7)),(31,(O .i64 v8))]) (fun (v7,v8)=>[]) ?_
   rintro ⟨v7,v8⟩ _ _ _ h _ _
   exact Y
instance {k:Nat}:Aei k:=(Aln k)
instance {a0:List B3} {a1:Aw} {a2:Int}:OK (Yj a0 a1 a2) fun r=>Ar Tryz.prog 285 [(Ak 3 Cp) a0,Fj a1,(O .i64) a2] (.tup [(Hq 3 Bl) r.1,Al r.2]):=⟨fun {r} h=>by
 refine pw {T:=Bs,an:=(fun s=>bif Nat.beq s 14 then .own else .ask),nl:=(fun s=>bif Nat.beq s 14 then [(0,3)] else bif Nat.beq s 6 then [(0,3)] else [])} Tryz.func285 ?_
 refine ZS ?_
 refine Bv ?_
 refine ZO ?_
 refine Au (Au ?_)
 refine Bw h (fun v2=>[(31,(Al v2))]) (fun v2=>[]) ?_ ?_
 intro _ h _ _ _
 exact Y
 rintro v2 _ h
 refine Am h (fun _ h=>?_) (fun _ h=>?_)
 exact Y
 refine Z ?_
 refine B7 h (fun _ _ _ _ h=>?_)
 refine ZO ?_
 refine Au (Au ?_)
 refine Bw h (fun v5=>[(53,(Al v5))]) (fun v5=>[]) ?_ ?_
 intro _ h _ _ _
 exact Y
 rintro v5 _ h
 refine Am h (fun _ h=>?_) (fun _ h=>?_)
 exact Y
 refine Z ?_
 refine Fc h (fun o6 h=>?_)
 refine Z ?_
 refine Dc h (fun (v12,o13)=>[(61,(O .i64 v12))]) (fun (v12,o13)=>[(2,.rows 3 1 (List.map (O .i64) o13))]) (fun (v12,o13)=>o6.length=o13.length) ?_
 rintro ⟨v12,o13⟩ _ _ _ h _ _ q13
 refine Z ?_
 refine Am h (fun _ h=>?_) (fun _ h=>?_)
 exact Y
 replace h:=Cf h
 refine Z ?_
 refine B7 h (fun _ _ _ _ h=>?_)
 refine ZO ?_
 refine Ia ?_
 refine C5 [.fz 9] ?_
 refine Z ?_
 refine A6 h (fun v23=>[(6,(.sl 3 (Bl []))),(7,(Al false)),(79,(O .i64 v23))]) (fun v23=>[]) ?_
 rintro v23 _ _ _ h _ _
 refine Z ?_
 refine Am h (fun _ h=>?_) (fun _ h=>?_)
 exact Y
 replace h:=Cf h
 refine Z ?_
 refine B7 h (fun _ _ _ _ h=>?_)
 refine Z ?_
 refine A6 h (fun (v41,o42)=>[(14,(.arr 3 o42.length 0 o42.length)),(95,(O .i64 v41))]) (fun (v41,o42)=>[(3,.rows 37 3 (Bl o42))]) ?_
 rintro ⟨v41,o42⟩ _ _ _ h _ _
 exact Y⟩
abbrev Aej (k:Nat):Prop:=∀{a0:Aw} {a1:Cq} {b1:List (ByteArray×Int)} {b2:List (ByteArray×(List Db))} {b0_0:List B3} {b0_1:List Aw} {b0_2 b0_3:Int} {b0_4:List Aw},OK (Tp k a0 a1 b1 b2 b0_0 b0_1 b0_2 b0_3 b0_4) fun r=>Bh Tryz.prog 290 [(.loc 0 0),Fj a0,Gr a1] [.cells 136 [(.sl 3 (List.map Cp b0_0)),(.sl 3 (Bl b0_1)),(O .i64 b0_2),(O .i64 b0_3),(.sl 3 (Bl b0_4)),(.mp 1),(.mp 2)],.map (Bf (O .i64) b1),.map (Bf (Ak 5 Du) b2)] ((O .i64) r) [.cells 136 [(.sl 3 (List.map Cp b0_0)),(.sl 3 (Bl b0_1)),(O .i64 b0_2),(O .i64 b0_3),(.sl 3 (Bl b0_4)),(.mp 1),(.mp 2)],.map (Bf (O .i64) b1),.map (Bf (Ak 5 Du) b2)]
abbrev Aek (k:Nat):Prop:=∀{a0:Aw} {a1:Cq} {b1:List (ByteArray×Int)} {b2:List (ByteArray×(List Db))} {b0_0:List B3} {b0_1:List Aw} {b0_2 b0_3:Int} {b0_4:List Aw},OK (P9 k a0 a1 b1 b2 b0_0 b0_1 b0_2 b0_3 b0_4) fun r=>Bh Tryz.prog 250 [(.loc 0 0),Fj a0,Gr a1] [.cells 136 [(.sl 3 (List.map Cp b0_0)),(.sl 3 (Bl b0_1)),(O .i64 b0_2),(O .i64 b0_3),(.sl 3 (Bl b0_4)),(.mp 1),(.mp 2)],.map (Bf (O .i64) b1),.map (Bf (Ak 5 Du) b2)] ((O .i64) r) [.cells 136 [(.sl 3 (List.map Cp b0_0)),(.sl 3 (Bl b0_1)),(O .i64 b0_2),(O .i64 b0_3),(.sl 3 (Bl b0_4)),(.mp 1),(.mp 2)],.map (Bf (O .i64) b1),.map (Bf (Ak 5 Du) b2)]
abbrev Ael (k:Nat):Prop:=∀{a0:List Aw} {a1:List Cq} {b1:List (ByteArray×Int)} {b2:List (ByteArray×(List Db))} {b0_0:List B3} {b0_1:List Aw} {b0_2 b0_3:Int} {b0_4:List Aw},OK (Qc k a0 a1 b1 b2 b0_0 b0_1 b0_2 b0_3 b0_4) fun r=>Bh Tryz.prog 289 [(.loc 0 0),(Hq 3 Bl) a0,(Hq 2 Hs) a1] [.cells 136 [(.sl 3 (List.map Cp b0_0)),(.sl 3 (Bl b0_1)),(O .i64 b0_2),(O .i64 b0_3),(.sl 3 (Bl b0_4)),(.mp 1),(.mp 2)],.map (Bf (O .i64) b1),.map (Bf (Ak 5 Du) b2)] ((O .i64) r) [.cells 136 [(.sl 3 (List.map Cp b0_0)),(.sl 3 (Bl b0_1)),(O .i64 b0_2),(O .i64 b0_3),(.sl 3 (Bl b0_4)),(.mp 1),(.mp 2)],.map (Bf (O .i64) b1),.map (Bf (Ak 5 Du) b2)]
theorem Zb (k:Nat):Aej k/\Aek k/\Ael k:=by
 induction k with
 | zero=>exact ⟨okz,okz,okz⟩
 | succ k ih=>
  obtain ⟨i0_,i1_,i2_⟩:=ih
  refine ⟨@fun a0 a1 b1 b2 b0_0 b0_1 b0_2 b0_3 b0_4=>⟨fun {r} h=>?_⟩,@fun a0 a1 b1 b2 b0_0 b0_1 b0_2 b0_3 b0_4=>⟨fun {r} h=>?_⟩,@fun a0 a1 b1 b2 b0_0 b0_1 b0_2 b0_3 b0_4=>⟨fun {r} h=>?_⟩⟩
  .unfold Tp at h
   refine aw {T:=Bs,an:=(fun s=>bif Nat.beq s 9 then .own else .ask),nl:=(fun s=>bif Nat.beq s 9 then [(0,3)] else [])} true Tryz.func290 ?_
   refine Z ?_
   refine Be h (fun _ h=>?_)
   refine Z ?_
   refine Am h (fun _ h=>?_) (fun _ h=>?_)
   exact Y
   refine Z ?_
   refine Be h (fun _ h=>?_)
   refine Z ?_
   refine A6 h (fun (v14,o15)=>[(9,(.arr 5 o15.length 0 o15.length)),(38,(O .i64 v14))]) (fun (v14,o15)=>[(5,.rows 37 3 (Bl o15))]) ?_
   rintro ⟨v14,o15⟩ _ _ _ h _ _
   refine Z ?_
   refine Am h (fun _ h=>?_) (fun _ h=>?_)
   exact Y
   replace h:=Cf h
   refine Ed (Eb rfl (Au ?_))
   refine C5 [.fz 9] ?_
   refine Z ?_
   refine A7 [0,1,2] h (fun _ h=>?_)
   exact Y
  .unfold P9 at h
   refine aw C0 true Tryz.func250 ?_
   refine Z ?_
   refine Am h (fun _ h=>?_) (fun _ h=>?_)
   refine Z ?_
   refine Am h (fun _ h=>?_) (fun _ h=>?_)
   refine Z ?_
   refine A7 [0,1,2] h (fun _ h=>?_)
   exact Y
   exact Y
   refine Z ?_
   refine Am h (fun _ h=>?_) (fun _ h=>?_)
   exact Y
   refine Z ?_
   refine Am h (fun _ h=>?_) (fun _ h=>?_)
   refine Z ?_
   refine Am h (fun _ h=>?_) (fun _ h=>?_)
   exact Y
   refine Z ?_
   refine A6 h (fun (v7,v8)=>[(6,(O .i64 0)),(7,(O .i64 v7)),(50,(O .i64 v8))]) (fun (v7,v8)=>[]) ?_
   rintro ⟨v7,v8⟩ _ _ _ h _ _
   refine Z ?_
   refine Am h (fun _ h=>?_) (fun _ h=>?_)
   refine Z ?_
   refine B7 h (fun _ _ _ _ h=>?_)
   refine Z ?_
   refine A7 [0,1,2] h (fun _ h=>?_)
   exact Y
   exact Y
   exact Y
  .unfold Qc at h
   refine aw C0 true Tryz.func289 ?_
   refine Z ?_
   refine Am h (fun _ h=>?_) (fun _ h=>?_)
   exact Y
   refine Z ?_
   refine A6 h (fun (v5,v6)=>[(6,(O .i64 0)),(7,(O .i64 v5)),(18,(O .i64 v6))]) (fun (v5,v6)=>[]) ?_
   rintro ⟨v5,v6⟩ _ _ _ h _ _
   refine Z ?_
   refine Am h (fun _ h=>?_) (fun _ h=>?_)
   refine Z ?_
   refine B7 h (fun _ _ _ _ h=>?_)
   refine Z ?_
   refine B7 h (fun _ _ _ _ h=>?_)
   refine Z ?_
   refine A7 [0,1,2] h (fun _ h=>?_)
   exact Y
   exact Y
instance {k:Nat}:Aej k:=(Zb k).1
instance {k:Nat}:Aek k:=(Zb k).2.1
instance {k:Nat}:Ael k:=(Zb k).2.2
instance {a0:Int} {b1:List (ByteArray×Int)} {b2:List (ByteArray×(List Db))} {b0_0:List B3} {b0_1:List Aw} {b0_2 b0_3:Int} {b0_4:List Aw}:OK (Te a0 b1 b2 b0_0 b0_1 b0_2 b0_3 b0_4) fun r=>Bh Tryz.prog 211 [(.loc 0 0),(O .i64) a0] [.cells 136 [(.sl 3 (List.map Cp b0_0)),(.sl 3 (Bl b0_1)),(O .i64 b0_2),(O .i64 b0_3),(.sl 3 (Bl b0_4)),(.mp 1),(.mp 2)],.map (Bf (O .i64) b1),.map (Bf (Ak 5 Du) b2)] (Fj r) [.cells 136 [(.sl 3 (List.map Cp b0_0)),(.sl 3 (Bl b0_1)),(O .i64 b0_2),(O .i64 b0_3),(.sl 3 (Bl b0_4)),(.mp 1),(.mp 2)],.map (Bf (O .i64) b1),.map (Bf (Ak 5 Du) b2)]:=⟨fun {r} h=>by
 refine aw C0 true Tryz.func211 ?_
 exact Y⟩
instance {a0:Int} {a1:Cq} {b1:List (ByteArray×Int)} {b2:List (ByteArray×(List Db))} {b0_0:List B3} {b0_1:List Aw} {b0_2 b0_3:Int} {b0_4:List Aw}:OK (P0 a0 a1 b1 b2 b0_0 b0_1 b0_2 b0_3 b0_4) fun r=>Bh Tryz.prog 181 [(.loc 0 0),(O .i64) a0,Gr a1] [.cells 136 [(.sl 3 (List.map Cp b0_0)),(.sl 3 (Bl b0_1)),(O .i64 b0_2),(O .i64 b0_3),(.sl 3 (Bl b0_4)),(.mp 1),(.mp 2)],.map (Bf (O .i64) b1),.map (Bf (Ak 5 Du) b2)] ((O .i64) r.1) [.cells 136 [(.sl 3 (List.map Cp b0_0)),(.sl 3 (Bl b0_1)),(O .i64 b0_2),(O .i64 b0_3),(.sl 3 (Bl b0_4)),(.mp 1),(.mp 2)],.map (Bf (O .i64) r.2),.map (Bf (Ak 5 Du) b2)]:=⟨fun {r} h=>by
 refine aw C0 true Tryz.func181 ?_
 refine Z ?_
 refine Be h (fun _ h=>?_)
 refine ZO ?_
 refine Au ?_
 refine Bw h (fun (v3,v4)=>[(8,(O .i64 v3)),(9,(Al v4))]) (fun (v3,v4)=>[]) ?_ ?_
 intro _ h _ _ _
 refine Z ?_
 refine Sj (f:=(O .i64)) (l:=b1) rfl (0:Int) h (fun j_ hb h=>?_) (fun hb h=>?_)
 exact Y
 exact Y
 rintro ⟨v3,v4⟩ _ h
 refine Z ?_
 refine Am h (fun _ h=>?_) (fun _ h=>?_)
 refine Z ?_
 refine A7 [0,1,2] h (fun _ h=>?_)
 refine Z ?_
 refine A7 [0,1,2] h (fun _ h=>?_)
 refine ZS ?_
 refine Bv ?_
 refine ZO ?_
 refine Bw h (fun v7=>[(8,(O .i64 v7))]) (fun v7=>[]) ?_ ?_
 intro _ h _ _ _
 exact Y
 rintro v7 _ h
 refine Z ?_
 refine O2 (f:=(O .i64)) (l:=b1) (x:=v7) rfl rfl ?_
 exact Y
 exact Y⟩
instance {a0:Ce} {b1:List (ByteArray×Int)} {b2:List (ByteArray×(List Db))} {b0_0:List B3} {b0_1:List Aw} {b0_2 b0_3:Int} {b0_4:List Aw}:OK (S8 a0 b1 b2 b0_0 b0_1 b0_2 b0_3 b0_4) fun r=>Bh Tryz.prog 180 [(.loc 0 0),Fx a0] [.cells 136 [(.sl 3 (List.map Cp b0_0)),(.sl 3 (Bl b0_1)),(O .i64 b0_2),(O .i64 b0_3),(.sl 3 (Bl b0_4)),(.mp 1),(.mp 2)],.map (Bf (O .i64) b1),.map (Bf (Ak 5 Du) b2)] ((O .i64) r.1) [.cells 136 [(.sl 3 (List.map Cp b0_0)),(.sl 3 (Bl b0_1)),(O .i64 b0_2),(O .i64 b0_3),(.sl 3 (Bl b0_4)),(.mp 1),(.mp 2)],.map (Bf (O .i64) r.2),.map (Bf (Ak 5 Du) b2)]:=⟨fun {r} h=>by
 refine aw C0 true Tryz.func180 ?_
 refine Z ?_
 refine A6 h (fun (v5,v6,o7)=>[(5,(O .i64 v5)),(13,(O .i64 v6))]) (fun (v5,v6,o7)=>[(1,.map (Bf (O .i64) o7))]) ?_
 rintro ⟨v5,v6,o7⟩ _ _ _ h _ _
 refine Z ?_
 refine Am h (fun _ h=>?_) (fun _ h=>?_)
 refine Z ?_
 refine B7 h (fun _ _ _ _ h=>?_)
 refine Z ?_
 refine Am h (fun _ h=>?_) (fun _ h=>?_)
 refine Z ?_
 refine A7 [0,1,2] h (fun _ h=>?_)
 exact Y
 exact Y
 replace h:=Cf h
 refine Z ?_
 refine A6 h (fun (v15,v16)=>[(5,(O .i64 v15)),(31,(O .i64 v16))]) (fun (v15,v16)=>[]) ?_
 rintro ⟨v15,v16⟩ _ _ _ h _ _
 exact Y⟩
instance {a0:Int} {b1:List (ByteArray×Int)} {b2:List (ByteArray×(List Db))} {b0_0:List B3} {b0_1:List Aw} {b0_2 b0_3:Int} {b0_4:List Aw}:OK (Td a0 b1 b2 b0_0 b0_1 b0_2 b0_3 b0_4) fun r=>Bh Tryz.prog 210 [(.loc 0 0),(O .i64) a0] [.cells 136 [(.sl 3 (List.map Cp b0_0)),(.sl 3 (Bl b0_1)),(O .i64 b0_2),(O .i64 b0_3),(.sl 3 (Bl b0_4)),(.mp 1),(.mp 2)],.map (Bf (O .i64) b1),.map (Bf (Ak 5 Du) b2)] (Al r) [.cells 136 [(.sl 3 (List.map Cp b0_0)),(.sl 3 (Bl b0_1)),(O .i64 b0_2),(O .i64 b0_3),(.sl 3 (Bl b0_4)),(.mp 1),(.mp 2)],.map (Bf (O .i64) b1),.map (Bf (Ak 5 Du) b2)]:=⟨fun {r} h=>by
 refine aw C0 true Tryz.func210 ?_
 exact Y⟩
instance {a0:Ax} {b2:List (ByteArray×Int)} {b3:List (ByteArray×(List Db))} {b1_0:List B3} {b1_1:List Aw} {b1_2 b1_3:Int} {b1_4:List Aw}:OK (X1 a0 b2 b3 b1_0 b1_1 b1_2 b1_3 b1_4) fun r=>Bh Tryz.prog 209 [B2 a0,(.loc 0 0)] [.cells 86 [(.loc 1 0)],.cells 136 [(.sl 3 (List.map Cp b1_0)),(.sl 3 (Bl b1_1)),(O .i64 b1_2),(O .i64 b1_3),(.sl 3 (Bl b1_4)),(.mp 2),(.mp 3)],.map (Bf (O .i64) b2),.map (Bf (Ak 5 Du) b3)] (Al r) [.cells 86 [(.loc 1 0)],.cells 136 [(.sl 3 (List.map Cp b1_0)),(.sl 3 (Bl b1_1)),(O .i64 b1_2),(O .i64 b1_3),(.sl 3 (Bl b1_4)),(.mp 2),(.mp 3)],.map (Bf (O .i64) b2),.map (Bf (Ak 5 Du) b3)]:=⟨fun {r} h=>by
 refine aw C0 true Tryz.func209 ?_
 refine Z ?_
 refine A7 [1,2,3] h (fun _ h=>?_)
 refine Z ?_
 refine Eg h (fun _ h=>?_) (fun _ h=>?_)
 exact Y
 refine Z ?_
 refine A7 [1,2,3] h (fun _ h=>?_)
 refine Z ?_
 refine V4.mk 3 (by kernel_rfl) ?_
 exact Y⟩
instance {a0:List Ax} {b2:List (ByteArray×Int)} {b3:List (ByteArray×(List Db))} {b1_0:List B3} {b1_1:List Aw} {b1_2 b1_3:Int} {b1_4:List Aw}:OK (Ya a0 b2 b3 b1_0 b1_1 b1_2 b1_3 b1_4) fun r=>Bh Tryz.prog 263 [(Ak 2 B2) a0,(.fn 209 [(.loc 0 0)])] [.cells 86 [(.loc 1 0)],.cells 136 [(.sl 3 (List.map Cp b1_0)),(.sl 3 (Bl b1_1)),(O .i64 b1_2),(O .i64 b1_3),(.sl 3 (Bl b1_4)),(.mp 2),(.mp 3)],.map (Bf (O .i64) b2),.map (Bf (Ak 5 Du) b3)] ((O .i64) r) [.cells 86 [(.loc 1 0)],.cells 136 [(.sl 3 (List.map Cp b1_0)),(.sl 3 (Bl b1_1)),(O .i64 b1_2),(O .i64 b1_3),(.sl 3 (Bl b1_4)),(.mp 2),(.mp 3)],.map (Bf (O .i64) b2),.map (Bf (Ak 5 Du) b3)]:=⟨fun {r} h=>by
 refine aw C0 true Tryz.func263 ?_
 refine Z ?_
 refine A6 h (fun v3=>[(4,(O .i64 0)),(8,(O .i64 v3))]) (fun v3=>[]) ?_
 rintro v3 _ _ _ h _ _
 refine Z ?_
 refine Am h (fun _ h=>?_) (fun _ h=>?_)
 refine Z ?_
 refine B7 h (fun _ _ _ _ h=>?_)
 refine Z ?_
 refine A7 [0,1,2,3] h (fun _ h=>?_)
 exact Y
 exact Y⟩
instance {a0:List Ax} {b2:List (ByteArray×Int)} {b3:List (ByteArray×(List Db))} {b1_0:List B3} {b1_1:List Aw} {b1_2 b1_3:Int} {b1_4:List Aw}:OK (X0 a0 b2 b3 b1_0 b1_1 b1_2 b1_3 b1_4) fun r=>Bh Tryz.prog 208 [(Ak 2 B2) a0,(.fn 209 [(.loc 0 0)])] [.cells 86 [(.loc 1 0)],.cells 136 [(.sl 3 (List.map Cp b1_0)),(.sl 3 (Bl b1_1)),(O .i64 b1_2),(O .i64 b1_3),(.sl 3 (Bl b1_4)),(.mp 2),(.mp 3)],.map (Bf (O .i64) b2),.map (Bf (Ak 5 Du) b3)] (Al r) [.cells 86 [(.loc 1 0)],.cells 136 [(.sl 3 (List.map Cp b1_0)),(.sl 3 (Bl b1_1)),(O .i64 b1_2),(O .i64 b1_3),(.sl 3 (Bl b1_4)),(.mp 2),(.mp 3)],.map (Bf (O .i64) b2),.map (Bf (Ak 5 Du) b3)]:=⟨fun {r} h=>by
 refine aw C0 true Tryz.func208 ?_
 refine Z ?_
 refine A7 [0,1,2,3] h (fun _ h=>?_)
 exact Y⟩
instance {a0:Ao} {b1:List (ByteArray×Int)} {b2:List (ByteArray×(List Db))} {b0_0:List B3} {b0_1:List Aw} {b0_2 b0_3:Int} {b0_4:List Aw}:OK (Sz a0 b1 b2 b0_0 b0_1 b0_2 b0_3 b0_4) fun r=>Bh Tryz.prog 145 [(.loc 0 0),B9 a0] [.cells 136 [(.sl 3 (List.map Cp b0_0)),(.sl 3 (Bl b0_1)),(O .i64 b0_2),(O .i64 b0_3),(.sl 3 (Bl b0_4)),(.mp 1),(.mp 2)],.map (Bf (O .i64) b1),.map (Bf (Ak 5 Du) b2)] (Al r) [.cells 136 [(.sl 3 (List.map Cp b0_0)),(.sl 3 (Bl b0_1)),(O .i64 b0_2),(O .i64 b0_3),(.sl 3 (Bl b0_4)),(.mp 1),(.mp 2)],.map (Bf (O .i64) b1),.map (Bf (Ak 5 Du) b2)]:=⟨fun {r} h=>by
 refine aw C0 true Tryz.func145 ?_
 refine Z ?_
 refine A7 [3,0,1,2] h (fun _ h=>?_)
 exact Y⟩
instance {a0:Ce} {b1:List (ByteArray×Int)} {b2:List (ByteArray×(List Db))} {b0_0:List B3} {b0_1:List Aw} {b0_2 b0_3:Int} {b0_4:List Aw}:OK (Xv a0 b1 b2 b0_0 b0_1 b0_2 b0_3 b0_4) fun r=>Bh Tryz.prog 179 [(.loc 0 0),Fx a0] [.cells 136 [(.sl 3 (List.map Cp b0_0)),(.sl 3 (Bl b0_1)),(O .i64 b0_2),(O .i64 b0_3),(.sl 3 (Bl b0_4)),(.mp 1),(.mp 2)],.map (Bf (O .i64) b1),.map (Bf (Ak 5 Du) b2)] (Al r.1) [.cells 136 [(.sl 3 (List.map Cp b0_0)),(.sl 3 (Bl b0_1)),(O .i64 b0_2),(O .i64 b0_3),(.sl 3 (Bl b0_4)),(.mp 1),(.mp 2)],.map (Bf (O .i64) r.2),.map (Bf (Ak 5 Du) b2)]:=⟨fun {r} h=>by
 refine aw C0 true Tryz.func179 ?_
 refine Z ?_
 refine A6 h (fun (v6,o7)=>[(4,(Al false)),(12,(O .i64 v6))]) (fun (v6,o7)=>[(1,.map (Bf (O .i64) o7))]) ?_
 rintro ⟨v6,o7⟩ _ _ _ h _ _
 refine Z ?_
 refine Am h (fun _ h=>?_) (fun _ h=>?_)
 refine Z ?_
 refine B7 h (fun _ _ _ _ h=>?_)
 refine Z ?_
 refine A7 [0,1,2] h (fun _ h=>?_)
 refine Z ?_
 refine Eg h (fun _ h=>?_) (fun _ h=>?_)
 exact Y
 refine Z ?_
 refine A7 [0,1,2] h (fun _ h=>?_)
 exact Y
 replace h:=Cf h
 refine Z ?_
 refine A6 h (fun v18=>[(4,(Al false)),(34,(O .i64 v18))]) (fun v18=>[]) ?_
 rintro v18 _ _ _ h _ _
 refine Z ?_
 refine Am h (fun _ h=>?_) (fun _ h=>?_)
 refine Z ?_
 refine B7 h (fun _ _ _ _ h=>?_)
 refine Z ?_
 refine Eg h (fun _ h=>?_) (fun _ h=>?_)
 exact Y
 refine Z ?_
 refine A7 [0,1,2] h (fun _ h=>?_)
 exact Y
 exact Y⟩
instance {a0:Ce} {b1:List (ByteArray×Int)} {b2:List (ByteArray×(List Db))} {b0_0:List B3} {b0_1:List Aw} {b0_2 b0_3:Int} {b0_4:List Aw}:OK (Xk a0 b1 b2 b0_0 b0_1 b0_2 b0_3 b0_4) fun r=>Bh Tryz.prog 126 [(.loc 0 0),Fx a0] [.cells 136 [(.sl 3 (List.map Cp b0_0)),(.sl 3 (Bl b0_1)),(O .i64 b0_2),(O .i64 b0_3),(.sl 3 (Bl b0_4)),(.mp 1),(.mp 2)],.map (Bf (O .i64) b1),.map (Bf (Ak 5 Du) b2)] (Al r.1) [.cells 136 [(.sl 3 (List.map Cp b0_0)),(.sl 3 (Bl b0_1)),(O .i64 b0_2),(O .i64 b0_3),(.sl 3 (Bl b0_4)),(.mp 1),(.mp 2)],.map (Bf (O .i64) r.2),.map (Bf (Ak 5 Du) b2)]:=⟨fun {r} h=>by
 refine aw C0 true Tryz.func126 ?_
 refine ZS ?_
 refine Bv ?_
 refine ZO ?_
 refine Au (Au ?_)
 refine Bw h (fun (v4,o5)=>[(18,(Al v4))]) (fun (v4,o5)=>[(1,.map (Bf (O .i64) o5))]) ?_ ?_
 intro _ h _ _ _
 refine Z ?_
 refine A7 [0,1,2] h (fun _ h=>?_)
 refine Z ?_
 refine Eg h (fun _ h=>?_) (fun _ h=>?_)
 exact Y
 refine Z ?_
 refine A7 [0,1,2] h (fun _ h=>?_)
 exact Y
 rintro ⟨v4,o5⟩ _ h
 refine Am h (fun _ h=>?_) (fun _ h=>?_)
 exact Y
 refine Z ?_
 refine A6 h (fun (v9,o10)=>[(4,(Al false)),(22,(O .i64 v9))]) (fun (v9,o10)=>[(1,.map (Bf (O .i64) o10))]) ?_
 rintro ⟨v9,o10⟩ _ _ _ h _ _
 refine Z ?_
 refine Am h (fun _ h=>?_) (fun _ h=>?_)
 refine Z ?_
 refine B7 h (fun _ _ _ _ h=>?_)
 refine Z ?_
 refine A7 [0,1,2] h (fun _ h=>?_)
 exact Y
 replace h:=Cf h
 refine Z ?_
 refine A6 h (fun v22=>[(4,(Al false)),(54,(O .i64 v22))]) (fun v22=>[]) ?_
 rintro v22 _ _ _ h _ _
 refine Z ?_
 refine Am h (fun _ h=>?_) (fun _ h=>?_)
 refine Z ?_
 refine B7 h (fun _ _ _ _ h=>?_)
 refine ZO ?_
 refine Au (Au ?_)
 refine Bw h (fun v26=>[(74,(Al v26))]) (fun v26=>[]) ?_ ?_
 intro _ h _ _ _
 exact Y
 rintro v26 _ h
 exact Y
 exact Y⟩
instance {a0:Ai}:OK (Kb a0) fun r=>Ar Tryz.prog 124 [Bi a0] (Bi r):=⟨fun {r} h=>by
 refine pw C0 Tryz.func124 ?_
 exact Y⟩
instance {a0 a1:List Int}:OK (Sy a0 a1) fun r=>Ar Tryz.prog 125 [(Ak 1 (O .u32)) a0,(Ak 1 (O .u32)) a1] (Al r):=⟨fun {r} h=>by
 refine pw C0 Tryz.func125 ?_
 refine Z ?_
 refine Am h (fun _ h=>?_) (fun _ h=>?_)
 exact Y
 refine Z ?_
 refine A6 h (fun v3=>[(4,(Al false)),(13,(O .i64 v3))]) (fun v3=>[]) ?_
 rintro v3 _ _ _ h _ _
 exact Y⟩
instance {a0:List Az} {b1:List (ByteArray×Int)} {b2:List (ByteArray×(List Db))} {b0_0:List B3} {b0_1:List Aw} {b0_2 b0_3:Int} {b0_4:List Aw}:OK (W7 a0 b1 b2 b0_0 b0_1 b0_2 b0_3 b0_4) fun r=>Bh Tryz.prog 77 [(.loc 0 0),(Ak 5 B8) a0] [.cells 136 [(.sl 3 (List.map Cp b0_0)),(.sl 3 (Bl b0_1)),(O .i64 b0_2),(O .i64 b0_3),(.sl 3 (Bl b0_4)),(.mp 1),(.mp 2)],.map (Bf (O .i64) b1),.map (Bf (Ak 5 Du) b2)] (Al r.1) [.cells 136 [(.sl 3 (List.map Cp b0_0)),(.sl 3 (Bl b0_1)),(O .i64 b0_2),(O .i64 b0_3),(.sl 3 (Bl b0_4)),(.mp 1),(.mp 2)],.map (Bf (O .i64) r.2),.map (Bf (Ak 5 Du) b2)]:=⟨fun {r} h=>by
 refine aw C0 true Tryz.func77 ?_
 refine Z ?_
 refine Am h (fun _ h=>?_) (fun _ h=>?_)
 exact Y
 refine Z ?_
 refine A6 h (fun (v10,o11)=>[(4,(Al false)),(14,(O .i64 v10))]) (fun (v10,o11)=>[(1,.map (Bf (O .i64) o11))]) ?_
 rintro ⟨v10,o11⟩ _ _ _ h _ _
 refine Z ?_
 refine Am h (fun _ h=>?_) (fun _ h=>?_)
 refine Z ?_
 refine B7 h (fun _ _ _ _ h=>?_)
 refine Z ?_
 refine Be h (fun _ h=>?_)
 refine ZO ?_
 refine Au ?_
 refine Bw h (fun v18=>[(8,(Al v18))]) (fun v18=>[]) ?_ ?_
 intro _ h _ _ _
 exact Y
 rintro v18 _ h
 refine Z ?_
 refine Eg h (fun _ h=>?_) (fun _ h=>?_)
 exact Y
 refine Z ?_
 refine Be h (fun _ h=>?_)
 refine Z ?_
 refine Eg h (fun _ h=>?_) (fun _ h=>?_)
 exact Y
 refine Z ?_
 refine A7 [0,1,2] h (fun _ h=>?_)
 exact Y
 exact Y⟩
theorem T2 {a0:Df} {a1:List (List Az)} {r:(Bool×Df×(List (ByteArray×Int))×(List (ByteArray×(List Db)))×(List B3)×(List Aw)×Int×Int×(List Aw))} (h:Lo a0 a1=some (.inl r)):Bh Tryz.prog 41 [Hr a0,(Ak 1 (Ak 5 B8)) a1] [] (.tup [.loc 3 0,Al r.1]) [.cells 39 [(.sl 3 (List.map Cp r.2.1.Data)),(.sl 3 (Bl r.2.1.Vars)),(O .i64 r.2.1.Res.Kind),(O .i64 r.2.1.Res.Num),(.sl 3 (Bl r.2.1.Res.Args))],.map (Bf (O .i64) r.2.2.1),.map (Bf (Ak 5 Du) r.2.2.2.1),.cells 136 [(.sl 3 (List.map Cp r.2.2.2.2.1)),(.sl 3 (Bl r.2.2.2.2.2.1)),(O .i64 r.2.2.2.2.2.2.1),(O .i64 r.2.2.2.2.2.2.2.1),(.sl 3 (Bl r.2.2.2.2.2.2.2.2)),(.mp 1),(.mp 2)]]:=by
 refine aw {T:=Bs,an:=(fun _=>.ask),nl:=(fun s=>bif Nat.beq s 18 then [(1,7),(2,3),(3,8)] else [])} true Tryz.func41 ?_
 refine ZS ?_
 refine Bv ?_
 refine ZO ?_
 refine Au (Au ?_)
 refine Bw h (fun v4=>[(29,(Al v4))]) (fun v4=>[]) ?_ ?_
 intro _ h _ _ _
 exact Y
 rintro v4 _ h
 refine Am h (fun _ h=>?_) (fun _ h=>?_)
 exact Y
 refine Z ?_
 refine A6 h (fun v8=>[(4,(.val (.pointer none))),(5,(Al false)),(33,(O .i64 v8))]) (fun v8=>[]) ?_
 rintro v8 _ _ _ h _ _
 refine Z ?_
 refine Am h (fun _ h=>?_) (fun _ h=>?_)
 exact Y
 replace h:=Cf h
 refine Z ?_
 refine A6 h (fun (v18,o19)=>[(4,(.val (.pointer none))),(5,(Al false)),(50,(O .i64 v18))]) (fun (v18,o19)=>[(1,.map (Bf (O .i64) o19))]) ?_
 rintro ⟨v18,o19⟩ _ _ _ h _ _
 refine Z ?_
 refine Am h (fun _ h=>?_) (fun _ h=>?_)
 refine Z ?_
 refine B7 h (fun _ _ _ _ h=>?_)
 refine Z ?_
 refine A7 [3,1,2] h (fun _ h=>?_)
 exact Y
 exact Y
theorem T3 {a0:Df} {a1:List (List Az)} {r:Bool} (h:Lo a0 a1=some (.inr r)):Bh Tryz.prog 41 [Hr a0,(Ak 1 (Ak 5 B8)) a1] [] (.tup [.val (.pointer none),Al r]) []:=by
 refine aw {T:=Bs,an:=(fun _=>.ask),nl:=(fun s=>bif Nat.beq s 18 then [(1,7),(2,3),(3,8)] else [])} true Tryz.func41 ?_
 refine ZS ?_
 refine Bv ?_
 refine ZO ?_
 refine Au (Au ?_)
 refine Bw h (fun v4=>[(29,(Al v4))]) (fun v4=>[]) ?_ ?_
 intro _ h _ _ _
 exact Y
 rintro v4 _ h
 refine Am h (fun _ h=>?_) (fun _ h=>?_)
 exact Y
 refine Z ?_
 refine A6 h (fun v8=>[(4,(.val (.pointer none))),(5,(Al false)),(33,(O .i64 v8))]) (fun v8=>[]) ?_
 rintro v8 _ _ _ h _ _
 refine Z ?_
 refine Am h (fun _ h=>?_) (fun _ h=>?_)
 exact Y
 replace h:=Cf h
 refine Z ?_
 refine A6 h (fun (v18,o19)=>[(4,(.val (.pointer none))),(5,(Al false)),(50,(O .i64 v18))]) (fun (v18,o19)=>[(1,.map (Bf (O .i64) o19))]) ?_
 rintro ⟨v18,o19⟩ _ _ _ h _ _
 refine Z ?_
 refine Am h (fun _ h=>?_) (fun _ h=>?_)
 refine Z ?_
 refine B7 h (fun _ _ _ _ h=>?_)
 refine Z ?_
 refine A7 [3,1,2] h (fun _ h=>?_)
 exact Y
 exact Y
instance {a0:Int}:OK (Ade a0) fun r=>Ar Tryz.prog 211 [(.val (.pointer none)),(O .i64) a0] (Fj r):=⟨fun {r} h=>by
 refine pw C0 Tryz.func211 ?_
 exact Y⟩
instance {a0:Int}:OK (Adf a0) fun r=>Ar Tryz.prog 210 [(.val (.pointer none)),(O .i64) a0] (Al r):=⟨fun {r} h=>by
 refine pw C0 Tryz.func210 ?_
 exact Y⟩
instance {a0:Ax}:OK (Adg a0) fun r=>Bh Tryz.prog 209 [B2 a0,(.loc 0 0)] [.cells 86 [(.val (.pointer none))]] (Al r) [.cells 86 [(.val (.pointer none))]]:=⟨fun {r} h=>by
 refine aw C0 true Tryz.func209 ?_
 refine Z ?_
 refine Be h (fun _ h=>?_)
 refine Z ?_
 refine Eg h (fun _ h=>?_) (fun _ h=>?_)
 exact Y
 refine Z ?_
 refine Be h (fun _ h=>?_)
 refine Z ?_
 refine V4.mk 3 (by kernel_rfl) ?_
 exact Y⟩
instance {a0:List Ax}:OK (Adh a0) fun r=>Bh Tryz.prog 263 [(Ak 2 B2) a0,(.fn 209 [(.loc 0 0)])] [.cells 86 [(.val (.pointer none))]] ((O .i64) r) [.cells 86 [(.val (.pointer none))]]:=⟨fun {r} h=>by
 refine aw C0 true Tryz.func263 ?_
 refine Z ?_
 refine A6 h (fun v3=>[(4,(O .i64 0)),(8,(O .i64 v3))]) (fun v3=>[]) ?_
 rintro v3 _ _ _ h _ _
 refine Z ?_
 refine Am h (fun _ h=>?_) (fun _ h=>?_)
 refine Z ?_
 refine B7 h (fun _ _ _ _ h=>?_)
 refine Z ?_
 refine A7 [0] h (fun _ h=>?_)
 exact Y
 exact Y⟩
instance {a0:List Ax}:OK (Adi a0) fun r=>Bh Tryz.prog 208 [(Ak 2 B2) a0,(.fn 209 [(.loc 0 0)])] [.cells 86 [(.val (.pointer none))]] (Al r) [.cells 86 [(.val (.pointer none))]]:=⟨fun {r} h=>by
 refine aw C0 true Tryz.func208 ?_
 refine Z ?_
 refine A7 [0] h (fun _ h=>?_)
 exact Y⟩
instance {a0:Ao}:OK (Adj a0) fun r=>Ar Tryz.prog 145 [(.val (.pointer none)),B9 a0] (Al r):=⟨fun {r} h=>by
 refine pw C0 Tryz.func145 ?_
 refine Z ?_
 refine A7 [0] h (fun _ h=>?_)
 exact Y⟩
instance  : OK (Lp) fun r=>Bh Tryz.prog 42 [] [] (.loc 1 0) [.map (Bf (O .i64) r.1),.cells 138 [(.mp 0),(.arr 2 r.2.length 0 r.2.length)],.rows 75 5 (List.map B8 r.2)]:=⟨fun {r} h=>by
 refine aw C0 true Tryz.func42 ?_
 refine ZS ?_
 refine Bv ?_
 refine ZS ?_
 refine Bv ?_
 refine ZO ?_
 refine C5 [.own 3 1 75 5] ?_
 exact Y⟩
instance {a0:Ao} {a1:Int}:OK (Tk a0 a1) fun r=>Ar Tryz.prog 233 [B9 a0,(O .i64) a1] ((Ak 3 Dt) r):=⟨fun {r} h=>by
 refine pw {T:=Bs,an:=(fun _=>.ask),nl:=(fun s=>bif Nat.beq s 4 then [(0,3)] else [])} Tryz.func233 ?_
 exact Y⟩
instance {a0 a1:Int}:OK (Tu a0 a1) fun r=>Ar Tryz.prog 355 [(O .i64) a0,(O .i64) a1] (Bi r):=⟨fun {r} h=>by
 refine pw C0 Tryz.func355 ?_
 exact Y⟩
end Go.Ab
namespace Go.Ab
open Go Go.Proofs
set_option maxRecDepth 10000
set_option maxHeartbeats 4000000
set_option linter.unusedVariables false
instance {a0 a1:Int}:OK (Yk a0 a1) fun r=>Ar Tryz.prog 316 [(O .i64) a0,(O .i64) a1] (Bi r):=⟨fun {r} h=>by
 refine pw C0 Tryz.func316 ?_
 refine Z ?_
 refine Be h (fun _ h=>?_)
 refine Z ?_
 refine A6 h (fun (v7,v8,v9,v10)=>[(9,(O .i64 v7))]) (fun (v7,v8,v9,v10)=>[(1,.cells 50 [(Al v8),(.sl 1 (List.map (O .u32) v9)),(.sl 1 (List.map (O .u32) v10))])]) ?_
 rintro ⟨v7,v8,v9,v10⟩ _ _ _ h _ _
 exact Y⟩
instance {a0 a1:Int}:OK (Yd a0 a1) fun r=>Ar Tryz.prog 278 [(O .i64) a0,(O .i64) a1] (.tup [Bi r.1,Al r.2]):=⟨fun {r} h=>by
 refine pw C0 Tryz.func278 ?_
 refine ZS ?_
 refine Bv ?_
 refine ZO ?_
 refine Au (Au ?_)
 refine Bw h (fun v2=>[(11,(Al v2))]) (fun v2=>[]) ?_ ?_
 intro _ h _ _ _
 exact Y
 rintro v2 _ h
 exact Y⟩
instance {a0:List Ai}:OK (Qf a0) fun r=>Ar Tryz.prog 317 [(Ak 3 Bi) a0] ((Ak 3 Bi) r):=⟨fun {r} h=>by
 refine pw {T:=Bs,an:=(fun _=>.ask),nl:=(fun s=>bif Nat.beq s 2 then [(0,3)] else [])} Tryz.func317 ?_
 refine Z ?_
 refine A6 h (fun v3=>[(3,(O .i64 v3))]) (fun v3=>[]) ?_
 rintro v3 _ _ _ h _ _
 refine Z ?_
 refine Eg h (fun _ h=>?_) (fun _ h=>?_)
 refine Z ?_
 refine B7 h (fun _ _ _ _ h=>?_)
 refine Z ?_
 refine Be h (fun _ h=>?_)
 refine Z ?_
 refine Am h (fun _ h=>?_) (fun _ h=>?_)
 exact Y
 replace h:=Cf h
 refine Z ?_
 refine Lk (f:=Bi) (z:=((Ai.mk false [] []):Ai)) (by repeat (first | exact D0.nil | apply D0.sl | apply D0.same)) h (fun o7 h=>?_)
 refine Z ?_
 refine Dc h (fun (v12,o13)=>[(25,(O .i64 v12))]) (fun (v12,o13)=>[(0,.rows 50 3 (List.map Bi o13))]) (fun (v12,o13)=>o7.length=o13.length) ?_
 rintro ⟨v12,o13⟩ _ _ _ h _ _ q13
 exact Y
 replace h:=Cf h
 refine Z ?_
 refine Lk (f:=Bi) (z:=((Ai.mk false [] []):Ai)) (by repeat (first | exact D0.nil | apply D0.sl | apply D0.same)) h (fun o7 h=>?_)
 refine Z ?_
 refine Dc h (fun (v12,o13)=>[(25,(O .i64 v12))]) (fun (v12,o13)=>[(0,.rows 50 3 (List.map Bi o13))]) (fun (v12,o13)=>o7.length=o13.length) ?_
 rintro ⟨v12,o13⟩ _ _ _ h _ _ q13
 exact Y⟩
instance {a0 a1:Ai}:OK (Jg a0 a1) fun r=>Ar Tryz.prog 79 [Bi a0,Bi a1] (Bi r):=⟨fun {r} h=>by
 refine pw C0 Tryz.func79 ?_
 exact Y⟩
instance {a0 a1 b0:Ai}:OK (Yn a0 a1 b0) fun r=>Bh Tryz.prog 320 [Bi a0,Bi a1,(.loc 0 0)] [.cells 50 [(Al b0.Neg),(.sl 1 (List.map (O .u32) b0.Num)),(.sl 1 (List.map (O .u32) b0.Den))]] (Bi r) [.cells 50 [(Al b0.Neg),(.sl 1 (List.map (O .u32) b0.Num)),(.sl 1 (List.map (O .u32) b0.Den))]]:=⟨fun {r} h=>by
 refine aw C0 true Tryz.func320 ?_
 exact Y⟩
instance {a0 a1:List Ai} {b0:Ai}:OK (Yl a0 a1 b0) fun r=>Bh Tryz.prog 318 [(Ak 3 Bi) a0,(Ak 3 Bi) a1,(.fn 320 [(.loc 0 0)])] [.cells 50 [(Al b0.Neg),(.sl 1 (List.map (O .u32) b0.Num)),(.sl 1 (List.map (O .u32) b0.Den))]] ((Ak 3 Bi) r) [.cells 50 [(Al b0.Neg),(.sl 1 (List.map (O .u32) b0.Num)),(.sl 1 (List.map (O .u32) b0.Den))]]:=⟨fun {r} h=>by
 refine aw {T:=Bs,an:=(fun _=>.ask),nl:=(fun s=>bif Nat.beq s 6 then [(0,3)] else [])} true Tryz.func318 ?_
 refine Z ?_
 refine Lk (f:=Bi) (z:=((Ai.mk false [] []):Ai)) (by repeat (first | exact D0.nil | apply D0.sl | apply D0.same)) h (fun o1 h=>?_)
 refine Z ?_
 refine Dc h (fun (v15,o16)=>[(19,(O .i64 v15))]) (fun (v15,o16)=>[(1,.rows 50 3 (List.map Bi o16))]) (fun (v15,o16)=>o1.length=o16.length) ?_
 rintro ⟨v15,o16⟩ _ _ _ h _ _ q16
 refine Z ?_
 refine Am h (fun _ h=>?_) (fun _ h=>?_)
 refine ZS ?_
 refine Bv ?_
 refine ZS ?_
 refine Bv ?_
 refine ZO ?_
 refine Au (Au ?_)
 refine C5 [.nil 9 1 1,.nil 9 2 1,.nil 10 1 1,.nil 10 2 1] ?_
 refine ZS ?_
 refine Bv ?_
 refine ZO ?_
 refine Bw h (fun (v20,v21,v22)=>[]) (fun (v20,v21,v22)=>[(2,.cells 50 [(Al v20),(.sl 1 (List.map (O .u32) v21)),(.sl 1 (List.map (O .u32) v22))])]) ?_ ?_
 intro _ h _ _ _
 exact Y
 rintro ⟨v20,v21,v22⟩ _ h
 refine ZS ?_
 refine Bv ?_
 refine ZO ?_
 refine Bw h (fun (v24,v25,v26)=>[]) (fun (v24,v25,v26)=>[(3,.cells 50 [(Al v24),(.sl 1 (List.map (O .u32) v25)),(.sl 1 (List.map (O .u32) v26))])]) ?_ ?_
 intro _ h _ _ _
 exact Y
 rintro ⟨v24,v25,v26⟩ _ h
 refine Z ?_
 refine A7 [0] h (fun _ h=>?_)
 exact Y
 exact Y⟩
instance {a0 a1:Int}:OK (Y3 a0 a1) fun r=>Ar Tryz.prog 316 [(O .i64) a0,(O .i64) a1] (Bi r):=⟨fun {r} h=>by
 refine pw C0 Tryz.func316 ?_
 refine Z ?_
 refine Be h (fun _ h=>?_)
 refine Z ?_
 refine A6 h (fun (v7,v8,v9,v10)=>[(9,(O .i64 v7))]) (fun (v7,v8,v9,v10)=>[(1,.cells 50 [(Al v8),(.sl 1 (List.map (O .u32) v9)),(.sl 1 (List.map (O .u32) v10))])]) ?_
 rintro ⟨v7,v8,v9,v10⟩ _ _ _ h _ _
 exact Y⟩
instance {a0:Int}:OK (Yt a0) fun r=>Bh Tryz.prog 356 [(O .i64) a0] [] (.arr 0 r.length 0 r.length) [.rows 50 3 (List.map Bi r)]:=⟨fun {r} h=>by
 refine aw {T:=Bs,an:=(fun _=>.ask),nl:=(fun s=>bif Nat.beq s 2 then [(0,3)] else [])} false Tryz.func356 ?_
 refine Z ?_
 refine Lk (f:=Bi) (z:=((Ai.mk false [] []):Ai)) (by repeat (first | exact D0.nil | apply D0.sl | apply D0.same)) h (fun o1 h=>?_)
 refine Z ?_
 refine Dc h (fun (v5,o6)=>[(9,(O .i64 v5))]) (fun (v5,o6)=>[(0,.rows 50 3 (List.map Bi o6))]) (fun (v5,o6)=>o1.length=o6.length) ?_
 rintro ⟨v5,o6⟩ _ _ _ h _ _ q6
 refine Z ?_
 refine Am h (fun _ h=>?_) (fun _ h=>?_)
 exact Y
 replace h:=Cf h
 refine Z ?_
 cases h
 exact ⟨congrArg (fun q_=>AV.arr 0 q_ 0 q_) q6,rfl,trivial⟩⟩
instance {a0 a1:Int}:OK (Ym a0 a1) fun r=>Ar Tryz.prog 319 [(O .i64) a0,(O .i64) a1] ((Ak 3 Bi) r):=⟨fun {r} h=>by
 refine pw {T:=Bs,an:=(fun _=>.ask),nl:=(fun s=>bif Nat.beq s 4 then [(0,3)] else [])} Tryz.func319 ?_
 refine Z ?_
 refine A7 [] h (fun v1 h=>?_)
 refine Z ?_
 refine Dc h (fun (v7,o8)=>[(6,(O .i64 v7))]) (fun (v7,o8)=>[(0,.rows 50 3 (List.map Bi o8))]) (fun (v7,o8)=>v1.length=o8.length) ?_
 rintro ⟨v7,o8⟩ _ _ _ h _ _ q8
 exact Y⟩
instance {a0 a1:List Ai}:OK (Ye a0 a1) fun r=>Ar Tryz.prog 279 [(Ak 3 Bi) a0,(Ak 3 Bi) a1] (.tup [(Ak 3 Bi) r.1,Al r.2]):=⟨fun {r} h=>by
 refine pw {T:=Bs,an:=(fun _=>.ask),nl:=(fun s=>bif Nat.beq s 6 then [(0,3)] else bif Nat.beq s 4 then [(0,3)] else [])} Tryz.func279 ?_
 refine ZS ?_
 refine Bv ?_
 refine ZO ?_
 refine Au (Au ?_)
 refine Bw h (fun v1=>[(19,(Al v1))]) (fun v1=>[]) ?_ ?_
 intro _ h _ _ _
 exact Y
 rintro v1 _ h
 refine Am h (fun _ h=>?_) (fun _ h=>?_)
 exact Y
 refine Z ?_
 refine Be h (fun _ h=>?_)
 refine Z ?_
 refine Be h (fun _ h=>?_)
 refine ZO ?_
 refine Au (Au ?_)
 refine Bw h (fun v4=>[(31,(Al v4))]) (fun v4=>[]) ?_ ?_
 intro _ h _ _ _
 exact Y
 rintro v4 _ h
 refine Am h (fun _ h=>?_) (fun _ h=>?_)
 exact Y
 refine Z ?_
 refine Am h (fun _ h=>?_) (fun _ h=>?_)
 exact Y
 refine Z ?_
 refine A6 h (fun (v25,v26)=>[(6,(.sl 3 (List.map Bi v25))),(40,(O .i64 v26))]) (fun (v25,v26)=>[]) ?_
 rintro ⟨v25,v26⟩ _ _ _ h _ _
 refine Z ?_
 refine Am h (fun _ h=>?_) (fun _ h=>?_)
 refine Z ?_
 refine B7 h (fun _ _ _ _ h=>?_)
 refine Z ?_
 refine A6 h (fun (v36,v37)=>[(6,(.sl 3 (List.map Bi v36))),(47,(O .i64 v37))]) (fun (v36,v37)=>[]) ?_
 rintro ⟨v36,v37⟩ _ _ _ h _ _
 refine Z ?_
 refine Am h (fun _ h=>?_) (fun _ h=>?_)
 refine Z ?_
 refine B7 h (fun _ _ _ _ h=>?_)
 refine Z ?_
 refine Be h (fun _ h=>?_)
 refine Z ?_
 refine Be h (fun _ h=>?_)
 refine Z ?_
 refine Am h (fun _ h=>?_) (fun _ h=>?_)
 exact Y
 refine Z ?_
 refine Be h (fun _ h=>?_)
 refine Z ?_
 refine A7 [2] h (fun _ h=>?_)
 exact Y
 exact Y
 exact Y⟩
theorem Alo {a0:List B5} {r:(List Ai)} (h:Adk a0=some r):Ar Tryz.prog 232 [(Ak 3 Dt) a0] ((Ak 3 Bi) r):=by
 refine pw {T:=Bs,an:=(fun s=>bif Nat.beq s 10 then .own else .ask),nl:=(fun s=>bif Nat.beq s 2 then [(0,3)] else [])} Tryz.func232 ?_
 refine Z ?_
 refine Be h (fun _ h=>?_)
 refine Z ?_
 refine Dc h (fun (v14,o15)=>[(3,(.arr 0 1 0 1)),(13,(O .i64 v14))]) (fun (v14,o15)=>[(0,.rows 50 3 (List.map Bi o15))]) (fun (v14,o15)=>1=o15.length) ?_
 rintro ⟨v14,o15⟩ _ _ _ h _ _ q15
 refine Z ?_
 refine Am h (fun _ h=>?_) (fun _ h=>?_)
 refine Z ?_
 refine B7 h (fun _ _ _ _ h=>?_)
 refine Z ?_
 refine Am h (fun _ h=>?_) (fun _ h=>?_)
 exact Y
 refine Z ?_
 refine Lk (f:=Bi) (z:=((Ai.mk false [] []):Ai)) (by repeat (first | exact D0.nil | apply D0.sl | apply D0.same)) h (fun o23 h=>?_)
 exact Y
 exact Y
theorem Alp {a0:List B5} {r:(List Ai)} (h:Adl a0=some r):Ar Tryz.prog 232 [(Ak 3 Dt) a0] ((Ak 3 Bi) r):=by
 refine pw {T:=Bs,an:=(fun _=>.ask),nl:=(fun s=>bif Nat.beq s 2 then [(0,3)] else [])} Tryz.func232 ?_
 refine Z ?_
 refine Be h (fun _ h=>?_)
 refine Z ?_
 refine A6 h (fun (v9,v10)=>[(3,(.sl 3 (List.map Bi v9))),(13,(O .i64 v10))]) (fun (v9,v10)=>[]) ?_
 rintro ⟨v9,v10⟩ _ _ _ h _ _
 refine Z ?_
 refine Am h (fun _ h=>?_) (fun _ h=>?_)
 refine Z ?_
 refine B7 h (fun _ v11 _ _ h=>?_)
 refine Z ?_
 refine Am h (fun _ h=>?_) (fun _ h=>?_)
 exact Y
 refine Z ?_
 refine Lk (f:=Bi) (z:=((Ai.mk false [] []):Ai)) (by repeat (first | exact D0.nil | apply D0.sl | apply D0.same)) h (fun o13 h=>?_)
 refine Z ?_
 refine Be h (fun v15 h=>?_)
 refine Z ?_
 refine Fq h (fun _ _ hiv16 _ h=>?_)
 refine Z ?_
 refine Gl (f:=Bi) (x:=v15) (j:=v11.Deg) rfl rfl (Nat.zero_add _) hiv16 ?_
 refine ZO ?_
 refine C5 [.fz 8] ?_
 exact Y
 exact Y
instance {a0:List B5}:OK (P7 a0) fun r=>Ar Tryz.prog 232 [(Ak 3 Dt) a0] ((Ak 3 Bi) r):=⟨fun {r} h=>by
 unfold P7 at h
 cases hv:Adm a0 with
 | true=>rw [hv] at h; exact Alo h
 | false=>rw [hv] at h; exact Alp h⟩
instance {a0:Int}:OK (Yg a0) fun r=>Bh Tryz.prog 281 [(.val (.slice none 0 0)),(O .i64) a0] [] (.arr 0 r.length 0 r.length) [.rows 73 3 (List.map Dt r)]:=⟨fun {r} h=>by
 exact Alh h⟩
instance {a0:List (List B5)}:OK (X7 a0) fun r=>Ar Tryz.prog 235 [(Ak 1 (Ak 3 Dt)) a0] ((Ak 3 Dt) r):=⟨fun {r} h=>by
 refine pw {T:=Bs,an:=(fun _=>.ask),nl:=(fun s=>bif Nat.beq s 2 then [(0,3)] else [])} Tryz.func235 ?_
 refine Z ?_
 refine A6 h (fun (v2,v3)=>[(3,(O .i64 v2)),(11,(O .i64 v3))]) (fun (v2,v3)=>[]) ?_
 rintro ⟨v2,v3⟩ _ _ _ h _ _
 refine Z ?_
 refine Am h (fun _ h=>?_) (fun _ h=>?_)
 exact Y
 replace h:=Cf h
 refine Z ?_
 refine A7 [] h (fun _ h=>?_)
 refine Z ?_
 refine A6 h (fun (v14,o15)=>[(6,(.arr 0 o15.length 0 o15.length)),(27,(O .i64 v14))]) (fun (v14,o15)=>[(0,.rows 73 3 (List.map Dt o15))]) ?_
 rintro ⟨v14,o15⟩ _ _ _ h _ _
 exact Y⟩
instance {a0:Int}:OK (Yf a0) fun r=>Bh Tryz.prog 280 [(.val (.slice none 0 0)),(O .i64) a0] [] (.arr 0 r.length 0 r.length) [.rows 113 3 (List.map D6 r)]:=⟨fun {r} h=>by
 exact Ale h⟩
instance {a0:List (List Cu)}:OK (X6 a0) fun r=>Ar Tryz.prog 234 [(Ak 1 (Ak 3 D6)) a0] ((Ak 3 D6) r):=⟨fun {r} h=>by
 refine pw {T:=Bs,an:=(fun _=>.ask),nl:=(fun s=>bif Nat.beq s 2 then [(0,3)] else [])} Tryz.func234 ?_
 refine Z ?_
 refine A6 h (fun (v2,v3)=>[(3,(O .i64 v2)),(11,(O .i64 v3))]) (fun (v2,v3)=>[]) ?_
 rintro ⟨v2,v3⟩ _ _ _ h _ _
 refine Z ?_
 refine Am h (fun _ h=>?_) (fun _ h=>?_)
 exact Y
 replace h:=Cf h
 refine Z ?_
 refine A7 [] h (fun _ h=>?_)
 refine Z ?_
 refine A6 h (fun (v14,o15)=>[(6,(.arr 0 o15.length 0 o15.length)),(27,(O .i64 v14))]) (fun (v14,o15)=>[(0,.rows 113 3 (List.map D6 o15))]) ?_
 rintro ⟨v14,o15⟩ _ _ _ h _ _
 exact Y⟩
instance {a0 a1:Ce}:OK (Pz a0 a1) fun r=>Ar Tryz.prog 167 [Fx a0,Fx a1] (Fx r):=⟨fun {r} h=>by
 refine pw C0 Tryz.func167 ?_
 exact Y⟩
instance {a0:Az} {a1:Ai} {a2:Ce}:OK (Th a0 a1 a2) fun r=>Ar Tryz.prog 227 [B8 a0,Bi a1,Fx a2] (B8 r):=⟨fun {r} h=>by
 refine pw C0 Tryz.func227 ?_
 exact Y⟩
instance {a0:List B5}:OK (Ti a0) fun r=>Bh Tryz.prog 229 [(Ak 3 Dt) a0] [] (.arr 1 r.2.length 0 r.2.length) [.rows 73 3 (List.map Dt r.1),.rows 73 3 (List.map Dt r.2)]:=⟨fun {r} h=>by
 exact Akv h⟩
instance {a0:List Cu}:OK (Tf a0) fun r=>Bh Tryz.prog 223 [(Ak 3 D6) a0] [] (.arr 1 r.2.length 0 r.2.length) [.rows 113 3 (List.map D6 r.1),.rows 113 3 (List.map D6 r.2)]:=⟨fun {r} h=>by
 exact Aku h⟩
instance {a0 a1:B5}:OK (X5 a0 a1) fun r=>Ar Tryz.prog 231 [Dt a0,Dt a1] ((O .i64) r):=⟨fun {r} h=>by
 refine pw C0 Tryz.func231 ?_
 exact Y⟩
instance {a0 a1:Int} {b0:List B5}:OK (Ts a0 a1 b0) fun r=>Bh Tryz.prog 314 [(.arr 0 b0.length 0 b0.length),(O .i64) a0,(O .i64) a1,(.fn 231 [])] [.rows 73 3 (List.map Dt b0)] (.tup []) [.rows 73 3 (List.map Dt r)]:=⟨fun {r} h=>by
 refine aw C0 true Tryz.func314 ?_
 refine Z ?_
 refine Dc h (fun (v21,o22)=>[(8,(O .i64 v21))]) (fun (v21,o22)=>[(0,.rows 73 3 (List.map Dt o22))]) (fun (v21,o22)=>b0.length=o22.length) ?_
 rintro ⟨v21,o22⟩ _ _ _ h _ _ q22
 refine Z ?_
 refine Am h (fun _ h=>?_) (fun _ h=>?_)
 refine Z ?_
 refine Dc h (fun (v31,o32)=>[(9,(O .i64 v31))]) (fun (v31,o32)=>[(0,.rows 73 3 (List.map Dt o32))]) (fun (v31,o32)=>b0.length=o32.length) ?_
 rintro ⟨v31,o32⟩ _ _ _ h _ _ q32
 refine Au (Au ?_)
 refine Bw h (fun v36=>[(34,(Al v36))]) (fun v36=>[]) ?_ ?_
 intro _ h _ _ _
 exact Y
 rintro v36 _ h
 exact Y
 exact Y⟩
instance {a0:Int} {b0:List B5}:OK (Yc a0 b0) fun r=>Bh Tryz.prog 277 [(.arr 0 b0.length 0 b0.length),(O .i64) a0,(.fn 231 [])] [.rows 73 3 (List.map Dt b0)] (.tup []) [.rows 73 3 (List.map Dt r)]:=⟨fun {r} h=>by
 refine aw C0 true Tryz.func277 ?_
 refine Z ?_
 refine Dc h (fun (v3,v4,o5)=>[(7,(O .i64 v3)),(8,(O .i64 v4))]) (fun (v3,v4,o5)=>[(0,.rows 73 3 (List.map Dt o5))]) (fun (v3,v4,o5)=>b0.length=o5.length) ?_
 rintro ⟨v3,v4,o5⟩ _ _ _ h _ hn1 q5
 refine Z ?_
 refine Am h (fun _ h=>?_) (fun _ h=>?_)
 refine Z ?_
 refine Cl h (fun v6 hcv6 h=>?_)
 have okv6:=(OK.ok hcv6 :)
 rw [<-q5] at okv6
 refine Ea.act [0] _ _ _ _ okv6 rfl rfl ⟨rfl,trivial⟩ ?_
 refine Cl h (fun v7 hgv7 h=>?_)
 refine Z ?_
 exact hn1 _ _ _ _ (Option.some.inj h) ⟨rfl,rfl,trivial⟩ ⟨⟨rfl,rfl⟩,trivial⟩ (F3 hgv7)
 replace h:=Cf h
 refine Z ?_
 refine Cl h (fun v11 hcv11 h=>?_)
 have okv11:=(OK.ok hcv11 :)
 rw [<-q5] at okv11
 refine Ea.act [0] _ _ _ _ okv11 rfl rfl ⟨rfl,trivial⟩ ?_
 refine Cl h (fun v12 hgv12 h=>?_)
 refine Z ?_
 refine A6 h (fun (v13,v14,v15)=>[(6,(O .i64 v13)),(7,(O .i64 v14)),(8,(O .i64 v15))]) (fun (v13,v14,v15)=>[]) ?_
 rintro ⟨v13,v14,v15⟩ _ _ _ h _ _
 refine Z ?_
 refine Am h (fun _ h=>?_) (fun _ h=>?_)
 refine Z ?_
 refine A6 h (fun _=>[(7,(O .i64 0)),(8,(O .i64 (Ac (2*v13))))]) (fun _=>[]) ?_
 rintro _ _ _ _ h _ _
 exact Y
 exact Y⟩
instance {b0:List B5}:OK (Tj b0) fun r=>Bh Tryz.prog 230 [(.arr 0 b0.length 0 b0.length),(.fn 231 [])] [.rows 73 3 (List.map Dt b0)] (.tup []) [.rows 73 3 (List.map Dt r)]:=⟨fun {r} h=>by
 refine aw C0 true Tryz.func230 ?_
 refine Z ?_
 refine A7 [0] h (fun _ h=>?_)
 refine Cl h (fun v2 hgv2 h=>?_)
 exact Y⟩
instance {a0 a1:Cu}:OK (X4 a0 a1) fun r=>Ar Tryz.prog 225 [D6 a0,D6 a1] ((O .i64) r):=⟨fun {r} h=>by
 refine pw C0 Tryz.func225 ?_
 exact Y⟩
instance {a0 a1:Int} {b0:List Cu}:OK (Tq a0 a1 b0) fun r=>Bh Tryz.prog 304 [(.arr 0 b0.length 0 b0.length),(O .i64) a0,(O .i64) a1,(.fn 225 [])] [.rows 113 3 (List.map D6 b0)] (.tup []) [.rows 113 3 (List.map D6 r)]:=⟨fun {r} h=>by
 refine aw C0 true Tryz.func304 ?_
 refine Z ?_
 refine Dc h (fun (v21,o22)=>[(8,(O .i64 v21))]) (fun (v21,o22)=>[(0,.rows 113 3 (List.map D6 o22))]) (fun (v21,o22)=>b0.length=o22.length) ?_
 rintro ⟨v21,o22⟩ _ _ _ h _ _ q22
 refine Z ?_
 refine Am h (fun _ h=>?_) (fun _ h=>?_)
 refine Z ?_
 refine Dc h (fun (v31,o32)=>[(9,(O .i64 v31))]) (fun (v31,o32)=>[(0,.rows 113 3 (List.map D6 o32))]) (fun (v31,o32)=>b0.length=o32.length) ?_
 rintro ⟨v31,o32⟩ _ _ _ h _ _ q32
 refine Au (Au ?_)
 refine Bw h (fun v36=>[(34,(Al v36))]) (fun v36=>[]) ?_ ?_
 intro _ h _ _ _
 exact Y
 rintro v36 _ h
 exact Y
 exact Y⟩
instance {a0:Int} {b0:List Cu}:OK (Yb a0 b0) fun r=>Bh Tryz.prog 275 [(.arr 0 b0.length 0 b0.length),(O .i64) a0,(.fn 225 [])] [.rows 113 3 (List.map D6 b0)] (.tup []) [.rows 113 3 (List.map D6 r)]:=⟨fun {r} h=>by
 refine aw C0 true Tryz.func275 ?_
 refine Z ?_
 refine Dc h (fun (v3,v4,o5)=>[(7,(O .i64 v3)),(8,(O .i64 v4))]) (fun (v3,v4,o5)=>[(0,.rows 113 3 (List.map D6 o5))]) (fun (v3,v4,o5)=>b0.length=o5.length) ?_
 rintro ⟨v3,v4,o5⟩ _ _ _ h _ hn1 q5
 refine Z ?_
 refine Am h (fun _ h=>?_) (fun _ h=>?_)
 refine Z ?_
 refine Cl h (fun v6 hcv6 h=>?_)
 have okv6:=(OK.ok hcv6 :)
 rw [<-q5] at okv6
 refine Ea.act [0] _ _ _ _ okv6 rfl rfl ⟨rfl,trivial⟩ ?_
 refine Cl h (fun v7 hgv7 h=>?_)
 refine Z ?_
 exact hn1 _ _ _ _ (Option.some.inj h) ⟨rfl,rfl,trivial⟩ ⟨⟨rfl,rfl⟩,trivial⟩ (F3 hgv7)
 replace h:=Cf h
 refine Z ?_
 refine Cl h (fun v11 hcv11 h=>?_)
 have okv11:=(OK.ok hcv11 :)
 rw [<-q5] at okv11
 refine Ea.act [0] _ _ _ _ okv11 rfl rfl ⟨rfl,trivial⟩ ?_
 refine Cl h (fun v12 hgv12 h=>?_)
 refine Z ?_
 refine A6 h (fun (v13,v14,v15)=>[(6,(O .i64 v13)),(7,(O .i64 v14)),(8,(O .i64 v15))]) (fun (v13,v14,v15)=>[]) ?_
 rintro ⟨v13,v14,v15⟩ _ _ _ h _ _
 refine Z ?_
 refine Am h (fun _ h=>?_) (fun _ h=>?_)
 refine Z ?_
 refine A6 h (fun _=>[(7,(O .i64 0)),(8,(O .i64 (Ac (2*v13))))]) (fun _=>[]) ?_
 rintro _ _ _ _ h _ _
 exact Y
 exact Y⟩
instance {b0:List Cu}:OK (Tg b0) fun r=>Bh Tryz.prog 224 [(.arr 0 b0.length 0 b0.length),(.fn 225 [])] [.rows 113 3 (List.map D6 b0)] (.tup []) [.rows 113 3 (List.map D6 r)]:=⟨fun {r} h=>by
 refine aw C0 true Tryz.func224 ?_
 refine Z ?_
 refine A7 [0] h (fun _ h=>?_)
 refine Cl h (fun v2 hgv2 h=>?_)
 exact Y⟩
instance {a0:Ai} {a1:Ce} {b1:List (ByteArray×Int)} {b2:List (ByteArray×(List Db))} {b0_0:List B3} {b0_1:List Aw} {b0_2 b0_3:Int} {b0_4:List Aw}:OK (S4 a0 a1 b1 b2 b0_0 b0_1 b0_2 b0_3 b0_4) fun r=>Bh Tryz.prog 166 [(.loc 0 0),Bi a0,Fx a1] [.cells 136 [(.sl 3 (List.map Cp b0_0)),(.sl 3 (Bl b0_1)),(O .i64 b0_2),(O .i64 b0_3),(.sl 3 (Bl b0_4)),(.mp 1),(.mp 2)],.map (Bf (O .i64) b1),.map (Bf (Ak 5 Du) b2)] (.tup [(Ak 5 B8) r.1,(O .i64) r.2]) [.cells 136 [(.sl 3 (List.map Cp b0_0)),(.sl 3 (Bl b0_1)),(O .i64 b0_2),(O .i64 b0_3),(.sl 3 (Bl b0_4)),(.mp 1),(.mp 2)],.map (Bf (O .i64) b1),.map (Bf (Ak 5 Du) b2)]:=⟨fun {r} h=>by
 refine aw {T:=Bs,an:=(fun s=>bif Nat.beq s 22 then .own else .ask),nl:=(fun s=>bif Nat.beq s 155 then [(0,3)] else bif Nat.beq s 31 then [(3,3),(4,3)] else bif Nat.beq s 22 then [(0,5)] else bif Nat.beq s 6 then [(0,5)] else [])} true Tryz.func166 ?_
 refine Z ?_
 refine Be h (fun _ h=>?_)
 refine Z ?_
 refine Am h (fun _ h=>?_) (fun _ h=>?_)
 exact Y
 refine Z ?_
 refine A7 [] h (fun v4 h=>?_)
 refine Z ?_
 refine A7 [6] h (fun _ h=>?_)
 refine Cl h (fun v8 hgv8 h=>?_)
 refine Z ?_
 refine A6 h (fun _=>[(6,(.sl 5 (List.map B8 []))),(7,(O .i64 0)),(8,(.sl 5 (List.map B8 [(Az.mk a0 (Ce.mk [] []))]))),(9,(.arr 6 v4.2.length 0 v4.2.length))]) (fun _=>[]) ?_
 rintro _ _ _ _ h _ _
 refine Z ?_
 refine Am h (fun _ h=>?_) (fun _ h=>?_)
 refine Z ?_
 refine Fq h (fun _ _ _ _ h=>?_)
 refine Z ?_
 refine A6 h (fun v11=>[(11,(O .i64 v11))]) (fun v11=>[]) ?_
 rintro v11 _ _ _ h _ _
 refine Z ?_
 refine Eg h (fun _ h=>?_) (fun _ h=>?_)
 refine Z ?_
 refine Fq h (fun _ _ _ _ h=>?_)
 refine Z ?_
 refine Am h (fun _ h=>?_) (fun _ h=>?_)
 exact Y
 replace h:=Cf h
 refine Ed (Eb rfl (Au ?_))
 refine C5 [.fz 9] ?_
 exact Y
 replace h:=Cf h
 refine ZO ?_
 refine J8 (Ed (Eb rfl (Au ?_)))
 refine C5 [.fz 9] ?_
 exact Y
 replace h:=Cf h
 refine Z ?_
 refine A7 [] h (fun _ h=>?_)
 refine Z ?_
 refine A7 [8] h (fun _ h=>?_)
 refine Cl h (fun v19 hgv19 h=>?_)
 refine ZO ?_
 refine Au (Ia ?_)
 refine C5 [.fz 19] ?_
 refine Z ?_
 refine A6 h (fun (v110,v111)=>[(8,(.sl 5 (List.map B8 v110))),(19,(.sl 3 (List.map Dt v111)))]) (fun (v110,v111)=>[]) ?_
 rintro ⟨v110,v111⟩ _ _ _ h _ _
 refine Z ?_
 refine Am h (fun _ h=>?_) (fun _ h=>?_)
 refine Z ?_
 refine B7 h (fun _ _ _ _ h=>?_)
 refine Z ?_
 refine A6 h (fun v116=>[(21,(O .i64 v116))]) (fun v116=>[]) ?_
 rintro v116 _ _ _ h _ _
 refine Z ?_
 refine Eg h (fun _ h=>?_) (fun _ h=>?_)
 refine Z ?_
 refine B7 h (fun _ _ _ _ h=>?_)
 refine Z ?_
 refine Be h (fun _ h=>?_)
 refine Z ?_
 refine Am h (fun _ h=>?_) (fun _ h=>?_)
 exact Y
 replace h:=Cf h
 refine Z ?_
 refine L8 h (fun _ h=>?_)
 refine Z ?_
 refine Be h (fun _ h=>?_)
 refine Z ?_
 refine A6 h (fun (v173,o174)=>[(22,(.arr 10 o174.length 0 o174.length)),(135,(O .i64 v173))]) (fun (v173,o174)=>[(10,.rows 75 5 (List.map B8 o174))]) ?_
 rintro ⟨v173,o174⟩ _ _ _ h _ _
 refine Z ?_
 refine Am h (fun _ h=>?_) (fun _ h=>?_)
 refine Z ?_
 refine B7 h (fun _ _ _ _ h=>?_)
 refine Z ?_
 refine Be h (fun _ h=>?_)
 refine Z ?_
 refine Am h (fun _ h=>?_) (fun _ h=>?_)
 exact Y
 refine Z ?_
 refine A6 h (fun (v190,o191)=>[(22,(.arr 10 o191.length 0 o191.length)),(145,(O .i64 v190))]) (fun (v190,o191)=>[(10,.rows 75 5 (List.map B8 o191))]) ?_
 rintro ⟨v190,o191⟩ _ _ _ h _ _
 exact Y
 replace h:=Cf h
 refine Ed (Eb rfl ?_)
 refine C5 [.fz 22] ?_
 exact Y
 replace h:=Cf h
 refine Z ?_
 refine L8 h (fun _ h=>?_)
 refine Z ?_
 refine Be h (fun _ h=>?_)
 refine Z ?_
 refine A6 h (fun (v173,o174)=>[(22,(.arr 10 o174.length 0 o174.length)),(135,(O .i64 v173))]) (fun (v173,o174)=>[(10,.rows 75 5 (List.map B8 o174))]) ?_
 rintro ⟨v173,o174⟩ _ _ _ h _ _
 refine Z ?_
 refine Am h (fun _ h=>?_) (fun _ h=>?_)
 refine Z ?_
 refine B7 h (fun _ _ _ _ h=>?_)
 refine Z ?_
 refine Be h (fun _ h=>?_)
 refine Z ?_
 refine Am h (fun _ h=>?_) (fun _ h=>?_)
 exact Y
 refine Z ?_
 refine A6 h (fun (v190,o191)=>[(22,(.arr 10 o191.length 0 o191.length)),(145,(O .i64 v190))]) (fun (v190,o191)=>[(10,.rows 75 5 (List.map B8 o191))]) ?_
 rintro ⟨v190,o191⟩ _ _ _ h _ _
 exact Y
 replace h:=Cf h
 refine Ed (Eb rfl ?_)
 refine C5 [.fz 22] ?_
 exact Y
 exact Y⟩
theorem Aem {a0:Int} {a1:Bool} {b1:List Int} {r:(Int×(List Int))} (h:P3 a0 a1 b1=some (.inl r)):Bh Tryz.prog 185 [(.loc 0 0),(O .i64) a0,Al a1] [.cells 178 [(.val (.pointer none)),(.arr 1 b1.length 0 b1.length)],.rows 5 1 (List.map (O .u8) b1)] ((O .i64) r.1) [.cells 178 [(.loc 0 0),(.arr 1 r.2.length 0 r.2.length)],.rows 5 1 (List.map (O .u8) r.2)]:=by
 refine aw C0 true Tryz.func185 ?_
 refine ZS ?_
 refine Bv ?_
 refine ZO ?_
 refine Au (Ia (Au ?_))
 refine Bw h (fun v1=>[(7,(Al v1))]) (fun v1=>[]) ?_ ?_
 intro _ h _ _ _
 exact Y
 rintro v1 _ h
 refine Am h (fun _ h=>?_) (fun _ h=>?_)
 refine Z ?_
 refine A7 [0,1] h (fun _ h=>?_)
 exact Y
 refine Z ?_
 refine Am h (fun _ h=>?_) (fun _ h=>?_)
 refine Z ?_
 refine A7 [0,1] h (fun _ h=>?_)
 exact Y
 refine Z ?_
 refine Am h (fun _ h=>?_) (fun _ h=>?_)
 refine Z ?_
 refine A7 [0,1] h (fun _ h=>?_)
 exact Y
 exact Y
theorem Aen {a0:Int} {a1:Bool} {b1:List Int} {r:(Int×(List Int))} (h:P3 a0 a1 b1=some (.inr r)):Bh Tryz.prog 185 [(.loc 0 0),(O .i64) a0,Al a1] [.cells 178 [(.val (.pointer none)),(.arr 1 b1.length 0 b1.length)],.rows 5 1 (List.map (O .u8) b1)] ((O .i64) r.1) [.cells 178 [(.val (.pointer none)),(.arr 1 r.2.length 0 r.2.length)],.rows 5 1 (List.map (O .u8) r.2)]:=by
 refine aw C0 true Tryz.func185 ?_
 refine ZS ?_
 refine Bv ?_
 refine ZO ?_
 refine Au (Ia (Au ?_))
 refine Bw h (fun v1=>[(7,(Al v1))]) (fun v1=>[]) ?_ ?_
 intro _ h _ _ _
 exact Y
 rintro v1 _ h
 refine Am h (fun _ h=>?_) (fun _ h=>?_)
 refine Z ?_
 refine A7 [0,1] h (fun _ h=>?_)
 exact Y
 refine Z ?_
 refine Am h (fun _ h=>?_) (fun _ h=>?_)
 refine Z ?_
 refine A7 [0,1] h (fun _ h=>?_)
 exact Y
 refine Z ?_
 refine Am h (fun _ h=>?_) (fun _ h=>?_)
 refine Z ?_
 refine A7 [0,1] h (fun _ h=>?_)
 exact Y
 exact Y
instance {a0:Int} {a1:Bool} {b1:List Int}:OK (Y4 a0 a1 b1) fun r=>Bh Tryz.prog 185 [(.loc 0 0),(O .i64) a0,Al a1] [.cells 178 [(.loc 0 0),(.arr 1 b1.length 0 b1.length)],.rows 5 1 (List.map (O .u8) b1)] ((O .i64) r.1) [.cells 178 [(.loc 0 0),(.arr 1 r.2.length 0 r.2.length)],.rows 5 1 (List.map (O .u8) r.2)]:=⟨fun {r} h=>by
 refine aw C0 true Tryz.func185 ?_
 refine ZS ?_
 refine Bv ?_
 refine ZO ?_
 refine Au (Ia (Au ?_))
 refine Bw h (fun v1=>[(7,(Al v1))]) (fun v1=>[]) ?_ ?_
 intro _ h _ _ _
 exact Y
 rintro v1 _ h
 refine Am h (fun _ h=>?_) (fun _ h=>?_)
 refine Z ?_
 refine A7 [0,1] h (fun _ h=>?_)
 exact Y
 refine Z ?_
 refine Am h (fun _ h=>?_) (fun _ h=>?_)
 refine Z ?_
 refine A7 [0,1] h (fun _ h=>?_)
 exact Y
 refine Z ?_
 refine Am h (fun _ h=>?_) (fun _ h=>?_)
 refine Z ?_
 refine A7 [0,1] h (fun _ h=>?_)
 exact Y
 exact Y⟩
instance {a0 a1:Int}:OK (Kf a0 a1) fun r=>Ar Tryz.prog 186 [(O .i64) a0,(O .i64) a1] (D4 r):=⟨fun {r} h=>by
 exact Akn h⟩
instance {b1:List Int}:OK (Y5 b1) fun r=>Bh Tryz.prog 131 [(.loc 0 0)] [.cells 178 [(.val (.pointer none)),(.arr 1 b1.length 0 b1.length)],.rows 5 1 (List.map (O .u8) b1)] (D4 r) [.cells 178 [(.val (.pointer none)),(.fb r)],.dead]:=⟨fun {r} h=>by
 exact Adu h⟩
instance {a0:Ao}:OK (Nz a0) fun r=>Ar Tryz.prog 130 [B9 a0] (D4 r):=⟨fun {r} h=>by
 refine pw C0 Tryz.func130 ?_
 refine Z ?_
 refine Be h (fun _ h=>?_)
 refine Z ?_
 refine Am h (fun _ h=>?_) (fun _ h=>?_)
 exact Y
 refine ZS ?_
 refine Bv ?_
 refine ZO ?_
 refine Au (Au ?_)
 refine C5 [.own 3 1 5 1] ?_
 refine Z ?_
 refine So ?_
 refine Z ?_
 refine Am h (fun _ h=>?_) (fun _ h=>?_)
 refine Gm (Au ?_)
 refine Bw h (fun (v30,o31)=>[(4,(O .i64 0)),(6,(O .i64 v30))]) (fun (v30,o31)=>[(1,.cells 178 [(.loc 1 0),(.arr 2 o31.length 0 o31.length)]),(2,.rows 5 1 (List.map (O .u8) o31))]) ?_ ?_
 intro _ h _ _ _
 refine Z ?_
 refine B7 h (fun _ v5 _ _ h=>?_)
 refine Z ?_
 refine Cl h (fun v7 hcv7 h=>?_)
 rcases v7 with v8 | v9
 refine Ea.act [1,2] _ _ _ _ (Aem (a0:=v5.Coef) (a1:=true) (b1:=[]) hcv7) rfl rfl ⟨rfl,rfl,trivial⟩ ?_
 refine ZS ?_
 refine Bv ?_
 refine ZO ?_
 refine Bw h (fun o14=>[]) (fun o14=>[(1,.cells 178 [(.loc 1 0),(.arr 2 o14.length 0 o14.length)]),(2,.rows 5 1 (List.map (O .u8) o14))]) ?_ ?_
 intro _ h _ _ _
 refine Am h (fun _ h=>?_) (fun _ h=>?_)
 refine Z ?_
 refine Be h (fun _ h=>?_)
 refine Z ?_
 refine Ev h (fun h=>?_)
 refine Z ?_
 refine A7 [1,2] h (fun _ h=>?_)
 exact Y
 exact Y
 rintro o14 _ h
 refine Z ?_
 refine Am h (fun _ h=>?_) (fun _ h=>?_)
 refine Z ?_
 refine A7 [1,2] h (fun _ h=>?_)
 exact Y
 refine Z ?_
 refine Be h (fun _ h=>?_)
 refine Z ?_
 refine Ev h (fun h=>?_)
 refine Z ?_
 refine A7 [1,2] h (fun _ h=>?_)
 exact Y
 refine Ea.act [1,2] _ _ _ _ (Aen (a0:=v5.Coef) (a1:=true) (b1:=[]) hcv7) rfl rfl ⟨rfl,rfl,trivial⟩ ?_
 refine Z ?_
 refine Am h (fun _ h=>?_) (fun _ h=>?_)
 refine Z ?_
 refine Be h (fun _ h=>?_)
 refine Z ?_
 refine Ev h (fun h=>?_)
 refine Z ?_
 refine A7 [1,2] h (fun _ h=>?_)
 refine Z ?_
 refine Am h (fun _ h=>?_) (fun _ h=>?_)
 refine Z ?_
 refine A7 [1,2] h (fun _ h=>?_)
 exact Y
 refine Z ?_
 refine Be h (fun _ h=>?_)
 refine Z ?_
 refine Ev h (fun h=>?_)
 refine Z ?_
 refine A7 [1,2] h (fun _ h=>?_)
 exact Y
 refine Z ?_
 refine Am h (fun _ h=>?_) (fun _ h=>?_)
 refine Z ?_
 refine A7 [1,2] h (fun _ h=>?_)
 exact Y
 refine Z ?_
 refine Be h (fun _ h=>?_)
 refine Z ?_
 refine Ev h (fun h=>?_)
 refine Z ?_
 refine A7 [1,2] h (fun _ h=>?_)
 exact Y
 rintro ⟨v30,o31⟩ _ h
 refine Z ?_
 refine A6 h (fun (v43,o44)=>[(13,(O .i64 v43))]) (fun (v43,o44)=>[(1,.cells 178 [(.loc 1 0),(.arr 2 o44.length 0 o44.length)]),(2,.rows 5 1 (List.map (O .u8) o44))]) ?_
 rintro ⟨v43,o44⟩ _ _ _ h _ _
 refine Z ?_
 refine Am h (fun _ h=>?_) (fun _ h=>?_)
 refine Z ?_
 refine B7 h (fun _ _ _ _ h=>?_)
 refine Z ?_
 refine A7 [1,2] h (fun _ h=>?_)
 refine ZS ?_
 refine Bv ?_
 refine ZO ?_
 refine Bw h (fun o51=>[]) (fun o51=>[(1,.cells 178 [(.loc 1 0),(.arr 2 o51.length 0 o51.length)]),(2,.rows 5 1 (List.map (O .u8) o51))]) ?_ ?_
 intro _ h _ _ _
 refine Am h (fun _ h=>?_) (fun _ h=>?_)
 refine Z ?_
 refine Be h (fun _ h=>?_)
 refine Z ?_
 refine Ev h (fun h=>?_)
 refine Z ?_
 refine A7 [1,2] h (fun _ h=>?_)
 exact Y
 exact Y
 rintro o51 _ h
 refine Z ?_
 refine Am h (fun _ h=>?_) (fun _ h=>?_)
 refine Z ?_
 refine A7 [1,2] h (fun _ h=>?_)
 exact Y
 refine Z ?_
 refine Be h (fun _ h=>?_)
 refine Z ?_
 refine Ev h (fun h=>?_)
 refine Z ?_
 refine A7 [1,2] h (fun _ h=>?_)
 exact Y
 replace h:=Cf h
 refine Ed (Eb rfl (Au (Au ?_)))
 refine Bw h (fun v57=>[(47,(Al v57))]) (fun v57=>[]) ?_ ?_
 intro _ h _ _ _
 exact Y
 rintro v57 _ h
 refine Am h (fun _ h=>?_) (fun _ h=>?_)
 refine Z ?_
 refine A7 [1,2] h (fun _ h=>?_)
 refine Z ?_
 refine Be h (fun _ h=>?_)
 refine Z ?_
 refine A7 [1,2] h (fun _ h=>?_)
 refine Z ?_
 refine A7 [1,2] h (fun _ h=>?_)
 exact Y
 refine Z ?_
 refine A7 [1,2] h (fun _ h=>?_)
 exact Y
 refine Ed (Eb rfl (Au (Au ?_)))
 refine Bw h (fun v63=>[(47,(Al v63))]) (fun v63=>[]) ?_ ?_
 intro _ h _ _ _
 exact Y
 rintro v63 _ h
 refine Am h (fun _ h=>?_) (fun _ h=>?_)
 refine Z ?_
 refine Cl h (fun v64 hcv64 h=>?_)
 rcases v64 with v65 | v66
 refine Ea.act [1,2] _ _ _ _ (Aem (a0:=a0.Const) (a1:=((a0.Terms.length:Int)==(0:Int))) (b1:=[]) hcv64) rfl rfl ⟨rfl,rfl,trivial⟩ ?_
 refine Z ?_
 refine Be h (fun _ h=>?_)
 refine Z ?_
 refine A7 [1,2] h (fun _ h=>?_)
 refine Z ?_
 refine A7 [1,2] h (fun _ h=>?_)
 exact Y
 refine Ea.act [1,2] _ _ _ _ (Aen (a0:=a0.Const) (a1:=((a0.Terms.length:Int)==(0:Int))) (b1:=[]) hcv64) rfl rfl ⟨rfl,rfl,trivial⟩ ?_
 refine Z ?_
 refine Be h (fun _ h=>?_)
 refine Z ?_
 refine A7 [1,2] h (fun _ h=>?_)
 refine Z ?_
 refine A7 [1,2] h (fun _ h=>?_)
 exact Y
 refine Z ?_
 refine A7 [1,2] h (fun _ h=>?_)
 exact Y⟩
end Go.Ab
