/- The contracts of the functions, each by its walk (made by a program). -/
import Derived.Test.YtpedagkdpokpkaaGreatDoorWaV0
namespace Go.Ab
open Go Go.Proofs
set_option maxRecDepth 10000
set_option maxHeartbeats 4000000
set_option linter.unusedVariables false
instance {a0:List Ak}:OK (Ml a0) fun r=>Aw Tryz.prog 317 [(Ao 3 Cn) a0] ((Ao 3 Cn) r):=⟨fun {r} h=>by
 refine pw {T:=Cg,an:=(fun _=>.ask),nl:=(fun s=>bif Nat.beq s 2 then [(0,3)] else [])} Tryz.func317 ?_
 refine Z ?_
 refine Bb h (fun v3=>[(3,(O .i64 v3))]) (fun v3=>[]) ?_
 rintro v3 _ _ _ h _ _
 refine Z ?_
 refine F1 h (fun _ h=>?_) (fun _ h=>?_)
 refine Z ?_
 refine Ca h (fun _ _ _ _ h=>?_)
 refine Z ?_
 refine Bl h (fun _ h=>?_)
 refine Z ?_
 refine Ap h (fun _ h=>?_) (fun _ h=>?_)
 exact Y
 replace h:=Cs h
 refine Z ?_
 refine Sh (f:=Cn) (z:=((Ak.mk false [] []):Ak)) (by repeat (first | exact Fs.nil | apply Fs.sl | apply Fs.same)) h (fun o7 h=>?_)
 refine Z ?_
 refine Er h (fun (v12,o13)=>[(25,(O .i64 v12))]) (fun (v12,o13)=>[(0,.rows 50 3 (List.map Cn o13))]) (fun (v12,o13)=>o7.length=o13.length) ?_
 rintro ⟨v12,o13⟩ _ _ _ h _ _ q13
 exact Y
 replace h:=Cs h
 refine Z ?_
 refine Sh (f:=Cn) (z:=((Ak.mk false [] []):Ak)) (by repeat (first | exact Fs.nil | apply Fs.sl | apply Fs.same)) h (fun o7 h=>?_)
 refine Z ?_
 refine Er h (fun (v12,o13)=>[(25,(O .i64 v12))]) (fun (v12,o13)=>[(0,.rows 50 3 (List.map Cn o13))]) (fun (v12,o13)=>o7.length=o13.length) ?_
 rintro ⟨v12,o13⟩ _ _ _ h _ _ q13
 exact Y⟩
instance {a0 a1 b0:Ak}:OK (Wi a0 a1 b0) fun r=>Bp Tryz.prog 320 [Cn a0,Cn a1,(.loc 0 0)] [.cells 50 [(As b0.Neg),(.sl 1 (List.map (O .u32) b0.Num)),(.sl 1 (List.map (O .u32) b0.Den))]] (Cn r) [.cells 50 [(As b0.Neg),(.sl 1 (List.map (O .u32) b0.Num)),(.sl 1 (List.map (O .u32) b0.Den))]]:=⟨fun {r} h=>by
 refine aw C0 true Tryz.func320 ?_
 exact Y⟩
instance {a0 a1:List Ak} {b0:Ak}:OK (Qs a0 a1 b0) fun r=>Bp Tryz.prog 318 [(Ao 3 Cn) a0,(Ao 3 Cn) a1,(.fn 320 [(.loc 0 0)])] [.cells 50 [(As b0.Neg),(.sl 1 (List.map (O .u32) b0.Num)),(.sl 1 (List.map (O .u32) b0.Den))]] ((Ao 3 Cn) r) [.cells 50 [(As b0.Neg),(.sl 1 (List.map (O .u32) b0.Num)),(.sl 1 (List.map (O .u32) b0.Den))]]:=⟨fun {r} h=>by
 refine aw {T:=Cg,an:=(fun _=>.ask),nl:=(fun s=>bif Nat.beq s 6 then [(0,3)] else [])} true Tryz.func318 ?_
 refine Z ?_
 refine Sh (f:=Cn) (z:=((Ak.mk false [] []):Ak)) (by repeat (first | exact Fs.nil | apply Fs.sl | apply Fs.same)) h (fun o1 h=>?_)
 refine Z ?_
 refine Er h (fun (v15,o16)=>[(19,(O .i64 v15))]) (fun (v15,o16)=>[(1,.rows 50 3 (List.map Cn o16))]) (fun (v15,o16)=>o1.length=o16.length) ?_
 rintro ⟨v15,o16⟩ _ _ _ h _ _ q16
 refine Z ?_
 refine Ap h (fun _ h=>?_) (fun _ h=>?_)
 refine ZS ?_
 refine Cm ?_
 refine ZS ?_
 refine Cm ?_
 refine ZO ?_
 refine Ay (Ay ?_)
 refine Dw [.nil 9 1 1,.nil 9 2 1,.nil 10 1 1,.nil 10 2 1] ?_
 refine ZS ?_
 refine Cm ?_
 refine ZO ?_
 refine Cq h (fun (v20,v21,v22)=>[]) (fun (v20,v21,v22)=>[(2,.cells 50 [(As v20),(.sl 1 (List.map (O .u32) v21)),(.sl 1 (List.map (O .u32) v22))])]) ?_ ?_
 intro _ h _ _ _
 exact Y
 rintro ⟨v20,v21,v22⟩ _ h
 refine ZS ?_
 refine Cm ?_
 refine ZO ?_
 refine Cq h (fun (v24,v25,v26)=>[]) (fun (v24,v25,v26)=>[(3,.cells 50 [(As v24),(.sl 1 (List.map (O .u32) v25)),(.sl 1 (List.map (O .u32) v26))])]) ?_ ?_
 intro _ h _ _ _
 exact Y
 rintro ⟨v24,v25,v26⟩ _ h
 refine Z ?_
 refine A7 [0] h (fun _ h=>?_)
 exact Y
 exact Y⟩
instance {a0 a1:Int}:OK (Z7 a0 a1) fun r=>Aw Tryz.prog 316 [(O .i64) a0,(O .i64) a1] (Cn r):=⟨fun {r} h=>by
 refine pw C0 Tryz.func316 ?_
 refine Z ?_
 refine Bl h (fun _ h=>?_)
 refine Z ?_
 refine Bb h (fun (v7,v8,v9,v10)=>[(9,(O .i64 v7))]) (fun (v7,v8,v9,v10)=>[(1,.cells 50 [(As v8),(.sl 1 (List.map (O .u32) v9)),(.sl 1 (List.map (O .u32) v10))])]) ?_
 rintro ⟨v7,v8,v9,v10⟩ _ _ _ h _ _
 exact Y⟩
instance {a0:Int}:OK (Wn a0) fun r=>Bp Tryz.prog 356 [(O .i64) a0] [] (.arr 0 r.length 0 r.length) [.rows 50 3 (List.map Cn r)]:=⟨fun {r} h=>by
 refine aw {T:=Cg,an:=(fun _=>.ask),nl:=(fun s=>bif Nat.beq s 2 then [(0,3)] else [])} false Tryz.func356 ?_
 refine Z ?_
 refine Sh (f:=Cn) (z:=((Ak.mk false [] []):Ak)) (by repeat (first | exact Fs.nil | apply Fs.sl | apply Fs.same)) h (fun o1 h=>?_)
 refine Z ?_
 refine Er h (fun (v5,o6)=>[(9,(O .i64 v5))]) (fun (v5,o6)=>[(0,.rows 50 3 (List.map Cn o6))]) (fun (v5,o6)=>o1.length=o6.length) ?_
 rintro ⟨v5,o6⟩ _ _ _ h _ _ q6
 refine Z ?_
 refine Ap h (fun _ h=>?_) (fun _ h=>?_)
 exact Y
 replace h:=Cs h
 refine Z ?_
 cases h
 exact ⟨congrArg (fun q_=>AV.arr 0 q_ 0 q_) q6,rfl,trivial⟩⟩
instance {a0 a1:Int}:OK (Tj a0 a1) fun r=>Aw Tryz.prog 319 [(O .i64) a0,(O .i64) a1] ((Ao 3 Cn) r):=⟨fun {r} h=>by
 refine pw {T:=Cg,an:=(fun _=>.ask),nl:=(fun s=>bif Nat.beq s 4 then [(0,3)] else [])} Tryz.func319 ?_
 refine Z ?_
 refine A7 [] h (fun v1 h=>?_)
 refine Z ?_
 refine Er h (fun (v7,o8)=>[(6,(O .i64 v7))]) (fun (v7,o8)=>[(0,.rows 50 3 (List.map Cn o8))]) (fun (v7,o8)=>v1.length=o8.length) ?_
 rintro ⟨v7,o8⟩ _ _ _ h _ _ q8
 exact Y⟩
instance {a0 a1:List Ak}:OK (Wc a0 a1) fun r=>Aw Tryz.prog 279 [(Ao 3 Cn) a0,(Ao 3 Cn) a1] (.tup [(Ao 3 Cn) r.1,As r.2]):=⟨fun {r} h=>by
 refine pw {T:=Cg,an:=(fun _=>.ask),nl:=(fun s=>bif Nat.beq s 6 then [(0,3)] else bif Nat.beq s 4 then [(0,3)] else [])} Tryz.func279 ?_
 refine ZS ?_
 refine Cm ?_
 refine ZO ?_
 refine Ay (Ay ?_)
 refine Cq h (fun v1=>[(19,(As v1))]) (fun v1=>[]) ?_ ?_
 intro _ h _ _ _
 exact Y
 rintro v1 _ h
 refine Ap h (fun _ h=>?_) (fun _ h=>?_)
 exact Y
 refine Z ?_
 refine Bl h (fun _ h=>?_)
 refine Z ?_
 refine Bl h (fun _ h=>?_)
 refine ZO ?_
 refine Ay (Ay ?_)
 refine Cq h (fun v4=>[(31,(As v4))]) (fun v4=>[]) ?_ ?_
 intro _ h _ _ _
 exact Y
 rintro v4 _ h
 refine Ap h (fun _ h=>?_) (fun _ h=>?_)
 exact Y
 refine Z ?_
 refine Ap h (fun _ h=>?_) (fun _ h=>?_)
 exact Y
 refine Z ?_
 refine Bb h (fun (v25,v26)=>[(6,(.sl 3 (List.map Cn v25))),(40,(O .i64 v26))]) (fun (v25,v26)=>[]) ?_
 rintro ⟨v25,v26⟩ _ _ _ h _ _
 refine Z ?_
 refine Ap h (fun _ h=>?_) (fun _ h=>?_)
 refine Z ?_
 refine Ca h (fun _ _ _ _ h=>?_)
 refine Z ?_
 refine Bb h (fun (v36,v37)=>[(6,(.sl 3 (List.map Cn v36))),(47,(O .i64 v37))]) (fun (v36,v37)=>[]) ?_
 rintro ⟨v36,v37⟩ _ _ _ h _ _
 refine Z ?_
 refine Ap h (fun _ h=>?_) (fun _ h=>?_)
 refine Z ?_
 refine Ca h (fun _ _ _ _ h=>?_)
 refine Z ?_
 refine Bl h (fun _ h=>?_)
 refine Z ?_
 refine Bl h (fun _ h=>?_)
 refine Z ?_
 refine Ap h (fun _ h=>?_) (fun _ h=>?_)
 exact Y
 refine Z ?_
 refine Bl h (fun _ h=>?_)
 refine Z ?_
 refine A7 [2] h (fun _ h=>?_)
 exact Y
 exact Y
 exact Y⟩
theorem Avq {a0:List A6} {r:(List Ak)} (h:Z8 a0=some r):Aw Tryz.prog 232 [(Ao 3 Ed) a0] ((Ao 3 Cn) r):=by
 refine pw {T:=Cg,an:=(fun s=>bif Nat.beq s 10 then .own else .ask),nl:=(fun s=>bif Nat.beq s 2 then [(0,3)] else [])} Tryz.func232 ?_
 refine Z ?_
 refine Bl h (fun _ h=>?_)
 refine Z ?_
 refine Er h (fun (v14,o15)=>[(3,(.arr 0 1 0 1)),(13,(O .i64 v14))]) (fun (v14,o15)=>[(0,.rows 50 3 (List.map Cn o15))]) (fun (v14,o15)=>1=o15.length) ?_
 rintro ⟨v14,o15⟩ _ _ _ h _ _ q15
 refine Z ?_
 refine Ap h (fun _ h=>?_) (fun _ h=>?_)
 refine Z ?_
 refine Ca h (fun _ _ _ _ h=>?_)
 refine Z ?_
 refine Ap h (fun _ h=>?_) (fun _ h=>?_)
 exact Y
 refine Z ?_
 refine Sh (f:=Cn) (z:=((Ak.mk false [] []):Ak)) (by repeat (first | exact Fs.nil | apply Fs.sl | apply Fs.same)) h (fun o23 h=>?_)
 exact Y
 exact Y
theorem Avr {a0:List A6} {r:(List Ak)} (h:Z9 a0=some r):Aw Tryz.prog 232 [(Ao 3 Ed) a0] ((Ao 3 Cn) r):=by
 refine pw {T:=Cg,an:=(fun _=>.ask),nl:=(fun s=>bif Nat.beq s 2 then [(0,3)] else [])} Tryz.func232 ?_
 refine Z ?_
 refine Bl h (fun _ h=>?_)
 refine Z ?_
 refine Bb h (fun (v9,v10)=>[(3,(.sl 3 (List.map Cn v9))),(13,(O .i64 v10))]) (fun (v9,v10)=>[]) ?_
 rintro ⟨v9,v10⟩ _ _ _ h _ _
 refine Z ?_
 refine Ap h (fun _ h=>?_) (fun _ h=>?_)
 refine Z ?_
 refine Ca h (fun _ v11 _ _ h=>?_)
 refine Z ?_
 refine Ap h (fun _ h=>?_) (fun _ h=>?_)
 exact Y
 refine Z ?_
 refine Sh (f:=Cn) (z:=((Ak.mk false [] []):Ak)) (by repeat (first | exact Fs.nil | apply Fs.sl | apply Fs.same)) h (fun o13 h=>?_)
 refine Z ?_
 refine Bl h (fun v15 h=>?_)
 refine Z ?_
 refine Ja h (fun _ _ hiv16 _ h=>?_)
 refine Z ?_
 refine Mb (f:=Cn) (x:=v15) (j:=v11.Deg) rfl rfl (Nat.zero_add _) hiv16 ?_
 refine ZO ?_
 refine Dw [.fz 8] ?_
 exact Y
 exact Y
instance {a0:List A6}:OK (Ln a0) fun r=>Aw Tryz.prog 232 [(Ao 3 Ed) a0] ((Ao 3 Cn) r):=⟨fun {r} h=>by
 unfold Ln at h
 cases hv:Aaa a0 with
 | true=>rw [hv] at h; exact Avq h
 | false=>rw [hv] at h; exact Avr h⟩
instance {a0:Int} {a1:Bs} {b1:List (ByteArray×Int)} {b2:List (ByteArray×(List B4))} {b0_0:List A9} {b0_1:List Aj} {b0_2 b0_3:Int} {b0_4:List Aj}:OK (Om a0 a1 b1 b2 b0_0 b0_1 b0_2 b0_3 b0_4) fun r=>Bp Tryz.prog 228 [(.loc 0 0),(O .i64) a0,Gk a1] [.cells 136 [(.sl 3 (List.map C2 b0_0)),(.sl 3 (Bo b0_1)),(O .i64 b0_2),(O .i64 b0_3),(.sl 3 (Bo b0_4)),(.mp 1),(.mp 2)],.map (Bi (O .i64) b1),.map (Bi (Ao 5 Df) b2)] ((Ao 3 Ec) r.1) [.cells 136 [(.sl 3 (List.map C2 b0_0)),(.sl 3 (Bo b0_1)),(O .i64 b0_2),(O .i64 b0_3),(.sl 3 (Bo b0_4)),(.mp 1),(.mp 2)],.map (Bi (O .i64) r.2),.map (Bi (Ao 5 Df) b2)]:=⟨fun {r} h=>by
 refine aw {T:=Cg,an:=(fun _=>.ask),nl:=(fun s=>bif Nat.beq s 6 then [(0,3)] else [])} true Tryz.func228 ?_
 refine Z ?_
 refine A7 [0,1,2] h (fun _ h=>?_)
 exact Y⟩
instance {b0_0:ByteArray}:OK (Aed b0_0) fun r=>Bp Tryz.prog 131 [(.loc 0 0)] [.cells 178 [(.loc 0 0),(.fb b0_0)]] (E5 r) [.cells 178 [(.loc 0 0),(.fb b0_0)]]:=⟨fun {r} h=>by
 exact Aj5 h⟩
instance {b0_0:ByteArray}:OK (Ajw b0_0) fun r=>Bp Tryz.prog 131 [(.loc 0 0)] [.cells 178 [(.val (.pointer none)),(.fb b0_0)]] (E5 r) [.cells 178 [(.val (.pointer none)),(.fb b0_0)]]:=⟨fun {r} h=>by
 exact Aj5 h⟩
instance {a0:List Bz} {b1:List (ByteArray×Int)} {b2:List (ByteArray×(List B4))} {b0_0:List A9} {b0_1:List Aj} {b0_2 b0_3:Int} {b0_4:List Aj}:OK (Tb a0 b1 b2 b0_0 b0_1 b0_2 b0_3 b0_4) fun r=>Bp Tryz.prog 226 [(.loc 0 0),(Ao 3 Ec) a0] [.cells 136 [(.sl 3 (List.map C2 b0_0)),(.sl 3 (Bo b0_1)),(O .i64 b0_2),(O .i64 b0_3),(.sl 3 (Bo b0_4)),(.mp 1),(.mp 2)],.map (Bi (O .i64) b1),.map (Bi (Ao 5 Df) b2)] (.tup [(Ao 5 Df) r.1,(O .i64) r.2.1]) [.cells 136 [(.sl 3 (List.map C2 b0_0)),(.sl 3 (Bo b0_1)),(O .i64 b0_2),(O .i64 b0_3),(.sl 3 (Bo b0_4)),(.mp 1),(.mp 2)],.map (Bi (O .i64) b1),.map (Bi (Ao 5 Df) r.2.2)]:=⟨fun {r} h=>by
 refine aw {T:=Cg,an:=(fun _=>.ask),nl:=(fun s=>bif Nat.beq s 9 then [(0,5)] else bif Nat.beq s 4 then [(0,5)] else [])} true Tryz.func226 ?_
 refine ZS ?_
 refine Cm ?_
 refine ZS ?_
 refine Cm ?_
 refine ZO ?_
 refine Ay (Ay ?_)
 refine Dw [.own 6 1 5 1] ?_
 refine Z ?_
 refine Sj ?_
 refine Z ?_
 refine Ap h (fun _ h=>?_) (fun _ h=>?_)
 refine Z ?_
 refine Ca h (fun _ _ _ _ h=>?_)
 refine Z ?_
 refine Bl h (fun _ h=>?_)
 refine Z ?_
 refine A7 [3,4] h (fun _ h=>?_)
 refine Z ?_
 refine Bb h (fun (v17,o18)=>[(18,(O .i64 v17))]) (fun (v17,o18)=>[(3,.cells 178 [(.loc 3 0),(.arr 4 o18.length 0 o18.length)]),(4,.rows 5 1 (List.map (O .u8) o18))]) ?_
 rintro ⟨v17,o18⟩ _ _ _ h _ _
 refine Z ?_
 refine Ap h (fun _ h=>?_) (fun _ h=>?_)
 refine Z ?_
 refine Ca h (fun _ _ _ _ h=>?_)
 refine Z ?_
 refine Bl h (fun _ h=>?_)
 refine Z ?_
 refine A7 [3,4] h (fun _ h=>?_)
 exact Y
 replace h:=Cs h
 refine F6 (F5 rfl (Ay (Ay ?_)))
 refine Cq h (fun (v25,v26,v27)=>[(9,(.sl 5 (List.map Df v25))),(10,(As v26))]) (fun (v25,v26,v27)=>[(3,.cells 178 [(.loc 3 0),(.fb v27)]),(4,.dead)]) ?_ ?_
 intro _ h _ _ _
 refine Z ?_
 refine A7 [3,4] h (fun _ h=>?_)
 refine Z ?_
 refine Si (f:=(Ao 5 Df)) (l:=b2) rfl ([]:(List B4)) h (fun j_ hb h=>?_) (fun hb h=>?_)
 exact Y
 exact Y
 rintro ⟨v25,v26,v27⟩ _ h
 refine Z ?_
 refine Ap h (fun _ h=>?_) (fun _ h=>?_)
 exact Y
 refine Z ?_
 refine Ca h (fun _ _ _ _ h=>?_)
 refine Z ?_
 refine A7 [0,1,2] h (fun _ h=>?_)
 refine Z ?_
 refine Ca h (fun _ v31 _ _ h=>?_)
 refine Z ?_
 refine Bl h (fun v32 h=>?_)
 refine Z ?_
 refine Aab h (fun _ h=>?_)
 refine Z ?_
 refine Bb h (fun _=>[(4,(.sl 5 (List.map Df []))),(5,(O .i64 0)),(12,(.sl 5 (List.map Df [(B4.mk v31.Index v32)]))),(56,(O .i64 0))]) (fun _=>[]) ?_
 rintro _ _ _ _ h _ _
 refine Z ?_
 refine Ap h (fun _ h=>?_) (fun _ h=>?_)
 exact Y
 replace h:=Cs h
 refine Z ?_
 refine A7 [3] h (fun _ h=>?_)
 refine Z ?_
 refine Px (f:=(Ao 5 Df)) (l:=b2) (x:=[(B4.mk v31.Index v32)]) rfl rfl ?_
 exact Y
 refine F6 (F5 rfl (Ay (Ay ?_)))
 refine Cq h (fun (v39,v40,v41)=>[(9,(.sl 5 (List.map Df v39))),(10,(As v40))]) (fun (v39,v40,v41)=>[(3,.cells 178 [(.val (.pointer none)),(.fb v41)]),(4,.dead)]) ?_ ?_
 intro _ h _ _ _
 refine Z ?_
 refine A7 [3,4] h (fun _ h=>?_)
 refine Z ?_
 refine Si (f:=(Ao 5 Df)) (l:=b2) rfl ([]:(List B4)) h (fun j_ hb h=>?_) (fun hb h=>?_)
 exact Y
 exact Y
 rintro ⟨v39,v40,v41⟩ _ h
 refine Z ?_
 refine Ap h (fun _ h=>?_) (fun _ h=>?_)
 exact Y
 refine Z ?_
 refine Ca h (fun _ _ _ _ h=>?_)
 refine Z ?_
 refine A7 [0,1,2] h (fun _ h=>?_)
 refine Z ?_
 refine Ca h (fun _ v45 _ _ h=>?_)
 refine Z ?_
 refine Bl h (fun v46 h=>?_)
 refine Z ?_
 refine Aab h (fun _ h=>?_)
 refine Z ?_
 refine Bb h (fun _=>[(4,(.sl 5 (List.map Df []))),(5,(O .i64 0)),(12,(.sl 5 (List.map Df [(B4.mk v45.Index v46)]))),(56,(O .i64 0))]) (fun _=>[]) ?_
 rintro _ _ _ _ h _ _
 refine Z ?_
 refine Ap h (fun _ h=>?_) (fun _ h=>?_)
 exact Y
 replace h:=Cs h
 refine Z ?_
 refine A7 [3] h (fun _ h=>?_)
 refine Z ?_
 refine Px (f:=(Ao 5 Df)) (l:=b2) (x:=[(B4.mk v45.Index v46)]) rfl rfl ?_
 exact Y⟩
instance {a0:Int}:OK (Zz a0) fun r=>Bp Tryz.prog 281 [(.val (.slice none 0 0)),(O .i64) a0] [] (.arr 0 r.length 0 r.length) [.rows 73 3 (List.map Ed r)]:=⟨fun {r} h=>by
 exact Avg h⟩
instance {a0:List (List A6)}:OK (Zs a0) fun r=>Aw Tryz.prog 235 [(Ao 1 (Ao 3 Ed)) a0] ((Ao 3 Ed) r):=⟨fun {r} h=>by
 refine pw {T:=Cg,an:=(fun _=>.ask),nl:=(fun s=>bif Nat.beq s 2 then [(0,3)] else [])} Tryz.func235 ?_
 refine Z ?_
 refine Bb h (fun (v2,v3)=>[(3,(O .i64 v2)),(11,(O .i64 v3))]) (fun (v2,v3)=>[]) ?_
 rintro ⟨v2,v3⟩ _ _ _ h _ _
 refine Z ?_
 refine Ap h (fun _ h=>?_) (fun _ h=>?_)
 exact Y
 replace h:=Cs h
 refine Z ?_
 refine A7 [] h (fun _ h=>?_)
 refine Z ?_
 refine Bb h (fun (v14,o15)=>[(6,(.arr 0 o15.length 0 o15.length)),(27,(O .i64 v14))]) (fun (v14,o15)=>[(0,.rows 73 3 (List.map Ed o15))]) ?_
 rintro ⟨v14,o15⟩ _ _ _ h _ _
 exact Y⟩
instance {a0:Int}:OK (Zy a0) fun r=>Bp Tryz.prog 280 [(.val (.slice none 0 0)),(O .i64) a0] [] (.arr 0 r.length 0 r.length) [.rows 113 3 (List.map Ec r)]:=⟨fun {r} h=>by
 exact Avd h⟩
instance {a0:List (List Bz)}:OK (Zr a0) fun r=>Aw Tryz.prog 234 [(Ao 1 (Ao 3 Ec)) a0] ((Ao 3 Ec) r):=⟨fun {r} h=>by
 refine pw {T:=Cg,an:=(fun _=>.ask),nl:=(fun s=>bif Nat.beq s 2 then [(0,3)] else [])} Tryz.func234 ?_
 refine Z ?_
 refine Bb h (fun (v2,v3)=>[(3,(O .i64 v2)),(11,(O .i64 v3))]) (fun (v2,v3)=>[]) ?_
 rintro ⟨v2,v3⟩ _ _ _ h _ _
 refine Z ?_
 refine Ap h (fun _ h=>?_) (fun _ h=>?_)
 exact Y
 replace h:=Cs h
 refine Z ?_
 refine A7 [] h (fun _ h=>?_)
 refine Z ?_
 refine Bb h (fun (v14,o15)=>[(6,(.arr 0 o15.length 0 o15.length)),(27,(O .i64 v14))]) (fun (v14,o15)=>[(0,.rows 113 3 (List.map Ec o15))]) ?_
 rintro ⟨v14,o15⟩ _ _ _ h _ _
 exact Y⟩
instance {a0 a1:Ba}:OK (Mk a0 a1) fun r=>Aw Tryz.prog 167 [Gl a0,Gl a1] (Gl r):=⟨fun {r} h=>by
 refine pw C0 Tryz.func167 ?_
 exact Y⟩
instance {a0:Ah} {a1:Ak} {a2:Ba}:OK (I8 a0 a1 a2) fun r=>Aw Tryz.prog 227 [Bn a0,Cn a1,Gl a2] (Bn r):=⟨fun {r} h=>by
 refine pw C0 Tryz.func227 ?_
 exact Y⟩
instance {a0:List A6}:OK (On a0) fun r=>Bp Tryz.prog 229 [(Ao 3 Ed) a0] [] (.arr 1 r.2.length 0 r.2.length) [.rows 73 3 (List.map Ed r.1),.rows 73 3 (List.map Ed r.2)]:=⟨fun {r} h=>by
 exact Auu h⟩
instance {a0:List Bz}:OK (Qi a0) fun r=>Bp Tryz.prog 223 [(Ao 3 Ec) a0] [] (.arr 1 r.2.length 0 r.2.length) [.rows 113 3 (List.map Ec r.1),.rows 113 3 (List.map Ec r.2)]:=⟨fun {r} h=>by
 exact Aut h⟩
instance {a0 a1:A6}:OK (Td a0 a1) fun r=>Aw Tryz.prog 231 [Ed a0,Ed a1] ((O .i64) r):=⟨fun {r} h=>by
 refine pw C0 Tryz.func231 ?_
 exact Y⟩
instance {a0 a1:Int} {b0:List A6}:OK (Z1 a0 a1 b0) fun r=>Bp Tryz.prog 314 [(.arr 0 b0.length 0 b0.length),(O .i64) a0,(O .i64) a1,(.fn 231 [])] [.rows 73 3 (List.map Ed b0)] (.tup []) [.rows 73 3 (List.map Ed r)]:=⟨fun {r} h=>by
 refine aw C0 true Tryz.func314 ?_
 refine Z ?_
 refine Er h (fun (v21,o22)=>[(8,(O .i64 v21))]) (fun (v21,o22)=>[(0,.rows 73 3 (List.map Ed o22))]) (fun (v21,o22)=>b0.length=o22.length) ?_
 rintro ⟨v21,o22⟩ _ _ _ h _ _ q22
 refine Z ?_
 refine Ap h (fun _ h=>?_) (fun _ h=>?_)
 refine Z ?_
 refine Er h (fun (v31,o32)=>[(9,(O .i64 v31))]) (fun (v31,o32)=>[(0,.rows 73 3 (List.map Ed o32))]) (fun (v31,o32)=>b0.length=o32.length) ?_
 rintro ⟨v31,o32⟩ _ _ _ h _ _ q32
 refine Ay (Ay ?_)
 refine Cq h (fun v36=>[(34,(As v36))]) (fun v36=>[]) ?_ ?_
 intro _ h _ _ _
 exact Y
 rintro v36 _ h
 exact Y
 exact Y⟩
instance {a0:Int} {b0:List A6}:OK (Zx a0 b0) fun r=>Bp Tryz.prog 277 [(.arr 0 b0.length 0 b0.length),(O .i64) a0,(.fn 231 [])] [.rows 73 3 (List.map Ed b0)] (.tup []) [.rows 73 3 (List.map Ed r)]:=⟨fun {r} h=>by
 refine aw C0 true Tryz.func277 ?_
 refine Z ?_
 refine Er h (fun (v3,v4,o5)=>[(7,(O .i64 v3)),(8,(O .i64 v4))]) (fun (v3,v4,o5)=>[(0,.rows 73 3 (List.map Ed o5))]) (fun (v3,v4,o5)=>b0.length=o5.length) ?_
 rintro ⟨v3,v4,o5⟩ _ _ _ h _ hn1 q5
 refine Z ?_
 refine Ap h (fun _ h=>?_) (fun _ h=>?_)
 refine Z ?_
 refine C5 h (fun v6 hcv6 h=>?_)
 have okv6:=(OK.ok hcv6 :)
 rw [<-q5] at okv6
 refine Fh.act [0] _ _ _ _ okv6 rfl rfl ⟨rfl,trivial⟩ ?_
 refine C5 h (fun v7 hgv7 h=>?_)
 refine Z ?_
 exact hn1 _ _ _ _ (Option.some.inj h) ⟨rfl,rfl,trivial⟩ ⟨⟨rfl,rfl⟩,trivial⟩ (Ic hgv7)
 replace h:=Cs h
 refine Z ?_
 refine C5 h (fun v11 hcv11 h=>?_)
 have okv11:=(OK.ok hcv11 :)
 rw [<-q5] at okv11
 refine Fh.act [0] _ _ _ _ okv11 rfl rfl ⟨rfl,trivial⟩ ?_
 refine C5 h (fun v12 hgv12 h=>?_)
 refine Z ?_
 refine Bb h (fun (v13,v14,v15)=>[(6,(O .i64 v13)),(7,(O .i64 v14)),(8,(O .i64 v15))]) (fun (v13,v14,v15)=>[]) ?_
 rintro ⟨v13,v14,v15⟩ _ _ _ h _ _
 refine Z ?_
 refine Ap h (fun _ h=>?_) (fun _ h=>?_)
 refine Z ?_
 refine Bb h (fun _=>[(7,(O .i64 0)),(8,(O .i64 (Ac (2*v13))))]) (fun _=>[]) ?_
 rintro _ _ _ _ h _ _
 exact Y
 exact Y⟩
instance {b0:List A6}:OK (Tc b0) fun r=>Bp Tryz.prog 230 [(.arr 0 b0.length 0 b0.length),(.fn 231 [])] [.rows 73 3 (List.map Ed b0)] (.tup []) [.rows 73 3 (List.map Ed r)]:=⟨fun {r} h=>by
 refine aw C0 true Tryz.func230 ?_
 refine Z ?_
 refine A7 [0] h (fun _ h=>?_)
 refine C5 h (fun v2 hgv2 h=>?_)
 exact Y⟩
instance {a0 a1:Bz}:OK (Ol a0 a1) fun r=>Aw Tryz.prog 225 [Ec a0,Ec a1] ((O .i64) r):=⟨fun {r} h=>by
 refine pw C0 Tryz.func225 ?_
 exact Y⟩
instance {a0 a1:Int} {b0:List Bz}:OK (Z0 a0 a1 b0) fun r=>Bp Tryz.prog 304 [(.arr 0 b0.length 0 b0.length),(O .i64) a0,(O .i64) a1,(.fn 225 [])] [.rows 113 3 (List.map Ec b0)] (.tup []) [.rows 113 3 (List.map Ec r)]:=⟨fun {r} h=>by
 refine aw C0 true Tryz.func304 ?_
 refine Z ?_
 refine Er h (fun (v21,o22)=>[(8,(O .i64 v21))]) (fun (v21,o22)=>[(0,.rows 113 3 (List.map Ec o22))]) (fun (v21,o22)=>b0.length=o22.length) ?_
 rintro ⟨v21,o22⟩ _ _ _ h _ _ q22
 refine Z ?_
 refine Ap h (fun _ h=>?_) (fun _ h=>?_)
 refine Z ?_
 refine Er h (fun (v31,o32)=>[(9,(O .i64 v31))]) (fun (v31,o32)=>[(0,.rows 113 3 (List.map Ec o32))]) (fun (v31,o32)=>b0.length=o32.length) ?_
 rintro ⟨v31,o32⟩ _ _ _ h _ _ q32
 refine Ay (Ay ?_)
 refine Cq h (fun v36=>[(34,(As v36))]) (fun v36=>[]) ?_ ?_
 intro _ h _ _ _
 exact Y
 rintro v36 _ h
 exact Y
 exact Y⟩
instance {a0:Int} {b0:List Bz}:OK (Wb a0 b0) fun r=>Bp Tryz.prog 275 [(.arr 0 b0.length 0 b0.length),(O .i64) a0,(.fn 225 [])] [.rows 113 3 (List.map Ec b0)] (.tup []) [.rows 113 3 (List.map Ec r)]:=⟨fun {r} h=>by
 refine aw C0 true Tryz.func275 ?_
 refine Z ?_
 refine Er h (fun (v3,v4,o5)=>[(7,(O .i64 v3)),(8,(O .i64 v4))]) (fun (v3,v4,o5)=>[(0,.rows 113 3 (List.map Ec o5))]) (fun (v3,v4,o5)=>b0.length=o5.length) ?_
 rintro ⟨v3,v4,o5⟩ _ _ _ h _ hn1 q5
 refine Z ?_
 refine Ap h (fun _ h=>?_) (fun _ h=>?_)
 refine Z ?_
 refine C5 h (fun v6 hcv6 h=>?_)
 have okv6:=(OK.ok hcv6 :)
 rw [<-q5] at okv6
 refine Fh.act [0] _ _ _ _ okv6 rfl rfl ⟨rfl,trivial⟩ ?_
 refine C5 h (fun v7 hgv7 h=>?_)
 refine Z ?_
 exact hn1 _ _ _ _ (Option.some.inj h) ⟨rfl,rfl,trivial⟩ ⟨⟨rfl,rfl⟩,trivial⟩ (Ic hgv7)
 replace h:=Cs h
 refine Z ?_
 refine C5 h (fun v11 hcv11 h=>?_)
 have okv11:=(OK.ok hcv11 :)
 rw [<-q5] at okv11
 refine Fh.act [0] _ _ _ _ okv11 rfl rfl ⟨rfl,trivial⟩ ?_
 refine C5 h (fun v12 hgv12 h=>?_)
 refine Z ?_
 refine Bb h (fun (v13,v14,v15)=>[(6,(O .i64 v13)),(7,(O .i64 v14)),(8,(O .i64 v15))]) (fun (v13,v14,v15)=>[]) ?_
 rintro ⟨v13,v14,v15⟩ _ _ _ h _ _
 refine Z ?_
 refine Ap h (fun _ h=>?_) (fun _ h=>?_)
 refine Z ?_
 refine Bb h (fun _=>[(7,(O .i64 0)),(8,(O .i64 (Ac (2*v13))))]) (fun _=>[]) ?_
 rintro _ _ _ _ h _ _
 exact Y
 exact Y⟩
instance {b0:List Bz}:OK (Ok b0) fun r=>Bp Tryz.prog 224 [(.arr 0 b0.length 0 b0.length),(.fn 225 [])] [.rows 113 3 (List.map Ec b0)] (.tup []) [.rows 113 3 (List.map Ec r)]:=⟨fun {r} h=>by
 refine aw C0 true Tryz.func224 ?_
 refine Z ?_
 refine A7 [0] h (fun _ h=>?_)
 refine C5 h (fun v2 hgv2 h=>?_)
 exact Y⟩
instance {a0:Ak} {a1:Ba} {b1:List (ByteArray×Int)} {b2:List (ByteArray×(List B4))} {b0_0:List A9} {b0_1:List Aj} {b0_2 b0_3:Int} {b0_4:List Aj}:OK (Ni a0 a1 b1 b2 b0_0 b0_1 b0_2 b0_3 b0_4) fun r=>Bp Tryz.prog 166 [(.loc 0 0),Cn a0,Gl a1] [.cells 136 [(.sl 3 (List.map C2 b0_0)),(.sl 3 (Bo b0_1)),(O .i64 b0_2),(O .i64 b0_3),(.sl 3 (Bo b0_4)),(.mp 1),(.mp 2)],.map (Bi (O .i64) b1),.map (Bi (Ao 5 Df) b2)] (.tup [(Ao 5 Bn) r.1,(O .i64) r.2.1]) [.cells 136 [(.sl 3 (List.map C2 b0_0)),(.sl 3 (Bo b0_1)),(O .i64 b0_2),(O .i64 b0_3),(.sl 3 (Bo b0_4)),(.mp 1),(.mp 2)],.map (Bi (O .i64) r.2.2.1),.map (Bi (Ao 5 Df) r.2.2.2)]:=⟨fun {r} h=>by
 refine aw {T:=Cg,an:=(fun s=>bif Nat.beq s 22 then .own else bif Nat.beq s 14 then .own else .ask),nl:=(fun s=>bif Nat.beq s 155 then [(0,3)] else bif Nat.beq s 92 then [(1,3)] else bif Nat.beq s 31 then [(3,3),(4,3)] else bif Nat.beq s 22 then [(0,5)] else bif Nat.beq s 14 then [(0,5)] else bif Nat.beq s 6 then [(0,5)] else [])} true Tryz.func166 ?_
 refine Z ?_
 refine Bl h (fun _ h=>?_)
 refine Z ?_
 refine Ap h (fun _ h=>?_) (fun _ h=>?_)
 exact Y
 refine Z ?_
 refine A7 [] h (fun _ h=>?_)
 refine Z ?_
 refine A7 [6] h (fun _ h=>?_)
 refine C5 h (fun v8 hgv8 h=>?_)
 refine ZO ?_
 refine Ay (Jy ?_)
 refine Dw [.fz 9] ?_
 refine Z ?_
 refine Bb h (fun (v105,v106,o107,o108)=>[(6,(.sl 5 (List.map Bn []))),(7,(O .i64 0)),(8,(.sl 5 (List.map Bn v105))),(9,(.sl 3 (List.map Ec v106)))]) (fun (v105,v106,o107,o108)=>[(1,.map (Bi (O .i64) o107)),(2,.map (Bi (Ao 5 Df) o108))]) ?_
 rintro ⟨v105,v106,o107,o108⟩ _ _ _ h _ _
 refine Z ?_
 refine Ap h (fun _ h=>?_) (fun _ h=>?_)
 refine Z ?_
 refine Ca h (fun _ _ _ _ h=>?_)
 refine Z ?_
 refine Bb h (fun v111=>[(11,(O .i64 v111))]) (fun v111=>[]) ?_
 rintro v111 _ _ _ h _ _
 refine Z ?_
 refine F1 h (fun _ h=>?_) (fun _ h=>?_)
 refine Z ?_
 refine Ca h (fun _ _ _ _ h=>?_)
 refine Z ?_
 refine Ap h (fun _ h=>?_) (fun _ h=>?_)
 exact Y
 replace h:=Cs h
 refine Z ?_
 refine Lp h (fun _ h=>?_)
 refine Z ?_
 refine A7 [0,1,2] h (fun _ h=>?_)
 refine Z ?_
 refine Ap h (fun _ h=>?_) (fun _ h=>?_)
 exact Y
 refine Z ?_
 refine Bb h (fun (v172,o173,o174)=>[(14,(.arr 7 o174.length 0 o174.length)),(73,(O .i64 v172))]) (fun (v172,o173,o174)=>[(1,.map (Bi (O .i64) o173)),(7,.rows 75 5 (List.map Bn o174))]) ?_
 rintro ⟨v172,o173,o174⟩ _ _ _ h _ _
 refine Z ?_
 refine Ap h (fun _ h=>?_) (fun _ h=>?_)
 refine Z ?_
 refine Ca h (fun _ _ _ _ h=>?_)
 refine Z ?_
 refine Bb h (fun (v190,o191,o192)=>[(14,(.arr 7 o192.length 0 o192.length)),(79,(O .i64 v190))]) (fun (v190,o191,o192)=>[(1,.map (Bi (O .i64) o191)),(7,.rows 75 5 (List.map Bn o192))]) ?_
 rintro ⟨v190,o191,o192⟩ _ _ _ h _ _
 refine Z ?_
 refine Ap h (fun _ h=>?_) (fun _ h=>?_)
 refine Z ?_
 refine Ca h (fun _ _ _ _ h=>?_)
 refine Z ?_
 refine A7 [0,1,2] h (fun _ h=>?_)
 exact Y
 exact Y
 replace h:=Cs h
 refine F6 (F5 rfl ?_)
 refine Dw [.fz 14] ?_
 exact Y
 replace h:=Cs h
 refine Z ?_
 refine Lp h (fun _ h=>?_)
 refine Z ?_
 refine A7 [0,1,2] h (fun _ h=>?_)
 refine Z ?_
 refine Ap h (fun _ h=>?_) (fun _ h=>?_)
 exact Y
 refine Z ?_
 refine Bb h (fun (v172,o173,o174)=>[(14,(.arr 7 o174.length 0 o174.length)),(73,(O .i64 v172))]) (fun (v172,o173,o174)=>[(1,.map (Bi (O .i64) o173)),(7,.rows 75 5 (List.map Bn o174))]) ?_
 rintro ⟨v172,o173,o174⟩ _ _ _ h _ _
 refine Z ?_
 refine Ap h (fun _ h=>?_) (fun _ h=>?_)
 refine Z ?_
 refine Ca h (fun _ _ _ _ h=>?_)
 refine Z ?_
 refine Bb h (fun (v190,o191,o192)=>[(14,(.arr 7 o192.length 0 o192.length)),(79,(O .i64 v190))]) (fun (v190,o191,o192)=>[(1,.map (Bi (O .i64) o191)),(7,.rows 75 5 (List.map Bn o192))]) ?_
 rintro ⟨v190,o191,o192⟩ _ _ _ h _ _
 refine Z ?_
 refine Ap h (fun _ h=>?_) (fun _ h=>?_)
 refine Z ?_
 refine Ca h (fun _ _ _ _ h=>?_)
 refine Z ?_
 refine A7 [0,1,2] h (fun _ h=>?_)
 exact Y
 exact Y
 replace h:=Cs h
 refine F6 (F5 rfl ?_)
 refine Dw [.fz 14] ?_
 exact Y
 replace h:=Cs h
 refine Z ?_
 refine A7 [] h (fun _ h=>?_)
 refine Z ?_
 refine A7 [8] h (fun _ h=>?_)
 refine C5 h (fun v216 hgv216 h=>?_)
 refine ZO ?_
 refine Ay (Jy ?_)
 refine Dw [.fz 19] ?_
 refine Z ?_
 refine Bb h (fun (v307,v308)=>[(8,(.sl 5 (List.map Bn v307))),(19,(.sl 3 (List.map Ed v308)))]) (fun (v307,v308)=>[]) ?_
 rintro ⟨v307,v308⟩ _ _ _ h _ _
 refine Z ?_
 refine Ap h (fun _ h=>?_) (fun _ h=>?_)
 refine Z ?_
 refine Ca h (fun _ _ _ _ h=>?_)
 refine Z ?_
 refine Bb h (fun v313=>[(21,(O .i64 v313))]) (fun v313=>[]) ?_
 rintro v313 _ _ _ h _ _
 refine Z ?_
 refine F1 h (fun _ h=>?_) (fun _ h=>?_)
 refine Z ?_
 refine Ca h (fun _ _ _ _ h=>?_)
 refine Z ?_
 refine Bl h (fun _ h=>?_)
 refine Z ?_
 refine Ap h (fun _ h=>?_) (fun _ h=>?_)
 exact Y
 replace h:=Cs h
 refine Z ?_
 refine Lp h (fun _ h=>?_)
 refine Z ?_
 refine Bl h (fun _ h=>?_)
 refine Z ?_
 refine Bb h (fun (v370,o371)=>[(22,(.arr 10 o371.length 0 o371.length)),(135,(O .i64 v370))]) (fun (v370,o371)=>[(10,.rows 75 5 (List.map Bn o371))]) ?_
 rintro ⟨v370,o371⟩ _ _ _ h _ _
 refine Z ?_
 refine Ap h (fun _ h=>?_) (fun _ h=>?_)
 refine Z ?_
 refine Ca h (fun _ _ _ _ h=>?_)
 refine Z ?_
 refine Bl h (fun _ h=>?_)
 refine Z ?_
 refine Ap h (fun _ h=>?_) (fun _ h=>?_)
 exact Y
 refine Z ?_
 refine Bb h (fun (v387,o388)=>[(22,(.arr 10 o388.length 0 o388.length)),(145,(O .i64 v387))]) (fun (v387,o388)=>[(10,.rows 75 5 (List.map Bn o388))]) ?_
 rintro ⟨v387,o388⟩ _ _ _ h _ _
 exact Y
 replace h:=Cs h
 refine F6 (F5 rfl ?_)
 refine Dw [.fz 22] ?_
 exact Y
 replace h:=Cs h
 refine Z ?_
 refine Lp h (fun _ h=>?_)
 refine Z ?_
 refine Bl h (fun _ h=>?_)
 refine Z ?_
 refine Bb h (fun (v370,o371)=>[(22,(.arr 10 o371.length 0 o371.length)),(135,(O .i64 v370))]) (fun (v370,o371)=>[(10,.rows 75 5 (List.map Bn o371))]) ?_
 rintro ⟨v370,o371⟩ _ _ _ h _ _
 refine Z ?_
 refine Ap h (fun _ h=>?_) (fun _ h=>?_)
 refine Z ?_
 refine Ca h (fun _ _ _ _ h=>?_)
 refine Z ?_
 refine Bl h (fun _ h=>?_)
 refine Z ?_
 refine Ap h (fun _ h=>?_) (fun _ h=>?_)
 exact Y
 refine Z ?_
 refine Bb h (fun (v387,o388)=>[(22,(.arr 10 o388.length 0 o388.length)),(145,(O .i64 v387))]) (fun (v387,o388)=>[(10,.rows 75 5 (List.map Bn o388))]) ?_
 rintro ⟨v387,o388⟩ _ _ _ h _ _
 exact Y
 replace h:=Cs h
 refine F6 (F5 rfl ?_)
 refine Dw [.fz 22] ?_
 exact Y
 exact Y⟩
instance {a0:Ba} {b1:List (ByteArray×Int)} {b2:List (ByteArray×(List B4))} {b0_0:List A9} {b0_1:List Aj} {b0_2 b0_3:Int} {b0_4:List Aj}:OK (Vx a0 b1 b2 b0_0 b0_1 b0_2 b0_3 b0_4) fun r=>Bp Tryz.prog 146 [(.loc 0 0),Gl a0] [.cells 136 [(.sl 3 (List.map C2 b0_0)),(.sl 3 (Bo b0_1)),(O .i64 b0_2),(O .i64 b0_3),(.sl 3 (Bo b0_4)),(.mp 1),(.mp 2)],.map (Bi (O .i64) b1),.map (Bi (Ao 5 Df) b2)] (.tup [(Ao 5 Bn) r.1,(O .i64) r.2.1]) [.cells 136 [(.sl 3 (List.map C2 b0_0)),(.sl 3 (Bo b0_1)),(O .i64 b0_2),(O .i64 b0_3),(.sl 3 (Bo b0_4)),(.mp 1),(.mp 2)],.map (Bi (O .i64) r.2.2.1),.map (Bi (Ao 5 Df) r.2.2.2)]:=⟨fun {r} h=>by
 refine aw {T:=Cg,an:=(fun _=>.ask),nl:=(fun s=>bif Nat.beq s 4 then [(0,5)] else [])} true Tryz.func146 ?_
 refine Z ?_
 refine Bl h (fun _ h=>?_)
 refine Z ?_
 refine A7 [0,1,2] h (fun _ h=>?_)
 refine Z ?_
 refine Ap h (fun _ h=>?_) (fun _ h=>?_)
 exact Y
 refine Z ?_
 refine A7 [] h (fun _ h=>?_)
 refine Z ?_
 refine A7 [5,4,6] h (fun _ h=>?_)
 refine Z ?_
 refine A7 [5,4,6] h (fun _ h=>?_)
 exact Y⟩
instance {a0:Int} {a1:Bs}:OK (Aef a0 a1) fun r=>Aw Tryz.prog 181 [(.val (.pointer none)),(O .i64) a0,Gk a1] ((O .i64) r):=⟨fun {r} h=>by
 refine pw C0 Tryz.func181 ?_
 exact Y⟩
instance {a0:Int} {a1:Bs}:OK (Ajx a0 a1) fun r=>Aw Tryz.prog 228 [(.val (.pointer none)),(O .i64) a0,Gk a1] ((Ao 3 Ec) r):=⟨fun {r} h=>by
 refine pw {T:=Cg,an:=(fun _=>.ask),nl:=(fun s=>bif Nat.beq s 6 then [(0,3)] else [])} Tryz.func228 ?_
 exact Y⟩
end Go.Ab
namespace Go.Ab
open Go Go.Proofs
set_option maxRecDepth 10000
set_option maxHeartbeats 4000000
set_option linter.unusedVariables false
instance {a0:List Bz}:OK (Ajy a0) fun r=>Aw Tryz.prog 226 [(.val (.pointer none)),(Ao 3 Ec) a0] (.tup [(Ao 5 Df) r.1,(O .i64) r.2]):=⟨fun {r} h=>by
 refine pw {T:=Cg,an:=(fun _=>.ask),nl:=(fun s=>bif Nat.beq s 4 then [(0,5)] else [])} Tryz.func226 ?_
 refine ZS ?_
 refine Cm ?_
 refine ZS ?_
 refine Cm ?_
 refine ZO ?_
 refine Ay (Ay ?_)
 refine Dw [.own 6 1 5 1] ?_
 refine Z ?_
 refine Sj ?_
 refine Z ?_
 refine Ap h (fun _ h=>?_) (fun _ h=>?_)
 refine Z ?_
 refine Ca h (fun _ _ _ _ h=>?_)
 refine Z ?_
 refine Bl h (fun _ h=>?_)
 refine Z ?_
 refine A7 [0,1] h (fun _ h=>?_)
 refine Z ?_
 refine Bb h (fun (v17,o18)=>[(18,(O .i64 v17))]) (fun (v17,o18)=>[(0,.cells 178 [(.loc 0 0),(.arr 1 o18.length 0 o18.length)]),(1,.rows 5 1 (List.map (O .u8) o18))]) ?_
 rintro ⟨v17,o18⟩ _ _ _ h _ _
 refine Z ?_
 refine Ap h (fun _ h=>?_) (fun _ h=>?_)
 refine Z ?_
 refine Ca h (fun _ _ _ _ h=>?_)
 refine Z ?_
 refine Bl h (fun _ h=>?_)
 refine Z ?_
 refine A7 [0,1] h (fun _ h=>?_)
 exact Y
 exact Y
 exact Y⟩
instance {a0:Ak} {a1:Ba}:OK (Aeg a0 a1) fun r=>Aw Tryz.prog 166 [(.val (.pointer none)),Cn a0,Gl a1] (.tup [(Ao 5 Bn) r.1,(O .i64) r.2]):=⟨fun {r} h=>by
 refine pw {T:=Cg,an:=(fun s=>bif Nat.beq s 22 then .own else bif Nat.beq s 14 then .own else .ask),nl:=(fun s=>bif Nat.beq s 155 then [(0,3)] else bif Nat.beq s 92 then [(1,3)] else bif Nat.beq s 31 then [(3,3),(4,3)] else bif Nat.beq s 22 then [(0,5)] else bif Nat.beq s 14 then [(0,5)] else bif Nat.beq s 6 then [(0,5)] else [])} Tryz.func166 ?_
 refine Z ?_
 refine Bl h (fun _ h=>?_)
 refine Z ?_
 refine Ap h (fun _ h=>?_) (fun _ h=>?_)
 exact Y
 refine Z ?_
 refine A7 [] h (fun _ h=>?_)
 refine Z ?_
 refine A7 [3] h (fun _ h=>?_)
 refine C5 h (fun v8 hgv8 h=>?_)
 refine ZO ?_
 refine Ay (Jy ?_)
 refine Dw [.fz 9] ?_
 refine Z ?_
 refine Bb h (fun (v93,v94)=>[(6,(.sl 5 (List.map Bn []))),(7,(O .i64 0)),(8,(.sl 5 (List.map Bn v93))),(9,(.sl 3 (List.map Ec v94)))]) (fun (v93,v94)=>[]) ?_
 rintro ⟨v93,v94⟩ _ _ _ h _ _
 refine Z ?_
 refine Ap h (fun _ h=>?_) (fun _ h=>?_)
 refine Z ?_
 refine Ca h (fun _ _ _ _ h=>?_)
 refine Z ?_
 refine Bb h (fun v97=>[(11,(O .i64 v97))]) (fun v97=>[]) ?_
 rintro v97 _ _ _ h _ _
 refine Z ?_
 refine F1 h (fun _ h=>?_) (fun _ h=>?_)
 refine Z ?_
 refine Ca h (fun _ _ _ _ h=>?_)
 refine Z ?_
 refine Ap h (fun _ h=>?_) (fun _ h=>?_)
 exact Y
 replace h:=Cs h
 refine Z ?_
 refine Lp h (fun _ h=>?_)
 refine Z ?_
 refine Bl h (fun _ h=>?_)
 refine Z ?_
 refine Ap h (fun _ h=>?_) (fun _ h=>?_)
 exact Y
 refine Z ?_
 refine Bb h (fun (v151,o152)=>[(14,(.arr 4 o152.length 0 o152.length)),(73,(O .i64 v151))]) (fun (v151,o152)=>[(4,.rows 75 5 (List.map Bn o152))]) ?_
 rintro ⟨v151,o152⟩ _ _ _ h _ _
 refine Z ?_
 refine Ap h (fun _ h=>?_) (fun _ h=>?_)
 refine Z ?_
 refine Ca h (fun _ _ _ _ h=>?_)
 refine Z ?_
 refine Bb h (fun (v167,o168)=>[(14,(.arr 4 o168.length 0 o168.length)),(79,(O .i64 v167))]) (fun (v167,o168)=>[(4,.rows 75 5 (List.map Bn o168))]) ?_
 rintro ⟨v167,o168⟩ _ _ _ h _ _
 exact Y
 replace h:=Cs h
 refine F6 (F5 rfl ?_)
 refine Dw [.fz 14] ?_
 exact Y
 replace h:=Cs h
 refine Z ?_
 refine Lp h (fun _ h=>?_)
 refine Z ?_
 refine Bl h (fun _ h=>?_)
 refine Z ?_
 refine Ap h (fun _ h=>?_) (fun _ h=>?_)
 exact Y
 refine Z ?_
 refine Bb h (fun (v151,o152)=>[(14,(.arr 4 o152.length 0 o152.length)),(73,(O .i64 v151))]) (fun (v151,o152)=>[(4,.rows 75 5 (List.map Bn o152))]) ?_
 rintro ⟨v151,o152⟩ _ _ _ h _ _
 refine Z ?_
 refine Ap h (fun _ h=>?_) (fun _ h=>?_)
 refine Z ?_
 refine Ca h (fun _ _ _ _ h=>?_)
 refine Z ?_
 refine Bb h (fun (v167,o168)=>[(14,(.arr 4 o168.length 0 o168.length)),(79,(O .i64 v167))]) (fun (v167,o168)=>[(4,.rows 75 5 (List.map Bn o168))]) ?_
 rintro ⟨v167,o168⟩ _ _ _ h _ _
 exact Y
 replace h:=Cs h
 refine F6 (F5 rfl ?_)
 refine Dw [.fz 14] ?_
 exact Y
 replace h:=Cs h
 refine Z ?_
 refine A7 [] h (fun _ h=>?_)
 refine Z ?_
 refine A7 [5] h (fun _ h=>?_)
 refine C5 h (fun v186 hgv186 h=>?_)
 refine ZO ?_
 refine Ay (Jy ?_)
 refine Dw [.fz 19] ?_
 refine Z ?_
 refine Bb h (fun (v277,v278)=>[(8,(.sl 5 (List.map Bn v277))),(19,(.sl 3 (List.map Ed v278)))]) (fun (v277,v278)=>[]) ?_
 rintro ⟨v277,v278⟩ _ _ _ h _ _
 refine Z ?_
 refine Ap h (fun _ h=>?_) (fun _ h=>?_)
 refine Z ?_
 refine Ca h (fun _ _ _ _ h=>?_)
 refine Z ?_
 refine Bb h (fun v283=>[(21,(O .i64 v283))]) (fun v283=>[]) ?_
 rintro v283 _ _ _ h _ _
 refine Z ?_
 refine F1 h (fun _ h=>?_) (fun _ h=>?_)
 refine Z ?_
 refine Ca h (fun _ _ _ _ h=>?_)
 refine Z ?_
 refine Bl h (fun _ h=>?_)
 refine Z ?_
 refine Ap h (fun _ h=>?_) (fun _ h=>?_)
 exact Y
 replace h:=Cs h
 refine Z ?_
 refine Lp h (fun _ h=>?_)
 refine Z ?_
 refine Bl h (fun _ h=>?_)
 refine Z ?_
 refine Bb h (fun (v340,o341)=>[(22,(.arr 7 o341.length 0 o341.length)),(135,(O .i64 v340))]) (fun (v340,o341)=>[(7,.rows 75 5 (List.map Bn o341))]) ?_
 rintro ⟨v340,o341⟩ _ _ _ h _ _
 refine Z ?_
 refine Ap h (fun _ h=>?_) (fun _ h=>?_)
 refine Z ?_
 refine Ca h (fun _ _ _ _ h=>?_)
 refine Z ?_
 refine Bl h (fun _ h=>?_)
 refine Z ?_
 refine Ap h (fun _ h=>?_) (fun _ h=>?_)
 exact Y
 refine Z ?_
 refine Bb h (fun (v357,o358)=>[(22,(.arr 7 o358.length 0 o358.length)),(145,(O .i64 v357))]) (fun (v357,o358)=>[(7,.rows 75 5 (List.map Bn o358))]) ?_
 rintro ⟨v357,o358⟩ _ _ _ h _ _
 exact Y
 replace h:=Cs h
 refine F6 (F5 rfl ?_)
 refine Dw [.fz 22] ?_
 exact Y
 replace h:=Cs h
 refine Z ?_
 refine Lp h (fun _ h=>?_)
 refine Z ?_
 refine Bl h (fun _ h=>?_)
 refine Z ?_
 refine Bb h (fun (v340,o341)=>[(22,(.arr 7 o341.length 0 o341.length)),(135,(O .i64 v340))]) (fun (v340,o341)=>[(7,.rows 75 5 (List.map Bn o341))]) ?_
 rintro ⟨v340,o341⟩ _ _ _ h _ _
 refine Z ?_
 refine Ap h (fun _ h=>?_) (fun _ h=>?_)
 refine Z ?_
 refine Ca h (fun _ _ _ _ h=>?_)
 refine Z ?_
 refine Bl h (fun _ h=>?_)
 refine Z ?_
 refine Ap h (fun _ h=>?_) (fun _ h=>?_)
 exact Y
 refine Z ?_
 refine Bb h (fun (v357,o358)=>[(22,(.arr 7 o358.length 0 o358.length)),(145,(O .i64 v357))]) (fun (v357,o358)=>[(7,.rows 75 5 (List.map Bn o358))]) ?_
 rintro ⟨v357,o358⟩ _ _ _ h _ _
 exact Y
 replace h:=Cs h
 refine F6 (F5 rfl ?_)
 refine Dw [.fz 22] ?_
 exact Y
 exact Y⟩
instance {a0:Ba}:OK (Ajz a0) fun r=>Aw Tryz.prog 146 [(.val (.pointer none)),Gl a0] (.tup [(Ao 5 Bn) r.1,(O .i64) r.2]):=⟨fun {r} h=>by
 refine pw {T:=Cg,an:=(fun _=>.ask),nl:=(fun s=>bif Nat.beq s 4 then [(0,5)] else [])} Tryz.func146 ?_
 refine Z ?_
 refine Bl h (fun _ h=>?_)
 refine Z ?_
 refine Bl h (fun _ h=>?_)
 refine Z ?_
 refine Ap h (fun _ h=>?_) (fun _ h=>?_)
 exact Y
 refine Z ?_
 refine A7 [] h (fun _ h=>?_)
 refine Z ?_
 refine A7 [2,1,3] h (fun _ h=>?_)
 refine Z ?_
 refine A7 [2,1,3] h (fun _ h=>?_)
 exact Y⟩
instance {a0:Bj} {a1:Ar} {a2:Int}:OK (Li a0 a1 a2) fun r=>Aw Tryz.prog 84 [Gy a0,De a1,(O .i64) a2] (.tup [(Ao 5 Bn) r.1,(O .i64) r.2]):=⟨fun {r} h=>by
 refine pw {T:=Cg,an:=(fun _=>.ask),nl:=(fun s=>bif Nat.beq s 37 then [(0,3)] else bif Nat.beq s 6 then [(0,5)] else [])} Tryz.func84 ?_
 refine Z ?_
 refine C5 h (fun v3 hcv3 h=>?_)
 rcases v3 with v4 | v9
 refine Fh.act [] _ _ _ _ (Bp.sub (args:=[_,.val (.slice none 0 0)]) (Tp (a0:=a0) (a1:=[]) hcv3) ⟨Sub.refl _,Sub.nil _,trivial⟩) rfl rfl trivial ?_
 refine Z ?_
 refine Ap h (fun _ h=>?_) (fun _ h=>?_)
 exact Y
 refine Iq (Ay (Ay ?_))
 refine Cq h (fun v11=>[(27,(As v11))]) (fun v11=>[]) ?_ ?_
 intro _ h _ _ _
 exact Y
 rintro v11 _ h
 refine Ap h (fun _ h=>?_) (fun _ h=>?_)
 exact Y
 refine Z ?_
 refine A7 [5,3,4] h (fun _ h=>?_)
 refine Z ?_
 refine Ap h (fun _ h=>?_) (fun _ h=>?_)
 exact Y
 refine Z ?_
 refine A7 [5,3,4] h (fun _ h=>?_)
 exact Y
 refine Fh.act [] _ _ _ _ (Bp.sub (args:=[_,.val (.slice none 0 0)]) (Tq (a0:=a0) (a1:=[]) hcv3) ⟨Sub.refl _,Sub.nil _,trivial⟩) rfl rfl trivial ?_
 refine Z ?_
 refine Ap h (fun _ h=>?_) (fun _ h=>?_)
 exact Y
 refine Iq (Ay (Ay ?_))
 refine Cq h (fun v15=>[(27,(As v15))]) (fun v15=>[]) ?_ ?_
 intro _ h _ _ _
 exact Y
 rintro v15 _ h
 exact Y⟩
instance {a0:Bj} {a1:Gj}:OK (Zf a0 a1) fun r=>Aw Tryz.prog 46 [Gy a0,Mm a1] (.tup [(Ao 5 Bn) r.1,(O .i64) r.2]):=⟨fun {r} h=>by
 refine pw {T:=Cg,an:=(fun _=>.ask),nl:=(fun s=>bif Nat.beq s 4 then [(0,5)] else [])} Tryz.func46 ?_
 exact Y⟩
instance {a0:List Ah} {b1:List (ByteArray×Int)} {b2:List (ByteArray×(List B4))} {b0_0:List A9} {b0_1:List Aj} {b0_2 b0_3:Int} {b0_4:List Aj}:OK (Oi a0 b1 b2 b0_0 b0_1 b0_2 b0_3 b0_4) fun r=>Bp Tryz.prog 165 [(.loc 0 0),(Ao 5 Bn) a0] [.cells 136 [(.sl 3 (List.map C2 b0_0)),(.sl 3 (Bo b0_1)),(O .i64 b0_2),(O .i64 b0_3),(.sl 3 (Bo b0_4)),(.mp 1),(.mp 2)],.map (Bi (O .i64) b1),.map (Bi (Ao 5 Df) b2)] ((O .i64) r.1) [.cells 136 [(.sl 3 (List.map C2 b0_0)),(.sl 3 (Bo b0_1)),(O .i64 b0_2),(O .i64 b0_3),(.sl 3 (Bo b0_4)),(.mp 1),(.mp 2)],.map (Bi (O .i64) r.2),.map (Bi (Ao 5 Df) b2)]:=⟨fun {r} h=>by
 refine aw C0 true Tryz.func165 ?_
 refine Z ?_
 refine Bb h (fun (v4,v5,o6)=>[(5,(O .i64 v4)),(10,(O .i64 v5))]) (fun (v4,v5,o6)=>[(1,.map (Bi (O .i64) o6))]) ?_
 rintro ⟨v4,v5,o6⟩ _ _ _ h _ _
 refine Z ?_
 refine Ap h (fun _ h=>?_) (fun _ h=>?_)
 refine Z ?_
 refine Ca h (fun _ _ _ _ h=>?_)
 refine Z ?_
 refine A7 [0,1,2] h (fun _ h=>?_)
 exact Y
 exact Y⟩
instance {a0:Ba}:OK (Aj0 a0) fun r=>Aw Tryz.prog 180 [(.val (.pointer none)),Gl a0] ((O .i64) r):=⟨fun {r} h=>by
 refine pw C0 Tryz.func180 ?_
 refine Z ?_
 refine Bb h (fun (v5,v6)=>[(5,(O .i64 v5)),(13,(O .i64 v6))]) (fun (v5,v6)=>[]) ?_
 rintro ⟨v5,v6⟩ _ _ _ h _ _
 refine Z ?_
 refine Ap h (fun _ h=>?_) (fun _ h=>?_)
 exact Y
 replace h:=Cs h
 refine Z ?_
 refine Bb h (fun (v13,v14)=>[(5,(O .i64 v13)),(31,(O .i64 v14))]) (fun (v13,v14)=>[]) ?_
 rintro ⟨v13,v14⟩ _ _ _ h _ _
 exact Y⟩
instance {a0:List Ah}:OK (Aeh a0) fun r=>Aw Tryz.prog 165 [(.val (.pointer none)),(Ao 5 Bn) a0] ((O .i64) r):=⟨fun {r} h=>by
 refine pw C0 Tryz.func165 ?_
 refine Z ?_
 refine Bb h (fun (v4,v5)=>[(5,(O .i64 v4)),(10,(O .i64 v5))]) (fun (v4,v5)=>[]) ?_
 rintro ⟨v4,v5⟩ _ _ _ h _ _
 exact Y⟩
instance {a0:Bj} {a1 a2:List Ah}:OK (Me a0 a1 a2) fun r=>Aw Tryz.prog 114 [Gy a0,(Ao 5 Bn) a1,(Ao 5 Bn) a2] (.tup [(Ao 5 Bn) r.1,(O .i64) r.2]):=⟨fun {r} h=>by
 refine pw {T:=Cg,an:=(fun _=>.ask),nl:=(fun s=>bif Nat.beq s 6 then [(0,5)] else [])} Tryz.func114 ?_
 refine Z ?_
 refine C5 h (fun v2 hcv2 h=>?_)
 rcases v2 with v3 | v8
 refine Fh.act [] _ _ _ _ (Tp (a0:=a0) (a1:=[a1,a2]) hcv2) rfl rfl trivial ?_
 refine Z ?_
 refine Ap h (fun _ h=>?_) (fun _ h=>?_)
 exact Y
 refine Iq (Ay (Ay ?_))
 refine Cq h (fun (v11,o12)=>[(44,(As v11))]) (fun (v11,o12)=>[(2,.map (Bi (O .i64) o12))]) ?_ ?_
 intro _ h _ _ _
 refine Z ?_
 refine F1 h (fun _ h=>?_) (fun _ h=>?_)
 refine Z ?_
 refine F1 h (fun _ h=>?_) (fun _ h=>?_)
 refine Z ?_
 refine A7 [4,2,3] h (fun _ h=>?_)
 refine Z ?_
 refine A7 [4,2,3] h (fun _ h=>?_)
 exact Y
 exact Y
 exact Y
 rintro ⟨v11,o12⟩ _ h
 refine Ap h (fun _ h=>?_) (fun _ h=>?_)
 exact Y
 refine Z ?_
 refine A7 [] h (fun _ h=>?_)
 refine Z ?_
 refine Bb h (fun (v96,o97,o98,o99,o100)=>[(6,(.sl 5 (List.map Bn []))),(7,(O .i64 0)),(48,(O .i64 v96))]) (fun (v96,o97,o98,o99,o100)=>[(2,.map (Bi (O .i64) o97)),(3,.map (Bi (Ao 5 Df) o98)),(5,.map (Bi (O .i64) o99)),(6,.cells 138 [(.mp 5),(.arr 7 o100.length 0 o100.length)]),(7,.rows 75 5 (List.map Bn o100))]) ?_
 rintro ⟨v96,o97,o98,o99,o100⟩ _ _ _ h _ _
 refine Z ?_
 refine Ap h (fun _ h=>?_) (fun _ h=>?_)
 refine Z ?_
 refine Ca h (fun _ _ _ _ h=>?_)
 refine Z ?_
 refine Bb h (fun (v120,o121,o122,o123,o124)=>[(6,(.sl 5 (List.map Bn []))),(7,(O .i64 0)),(54,(O .i64 v120))]) (fun (v120,o121,o122,o123,o124)=>[(2,.map (Bi (O .i64) o121)),(3,.map (Bi (Ao 5 Df) o122)),(5,.map (Bi (O .i64) o123)),(6,.cells 138 [(.mp 5),(.arr 7 o124.length 0 o124.length)]),(7,.rows 75 5 (List.map Bn o124))]) ?_
 rintro ⟨v120,o121,o122,o123,o124⟩ _ _ _ h _ _
 refine Z ?_
 refine Ap h (fun _ h=>?_) (fun _ h=>?_)
 refine Z ?_
 refine Ca h (fun _ _ _ _ h=>?_)
 refine Z ?_
 refine Bl h (fun _ h=>?_)
 refine Z ?_
 refine Bl h (fun _ h=>?_)
 refine Z ?_
 refine A7 [4,2,3] h (fun _ h=>?_)
 refine Z ?_
 refine Ap h (fun _ h=>?_) (fun _ h=>?_)
 exact Y
 refine Z ?_
 refine A7 [6,5,7] h (fun _ h=>?_)
 exact Y
 exact Y
 replace h:=Cs h
 refine Z ?_
 refine A7 [6,5,7] h (fun _ h=>?_)
 exact Y
 refine Fh.act [] _ _ _ _ (Tq (a0:=a0) (a1:=[a1,a2]) hcv2) rfl rfl trivial ?_
 refine Z ?_
 refine Ap h (fun _ h=>?_) (fun _ h=>?_)
 exact Y
 refine Iq (Ay (Ay ?_))
 refine Cq h (fun v147=>[(44,(As v147))]) (fun v147=>[]) ?_ ?_
 intro _ h _ _ _
 exact Y
 rintro v147 _ h
 refine Ap h (fun _ h=>?_) (fun _ h=>?_)
 exact Y
 refine Z ?_
 refine A7 [] h (fun _ h=>?_)
 refine Z ?_
 refine Bb h (fun (v217,o218,o219)=>[(6,(.sl 5 (List.map Bn []))),(7,(O .i64 0)),(48,(O .i64 v217))]) (fun (v217,o218,o219)=>[(1,.map (Bi (O .i64) o218)),(2,.cells 138 [(.mp 1),(.arr 3 o219.length 0 o219.length)]),(3,.rows 75 5 (List.map Bn o219))]) ?_
 rintro ⟨v217,o218,o219⟩ _ _ _ h _ _
 refine Z ?_
 refine Ap h (fun _ h=>?_) (fun _ h=>?_)
 refine Z ?_
 refine Ca h (fun _ _ _ _ h=>?_)
 refine Z ?_
 refine Bb h (fun (v237,o238,o239)=>[(6,(.sl 5 (List.map Bn []))),(7,(O .i64 0)),(54,(O .i64 v237))]) (fun (v237,o238,o239)=>[(1,.map (Bi (O .i64) o238)),(2,.cells 138 [(.mp 1),(.arr 3 o239.length 0 o239.length)]),(3,.rows 75 5 (List.map Bn o239))]) ?_
 rintro ⟨v237,o238,o239⟩ _ _ _ h _ _
 refine Z ?_
 refine Ap h (fun _ h=>?_) (fun _ h=>?_)
 refine Z ?_
 refine Ca h (fun _ _ _ _ h=>?_)
 refine Z ?_
 refine Bl h (fun _ h=>?_)
 refine Z ?_
 refine Bl h (fun _ h=>?_)
 refine Z ?_
 refine Bl h (fun _ h=>?_)
 refine Z ?_
 refine Ap h (fun _ h=>?_) (fun _ h=>?_)
 exact Y
 refine Z ?_
 refine A7 [2,1,3] h (fun _ h=>?_)
 exact Y
 exact Y
 replace h:=Cs h
 refine Z ?_
 refine A7 [2,1,3] h (fun _ h=>?_)
 exact Y⟩
instance {a0:Bj} {a1:Gj} {a2:Int}:OK (Sv a0 a1 a2) fun r=>Aw Tryz.prog 85 [Gy a0,Mm a1,(O .i64) a2] (.tup [(Ao 5 Bn) r.1,(O .i64) r.2]):=⟨fun {r} h=>by
 refine pw {T:=Cg,an:=(fun _=>.ask),nl:=(fun s=>bif Nat.beq s 6 then [(0,5)] else [])} Tryz.func85 ?_
 exact Y⟩
instance {a0:Bj} {a1:Gj}:OK (U7 a0 a1) fun r=>Aw Tryz.prog 47 [Gy a0,Mm a1] (.tup [(Ao 5 Bn) r.1,(O .i64) r.2]):=⟨fun {r} h=>by
 refine pw {T:=Cg,an:=(fun _=>.ask),nl:=(fun s=>bif Nat.beq s 10 then [(0,5)] else bif Nat.beq s 4 then [(0,5)] else [])} Tryz.func47 ?_
 refine Z ?_
 refine Bl h (fun _ h=>?_)
 refine Z ?_
 refine Ap h (fun _ h=>?_) (fun _ h=>?_)
 exact Y
 refine Z ?_
 refine Bl h (fun _ h=>?_)
 refine Z ?_
 refine Bb h (fun (v9,v10,v11)=>[(7,(O .i64 v9)),(8,(.sl 5 (List.map Bn v10))),(9,(O .i64 v11))]) (fun (v9,v10,v11)=>[]) ?_
 rintro ⟨v9,v10,v11⟩ _ _ _ h _ _
 refine Ay (Ay ?_)
 refine Cq h (fun v12=>[(37,(As v12))]) (fun v12=>[]) ?_ ?_
 intro _ h _ _ _
 exact Y
 rintro v12 _ h
 exact Y⟩
instance {a0:Bj} {a1:Ar}:OK (So a0 a1) fun r=>Aw Tryz.prog 45 [Gy a0,De a1] (As r):=⟨fun {r} h=>by
 refine pw C0 Tryz.func45 ?_
 refine Z ?_
 refine Bb h (fun v6=>[(4,(As false)),(10,(O .i64 v6))]) (fun v6=>[]) ?_
 rintro v6 _ _ _ h _ _
 exact Y⟩
instance {a0:Bj} {a1:Gj}:OK (P0 a0 a1) fun r=>Aw Tryz.prog 22 [Gy a0,Mm a1] (.tup [(Ao 5 Bn) r.1,(O .i64) r.2]):=⟨fun {r} h=>by
 refine pw {T:=Cg,an:=(fun _=>.ask),nl:=(fun s=>bif Nat.beq s 4 then [(0,5)] else [])} Tryz.func22 ?_
 refine ZS ?_
 refine Cm ?_
 refine ZO ?_
 refine Ay (Ay ?_)
 refine Cq h (fun v5=>[(13,(As v5))]) (fun v5=>[]) ?_ ?_
 intro _ h _ _ _
 exact Y
 rintro v5 _ h
 refine Ap h (fun _ h=>?_) (fun _ h=>?_)
 exact Y
 refine Iq (Ay (Ay ?_))
 refine Cq h (fun v8=>[(25,(As v8))]) (fun v8=>[]) ?_ ?_
 intro _ h _ _ _
 exact Y
 rintro v8 _ h
 exact Y⟩
instance {a0:Ba}:OK (Zh a0) fun r=>Aw Tryz.prog 113 [Gl a0] ((Ao 5 Bn) r):=⟨fun {r} h=>by
 refine pw {T:=Cg,an:=(fun _=>.ask),nl:=(fun s=>bif Nat.beq s 2 then [(0,5)] else [])} Tryz.func113 ?_
 exact Y⟩
instance {a0:Bj} {a1:D2}:OK (M9 a0 a1) fun r=>Aw Tryz.prog 71 [Gy a0,J3 a1] (.tup [(Ao 5 Bn) r.1,(O .i64) r.2]):=⟨fun {r} h=>by
 refine pw {T:=Cg,an:=(fun _=>.ask),nl:=(fun s=>bif Nat.beq s 4 then [(0,5)] else [])} Tryz.func71 ?_
 exact Y⟩
instance {a0:Bj} {a1 a2:List Ah} {a3:List D2}:OK (Ob a0 a1 a2 a3) fun r=>Aw Tryz.prog 39 [Gy a0,(Ao 5 Bn) a1,(Ao 5 Bn) a2,(Ao 13 J3) a3] (.tup [(Ao 5 Bn) r.1,(O .i64) r.2]):=⟨fun {r} h=>by
 refine pw {T:=Cg,an:=(fun _=>.ask),nl:=(fun s=>bif Nat.beq s 8 then [(0,5)] else [])} Tryz.func39 ?_
 refine ZS ?_
 refine Cm ?_
 refine ZO ?_
 refine Ay (Ay ?_)
 refine Cq h (fun v4=>[(25,(As v4))]) (fun v4=>[]) ?_ ?_
 intro _ h _ _ _
 exact Y
 rintro v4 _ h
 refine Ap h (fun _ h=>?_) (fun _ h=>?_)
 exact Y
 refine Z ?_
 refine Bl h (fun _ h=>?_)
 refine Z ?_
 refine Ap h (fun _ h=>?_) (fun _ h=>?_)
 exact Y
 refine Z ?_
 refine Bb h (fun (v11,v12)=>[(8,(.sl 5 (List.map Bn []))),(9,(O .i64 0)),(10,(.sl 5 (List.map Bn v11))),(38,(O .i64 v12))]) (fun (v11,v12)=>[]) ?_
 rintro ⟨v11,v12⟩ _ _ _ h _ _
 exact Y⟩
instance {a0:Ar}:OK (Sp a0) fun r=>Aw Tryz.prog 51 [De a0] (De r):=⟨fun {r} h=>by
 refine pw C0 Tryz.func51 ?_
 exact Y⟩
instance {a0:Gj}:OK (N9 a0) fun r=>Aw Tryz.prog 25 [Mm a0] ((Ao 2 De) r):=⟨fun {r} h=>by
 refine pw {T:=Cg,an:=(fun _=>.ask),nl:=(fun s=>bif Nat.beq s 2 then [(0,2)] else [])} Tryz.func25 ?_
 exact Y⟩
instance {a0:List Ar} {a1:List Ak}:OK (U8 a0 a1) fun r=>Aw Tryz.prog 52 [(Ao 2 De) a0,(Ao 3 Cn) a1] (As r):=⟨fun {r} h=>by
 refine pw C0 Tryz.func52 ?_
 refine Z ?_
 refine Ap h (fun _ h=>?_) (fun _ h=>?_)
 exact Y
 refine Z ?_
 refine Bb h (fun v4=>[(4,(As false)),(14,(O .i64 v4))]) (fun v4=>[]) ?_
 rintro v4 _ _ _ h _ _
 exact Y⟩
instance {a0:Ar} {a1:Int}:OK (Vk a0 a1) fun r=>Aw Tryz.prog 94 [De a0,(O .i64) a1] ((O .i64) r):=⟨fun {r} h=>by
 refine pw C0 Tryz.func94 ?_
 refine Z ?_
 refine Bb h (fun v4=>[(4,(O .i64 0)),(10,(O .i64 v4))]) (fun v4=>[]) ?_
 rintro v4 _ _ _ h _ _
 exact Y⟩
instance {a0:Ar} {b0:Int}:OK (P5 a0 b0) fun r=>Bp Tryz.prog 93 [De a0,(.loc 0 0)] [.cells 3 [(O .i64 b0)]] ((O .i64) r) [.cells 3 [(O .i64 b0)]]:=⟨fun {r} h=>by
 refine aw C0 true Tryz.func93 ?_
 exact Y⟩
instance {a0 a1:Ak}:OK (Nh a0 a1) fun r=>Aw Tryz.prog 150 [Cn a0,Cn a1] (Cn r):=⟨fun {r} h=>by
 refine pw C0 Tryz.func150 ?_
 exact Y⟩
instance {a0:List Ar} {a1:Ar} {a2:List Ak} {b0:Int}:OK (Vl a0 a1 a2 b0) fun r=>Bp Tryz.prog 95 [(Ao 2 De) a0,De a1,(Ao 3 Cn) a2,(.fn 93 [(.loc 0 0)])] [.cells 3 [(O .i64 b0)]] (Cn r) [.cells 3 [(O .i64 b0)]]:=⟨fun {r} h=>by
 refine aw C0 true Tryz.func95 ?_
 refine Z ?_
 refine A7 [0] h (fun _ h=>?_)
 refine Z ?_
 refine Bl h (fun _ h=>?_)
 refine Z ?_
 refine Bb h (fun (v13,v14,v15,v16)=>[(19,(O .i64 v13))]) (fun (v13,v14,v15,v16)=>[(3,.cells 50 [(As v14),(.sl 1 (List.map (O .u32) v15)),(.sl 1 (List.map (O .u32) v16))])]) ?_
 rintro ⟨v13,v14,v15,v16⟩ _ _ _ h _ _
 refine Z ?_
 refine Ap h (fun _ h=>?_) (fun _ h=>?_)
 refine Z ?_
 refine Ca h (fun _ _ _ _ h=>?_)
 refine Z ?_
 refine A7 [0] h (fun _ h=>?_)
 exact Y
 exact Y⟩
instance {a0:Ar}:OK (Vm a0) fun r=>Aw Tryz.prog 96 [De a0] ((O .i64) r):=⟨fun {r} h=>by
 refine pw C0 Tryz.func96 ?_
 exact Y⟩
instance {a0:List Ar} {a1:Ar} {a2:List Ak}:OK (Z4 a0 a1 a2) fun r=>Aw Tryz.prog 95 [(Ao 2 De) a0,De a1,(Ao 3 Cn) a2,(.fn 96 [])] (Cn r):=⟨fun {r} h=>by
 refine pw C0 Tryz.func95 ?_
 refine Z ?_
 refine Bl h (fun _ h=>?_)
 refine Z ?_
 refine Bl h (fun _ h=>?_)
 refine Z ?_
 refine Bb h (fun (v13,v14,v15,v16)=>[(19,(O .i64 v13))]) (fun (v13,v14,v15,v16)=>[(2,.cells 50 [(As v14),(.sl 1 (List.map (O .u32) v15)),(.sl 1 (List.map (O .u32) v16))])]) ?_
 rintro ⟨v13,v14,v15,v16⟩ _ _ _ h _ _
 exact Y⟩
instance {a0:List Ar}:OK (Vj a0) fun r=>Bp Tryz.prog 92 [(Ao 2 De) a0] [] (.arr 1 r.2.length 0 r.2.length) [.rows 25 2 (List.map De r.1),.rows 25 2 (List.map De r.2)]:=⟨fun {r} h=>by
 exact Auv h⟩
instance {a0:List Ar} {a1:Ar} {a2:List Ak}:OK (Sq a0 a1 a2) fun r=>Aw Tryz.prog 53 [(Ao 2 De) a0,De a1,(Ao 3 Cn) a2] (.tup [Cn r.1,As r.2]):=⟨fun {r} h=>by
 refine pw {T:=Cg,an:=(fun _=>.ask),nl:=(fun s=>bif Nat.beq s 32 then [(1,1),(2,1)] else [])} Tryz.func53 ?_
 refine Z ?_
 refine A7 [] h (fun _ h=>?_)
 refine Z ?_
 refine Lo h (fun _ h=>?_)
 refine ZO ?_
 refine Ay (Ay ?_)
 refine Dw [.fz 8] ?_
 refine Z ?_
 refine Bl h (fun _ h=>?_)
 refine Z ?_
 refine Bb h (fun v12=>[(7,(As false)),(20,(O .i64 v12))]) (fun v12=>[]) ?_
 rintro v12 _ _ _ h _ _
 refine Z ?_
 refine Ap h (fun _ h=>?_) (fun _ h=>?_)
 refine Z ?_
 refine Ca h (fun _ _ _ _ h=>?_)
 refine Z ?_
 refine A7 [4] h (fun _ h=>?_)
 exact Y
 exact Y⟩
instance {a0:List Ar} {a1:List Ak}:OK (Sr a0 a1) fun r=>Aw Tryz.prog 54 [(Ao 2 De) a0,(Ao 3 Cn) a1] (As r):=⟨fun {r} h=>by
 refine pw {T:=Cg,an:=(fun _=>.ask),nl:=(fun s=>bif Nat.beq s 9 then [(1,2)] else [])} Tryz.func54 ?_
 exact Y⟩
instance {a0:List Ar} {a1:Ar} {a2:List Ak}:OK (M6 a0 a1 a2) fun r=>Aw Tryz.prog 27 [(Ao 2 De) a0,De a1,(Ao 3 Cn) a2] (As r):=⟨fun {r} h=>by
 refine pw C0 Tryz.func27 ?_
 refine ZS ?_
 refine Cm ?_
 refine ZO ?_
 refine Ay (Ay ?_)
 refine Cq h (fun v5=>[(22,(As v5))]) (fun v5=>[]) ?_ ?_
 intro _ h _ _ _
 exact Y
 rintro v5 _ h
 exact Y⟩
instance {a0:List Ar} {a1:Gj} {a2 a3:List Ak}:OK (U4 a0 a1 a2 a3) fun r=>Aw Tryz.prog 11 [(Ao 2 De) a0,Mm a1,(Ao 3 Cn) a2,(Ao 3 Cn) a3] (As r):=⟨fun {r} h=>by
 refine pw C0 Tryz.func11 ?_
 exact Y⟩
instance {a0:List Ar} {a1:D2}:OK (Oa a0 a1) fun r=>Aw Tryz.prog 37 [(Ao 2 De) a0,J3 a1] (As r):=⟨fun {r} h=>by
 refine pw C0 Tryz.func37 ?_
 exact Y⟩
instance {a0:Bj} {a1:List Ar} {a2 a3:List Ah} {a4:List D2}:OK (I4 a0 a1 a2 a3 a4) fun r=>Aw Tryz.prog 17 [Gy a0,(Ao 2 De) a1,(Ao 5 Bn) a2,(Ao 5 Bn) a3,(Ao 13 J3) a4] ((O .i64) r):=⟨fun {r} h=>by
 refine pw C0 Tryz.func17 ?_
 refine ZS ?_
 refine Cm ?_
 refine ZO ?_
 refine Ay (Ay ?_)
 refine Cq h (fun v5=>[(29,(As v5))]) (fun v5=>[]) ?_ ?_
 intro _ h _ _ _
 exact Y
 rintro v5 _ h
 refine Ap h (fun _ h=>?_) (fun _ h=>?_)
 exact Y
 refine Z ?_
 refine Bb h (fun v10=>[(10,(O .i64 0)),(32,(O .i64 v10))]) (fun v10=>[]) ?_
 rintro v10 _ _ _ h _ _
 exact Y⟩
instance  : OK (U5) fun r=>Aw Tryz.prog 13 [] (As r):=⟨fun {r} h=>by
 refine pw {T:=Cg,an:=(fun _=>.ask),nl:=(fun s=>bif Nat.beq s 54 then [(0,3),(4,3)] else bif Nat.beq s 45 then [(0,3),(4,3)] else bif Nat.beq s 43 then [(4,2),(9,3),(10,3)] else bif Nat.beq s 41 then [(1,1),(2,1)] else bif Nat.beq s 33 then [(3,3)] else bif Nat.beq s 27 then [(3,3),(4,3)] else bif Nat.beq s 24 then [(3,3)] else bif Nat.beq s 9 then [(2,3)] else [])} Tryz.func13 ?_
 exact Y⟩
instance {a0:Bj} {a1 a2:List Ah}:OK (Pz a0 a1 a2) fun r=>Aw Tryz.prog 20 [Gy a0,(Ao 5 Bn) a1,(Ao 5 Bn) a2] (.tup [(Ao 5 Bn) r.1,(O .i64) r.2]):=⟨fun {r} h=>by
 refine pw {T:=Cg,an:=(fun _=>.ask),nl:=(fun s=>bif Nat.beq s 6 then [(0,5)] else [])} Tryz.func20 ?_
 refine ZS ?_
 refine Cm ?_
 refine ZO ?_
 refine Ay (Ay ?_)
 refine Cq h (fun v9=>[(9,(As v9))]) (fun v9=>[]) ?_ ?_
 intro _ h _ _ _
 refine Z ?_
 refine C5 h (fun v2 hcv2 h=>?_)
 rcases v2 with v3 | v8
 refine Fh.act [] _ _ _ _ (Tp (a0:=a0) (a1:=[a1,a2]) hcv2) rfl rfl trivial ?_
 exact Y
 refine Fh.act [] _ _ _ _ (Tq (a0:=a0) (a1:=[a1,a2]) hcv2) rfl rfl trivial ?_
 exact Y
 rintro v9 _ h
 refine Z ?_
 refine Ap h (fun _ h=>?_) (fun _ h=>?_)
 exact Y
 refine Z ?_
 refine A7 [] h (fun _ h=>?_)
 refine Z ?_
 refine A7 [2,1,3] h (fun _ h=>?_)
 refine Z ?_
 refine A7 [2,1,3] h (fun _ h=>?_)
 refine Z ?_
 refine A7 [2,1,3] h (fun _ h=>?_)
 exact Y⟩
instance {a0:Bj} {a1:List Ar} {a2 a3 a4 a5:List Ah} {a6 a7:List D2}:OK (Zc a0 a1 a2 a3 a4 a5 a6 a7) fun r=>Aw Tryz.prog 6 [Gy a0,(Ao 2 De) a1,(Ao 5 Bn) a2,(Ao 5 Bn) a3,(Ao 5 Bn) a4,(Ao 5 Bn) a5,(Ao 13 J3) a6,(Ao 13 J3) a7] (As r):=⟨fun {r} h=>by
 refine pw {T:=Cg,an:=(fun s=>bif Nat.beq s 91 then .frz 4 else .ask)} Tryz.func6 ?_
 refine Z ?_
 refine Bl h (fun _ h=>?_)
 refine Z ?_
 refine Ap h (fun _ h=>?_) (fun _ h=>?_)
 exact Y
 refine Iq (Ay (Ay ?_))
 refine Cq h (fun v7=>[(45,(As v7))]) (fun v7=>[]) ?_ ?_
 intro _ h _ _ _
 exact Y
 rintro v7 _ h
 refine Ap h (fun _ h=>?_) (fun _ h=>?_)
 exact Y
 refine Iq (Ay (Ay ?_))
 refine Cq h (fun v10=>[(61,(As v10))]) (fun v10=>[]) ?_ ?_
 intro _ h _ _ _
 exact Y
 rintro v10 _ h
 refine Ap h (fun _ h=>?_) (fun _ h=>?_)
 exact Y
 refine Z ?_
 refine Bl h (fun v11 h=>?_)
 refine Z ?_
 refine Bl h (fun v12 h=>?_)
 refine Z ?_
 refine F1 h (fun _ h=>?_) (fun _ h=>?_)
 refine Z ?_
 refine F1 h (fun _ h=>?_) (fun _ h=>?_)
 refine Z ?_
 refine Aej h (fun _ h=>?_)
 refine Z ?_
 refine Lo h (fun o15 h=>?_)
 refine Z ?_
 refine C5 h (fun v16 hcv16 h=>?_)
 refine Ac0.mk _ (OK.ok hcv16 :) rfl ?_
 exact Y
 exact Y
 exact Y⟩
end Go.Ab
