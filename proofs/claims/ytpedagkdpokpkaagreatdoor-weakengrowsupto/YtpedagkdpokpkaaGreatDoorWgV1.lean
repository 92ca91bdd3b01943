/- The contracts of the functions, each by its walk (made by a program). -/
import Derived.Test.YtpedagkdpokpkaaGreatDoorWgV0
namespace Go.Ab
open Go Go.Proofs
set_option maxRecDepth 10000
set_option maxHeartbeats 4000000
set_option linter.unusedVariables false
instance {a0:List Ak}:OK (Mi a0) fun r=>Aw Tryz.prog 317 [(Ao 3 Ch) a0] ((Ao 3 Ch) r):=⟨fun {r} h=>by
 refine pw {T:=Ca,an:=(fun _=>.ask),nl:=(fun s=>bif Nat.beq s 2 then [(0,3)] else [])} Tryz.func317 ?_
 refine Z ?_
 refine A7 h (fun v3=>[(3,(O .i64 v3))]) (fun v3=>[]) ?_
 rintro v3 _ _ _ h _ _
 refine Z ?_
 refine F2 h (fun _ h=>?_) (fun _ h=>?_)
 refine Z ?_
 refine B6 h (fun _ _ _ _ h=>?_)
 refine Z ?_
 refine Bk h (fun _ h=>?_)
 refine Z ?_
 refine Aq h (fun _ h=>?_) (fun _ h=>?_)
 exact Y
 replace h:=Co h
 refine Z ?_
 refine Se (f:=Ch) (z:=((Ak.mk false [] []):Ak)) (by repeat (first | exact Fo.nil | apply Fo.sl | apply Fo.same)) h (fun o7 h=>?_)
 refine Z ?_
 refine Ei h (fun (v12,o13)=>[(25,(O .i64 v12))]) (fun (v12,o13)=>[(0,.rows 50 3 (List.map Ch o13))]) (fun (v12,o13)=>o7.length=o13.length) ?_
 rintro ⟨v12,o13⟩ _ _ _ h _ _ q13
 exact Y
 replace h:=Co h
 refine Z ?_
 refine Se (f:=Ch) (z:=((Ak.mk false [] []):Ak)) (by repeat (first | exact Fo.nil | apply Fo.sl | apply Fo.same)) h (fun o7 h=>?_)
 refine Z ?_
 refine Ei h (fun (v12,o13)=>[(25,(O .i64 v12))]) (fun (v12,o13)=>[(0,.rows 50 3 (List.map Ch o13))]) (fun (v12,o13)=>o7.length=o13.length) ?_
 rintro ⟨v12,o13⟩ _ _ _ h _ _ q13
 exact Y⟩
instance {a0 a1 b0:Ak}:OK (Wg a0 a1 b0) fun r=>Bn Tryz.prog 320 [Ch a0,Ch a1,(.loc 0 0)] [.cells 50 [(As b0.Neg),(.sl 1 (List.map (O .u32) b0.Num)),(.sl 1 (List.map (O .u32) b0.Den))]] (Ch r) [.cells 50 [(As b0.Neg),(.sl 1 (List.map (O .u32) b0.Num)),(.sl 1 (List.map (O .u32) b0.Den))]]:=⟨fun {r} h=>by
 refine aw C0 true Tryz.func320 ?_
 exact Y⟩
instance {a0 a1:List Ak} {b0:Ak}:OK (Qq a0 a1 b0) fun r=>Bn Tryz.prog 318 [(Ao 3 Ch) a0,(Ao 3 Ch) a1,(.fn 320 [(.loc 0 0)])] [.cells 50 [(As b0.Neg),(.sl 1 (List.map (O .u32) b0.Num)),(.sl 1 (List.map (O .u32) b0.Den))]] ((Ao 3 Ch) r) [.cells 50 [(As b0.Neg),(.sl 1 (List.map (O .u32) b0.Num)),(.sl 1 (List.map (O .u32) b0.Den))]]:=⟨fun {r} h=>by
 refine aw {T:=Ca,an:=(fun _=>.ask),nl:=(fun s=>bif Nat.beq s 6 then [(0,3)] else [])} true Tryz.func318 ?_
 refine Z ?_
 refine Se (f:=Ch) (z:=((Ak.mk false [] []):Ak)) (by repeat (first | exact Fo.nil | apply Fo.sl | apply Fo.same)) h (fun o1 h=>?_)
 refine Z ?_
 refine Ei h (fun (v15,o16)=>[(19,(O .i64 v15))]) (fun (v15,o16)=>[(1,.rows 50 3 (List.map Ch o16))]) (fun (v15,o16)=>o1.length=o16.length) ?_
 rintro ⟨v15,o16⟩ _ _ _ h _ _ q16
 refine Z ?_
 refine Aq h (fun _ h=>?_) (fun _ h=>?_)
 refine ZS ?_
 refine Ck ?_
 refine ZS ?_
 refine Ck ?_
 refine ZO ?_
 refine Ay (Ay ?_)
 refine Dm [.nil 9 1 1,.nil 9 2 1,.nil 10 1 1,.nil 10 2 1] ?_
 refine ZS ?_
 refine Ck ?_
 refine ZO ?_
 refine Cl h (fun (v20,v21,v22)=>[]) (fun (v20,v21,v22)=>[(2,.cells 50 [(As v20),(.sl 1 (List.map (O .u32) v21)),(.sl 1 (List.map (O .u32) v22))])]) ?_ ?_
 intro _ h _ _ _
 exact Y
 rintro ⟨v20,v21,v22⟩ _ h
 refine ZS ?_
 refine Ck ?_
 refine ZO ?_
 refine Cl h (fun (v24,v25,v26)=>[]) (fun (v24,v25,v26)=>[(3,.cells 50 [(As v24),(.sl 1 (List.map (O .u32) v25)),(.sl 1 (List.map (O .u32) v26))])]) ?_ ?_
 intro _ h _ _ _
 exact Y
 rintro ⟨v24,v25,v26⟩ _ h
 refine Z ?_
 refine A9 [0] h (fun _ h=>?_)
 exact Y
 exact Y⟩
instance {a0 a1:Int}:OK (Z6 a0 a1) fun r=>Aw Tryz.prog 316 [(O .i64) a0,(O .i64) a1] (Ch r):=⟨fun {r} h=>by
 refine pw C0 Tryz.func316 ?_
 refine Z ?_
 refine Bk h (fun _ h=>?_)
 refine Z ?_
 refine A7 h (fun (v7,v8,v9,v10)=>[(9,(O .i64 v7))]) (fun (v7,v8,v9,v10)=>[(1,.cells 50 [(As v8),(.sl 1 (List.map (O .u32) v9)),(.sl 1 (List.map (O .u32) v10))])]) ?_
 rintro ⟨v7,v8,v9,v10⟩ _ _ _ h _ _
 exact Y⟩
instance {a0:Int}:OK (Wl a0) fun r=>Bn Tryz.prog 356 [(O .i64) a0] [] (.arr 0 r.length 0 r.length) [.rows 50 3 (List.map Ch r)]:=⟨fun {r} h=>by
 refine aw {T:=Ca,an:=(fun _=>.ask),nl:=(fun s=>bif Nat.beq s 2 then [(0,3)] else [])} false Tryz.func356 ?_
 refine Z ?_
 refine Se (f:=Ch) (z:=((Ak.mk false [] []):Ak)) (by repeat (first | exact Fo.nil | apply Fo.sl | apply Fo.same)) h (fun o1 h=>?_)
 refine Z ?_
 refine Ei h (fun (v5,o6)=>[(9,(O .i64 v5))]) (fun (v5,o6)=>[(0,.rows 50 3 (List.map Ch o6))]) (fun (v5,o6)=>o1.length=o6.length) ?_
 rintro ⟨v5,o6⟩ _ _ _ h _ _ q6
 refine Z ?_
 refine Aq h (fun _ h=>?_) (fun _ h=>?_)
 exact Y
 replace h:=Co h
 refine Z ?_
 cases h
 exact ⟨congrArg (fun q_=>AV.arr 0 q_ 0 q_) q6,rfl,trivial⟩⟩
instance {a0 a1:Int}:OK (Tg a0 a1) fun r=>Aw Tryz.prog 319 [(O .i64) a0,(O .i64) a1] ((Ao 3 Ch) r):=⟨fun {r} h=>by
 refine pw {T:=Ca,an:=(fun _=>.ask),nl:=(fun s=>bif Nat.beq s 4 then [(0,3)] else [])} Tryz.func319 ?_
 refine Z ?_
 refine A9 [] h (fun v1 h=>?_)
 refine Z ?_
 refine Ei h (fun (v7,o8)=>[(6,(O .i64 v7))]) (fun (v7,o8)=>[(0,.rows 50 3 (List.map Ch o8))]) (fun (v7,o8)=>v1.length=o8.length) ?_
 rintro ⟨v7,o8⟩ _ _ _ h _ _ q8
 exact Y⟩
instance {a0 a1:List Ak}:OK (Wa a0 a1) fun r=>Aw Tryz.prog 279 [(Ao 3 Ch) a0,(Ao 3 Ch) a1] (.tup [(Ao 3 Ch) r.1,As r.2]):=⟨fun {r} h=>by
 refine pw {T:=Ca,an:=(fun _=>.ask),nl:=(fun s=>bif Nat.beq s 6 then [(0,3)] else bif Nat.beq s 4 then [(0,3)] else [])} Tryz.func279 ?_
 refine ZS ?_
 refine Ck ?_
 refine ZO ?_
 refine Ay (Ay ?_)
 refine Cl h (fun v1=>[(19,(As v1))]) (fun v1=>[]) ?_ ?_
 intro _ h _ _ _
 exact Y
 rintro v1 _ h
 refine Aq h (fun _ h=>?_) (fun _ h=>?_)
 exact Y
 refine Z ?_
 refine Bk h (fun _ h=>?_)
 refine Z ?_
 refine Bk h (fun _ h=>?_)
 refine ZO ?_
 refine Ay (Ay ?_)
 refine Cl h (fun v4=>[(31,(As v4))]) (fun v4=>[]) ?_ ?_
 intro _ h _ _ _
 exact Y
 rintro v4 _ h
 refine Aq h (fun _ h=>?_) (fun _ h=>?_)
 exact Y
 refine Z ?_
 refine Aq h (fun _ h=>?_) (fun _ h=>?_)
 exact Y
 refine Z ?_
 refine A7 h (fun (v25,v26)=>[(6,(.sl 3 (List.map Ch v25))),(40,(O .i64 v26))]) (fun (v25,v26)=>[]) ?_
 rintro ⟨v25,v26⟩ _ _ _ h _ _
 refine Z ?_
 refine Aq h (fun _ h=>?_) (fun _ h=>?_)
 refine Z ?_
 refine B6 h (fun _ _ _ _ h=>?_)
 refine Z ?_
 refine A7 h (fun (v36,v37)=>[(6,(.sl 3 (List.map Ch v36))),(47,(O .i64 v37))]) (fun (v36,v37)=>[]) ?_
 rintro ⟨v36,v37⟩ _ _ _ h _ _
 refine Z ?_
 refine Aq h (fun _ h=>?_) (fun _ h=>?_)
 refine Z ?_
 refine B6 h (fun _ _ _ _ h=>?_)
 refine Z ?_
 refine Bk h (fun _ h=>?_)
 refine Z ?_
 refine Bk h (fun _ h=>?_)
 refine Z ?_
 refine Aq h (fun _ h=>?_) (fun _ h=>?_)
 exact Y
 refine Z ?_
 refine Bk h (fun _ h=>?_)
 refine Z ?_
 refine A9 [2] h (fun _ h=>?_)
 exact Y
 exact Y
 exact Y⟩
theorem Avp {a0:List A6} {r:(List Ak)} (h:Z7 a0=some r):Aw Tryz.prog 232 [(Ao 3 D9) a0] ((Ao 3 Ch) r):=by
 refine pw {T:=Ca,an:=(fun s=>bif Nat.beq s 10 then .own else .ask),nl:=(fun s=>bif Nat.beq s 2 then [(0,3)] else [])} Tryz.func232 ?_
 refine Z ?_
 refine Bk h (fun _ h=>?_)
 refine Z ?_
 refine Ei h (fun (v14,o15)=>[(3,(.arr 0 1 0 1)),(13,(O .i64 v14))]) (fun (v14,o15)=>[(0,.rows 50 3 (List.map Ch o15))]) (fun (v14,o15)=>1=o15.length) ?_
 rintro ⟨v14,o15⟩ _ _ _ h _ _ q15
 refine Z ?_
 refine Aq h (fun _ h=>?_) (fun _ h=>?_)
 refine Z ?_
 refine B6 h (fun _ _ _ _ h=>?_)
 refine Z ?_
 refine Aq h (fun _ h=>?_) (fun _ h=>?_)
 exact Y
 refine Z ?_
 refine Se (f:=Ch) (z:=((Ak.mk false [] []):Ak)) (by repeat (first | exact Fo.nil | apply Fo.sl | apply Fo.same)) h (fun o23 h=>?_)
 exact Y
 exact Y
theorem Avq {a0:List A6} {r:(List Ak)} (h:Z8 a0=some r):Aw Tryz.prog 232 [(Ao 3 D9) a0] ((Ao 3 Ch) r):=by
 refine pw {T:=Ca,an:=(fun _=>.ask),nl:=(fun s=>bif Nat.beq s 2 then [(0,3)] else [])} Tryz.func232 ?_
 refine Z ?_
 refine Bk h (fun _ h=>?_)
 refine Z ?_
 refine A7 h (fun (v9,v10)=>[(3,(.sl 3 (List.map Ch v9))),(13,(O .i64 v10))]) (fun (v9,v10)=>[]) ?_
 rintro ⟨v9,v10⟩ _ _ _ h _ _
 refine Z ?_
 refine Aq h (fun _ h=>?_) (fun _ h=>?_)
 refine Z ?_
 refine B6 h (fun _ v11 _ _ h=>?_)
 refine Z ?_
 refine Aq h (fun _ h=>?_) (fun _ h=>?_)
 exact Y
 refine Z ?_
 refine Se (f:=Ch) (z:=((Ak.mk false [] []):Ak)) (by repeat (first | exact Fo.nil | apply Fo.sl | apply Fo.same)) h (fun o13 h=>?_)
 refine Z ?_
 refine Bk h (fun v15 h=>?_)
 refine Z ?_
 refine G9 h (fun _ _ hiv16 _ h=>?_)
 refine Z ?_
 refine Kj (f:=Ch) (x:=v15) (j:=v11.Deg) rfl rfl (Nat.zero_add _) hiv16 ?_
 refine ZO ?_
 refine Dm [.fz 8] ?_
 exact Y
 exact Y
instance {a0:List A6}:OK (Lm a0) fun r=>Aw Tryz.prog 232 [(Ao 3 D9) a0] ((Ao 3 Ch) r):=⟨fun {r} h=>by
 unfold Lm at h
 cases hv:Z9 a0 with
 | true=>rw [hv] at h; exact Avp h
 | false=>rw [hv] at h; exact Avq h⟩
instance {a0:Int} {a1:Br} {b1:List (ByteArray×Int)} {b2:List (ByteArray×(List Bz))} {b0_0:List A8} {b0_1:List Aj} {b0_2 b0_3:Int} {b0_4:List Aj}:OK (On a0 a1 b1 b2 b0_0 b0_1 b0_2 b0_3 b0_4) fun r=>Bn Tryz.prog 228 [(.loc 0 0),(O .i64) a0,Ge a1] [.cells 136 [(.sl 3 (List.map Cx b0_0)),(.sl 3 (Bm b0_1)),(O .i64 b0_2),(O .i64 b0_3),(.sl 3 (Bm b0_4)),(.mp 1),(.mp 2)],.map (Bi (O .i64) b1),.map (Bi (Ao 5 Dd) b2)] ((Ao 3 D8) r.1) [.cells 136 [(.sl 3 (List.map Cx b0_0)),(.sl 3 (Bm b0_1)),(O .i64 b0_2),(O .i64 b0_3),(.sl 3 (Bm b0_4)),(.mp 1),(.mp 2)],.map (Bi (O .i64) r.2),.map (Bi (Ao 5 Dd) b2)]:=⟨fun {r} h=>by
 refine aw {T:=Ca,an:=(fun _=>.ask),nl:=(fun s=>bif Nat.beq s 6 then [(0,3)] else [])} true Tryz.func228 ?_
 refine Z ?_
 refine A9 [0,1,2] h (fun _ h=>?_)
 exact Y⟩
instance {b0_0:ByteArray}:OK (Aea b0_0) fun r=>Bn Tryz.prog 131 [(.loc 0 0)] [.cells 178 [(.loc 0 0),(.fb b0_0)]] (Ez r) [.cells 178 [(.loc 0 0),(.fb b0_0)]]:=⟨fun {r} h=>by
 exact Aj1 h⟩
instance {b0_0:ByteArray}:OK (Ajs b0_0) fun r=>Bn Tryz.prog 131 [(.loc 0 0)] [.cells 178 [(.val (.pointer none)),(.fb b0_0)]] (Ez r) [.cells 178 [(.val (.pointer none)),(.fb b0_0)]]:=⟨fun {r} h=>by
 exact Aj1 h⟩
instance {a0:List Bx} {b1:List (ByteArray×Int)} {b2:List (ByteArray×(List Bz))} {b0_0:List A8} {b0_1:List Aj} {b0_2 b0_3:Int} {b0_4:List Aj}:OK (S8 a0 b1 b2 b0_0 b0_1 b0_2 b0_3 b0_4) fun r=>Bn Tryz.prog 226 [(.loc 0 0),(Ao 3 D8) a0] [.cells 136 [(.sl 3 (List.map Cx b0_0)),(.sl 3 (Bm b0_1)),(O .i64 b0_2),(O .i64 b0_3),(.sl 3 (Bm b0_4)),(.mp 1),(.mp 2)],.map (Bi (O .i64) b1),.map (Bi (Ao 5 Dd) b2)] (.tup [(Ao 5 Dd) r.1,(O .i64) r.2.1]) [.cells 136 [(.sl 3 (List.map Cx b0_0)),(.sl 3 (Bm b0_1)),(O .i64 b0_2),(O .i64 b0_3),(.sl 3 (Bm b0_4)),(.mp 1),(.mp 2)],.map (Bi (O .i64) b1),.map (Bi (Ao 5 Dd) r.2.2)]:=⟨fun {r} h=>by
 refine aw {T:=Ca,an:=(fun _=>.ask),nl:=(fun s=>bif Nat.beq s 9 then [(0,5)] else bif Nat.beq s 4 then [(0,5)] else [])} true Tryz.func226 ?_
 refine ZS ?_
 refine Ck ?_
 refine ZS ?_
 refine Ck ?_
 refine ZO ?_
 refine Ay (Ay ?_)
 refine Dm [.own 6 1 5 1] ?_
 refine Z ?_
 refine Sg ?_
 refine Z ?_
 refine Aq h (fun _ h=>?_) (fun _ h=>?_)
 refine Z ?_
 refine B6 h (fun _ _ _ _ h=>?_)
 refine Z ?_
 refine Bk h (fun _ h=>?_)
 refine Z ?_
 refine A9 [3,4] h (fun _ h=>?_)
 refine Z ?_
 refine A7 h (fun (v17,o18)=>[(18,(O .i64 v17))]) (fun (v17,o18)=>[(3,.cells 178 [(.loc 3 0),(.arr 4 o18.length 0 o18.length)]),(4,.rows 5 1 (List.map (O .u8) o18))]) ?_
 rintro ⟨v17,o18⟩ _ _ _ h _ _
 refine Z ?_
 refine Aq h (fun _ h=>?_) (fun _ h=>?_)
 refine Z ?_
 refine B6 h (fun _ _ _ _ h=>?_)
 refine Z ?_
 refine Bk h (fun _ h=>?_)
 refine Z ?_
 refine A9 [3,4] h (fun _ h=>?_)
 exact Y
 replace h:=Co h
 refine Fr (Fp rfl (Ay (Ay ?_)))
 refine Cl h (fun (v25,v26,v27)=>[(9,(.sl 5 (List.map Dd v25))),(10,(As v26))]) (fun (v25,v26,v27)=>[(3,.cells 178 [(.loc 3 0),(.fb v27)]),(4,.dead)]) ?_ ?_
 intro _ h _ _ _
 refine Z ?_
 refine A9 [3,4] h (fun _ h=>?_)
 refine Z ?_
 refine Sf (f:=(Ao 5 Dd)) (l:=b2) rfl ([]:(List Bz)) h (fun j_ hb h=>?_) (fun hb h=>?_)
 exact Y
 exact Y
 rintro ⟨v25,v26,v27⟩ _ h
 refine Z ?_
 refine Aq h (fun _ h=>?_) (fun _ h=>?_)
 exact Y
 refine Z ?_
 refine B6 h (fun _ _ _ _ h=>?_)
 refine Z ?_
 refine A9 [0,1,2] h (fun _ h=>?_)
 refine Z ?_
 refine B6 h (fun _ v31 _ _ h=>?_)
 refine Z ?_
 refine Bk h (fun v32 h=>?_)
 refine Z ?_
 refine Aaa h (fun _ h=>?_)
 refine Z ?_
 refine A7 h (fun _=>[(4,(.sl 5 (List.map Dd []))),(5,(O .i64 0)),(12,(.sl 5 (List.map Dd [(Bz.mk v31.Index v32)]))),(56,(O .i64 0))]) (fun _=>[]) ?_
 rintro _ _ _ _ h _ _
 refine Z ?_
 refine Aq h (fun _ h=>?_) (fun _ h=>?_)
 exact Y
 replace h:=Co h
 refine Z ?_
 refine A9 [3] h (fun _ h=>?_)
 refine Z ?_
 refine Pv (f:=(Ao 5 Dd)) (l:=b2) (x:=[(Bz.mk v31.Index v32)]) rfl rfl ?_
 exact Y
 refine Fr (Fp rfl (Ay (Ay ?_)))
 refine Cl h (fun (v39,v40,v41)=>[(9,(.sl 5 (List.map Dd v39))),(10,(As v40))]) (fun (v39,v40,v41)=>[(3,.cells 178 [(.val (.pointer none)),(.fb v41)]),(4,.dead)]) ?_ ?_
 intro _ h _ _ _
 refine Z ?_
 refine A9 [3,4] h (fun _ h=>?_)
 refine Z ?_
 refine Sf (f:=(Ao 5 Dd)) (l:=b2) rfl ([]:(List Bz)) h (fun j_ hb h=>?_) (fun hb h=>?_)
 exact Y
 exact Y
 rintro ⟨v39,v40,v41⟩ _ h
 refine Z ?_
 refine Aq h (fun _ h=>?_) (fun _ h=>?_)
 exact Y
 refine Z ?_
 refine B6 h (fun _ _ _ _ h=>?_)
 refine Z ?_
 refine A9 [0,1,2] h (fun _ h=>?_)
 refine Z ?_
 refine B6 h (fun _ v45 _ _ h=>?_)
 refine Z ?_
 refine Bk h (fun v46 h=>?_)
 refine Z ?_
 refine Aaa h (fun _ h=>?_)
 refine Z ?_
 refine A7 h (fun _=>[(4,(.sl 5 (List.map Dd []))),(5,(O .i64 0)),(12,(.sl 5 (List.map Dd [(Bz.mk v45.Index v46)]))),(56,(O .i64 0))]) (fun _=>[]) ?_
 rintro _ _ _ _ h _ _
 refine Z ?_
 refine Aq h (fun _ h=>?_) (fun _ h=>?_)
 exact Y
 replace h:=Co h
 refine Z ?_
 refine A9 [3] h (fun _ h=>?_)
 refine Z ?_
 refine Pv (f:=(Ao 5 Dd)) (l:=b2) (x:=[(Bz.mk v45.Index v46)]) rfl rfl ?_
 exact Y⟩
instance {a0:Int}:OK (Zy a0) fun r=>Bn Tryz.prog 281 [(.val (.slice none 0 0)),(O .i64) a0] [] (.arr 0 r.length 0 r.length) [.rows 73 3 (List.map D9 r)]:=⟨fun {r} h=>by
 exact Avf h⟩
instance {a0:List (List A6)}:OK (Zr a0) fun r=>Aw Tryz.prog 235 [(Ao 1 (Ao 3 D9)) a0] ((Ao 3 D9) r):=⟨fun {r} h=>by
 refine pw {T:=Ca,an:=(fun _=>.ask),nl:=(fun s=>bif Nat.beq s 2 then [(0,3)] else [])} Tryz.func235 ?_
 refine Z ?_
 refine A7 h (fun (v2,v3)=>[(3,(O .i64 v2)),(11,(O .i64 v3))]) (fun (v2,v3)=>[]) ?_
 rintro ⟨v2,v3⟩ _ _ _ h _ _
 refine Z ?_
 refine Aq h (fun _ h=>?_) (fun _ h=>?_)
 exact Y
 replace h:=Co h
 refine Z ?_
 refine A9 [] h (fun _ h=>?_)
 refine Z ?_
 refine A7 h (fun (v14,o15)=>[(6,(.arr 0 o15.length 0 o15.length)),(27,(O .i64 v14))]) (fun (v14,o15)=>[(0,.rows 73 3 (List.map D9 o15))]) ?_
 rintro ⟨v14,o15⟩ _ _ _ h _ _
 exact Y⟩
instance {a0:Int}:OK (Zx a0) fun r=>Bn Tryz.prog 280 [(.val (.slice none 0 0)),(O .i64) a0] [] (.arr 0 r.length 0 r.length) [.rows 113 3 (List.map D8 r)]:=⟨fun {r} h=>by
 exact Avc h⟩
instance {a0:List (List Bx)}:OK (Zq a0) fun r=>Aw Tryz.prog 234 [(Ao 1 (Ao 3 D8)) a0] ((Ao 3 D8) r):=⟨fun {r} h=>by
 refine pw {T:=Ca,an:=(fun _=>.ask),nl:=(fun s=>bif Nat.beq s 2 then [(0,3)] else [])} Tryz.func234 ?_
 refine Z ?_
 refine A7 h (fun (v2,v3)=>[(3,(O .i64 v2)),(11,(O .i64 v3))]) (fun (v2,v3)=>[]) ?_
 rintro ⟨v2,v3⟩ _ _ _ h _ _
 refine Z ?_
 refine Aq h (fun _ h=>?_) (fun _ h=>?_)
 exact Y
 replace h:=Co h
 refine Z ?_
 refine A9 [] h (fun _ h=>?_)
 refine Z ?_
 refine A7 h (fun (v14,o15)=>[(6,(.arr 0 o15.length 0 o15.length)),(27,(O .i64 v14))]) (fun (v14,o15)=>[(0,.rows 113 3 (List.map D8 o15))]) ?_
 rintro ⟨v14,o15⟩ _ _ _ h _ _
 exact Y⟩
instance {a0 a1:Ba}:OK (Mh a0 a1) fun r=>Aw Tryz.prog 167 [Gf a0,Gf a1] (Gf r):=⟨fun {r} h=>by
 refine pw C0 Tryz.func167 ?_
 exact Y⟩
instance {a0:Ah} {a1:Ak} {a2:Ba}:OK (I5 a0 a1 a2) fun r=>Aw Tryz.prog 227 [Bo a0,Ch a1,Gf a2] (Bo r):=⟨fun {r} h=>by
 refine pw C0 Tryz.func227 ?_
 exact Y⟩
instance {a0:List A6}:OK (Oo a0) fun r=>Bn Tryz.prog 229 [(Ao 3 D9) a0] [] (.arr 1 r.2.length 0 r.2.length) [.rows 73 3 (List.map D9 r.1),.rows 73 3 (List.map D9 r.2)]:=⟨fun {r} h=>by
 exact Aut h⟩
instance {a0:List Bx}:OK (Qh a0) fun r=>Bn Tryz.prog 223 [(Ao 3 D8) a0] [] (.arr 1 r.2.length 0 r.2.length) [.rows 113 3 (List.map D8 r.1),.rows 113 3 (List.map D8 r.2)]:=⟨fun {r} h=>by
 exact Aus h⟩
instance {a0 a1:A6}:OK (Ta a0 a1) fun r=>Aw Tryz.prog 231 [D9 a0,D9 a1] ((O .i64) r):=⟨fun {r} h=>by
 refine pw C0 Tryz.func231 ?_
 exact Y⟩
instance {a0 a1:Int} {b0:List A6}:OK (Z0 a0 a1 b0) fun r=>Bn Tryz.prog 314 [(.arr 0 b0.length 0 b0.length),(O .i64) a0,(O .i64) a1,(.fn 231 [])] [.rows 73 3 (List.map D9 b0)] (.tup []) [.rows 73 3 (List.map D9 r)]:=⟨fun {r} h=>by
 refine aw C0 true Tryz.func314 ?_
 refine Z ?_
 refine Ei h (fun (v21,o22)=>[(8,(O .i64 v21))]) (fun (v21,o22)=>[(0,.rows 73 3 (List.map D9 o22))]) (fun (v21,o22)=>b0.length=o22.length) ?_
 rintro ⟨v21,o22⟩ _ _ _ h _ _ q22
 refine Z ?_
 refine Aq h (fun _ h=>?_) (fun _ h=>?_)
 refine Z ?_
 refine Ei h (fun (v31,o32)=>[(9,(O .i64 v31))]) (fun (v31,o32)=>[(0,.rows 73 3 (List.map D9 o32))]) (fun (v31,o32)=>b0.length=o32.length) ?_
 rintro ⟨v31,o32⟩ _ _ _ h _ _ q32
 refine Ay (Ay ?_)
 refine Cl h (fun v36=>[(34,(As v36))]) (fun v36=>[]) ?_ ?_
 intro _ h _ _ _
 exact Y
 rintro v36 _ h
 exact Y
 exact Y⟩
instance {a0:Int} {b0:List A6}:OK (Zw a0 b0) fun r=>Bn Tryz.prog 277 [(.arr 0 b0.length 0 b0.length),(O .i64) a0,(.fn 231 [])] [.rows 73 3 (List.map D9 b0)] (.tup []) [.rows 73 3 (List.map D9 r)]:=⟨fun {r} h=>by
 refine aw C0 true Tryz.func277 ?_
 refine Z ?_
 refine Ei h (fun (v3,v4,o5)=>[(7,(O .i64 v3)),(8,(O .i64 v4))]) (fun (v3,v4,o5)=>[(0,.rows 73 3 (List.map D9 o5))]) (fun (v3,v4,o5)=>b0.length=o5.length) ?_
 rintro ⟨v3,v4,o5⟩ _ _ _ h _ hn1 q5
 refine Z ?_
 refine Aq h (fun _ h=>?_) (fun _ h=>?_)
 refine Z ?_
 refine C3 h (fun v6 hcv6 h=>?_)
 have okv6:=(OK.ok hcv6 :)
 rw [<-q5] at okv6
 refine Fj.act [0] _ _ _ _ okv6 rfl rfl ⟨rfl,trivial⟩ ?_
 refine C3 h (fun v7 hgv7 h=>?_)
 refine Z ?_
 exact hn1 _ _ _ _ (Option.some.inj h) ⟨rfl,rfl,trivial⟩ ⟨⟨rfl,rfl⟩,trivial⟩ (H8 hgv7)
 replace h:=Co h
 refine Z ?_
 refine C3 h (fun v11 hcv11 h=>?_)
 have okv11:=(OK.ok hcv11 :)
 rw [<-q5] at okv11
 refine Fj.act [0] _ _ _ _ okv11 rfl rfl ⟨rfl,trivial⟩ ?_
 refine C3 h (fun v12 hgv12 h=>?_)
 refine Z ?_
 refine A7 h (fun (v13,v14,v15)=>[(6,(O .i64 v13)),(7,(O .i64 v14)),(8,(O .i64 v15))]) (fun (v13,v14,v15)=>[]) ?_
 rintro ⟨v13,v14,v15⟩ _ _ _ h _ _
 refine Z ?_
 refine Aq h (fun _ h=>?_) (fun _ h=>?_)
 refine Z ?_
 refine A7 h (fun _=>[(7,(O .i64 0)),(8,(O .i64 (Ac (2*v13))))]) (fun _=>[]) ?_
 rintro _ _ _ _ h _ _
 exact Y
 exact Y⟩
instance {b0:List A6}:OK (S9 b0) fun r=>Bn Tryz.prog 230 [(.arr 0 b0.length 0 b0.length),(.fn 231 [])] [.rows 73 3 (List.map D9 b0)] (.tup []) [.rows 73 3 (List.map D9 r)]:=⟨fun {r} h=>by
 refine aw C0 true Tryz.func230 ?_
 refine Z ?_
 refine A9 [0] h (fun _ h=>?_)
 refine C3 h (fun v2 hgv2 h=>?_)
 exact Y⟩
instance {a0 a1:Bx}:OK (Om a0 a1) fun r=>Aw Tryz.prog 225 [D8 a0,D8 a1] ((O .i64) r):=⟨fun {r} h=>by
 refine pw C0 Tryz.func225 ?_
 exact Y⟩
instance {a0 a1:Int} {b0:List Bx}:OK (Zz a0 a1 b0) fun r=>Bn Tryz.prog 304 [(.arr 0 b0.length 0 b0.length),(O .i64) a0,(O .i64) a1,(.fn 225 [])] [.rows 113 3 (List.map D8 b0)] (.tup []) [.rows 113 3 (List.map D8 r)]:=⟨fun {r} h=>by
 refine aw C0 true Tryz.func304 ?_
 refine Z ?_
 refine Ei h (fun (v21,o22)=>[(8,(O .i64 v21))]) (fun (v21,o22)=>[(0,.rows 113 3 (List.map D8 o22))]) (fun (v21,o22)=>b0.length=o22.length) ?_
 rintro ⟨v21,o22⟩ _ _ _ h _ _ q22
 refine Z ?_
 refine Aq h (fun _ h=>?_) (fun _ h=>?_)
 refine Z ?_
 refine Ei h (fun (v31,o32)=>[(9,(O .i64 v31))]) (fun (v31,o32)=>[(0,.rows 113 3 (List.map D8 o32))]) (fun (v31,o32)=>b0.length=o32.length) ?_
 rintro ⟨v31,o32⟩ _ _ _ h _ _ q32
 refine Ay (Ay ?_)
 refine Cl h (fun v36=>[(34,(As v36))]) (fun v36=>[]) ?_ ?_
 intro _ h _ _ _
 exact Y
 rintro v36 _ h
 exact Y
 exact Y⟩
instance {a0:Int} {b0:List Bx}:OK (V9 a0 b0) fun r=>Bn Tryz.prog 275 [(.arr 0 b0.length 0 b0.length),(O .i64) a0,(.fn 225 [])] [.rows 113 3 (List.map D8 b0)] (.tup []) [.rows 113 3 (List.map D8 r)]:=⟨fun {r} h=>by
 refine aw C0 true Tryz.func275 ?_
 refine Z ?_
 refine Ei h (fun (v3,v4,o5)=>[(7,(O .i64 v3)),(8,(O .i64 v4))]) (fun (v3,v4,o5)=>[(0,.rows 113 3 (List.map D8 o5))]) (fun (v3,v4,o5)=>b0.length=o5.length) ?_
 rintro ⟨v3,v4,o5⟩ _ _ _ h _ hn1 q5
 refine Z ?_
 refine Aq h (fun _ h=>?_) (fun _ h=>?_)
 refine Z ?_
 refine C3 h (fun v6 hcv6 h=>?_)
 have okv6:=(OK.ok hcv6 :)
 rw [<-q5] at okv6
 refine Fj.act [0] _ _ _ _ okv6 rfl rfl ⟨rfl,trivial⟩ ?_
 refine C3 h (fun v7 hgv7 h=>?_)
 refine Z ?_
 exact hn1 _ _ _ _ (Option.some.inj h) ⟨rfl,rfl,trivial⟩ ⟨⟨rfl,rfl⟩,trivial⟩ (H8 hgv7)
 replace h:=Co h
 refine Z ?_
 refine C3 h (fun v11 hcv11 h=>?_)
 have okv11:=(OK.ok hcv11 :)
 rw [<-q5] at okv11
 refine Fj.act [0] _ _ _ _ okv11 rfl rfl ⟨rfl,trivial⟩ ?_
 refine C3 h (fun v12 hgv12 h=>?_)
 refine Z ?_
 refine A7 h (fun (v13,v14,v15)=>[(6,(O .i64 v13)),(7,(O .i64 v14)),(8,(O .i64 v15))]) (fun (v13,v14,v15)=>[]) ?_
 rintro ⟨v13,v14,v15⟩ _ _ _ h _ _
 refine Z ?_
 refine Aq h (fun _ h=>?_) (fun _ h=>?_)
 refine Z ?_
 refine A7 h (fun _=>[(7,(O .i64 0)),(8,(O .i64 (Ac (2*v13))))]) (fun _=>[]) ?_
 rintro _ _ _ _ h _ _
 exact Y
 exact Y⟩
instance {b0:List Bx}:OK (Ol b0) fun r=>Bn Tryz.prog 224 [(.arr 0 b0.length 0 b0.length),(.fn 225 [])] [.rows 113 3 (List.map D8 b0)] (.tup []) [.rows 113 3 (List.map D8 r)]:=⟨fun {r} h=>by
 refine aw C0 true Tryz.func224 ?_
 refine Z ?_
 refine A9 [0] h (fun _ h=>?_)
 refine C3 h (fun v2 hgv2 h=>?_)
 exact Y⟩
instance {a0:Ak} {a1:Ba} {b1:List (ByteArray×Int)} {b2:List (ByteArray×(List Bz))} {b0_0:List A8} {b0_1:List Aj} {b0_2 b0_3:Int} {b0_4:List Aj}:OK (Nj a0 a1 b1 b2 b0_0 b0_1 b0_2 b0_3 b0_4) fun r=>Bn Tryz.prog 166 [(.loc 0 0),Ch a0,Gf a1] [.cells 136 [(.sl 3 (List.map Cx b0_0)),(.sl 3 (Bm b0_1)),(O .i64 b0_2),(O .i64 b0_3),(.sl 3 (Bm b0_4)),(.mp 1),(.mp 2)],.map (Bi (O .i64) b1),.map (Bi (Ao 5 Dd) b2)] (.tup [(Ao 5 Bo) r.1,(O .i64) r.2.1]) [.cells 136 [(.sl 3 (List.map Cx b0_0)),(.sl 3 (Bm b0_1)),(O .i64 b0_2),(O .i64 b0_3),(.sl 3 (Bm b0_4)),(.mp 1),(.mp 2)],.map (Bi (O .i64) r.2.2.1),.map (Bi (Ao 5 Dd) r.2.2.2)]:=⟨fun {r} h=>by
 refine aw {T:=Ca,an:=(fun s=>bif Nat.beq s 22 then .own else bif Nat.beq s 14 then .own else .ask),nl:=(fun s=>bif Nat.beq s 155 then [(0,3)] else bif Nat.beq s 92 then [(1,3)] else bif Nat.beq s 31 then [(3,3),(4,3)] else bif Nat.beq s 22 then [(0,5)] else bif Nat.beq s 14 then [(0,5)] else bif Nat.beq s 6 then [(0,5)] else [])} true Tryz.func166 ?_
 refine Z ?_
 refine Bk h (fun _ h=>?_)
 refine Z ?_
 refine Aq h (fun _ h=>?_) (fun _ h=>?_)
 exact Y
 refine Z ?_
 refine A9 [] h (fun _ h=>?_)
 refine Z ?_
 refine A9 [6] h (fun _ h=>?_)
 refine C3 h (fun v8 hgv8 h=>?_)
 refine ZO ?_
 refine Ay (Jv ?_)
 refine Dm [.fz 9] ?_
 refine Z ?_
 refine A7 h (fun (v105,v106,o107,o108)=>[(6,(.sl 5 (List.map Bo []))),(7,(O .i64 0)),(8,(.sl 5 (List.map Bo v105))),(9,(.sl 3 (List.map D8 v106)))]) (fun (v105,v106,o107,o108)=>[(1,.map (Bi (O .i64) o107)),(2,.map (Bi (Ao 5 Dd) o108))]) ?_
 rintro ⟨v105,v106,o107,o108⟩ _ _ _ h _ _
 refine Z ?_
 refine Aq h (fun _ h=>?_) (fun _ h=>?_)
 refine Z ?_
 refine B6 h (fun _ _ _ _ h=>?_)
 refine Z ?_
 refine A7 h (fun v111=>[(11,(O .i64 v111))]) (fun v111=>[]) ?_
 rintro v111 _ _ _ h _ _
 refine Z ?_
 refine F2 h (fun _ h=>?_) (fun _ h=>?_)
 refine Z ?_
 refine B6 h (fun _ _ _ _ h=>?_)
 refine Z ?_
 refine Aq h (fun _ h=>?_) (fun _ h=>?_)
 exact Y
 replace h:=Co h
 refine Z ?_
 refine Lo h (fun _ h=>?_)
 refine Z ?_
 refine A9 [0,1,2] h (fun _ h=>?_)
 refine Z ?_
 refine Aq h (fun _ h=>?_) (fun _ h=>?_)
 exact Y
 refine Z ?_
 refine A7 h (fun (v172,o173,o174)=>[(14,(.arr 7 o174.length 0 o174.length)),(73,(O .i64 v172))]) (fun (v172,o173,o174)=>[(1,.map (Bi (O .i64) o173)),(7,.rows 75 5 (List.map Bo o174))]) ?_
 rintro ⟨v172,o173,o174⟩ _ _ _ h _ _
 refine Z ?_
 refine Aq h (fun _ h=>?_) (fun _ h=>?_)
 refine Z ?_
 refine B6 h (fun _ _ _ _ h=>?_)
 refine Z ?_
 refine A7 h (fun (v190,o191,o192)=>[(14,(.arr 7 o192.length 0 o192.length)),(79,(O .i64 v190))]) (fun (v190,o191,o192)=>[(1,.map (Bi (O .i64) o191)),(7,.rows 75 5 (List.map Bo o192))]) ?_
 rintro ⟨v190,o191,o192⟩ _ _ _ h _ _
 refine Z ?_
 refine Aq h (fun _ h=>?_) (fun _ h=>?_)
 refine Z ?_
 refine B6 h (fun _ _ _ _ h=>?_)
 refine Z ?_
 refine A9 [0,1,2] h (fun _ h=>?_)
 exact Y
 exact Y
 replace h:=Co h
 refine Fr (Fp rfl ?_)
 refine Dm [.fz 14] ?_
 exact Y
 replace h:=Co h
 refine Z ?_
 refine Lo h (fun _ h=>?_)
 refine Z ?_
 refine A9 [0,1,2] h (fun _ h=>?_)
 refine Z ?_
 refine Aq h (fun _ h=>?_) (fun _ h=>?_)
 exact Y
 refine Z ?_
 refine A7 h (fun (v172,o173,o174)=>[(14,(.arr 7 o174.length 0 o174.length)),(73,(O .i64 v172))]) (fun (v172,o173,o174)=>[(1,.map (Bi (O .i64) o173)),(7,.rows 75 5 (List.map Bo o174))]) ?_
 rintro ⟨v172,o173,o174⟩ _ _ _ h _ _
 refine Z ?_
 refine Aq h (fun _ h=>?_) (fun _ h=>?_)
 refine Z ?_
 refine B6 h (fun _ _ _ _ h=>?_)
 refine Z ?_
 refine A7 h (fun (v190,o191,o192)=>[(14,(.arr 7 o192.length 0 o192.length)),(79,(O .i64 v190))]) (fun (v190,o191,o192)=>[(1,.map (Bi (O .i64) o191)),(7,.rows 75 5 (List.map Bo o192))]) ?_
 rintro ⟨v190,o191,o192⟩ _ _ _ h _ _
 refine Z ?_
 refine Aq h (fun _ h=>?_) (fun _ h=>?_)
 refine Z ?_
 refine B6 h (fun _ _ _ _ h=>?_)
 refine Z ?_
 refine A9 [0,1,2] h (fun _ h=>?_)
 exact Y
 exact Y
 replace h:=Co h
 refine Fr (Fp rfl ?_)
 refine Dm [.fz 14] ?_
 exact Y
 replace h:=Co h
 refine Z ?_
 refine A9 [] h (fun _ h=>?_)
 refine Z ?_
 refine A9 [8] h (fun _ h=>?_)
 refine C3 h (fun v216 hgv216 h=>?_)
 refine ZO ?_
 refine Ay (Jv ?_)
 refine Dm [.fz 19] ?_
 refine Z ?_
 refine A7 h (fun (v307,v308)=>[(8,(.sl 5 (List.map Bo v307))),(19,(.sl 3 (List.map D9 v308)))]) (fun (v307,v308)=>[]) ?_
 rintro ⟨v307,v308⟩ _ _ _ h _ _
 refine Z ?_
 refine Aq h (fun _ h=>?_) (fun _ h=>?_)
 refine Z ?_
 refine B6 h (fun _ _ _ _ h=>?_)
 refine Z ?_
 refine A7 h (fun v313=>[(21,(O .i64 v313))]) (fun v313=>[]) ?_
 rintro v313 _ _ _ h _ _
 refine Z ?_
 refine F2 h (fun _ h=>?_) (fun _ h=>?_)
 refine Z ?_
 refine B6 h (fun _ _ _ _ h=>?_)
 refine Z ?_
 refine Bk h (fun _ h=>?_)
 refine Z ?_
 refine Aq h (fun _ h=>?_) (fun _ h=>?_)
 exact Y
 replace h:=Co h
 refine Z ?_
 refine Lo h (fun _ h=>?_)
 refine Z ?_
 refine Bk h (fun _ h=>?_)
 refine Z ?_
 refine A7 h (fun (v370,o371)=>[(22,(.arr 10 o371.length 0 o371.length)),(135,(O .i64 v370))]) (fun (v370,o371)=>[(10,.rows 75 5 (List.map Bo o371))]) ?_
 rintro ⟨v370,o371⟩ _ _ _ h _ _
 refine Z ?_
 refine Aq h (fun _ h=>?_) (fun _ h=>?_)
 refine Z ?_
 refine B6 h (fun _ _ _ _ h=>?_)
 refine Z ?_
 refine Bk h (fun _ h=>?_)
 refine Z ?_
 refine Aq h (fun _ h=>?_) (fun _ h=>?_)
 exact Y
 refine Z ?_
 refine A7 h (fun (v387,o388)=>[(22,(.arr 10 o388.length 0 o388.length)),(145,(O .i64 v387))]) (fun (v387,o388)=>[(10,.rows 75 5 (List.map Bo o388))]) ?_
 rintro ⟨v387,o388⟩ _ _ _ h _ _
 exact Y
 replace h:=Co h
 refine Fr (Fp rfl ?_)
 refine Dm [.fz 22] ?_
 exact Y
 replace h:=Co h
 refine Z ?_
 refine Lo h (fun _ h=>?_)
 refine Z ?_
 refine Bk h (fun _ h=>?_)
 refine Z ?_
 refine A7 h (fun (v370,o371)=>[(22,(.arr 10 o371.length 0 o371.length)),(135,(O .i64 v370))]) (fun (v370,o371)=>[(10,.rows 75 5 (List.map Bo o371))]) ?_
 rintro ⟨v370,o371⟩ _ _ _ h _ _
 refine Z ?_
 refine Aq h (fun _ h=>?_) (fun _ h=>?_)
 refine Z ?_
 refine B6 h (fun _ _ _ _ h=>?_)
 refine Z ?_
 refine Bk h (fun _ h=>?_)
 refine Z ?_
 refine Aq h (fun _ h=>?_) (fun _ h=>?_)
 exact Y
 refine Z ?_
 refine A7 h (fun (v387,o388)=>[(22,(.arr 10 o388.length 0 o388.length)),(145,(O .i64 v387))]) (fun (v387,o388)=>[(10,.rows 75 5 (List.map Bo o388))]) ?_
 rintro ⟨v387,o388⟩ _ _ _ h _ _
 exact Y
 replace h:=Co h
 refine Fr (Fp rfl ?_)
 refine Dm [.fz 22] ?_
 exact Y
 exact Y⟩
instance {a0:Ba} {b1:List (ByteArray×Int)} {b2:List (ByteArray×(List Bz))} {b0_0:List A8} {b0_1:List Aj} {b0_2 b0_3:Int} {b0_4:List Aj}:OK (Vu a0 b1 b2 b0_0 b0_1 b0_2 b0_3 b0_4) fun r=>Bn Tryz.prog 146 [(.loc 0 0),Gf a0] [.cells 136 [(.sl 3 (List.map Cx b0_0)),(.sl 3 (Bm b0_1)),(O .i64 b0_2),(O .i64 b0_3),(.sl 3 (Bm b0_4)),(.mp 1),(.mp 2)],.map (Bi (O .i64) b1),.map (Bi (Ao 5 Dd) b2)] (.tup [(Ao 5 Bo) r.1,(O .i64) r.2.1]) [.cells 136 [(.sl 3 (List.map Cx b0_0)),(.sl 3 (Bm b0_1)),(O .i64 b0_2),(O .i64 b0_3),(.sl 3 (Bm b0_4)),(.mp 1),(.mp 2)],.map (Bi (O .i64) r.2.2.1),.map (Bi (Ao 5 Dd) r.2.2.2)]:=⟨fun {r} h=>by
 refine aw {T:=Ca,an:=(fun _=>.ask),nl:=(fun s=>bif Nat.beq s 4 then [(0,5)] else [])} true Tryz.func146 ?_
 refine Z ?_
 refine Bk h (fun _ h=>?_)
 refine Z ?_
 refine A9 [0,1,2] h (fun _ h=>?_)
 refine Z ?_
 refine Aq h (fun _ h=>?_) (fun _ h=>?_)
 exact Y
 refine Z ?_
 refine A9 [] h (fun _ h=>?_)
 refine Z ?_
 refine A9 [5,4,6] h (fun _ h=>?_)
 refine Z ?_
 refine A9 [5,4,6] h (fun _ h=>?_)
 exact Y⟩
instance {a0:Int} {a1:Br}:OK (Aec a0 a1) fun r=>Aw Tryz.prog 181 [(.val (.pointer none)),(O .i64) a0,Ge a1] ((O .i64) r):=⟨fun {r} h=>by
 refine pw C0 Tryz.func181 ?_
 exact Y⟩
instance {a0:Int} {a1:Br}:OK (Ajt a0 a1) fun r=>Aw Tryz.prog 228 [(.val (.pointer none)),(O .i64) a0,Ge a1] ((Ao 3 D8) r):=⟨fun {r} h=>by
 refine pw {T:=Ca,an:=(fun _=>.ask),nl:=(fun s=>bif Nat.beq s 6 then [(0,3)] else [])} Tryz.func228 ?_
 exact Y⟩
end Go.Ab
namespace Go.Ab
open Go Go.Proofs
set_option maxRecDepth 10000
set_option maxHeartbeats 4000000
set_option linter.unusedVariables false
instance {a0:List Bx}:OK (Aju a0) fun r=>Aw Tryz.prog 226 [(.val (.pointer none)),(Ao 3 D8) a0] (.tup [(Ao 5 Dd) r.1,(O .i64) r.2]):=⟨fun {r} h=>by
 refine pw {T:=Ca,an:=(fun _=>.ask),nl:=(fun s=>bif Nat.beq s 4 then [(0,5)] else [])} Tryz.func226 ?_
 refine ZS ?_
 refine Ck ?_
 refine ZS ?_
 refine Ck ?_
 refine ZO ?_
 refine Ay (Ay ?_)
 refine Dm [.own 6 1 5 1] ?_
 refine Z ?_
 refine Sg ?_
 refine Z ?_
 refine Aq h (fun _ h=>?_) (fun _ h=>?_)
 refine Z ?_
 refine B6 h (fun _ _ _ _ h=>?_)
 refine Z ?_
 refine Bk h (fun _ h=>?_)
 refine Z ?_
 refine A9 [0,1] h (fun _ h=>?_)
 refine Z ?_
 refine A7 h (fun (v17,o18)=>[(18,(O .i64 v17))]) (fun (v17,o18)=>[(0,.cells 178 [(.loc 0 0),(.arr 1 o18.length 0 o18.length)]),(1,.rows 5 1 (List.map (O .u8) o18))]) ?_
 rintro ⟨v17,o18⟩ _ _ _ h _ _
 refine Z ?_
 refine Aq h (fun _ h=>?_) (fun _ h=>?_)
 refine Z ?_
 refine B6 h (fun _ _ _ _ h=>?_)
 refine Z ?_
 refine Bk h (fun _ h=>?_)
 refine Z ?_
 refine A9 [0,1] h (fun _ h=>?_)
 exact Y
 exact Y
 exact Y⟩
instance {a0:Ak} {a1:Ba}:OK (Aed a0 a1) fun r=>Aw Tryz.prog 166 [(.val (.pointer none)),Ch a0,Gf a1] (.tup [(Ao 5 Bo) r.1,(O .i64) r.2]):=⟨fun {r} h=>by
 refine pw {T:=Ca,an:=(fun s=>bif Nat.beq s 22 then .own else bif Nat.beq s 14 then .own else .ask),nl:=(fun s=>bif Nat.beq s 155 then [(0,3)] else bif Nat.beq s 92 then [(1,3)] else bif Nat.beq s 31 then [(3,3),(4,3)] else bif Nat.beq s 22 then [(0,5)] else bif Nat.beq s 14 then [(0,5)] else bif Nat.beq s 6 then [(0,5)] else [])} Tryz.func166 ?_
 refine Z ?_
 refine Bk h (fun _ h=>?_)
 refine Z ?_
 refine Aq h (fun _ h=>?_) (fun _ h=>?_)
 exact Y
 refine Z ?_
 refine A9 [] h (fun _ h=>?_)
 refine Z ?_
 refine A9 [3] h (fun _ h=>?_)
 refine C3 h (fun v8 hgv8 h=>?_)
 refine ZO ?_
 refine Ay (Jv ?_)
 refine Dm [.fz 9] ?_
 refine Z ?_
 refine A7 h (fun (v93,v94)=>[(6,(.sl 5 (List.map Bo []))),(7,(O .i64 0)),(8,(.sl 5 (List.map Bo v93))),(9,(.sl 3 (List.map D8 v94)))]) (fun (v93,v94)=>[]) ?_
 rintro ⟨v93,v94⟩ _ _ _ h _ _
 refine Z ?_
 refine Aq h (fun _ h=>?_) (fun _ h=>?_)
 refine Z ?_
 refine B6 h (fun _ _ _ _ h=>?_)
 refine Z ?_
 refine A7 h (fun v97=>[(11,(O .i64 v97))]) (fun v97=>[]) ?_
 rintro v97 _ _ _ h _ _
 refine Z ?_
 refine F2 h (fun _ h=>?_) (fun _ h=>?_)
 refine Z ?_
 refine B6 h (fun _ _ _ _ h=>?_)
 refine Z ?_
 refine Aq h (fun _ h=>?_) (fun _ h=>?_)
 exact Y
 replace h:=Co h
 refine Z ?_
 refine Lo h (fun _ h=>?_)
 refine Z ?_
 refine Bk h (fun _ h=>?_)
 refine Z ?_
 refine Aq h (fun _ h=>?_) (fun _ h=>?_)
 exact Y
 refine Z ?_
 refine A7 h (fun (v151,o152)=>[(14,(.arr 4 o152.length 0 o152.length)),(73,(O .i64 v151))]) (fun (v151,o152)=>[(4,.rows 75 5 (List.map Bo o152))]) ?_
 rintro ⟨v151,o152⟩ _ _ _ h _ _
 refine Z ?_
 refine Aq h (fun _ h=>?_) (fun _ h=>?_)
 refine Z ?_
 refine B6 h (fun _ _ _ _ h=>?_)
 refine Z ?_
 refine A7 h (fun (v167,o168)=>[(14,(.arr 4 o168.length 0 o168.length)),(79,(O .i64 v167))]) (fun (v167,o168)=>[(4,.rows 75 5 (List.map Bo o168))]) ?_
 rintro ⟨v167,o168⟩ _ _ _ h _ _
 exact Y
 replace h:=Co h
 refine Fr (Fp rfl ?_)
 refine Dm [.fz 14] ?_
 exact Y
 replace h:=Co h
 refine Z ?_
 refine Lo h (fun _ h=>?_)
 refine Z ?_
 refine Bk h (fun _ h=>?_)
 refine Z ?_
 refine Aq h (fun _ h=>?_) (fun _ h=>?_)
 exact Y
 refine Z ?_
 refine A7 h (fun (v151,o152)=>[(14,(.arr 4 o152.length 0 o152.length)),(73,(O .i64 v151))]) (fun (v151,o152)=>[(4,.rows 75 5 (List.map Bo o152))]) ?_
 rintro ⟨v151,o152⟩ _ _ _ h _ _
 refine Z ?_
 refine Aq h (fun _ h=>?_) (fun _ h=>?_)
 refine Z ?_
 refine B6 h (fun _ _ _ _ h=>?_)
 refine Z ?_
 refine A7 h (fun (v167,o168)=>[(14,(.arr 4 o168.length 0 o168.length)),(79,(O .i64 v167))]) (fun (v167,o168)=>[(4,.rows 75 5 (List.map Bo o168))]) ?_
 rintro ⟨v167,o168⟩ _ _ _ h _ _
 exact Y
 replace h:=Co h
 refine Fr (Fp rfl ?_)
 refine Dm [.fz 14] ?_
 exact Y
 replace h:=Co h
 refine Z ?_
 refine A9 [] h (fun _ h=>?_)
 refine Z ?_
 refine A9 [5] h (fun _ h=>?_)
 refine C3 h (fun v186 hgv186 h=>?_)
 refine ZO ?_
 refine Ay (Jv ?_)
 refine Dm [.fz 19] ?_
 refine Z ?_
 refine A7 h (fun (v277,v278)=>[(8,(.sl 5 (List.map Bo v277))),(19,(.sl 3 (List.map D9 v278)))]) (fun (v277,v278)=>[]) ?_
 rintro ⟨v277,v278⟩ _ _ _ h _ _
 refine Z ?_
 refine Aq h (fun _ h=>?_) (fun _ h=>?_)
 refine Z ?_
 refine B6 h (fun _ _ _ _ h=>?_)
 refine Z ?_
 refine A7 h (fun v283=>[(21,(O .i64 v283))]) (fun v283=>[]) ?_
 rintro v283 _ _ _ h _ _
 refine Z ?_
 refine F2 h (fun _ h=>?_) (fun _ h=>?_)
 refine Z ?_
 refine B6 h (fun _ _ _ _ h=>?_)
 refine Z ?_
 refine Bk h (fun _ h=>?_)
 refine Z ?_
 refine Aq h (fun _ h=>?_) (fun _ h=>?_)
 exact Y
 replace h:=Co h
 refine Z ?_
 refine Lo h (fun _ h=>?_)
 refine Z ?_
 refine Bk h (fun _ h=>?_)
 refine Z ?_
 refine A7 h (fun (v340,o341)=>[(22,(.arr 7 o341.length 0 o341.length)),(135,(O .i64 v340))]) (fun (v340,o341)=>[(7,.rows 75 5 (List.map Bo o341))]) ?_
 rintro ⟨v340,o341⟩ _ _ _ h _ _
 refine Z ?_
 refine Aq h (fun _ h=>?_) (fun _ h=>?_)
 refine Z ?_
 refine B6 h (fun _ _ _ _ h=>?_)
 refine Z ?_
 refine Bk h (fun _ h=>?_)
 refine Z ?_
 refine Aq h (fun _ h=>?_) (fun _ h=>?_)
 exact Y
 refine Z ?_
 refine A7 h (fun (v357,o358)=>[(22,(.arr 7 o358.length 0 o358.length)),(145,(O .i64 v357))]) (fun (v357,o358)=>[(7,.rows 75 5 (List.map Bo o358))]) ?_
 rintro ⟨v357,o358⟩ _ _ _ h _ _
 exact Y
 replace h:=Co h
 refine Fr (Fp rfl ?_)
 refine Dm [.fz 22] ?_
 exact Y
 replace h:=Co h
 refine Z ?_
 refine Lo h (fun _ h=>?_)
 refine Z ?_
 refine Bk h (fun _ h=>?_)
 refine Z ?_
 refine A7 h (fun (v340,o341)=>[(22,(.arr 7 o341.length 0 o341.length)),(135,(O .i64 v340))]) (fun (v340,o341)=>[(7,.rows 75 5 (List.map Bo o341))]) ?_
 rintro ⟨v340,o341⟩ _ _ _ h _ _
 refine Z ?_
 refine Aq h (fun _ h=>?_) (fun _ h=>?_)
 refine Z ?_
 refine B6 h (fun _ _ _ _ h=>?_)
 refine Z ?_
 refine Bk h (fun _ h=>?_)
 refine Z ?_
 refine Aq h (fun _ h=>?_) (fun _ h=>?_)
 exact Y
 refine Z ?_
 refine A7 h (fun (v357,o358)=>[(22,(.arr 7 o358.length 0 o358.length)),(145,(O .i64 v357))]) (fun (v357,o358)=>[(7,.rows 75 5 (List.map Bo o358))]) ?_
 rintro ⟨v357,o358⟩ _ _ _ h _ _
 exact Y
 replace h:=Co h
 refine Fr (Fp rfl ?_)
 refine Dm [.fz 22] ?_
 exact Y
 exact Y⟩
instance {a0:Ba}:OK (Ajv a0) fun r=>Aw Tryz.prog 146 [(.val (.pointer none)),Gf a0] (.tup [(Ao 5 Bo) r.1,(O .i64) r.2]):=⟨fun {r} h=>by
 refine pw {T:=Ca,an:=(fun _=>.ask),nl:=(fun s=>bif Nat.beq s 4 then [(0,5)] else [])} Tryz.func146 ?_
 refine Z ?_
 refine Bk h (fun _ h=>?_)
 refine Z ?_
 refine Bk h (fun _ h=>?_)
 refine Z ?_
 refine Aq h (fun _ h=>?_) (fun _ h=>?_)
 exact Y
 refine Z ?_
 refine A9 [] h (fun _ h=>?_)
 refine Z ?_
 refine A9 [2,1,3] h (fun _ h=>?_)
 refine Z ?_
 refine A9 [2,1,3] h (fun _ h=>?_)
 exact Y⟩
instance {a0:Bj} {a1:Ap} {a2:Int}:OK (Lh a0 a1 a2) fun r=>Aw Tryz.prog 84 [Gy a0,C6 a1,(O .i64) a2] (.tup [(Ao 5 Bo) r.1,(O .i64) r.2]):=⟨fun {r} h=>by
 refine pw {T:=Ca,an:=(fun _=>.ask),nl:=(fun s=>bif Nat.beq s 37 then [(0,3)] else bif Nat.beq s 6 then [(0,5)] else [])} Tryz.func84 ?_
 refine Z ?_
 refine C3 h (fun v3 hcv3 h=>?_)
 rcases v3 with v4 | v9
 refine Fj.act [] _ _ _ _ (Bn.sub (args:=[_,.val (.slice none 0 0)]) (Wr (a0:=a0) (a1:=[]) hcv3) ⟨Sub.refl _,Sub.nil _,trivial⟩) rfl rfl trivial ?_
 refine Z ?_
 refine Aq h (fun _ h=>?_) (fun _ h=>?_)
 exact Y
 refine Ju (Ay (Ay ?_))
 refine Cl h (fun v11=>[(27,(As v11))]) (fun v11=>[]) ?_ ?_
 intro _ h _ _ _
 exact Y
 rintro v11 _ h
 refine Aq h (fun _ h=>?_) (fun _ h=>?_)
 exact Y
 refine Z ?_
 refine A9 [5,3,4] h (fun _ h=>?_)
 refine Z ?_
 refine Aq h (fun _ h=>?_) (fun _ h=>?_)
 exact Y
 refine Z ?_
 refine A9 [5,3,4] h (fun _ h=>?_)
 exact Y
 refine Fj.act [] _ _ _ _ (Bn.sub (args:=[_,.val (.slice none 0 0)]) (Ws (a0:=a0) (a1:=[]) hcv3) ⟨Sub.refl _,Sub.nil _,trivial⟩) rfl rfl trivial ?_
 refine Z ?_
 refine Aq h (fun _ h=>?_) (fun _ h=>?_)
 exact Y
 refine Ju (Ay (Ay ?_))
 refine Cl h (fun v15=>[(27,(As v15))]) (fun v15=>[]) ?_ ?_
 intro _ h _ _ _
 exact Y
 rintro v15 _ h
 exact Y⟩
instance {a0:Bj} {a1:Gd}:OK (Ze a0 a1) fun r=>Aw Tryz.prog 46 [Gy a0,Mj a1] (.tup [(Ao 5 Bo) r.1,(O .i64) r.2]):=⟨fun {r} h=>by
 refine pw {T:=Ca,an:=(fun _=>.ask),nl:=(fun s=>bif Nat.beq s 4 then [(0,5)] else [])} Tryz.func46 ?_
 exact Y⟩
instance {a0:List Ah} {b1:List (ByteArray×Int)} {b2:List (ByteArray×(List Bz))} {b0_0:List A8} {b0_1:List Aj} {b0_2 b0_3:Int} {b0_4:List Aj}:OK (Oj a0 b1 b2 b0_0 b0_1 b0_2 b0_3 b0_4) fun r=>Bn Tryz.prog 165 [(.loc 0 0),(Ao 5 Bo) a0] [.cells 136 [(.sl 3 (List.map Cx b0_0)),(.sl 3 (Bm b0_1)),(O .i64 b0_2),(O .i64 b0_3),(.sl 3 (Bm b0_4)),(.mp 1),(.mp 2)],.map (Bi (O .i64) b1),.map (Bi (Ao 5 Dd) b2)] ((O .i64) r.1) [.cells 136 [(.sl 3 (List.map Cx b0_0)),(.sl 3 (Bm b0_1)),(O .i64 b0_2),(O .i64 b0_3),(.sl 3 (Bm b0_4)),(.mp 1),(.mp 2)],.map (Bi (O .i64) r.2),.map (Bi (Ao 5 Dd) b2)]:=⟨fun {r} h=>by
 refine aw C0 true Tryz.func165 ?_
 refine Z ?_
 refine A7 h (fun (v4,v5,o6)=>[(5,(O .i64 v4)),(10,(O .i64 v5))]) (fun (v4,v5,o6)=>[(1,.map (Bi (O .i64) o6))]) ?_
 rintro ⟨v4,v5,o6⟩ _ _ _ h _ _
 refine Z ?_
 refine Aq h (fun _ h=>?_) (fun _ h=>?_)
 refine Z ?_
 refine B6 h (fun _ _ _ _ h=>?_)
 refine Z ?_
 refine A9 [0,1,2] h (fun _ h=>?_)
 exact Y
 exact Y⟩
instance {a0:Ba}:OK (Ajw a0) fun r=>Aw Tryz.prog 180 [(.val (.pointer none)),Gf a0] ((O .i64) r):=⟨fun {r} h=>by
 refine pw C0 Tryz.func180 ?_
 refine Z ?_
 refine A7 h (fun (v5,v6)=>[(5,(O .i64 v5)),(13,(O .i64 v6))]) (fun (v5,v6)=>[]) ?_
 rintro ⟨v5,v6⟩ _ _ _ h _ _
 refine Z ?_
 refine Aq h (fun _ h=>?_) (fun _ h=>?_)
 exact Y
 replace h:=Co h
 refine Z ?_
 refine A7 h (fun (v13,v14)=>[(5,(O .i64 v13)),(31,(O .i64 v14))]) (fun (v13,v14)=>[]) ?_
 rintro ⟨v13,v14⟩ _ _ _ h _ _
 exact Y⟩
instance {a0:List Ah}:OK (Aee a0) fun r=>Aw Tryz.prog 165 [(.val (.pointer none)),(Ao 5 Bo) a0] ((O .i64) r):=⟨fun {r} h=>by
 refine pw C0 Tryz.func165 ?_
 refine Z ?_
 refine A7 h (fun (v4,v5)=>[(5,(O .i64 v4)),(10,(O .i64 v5))]) (fun (v4,v5)=>[]) ?_
 rintro ⟨v4,v5⟩ _ _ _ h _ _
 exact Y⟩
instance {a0:Bj} {a1 a2:List Ah}:OK (Mb a0 a1 a2) fun r=>Aw Tryz.prog 114 [Gy a0,(Ao 5 Bo) a1,(Ao 5 Bo) a2] (.tup [(Ao 5 Bo) r.1,(O .i64) r.2]):=⟨fun {r} h=>by
 refine pw {T:=Ca,an:=(fun _=>.ask),nl:=(fun s=>bif Nat.beq s 6 then [(0,5)] else [])} Tryz.func114 ?_
 refine Z ?_
 refine C3 h (fun v2 hcv2 h=>?_)
 rcases v2 with v3 | v8
 refine Fj.act [] _ _ _ _ (Wr (a0:=a0) (a1:=[a1,a2]) hcv2) rfl rfl trivial ?_
 refine Z ?_
 refine Aq h (fun _ h=>?_) (fun _ h=>?_)
 exact Y
 refine Ju (Ay (Ay ?_))
 refine Cl h (fun (v11,o12)=>[(44,(As v11))]) (fun (v11,o12)=>[(2,.map (Bi (O .i64) o12))]) ?_ ?_
 intro _ h _ _ _
 refine Z ?_
 refine F2 h (fun _ h=>?_) (fun _ h=>?_)
 refine Z ?_
 refine F2 h (fun _ h=>?_) (fun _ h=>?_)
 refine Z ?_
 refine A9 [4,2,3] h (fun _ h=>?_)
 refine Z ?_
 refine A9 [4,2,3] h (fun _ h=>?_)
 exact Y
 exact Y
 exact Y
 rintro ⟨v11,o12⟩ _ h
 refine Aq h (fun _ h=>?_) (fun _ h=>?_)
 exact Y
 refine Z ?_
 refine A9 [] h (fun _ h=>?_)
 refine Z ?_
 refine A7 h (fun (v96,o97,o98,o99,o100)=>[(6,(.sl 5 (List.map Bo []))),(7,(O .i64 0)),(48,(O .i64 v96))]) (fun (v96,o97,o98,o99,o100)=>[(2,.map (Bi (O .i64) o97)),(3,.map (Bi (Ao 5 Dd) o98)),(5,.map (Bi (O .i64) o99)),(6,.cells 138 [(.mp 5),(.arr 7 o100.length 0 o100.length)]),(7,.rows 75 5 (List.map Bo o100))]) ?_
 rintro ⟨v96,o97,o98,o99,o100⟩ _ _ _ h _ _
 refine Z ?_
 refine Aq h (fun _ h=>?_) (fun _ h=>?_)
 refine Z ?_
 refine B6 h (fun _ _ _ _ h=>?_)
 refine Z ?_
 refine A7 h (fun (v120,o121,o122,o123,o124)=>[(6,(.sl 5 (List.map Bo []))),(7,(O .i64 0)),(54,(O .i64 v120))]) (fun (v120,o121,o122,o123,o124)=>[(2,.map (Bi (O .i64) o121)),(3,.map (Bi (Ao 5 Dd) o122)),(5,.map (Bi (O .i64) o123)),(6,.cells 138 [(.mp 5),(.arr 7 o124.length 0 o124.length)]),(7,.rows 75 5 (List.map Bo o124))]) ?_
 rintro ⟨v120,o121,o122,o123,o124⟩ _ _ _ h _ _
 refine Z ?_
 refine Aq h (fun _ h=>?_) (fun _ h=>?_)
 refine Z ?_
 refine B6 h (fun _ _ _ _ h=>?_)
 refine Z ?_
 refine Bk h (fun _ h=>?_)
 refine Z ?_
 refine Bk h (fun _ h=>?_)
 refine Z ?_
 refine A9 [4,2,3] h (fun _ h=>?_)
 refine Z ?_
 refine Aq h (fun _ h=>?_) (fun _ h=>?_)
 exact Y
 refine Z ?_
 refine A9 [6,5,7] h (fun _ h=>?_)
 exact Y
 exact Y
 replace h:=Co h
 refine Z ?_
 refine A9 [6,5,7] h (fun _ h=>?_)
 exact Y
 refine Fj.act [] _ _ _ _ (Ws (a0:=a0) (a1:=[a1,a2]) hcv2) rfl rfl trivial ?_
 refine Z ?_
 refine Aq h (fun _ h=>?_) (fun _ h=>?_)
 exact Y
 refine Ju (Ay (Ay ?_))
 refine Cl h (fun v147=>[(44,(As v147))]) (fun v147=>[]) ?_ ?_
 intro _ h _ _ _
 exact Y
 rintro v147 _ h
 refine Aq h (fun _ h=>?_) (fun _ h=>?_)
 exact Y
 refine Z ?_
 refine A9 [] h (fun _ h=>?_)
 refine Z ?_
 refine A7 h (fun (v217,o218,o219)=>[(6,(.sl 5 (List.map Bo []))),(7,(O .i64 0)),(48,(O .i64 v217))]) (fun (v217,o218,o219)=>[(1,.map (Bi (O .i64) o218)),(2,.cells 138 [(.mp 1),(.arr 3 o219.length 0 o219.length)]),(3,.rows 75 5 (List.map Bo o219))]) ?_
 rintro ⟨v217,o218,o219⟩ _ _ _ h _ _
 refine Z ?_
 refine Aq h (fun _ h=>?_) (fun _ h=>?_)
 refine Z ?_
 refine B6 h (fun _ _ _ _ h=>?_)
 refine Z ?_
 refine A7 h (fun (v237,o238,o239)=>[(6,(.sl 5 (List.map Bo []))),(7,(O .i64 0)),(54,(O .i64 v237))]) (fun (v237,o238,o239)=>[(1,.map (Bi (O .i64) o238)),(2,.cells 138 [(.mp 1),(.arr 3 o239.length 0 o239.length)]),(3,.rows 75 5 (List.map Bo o239))]) ?_
 rintro ⟨v237,o238,o239⟩ _ _ _ h _ _
 refine Z ?_
 refine Aq h (fun _ h=>?_) (fun _ h=>?_)
 refine Z ?_
 refine B6 h (fun _ _ _ _ h=>?_)
 refine Z ?_
 refine Bk h (fun _ h=>?_)
 refine Z ?_
 refine Bk h (fun _ h=>?_)
 refine Z ?_
 refine Bk h (fun _ h=>?_)
 refine Z ?_
 refine Aq h (fun _ h=>?_) (fun _ h=>?_)
 exact Y
 refine Z ?_
 refine A9 [2,1,3] h (fun _ h=>?_)
 exact Y
 exact Y
 replace h:=Co h
 refine Z ?_
 refine A9 [2,1,3] h (fun _ h=>?_)
 exact Y⟩
instance {a0:Bj} {a1:Gd} {a2:Int}:OK (Sr a0 a1 a2) fun r=>Aw Tryz.prog 85 [Gy a0,Mj a1,(O .i64) a2] (.tup [(Ao 5 Bo) r.1,(O .i64) r.2]):=⟨fun {r} h=>by
 refine pw {T:=Ca,an:=(fun _=>.ask),nl:=(fun s=>bif Nat.beq s 6 then [(0,5)] else [])} Tryz.func85 ?_
 exact Y⟩
instance {a0:Bj} {a1:Gd}:OK (U6 a0 a1) fun r=>Aw Tryz.prog 47 [Gy a0,Mj a1] (.tup [(Ao 5 Bo) r.1,(O .i64) r.2]):=⟨fun {r} h=>by
 refine pw {T:=Ca,an:=(fun _=>.ask),nl:=(fun s=>bif Nat.beq s 10 then [(0,5)] else bif Nat.beq s 4 then [(0,5)] else [])} Tryz.func47 ?_
 refine Z ?_
 refine Bk h (fun _ h=>?_)
 refine Z ?_
 refine Aq h (fun _ h=>?_) (fun _ h=>?_)
 exact Y
 refine Z ?_
 refine Bk h (fun _ h=>?_)
 refine Z ?_
 refine A7 h (fun (v9,v10,v11)=>[(7,(O .i64 v9)),(8,(.sl 5 (List.map Bo v10))),(9,(O .i64 v11))]) (fun (v9,v10,v11)=>[]) ?_
 rintro ⟨v9,v10,v11⟩ _ _ _ h _ _
 refine Ay (Ay ?_)
 refine Cl h (fun v12=>[(37,(As v12))]) (fun v12=>[]) ?_ ?_
 intro _ h _ _ _
 exact Y
 rintro v12 _ h
 exact Y⟩
instance {a0:Bj} {a1:Ap}:OK (Sk a0 a1) fun r=>Aw Tryz.prog 45 [Gy a0,C6 a1] (As r):=⟨fun {r} h=>by
 refine pw C0 Tryz.func45 ?_
 refine Z ?_
 refine A7 h (fun v6=>[(4,(As false)),(10,(O .i64 v6))]) (fun v6=>[]) ?_
 rintro v6 _ _ _ h _ _
 exact Y⟩
instance {a0:Bj} {a1:Gd}:OK (Py a0 a1) fun r=>Aw Tryz.prog 22 [Gy a0,Mj a1] (.tup [(Ao 5 Bo) r.1,(O .i64) r.2]):=⟨fun {r} h=>by
 refine pw {T:=Ca,an:=(fun _=>.ask),nl:=(fun s=>bif Nat.beq s 4 then [(0,5)] else [])} Tryz.func22 ?_
 refine ZS ?_
 refine Ck ?_
 refine ZO ?_
 refine Ay (Ay ?_)
 refine Cl h (fun v5=>[(13,(As v5))]) (fun v5=>[]) ?_ ?_
 intro _ h _ _ _
 exact Y
 rintro v5 _ h
 refine Aq h (fun _ h=>?_) (fun _ h=>?_)
 exact Y
 refine Ju (Ay (Ay ?_))
 refine Cl h (fun v8=>[(25,(As v8))]) (fun v8=>[]) ?_ ?_
 intro _ h _ _ _
 exact Y
 rintro v8 _ h
 exact Y⟩
instance {a0:Ba}:OK (Zg a0) fun r=>Aw Tryz.prog 113 [Gf a0] ((Ao 5 Bo) r):=⟨fun {r} h=>by
 refine pw {T:=Ca,an:=(fun _=>.ask),nl:=(fun s=>bif Nat.beq s 2 then [(0,5)] else [])} Tryz.func113 ?_
 exact Y⟩
instance {a0:Bj} {a1:C9}:OK (Na a0 a1) fun r=>Aw Tryz.prog 71 [Gy a0,I7 a1] (.tup [(Ao 5 Bo) r.1,(O .i64) r.2]):=⟨fun {r} h=>by
 refine pw {T:=Ca,an:=(fun _=>.ask),nl:=(fun s=>bif Nat.beq s 4 then [(0,5)] else [])} Tryz.func71 ?_
 exact Y⟩
instance {a0:Bj} {a1 a2:List Ah} {a3:List C9}:OK (Oc a0 a1 a2 a3) fun r=>Aw Tryz.prog 39 [Gy a0,(Ao 5 Bo) a1,(Ao 5 Bo) a2,(Ao 13 I7) a3] (.tup [(Ao 5 Bo) r.1,(O .i64) r.2]):=⟨fun {r} h=>by
 refine pw {T:=Ca,an:=(fun _=>.ask),nl:=(fun s=>bif Nat.beq s 8 then [(0,5)] else [])} Tryz.func39 ?_
 refine ZS ?_
 refine Ck ?_
 refine ZO ?_
 refine Ay (Ay ?_)
 refine Cl h (fun v4=>[(25,(As v4))]) (fun v4=>[]) ?_ ?_
 intro _ h _ _ _
 exact Y
 rintro v4 _ h
 refine Aq h (fun _ h=>?_) (fun _ h=>?_)
 exact Y
 refine Z ?_
 refine Bk h (fun _ h=>?_)
 refine Z ?_
 refine Aq h (fun _ h=>?_) (fun _ h=>?_)
 exact Y
 refine Z ?_
 refine A7 h (fun (v11,v12)=>[(8,(.sl 5 (List.map Bo []))),(9,(O .i64 0)),(10,(.sl 5 (List.map Bo v11))),(38,(O .i64 v12))]) (fun (v11,v12)=>[]) ?_
 rintro ⟨v11,v12⟩ _ _ _ h _ _
 exact Y⟩
instance {a0:Ap}:OK (Sl a0) fun r=>Aw Tryz.prog 51 [C6 a0] (C6 r):=⟨fun {r} h=>by
 refine pw C0 Tryz.func51 ?_
 exact Y⟩
instance {a0:Gd}:OK (Oa a0) fun r=>Aw Tryz.prog 25 [Mj a0] ((Ao 2 C6) r):=⟨fun {r} h=>by
 refine pw {T:=Ca,an:=(fun _=>.ask),nl:=(fun s=>bif Nat.beq s 2 then [(0,2)] else [])} Tryz.func25 ?_
 exact Y⟩
instance {a0:List Ap} {a1:List Ak}:OK (U7 a0 a1) fun r=>Aw Tryz.prog 52 [(Ao 2 C6) a0,(Ao 3 Ch) a1] (As r):=⟨fun {r} h=>by
 refine pw C0 Tryz.func52 ?_
 refine Z ?_
 refine Aq h (fun _ h=>?_) (fun _ h=>?_)
 exact Y
 refine Z ?_
 refine A7 h (fun v4=>[(4,(As false)),(14,(O .i64 v4))]) (fun v4=>[]) ?_
 rintro v4 _ _ _ h _ _
 exact Y⟩
instance {a0:Ap} {a1:Int}:OK (Vi a0 a1) fun r=>Aw Tryz.prog 94 [C6 a0,(O .i64) a1] ((O .i64) r):=⟨fun {r} h=>by
 refine pw C0 Tryz.func94 ?_
 refine Z ?_
 refine A7 h (fun v4=>[(4,(O .i64 0)),(10,(O .i64 v4))]) (fun v4=>[]) ?_
 rintro v4 _ _ _ h _ _
 exact Y⟩
instance {a0:Ap} {b0:Int}:OK (P4 a0 b0) fun r=>Bn Tryz.prog 93 [C6 a0,(.loc 0 0)] [.cells 3 [(O .i64 b0)]] ((O .i64) r) [.cells 3 [(O .i64 b0)]]:=⟨fun {r} h=>by
 refine aw C0 true Tryz.func93 ?_
 exact Y⟩
instance {a0 a1:Ak}:OK (Ni a0 a1) fun r=>Aw Tryz.prog 150 [Ch a0,Ch a1] (Ch r):=⟨fun {r} h=>by
 refine pw C0 Tryz.func150 ?_
 exact Y⟩
instance {a0:List Ap} {a1:Ap} {a2:List Ak} {b0:Int}:OK (Vj a0 a1 a2 b0) fun r=>Bn Tryz.prog 95 [(Ao 2 C6) a0,C6 a1,(Ao 3 Ch) a2,(.fn 93 [(.loc 0 0)])] [.cells 3 [(O .i64 b0)]] (Ch r) [.cells 3 [(O .i64 b0)]]:=⟨fun {r} h=>by
 refine aw C0 true Tryz.func95 ?_
 refine Z ?_
 refine A9 [0] h (fun _ h=>?_)
 refine Z ?_
 refine Bk h (fun _ h=>?_)
 refine Z ?_
 refine A7 h (fun (v13,v14,v15,v16)=>[(19,(O .i64 v13))]) (fun (v13,v14,v15,v16)=>[(3,.cells 50 [(As v14),(.sl 1 (List.map (O .u32) v15)),(.sl 1 (List.map (O .u32) v16))])]) ?_
 rintro ⟨v13,v14,v15,v16⟩ _ _ _ h _ _
 refine Z ?_
 refine Aq h (fun _ h=>?_) (fun _ h=>?_)
 refine Z ?_
 refine B6 h (fun _ _ _ _ h=>?_)
 refine Z ?_
 refine A9 [0] h (fun _ h=>?_)
 exact Y
 exact Y⟩
instance {a0:Ap}:OK (Vk a0) fun r=>Aw Tryz.prog 96 [C6 a0] ((O .i64) r):=⟨fun {r} h=>by
 refine pw C0 Tryz.func96 ?_
 exact Y⟩
instance {a0:List Ap} {a1:Ap} {a2:List Ak}:OK (Z3 a0 a1 a2) fun r=>Aw Tryz.prog 95 [(Ao 2 C6) a0,C6 a1,(Ao 3 Ch) a2,(.fn 96 [])] (Ch r):=⟨fun {r} h=>by
 refine pw C0 Tryz.func95 ?_
 refine Z ?_
 refine Bk h (fun _ h=>?_)
 refine Z ?_
 refine Bk h (fun _ h=>?_)
 refine Z ?_
 refine A7 h (fun (v13,v14,v15,v16)=>[(19,(O .i64 v13))]) (fun (v13,v14,v15,v16)=>[(2,.cells 50 [(As v14),(.sl 1 (List.map (O .u32) v15)),(.sl 1 (List.map (O .u32) v16))])]) ?_
 rintro ⟨v13,v14,v15,v16⟩ _ _ _ h _ _
 exact Y⟩
instance {a0:List Ap}:OK (Vh a0) fun r=>Bn Tryz.prog 92 [(Ao 2 C6) a0] [] (.arr 1 r.2.length 0 r.2.length) [.rows 25 2 (List.map C6 r.1),.rows 25 2 (List.map C6 r.2)]:=⟨fun {r} h=>by
 exact Auu h⟩
instance {a0:List Ap} {a1:Ap} {a2:List Ak}:OK (Sn a0 a1 a2) fun r=>Aw Tryz.prog 53 [(Ao 2 C6) a0,C6 a1,(Ao 3 Ch) a2] (.tup [Ch r.1,As r.2]):=⟨fun {r} h=>by
 refine pw {T:=Ca,an:=(fun _=>.ask),nl:=(fun s=>bif Nat.beq s 32 then [(1,1),(2,1)] else [])} Tryz.func53 ?_
 refine Z ?_
 refine A9 [] h (fun _ h=>?_)
 refine Z ?_
 refine Ln h (fun _ h=>?_)
 refine ZO ?_
 refine Ay (Ay ?_)
 refine Dm [.fz 8] ?_
 refine Z ?_
 refine Bk h (fun _ h=>?_)
 refine Z ?_
 refine A7 h (fun v12=>[(7,(As false)),(20,(O .i64 v12))]) (fun v12=>[]) ?_
 rintro v12 _ _ _ h _ _
 refine Z ?_
 refine Aq h (fun _ h=>?_) (fun _ h=>?_)
 refine Z ?_
 refine B6 h (fun _ _ _ _ h=>?_)
 refine Z ?_
 refine A9 [4] h (fun _ h=>?_)
 exact Y
 exact Y⟩
instance {a0:List Ap} {a1:List Ak}:OK (So a0 a1) fun r=>Aw Tryz.prog 54 [(Ao 2 C6) a0,(Ao 3 Ch) a1] (As r):=⟨fun {r} h=>by
 refine pw {T:=Ca,an:=(fun _=>.ask),nl:=(fun s=>bif Nat.beq s 9 then [(1,2)] else [])} Tryz.func54 ?_
 exact Y⟩
instance {a0:List Ap} {a1:Ap} {a2:List Ak}:OK (M7 a0 a1 a2) fun r=>Aw Tryz.prog 27 [(Ao 2 C6) a0,C6 a1,(Ao 3 Ch) a2] (As r):=⟨fun {r} h=>by
 refine pw C0 Tryz.func27 ?_
 refine ZS ?_
 refine Ck ?_
 refine ZO ?_
 refine Ay (Ay ?_)
 refine Cl h (fun v5=>[(22,(As v5))]) (fun v5=>[]) ?_ ?_
 intro _ h _ _ _
 exact Y
 rintro v5 _ h
 exact Y⟩
instance {a0:List Ap} {a1:Gd} {a2 a3:List Ak}:OK (Uz a0 a1 a2 a3) fun r=>Aw Tryz.prog 11 [(Ao 2 C6) a0,Mj a1,(Ao 3 Ch) a2,(Ao 3 Ch) a3] (As r):=⟨fun {r} h=>by
 refine pw C0 Tryz.func11 ?_
 exact Y⟩
instance {a0:List Ap} {a1:C9}:OK (Ob a0 a1) fun r=>Aw Tryz.prog 37 [(Ao 2 C6) a0,I7 a1] (As r):=⟨fun {r} h=>by
 refine pw C0 Tryz.func37 ?_
 exact Y⟩
instance {a0:Bj} {a1:List Ap} {a2 a3:List Ah} {a4:List C9}:OK (Jw a0 a1 a2 a3 a4) fun r=>Aw Tryz.prog 17 [Gy a0,(Ao 2 C6) a1,(Ao 5 Bo) a2,(Ao 5 Bo) a3,(Ao 13 I7) a4] ((O .i64) r):=⟨fun {r} h=>by
 refine pw C0 Tryz.func17 ?_
 refine ZS ?_
 refine Ck ?_
 refine ZO ?_
 refine Ay (Ay ?_)
 refine Cl h (fun v5=>[(29,(As v5))]) (fun v5=>[]) ?_ ?_
 intro _ h _ _ _
 exact Y
 rintro v5 _ h
 refine Aq h (fun _ h=>?_) (fun _ h=>?_)
 exact Y
 refine Z ?_
 refine A7 h (fun v10=>[(10,(O .i64 0)),(32,(O .i64 v10))]) (fun v10=>[]) ?_
 rintro v10 _ _ _ h _ _
 exact Y⟩
instance  : OK (U1) fun r=>Aw Tryz.prog 13 [] (As r):=⟨fun {r} h=>by
 refine pw {T:=Ca,an:=(fun _=>.ask),nl:=(fun s=>bif Nat.beq s 54 then [(0,3),(4,3)] else bif Nat.beq s 45 then [(0,3),(4,3)] else bif Nat.beq s 43 then [(4,2),(9,3),(10,3)] else bif Nat.beq s 41 then [(1,1),(2,1)] else bif Nat.beq s 33 then [(3,3)] else bif Nat.beq s 27 then [(3,3),(4,3)] else bif Nat.beq s 24 then [(3,3)] else bif Nat.beq s 9 then [(2,3)] else [])} Tryz.func13 ?_
 exact Y⟩
instance {a0:List Int} {a1:Int}:OK (P1 a0 a1) fun r=>Aw Tryz.prog 66 [(Ao 1 (O .i64)) a0,(O .i64) a1] ((Ao 1 (O .i64)) r):=⟨fun {r} h=>by
 refine pw {T:=Ca,an:=(fun _=>.ask),nl:=(fun s=>bif Nat.beq s 4 then [(0,1)] else [])} Tryz.func66 ?_
 refine Z ?_
 refine A7 h (fun v2=>[(5,(O .i64 v2))]) (fun v2=>[]) ?_
 rintro v2 _ _ _ h _ _
 refine Z ?_
 refine F2 h (fun _ h=>?_) (fun _ h=>?_)
 refine Z ?_
 refine B6 h (fun _ _ _ _ h=>?_)
 refine Z ?_
 refine Aq h (fun _ h=>?_) (fun _ h=>?_)
 exact Y
 replace h:=Co h
 refine Fr (Fp rfl (Ay (Ay ?_)))
 refine Cl h (fun v6=>[(31,(As v6))]) (fun v6=>[]) ?_ ?_
 intro _ h _ _ _
 exact Y
 rintro v6 _ h
 exact Y
 replace h:=Co h
 refine ZO ?_
 refine Uv (Fr (Fp rfl (Ay (Ay ?_))))
 refine Cl h (fun v6=>[(31,(As v6))]) (fun v6=>[]) ?_ ?_
 intro _ h _ _ _
 exact Y
 rintro v6 _ h
 exact Y⟩
instance {a0:List Ap}:OK (Zd a0) fun r=>Aw Tryz.prog 34 [(Ao 2 C6) a0] ((Ao 1 (O .i64)) r):=⟨fun {r} h=>by
 refine pw {T:=Ca,an:=(fun _=>.ask),nl:=(fun s=>bif Nat.beq s 3 then [(0,1)] else bif Nat.beq s 2 then [(0,1)] else [])} Tryz.func34 ?_
 refine Z ?_
 refine A7 h (fun (v12,v13)=>[(3,(.sl 1 (List.map (O .i64) v12))),(8,(O .i64 v13))]) (fun (v12,v13)=>[]) ?_
 rintro ⟨v12,v13⟩ _ _ _ h _ _
 refine Z ?_
 refine Aq h (fun _ h=>?_) (fun _ h=>?_)
 refine Z ?_
 refine B6 h (fun _ _ _ _ h=>?_)
 refine Z ?_
 refine A7 h (fun (v18,v19)=>[(3,(.sl 1 (List.map (O .i64) v18))),(17,(O .i64 v19))]) (fun (v18,v19)=>[]) ?_
 rintro ⟨v18,v19⟩ _ _ _ h _ _
 exact Y
 exact Y⟩
instance {a0:Int}:OK (Sp a0) fun r=>Aw Tryz.prog 65 [(O .i64) a0] (As r):=⟨fun {r} h=>by
 refine pw C0 Tryz.func65 ?_
 exact Y⟩
instance {a0:Ap}:OK (U5 a0) fun r=>Aw Tryz.prog 33 [C6 a0] (As r):=⟨fun {r} h=>by
 refine pw C0 Tryz.func33 ?_
 refine ZS ?_
 refine Ck ?_
 refine ZO ?_
 refine Ay (Ay ?_)
 refine Cl h (fun v3=>[(14,(As v3))]) (fun v3=>[]) ?_ ?_
 intro _ h _ _ _
 exact Y
 rintro v3 _ h
 refine Aq h (fun _ h=>?_) (fun _ h=>?_)
 exact Y
 refine Z ?_
 refine A7 h (fun v7=>[(2,(As false)),(18,(O .i64 v7))]) (fun v7=>[]) ?_
 rintro v7 _ _ _ h _ _
 exact Y⟩
instance {a0:List Ap}:OK (Sh a0) fun r=>Aw Tryz.prog 16 [(Ao 2 C6) a0] (As r):=⟨fun {r} h=>by
 refine pw C0 Tryz.func16 ?_
 refine Z ?_
 refine Aq h (fun _ h=>?_) (fun _ h=>?_)
 exact Y
 refine Z ?_
 refine A7 h (fun v3=>[(2,(As false)),(9,(O .i64 v3))]) (fun v3=>[]) ?_
 rintro v3 _ _ _ h _ _
 exact Y⟩
instance {a0:Bj} {a1 a2:List Ap} {a3 a4:List Ah} {a5:List C9}:OK (Zb a0 a1 a2 a3 a4 a5) fun r=>Aw Tryz.prog 4 [Gy a0,(Ao 2 C6) a1,(Ao 2 C6) a2,(Ao 5 Bo) a3,(Ao 5 Bo) a4,(Ao 13 I7) a5] (As r):=⟨fun {r} h=>by
 refine pw C0 Tryz.func4 ?_
 refine Z ?_
 refine Bk h (fun _ h=>?_)
 refine Z ?_
 refine Aq h (fun _ h=>?_) (fun _ h=>?_)
 exact Y
 refine Z ?_
 refine Wq h (fun _ h=>?_)
 refine Z ?_
 refine Ln h (fun _ h=>?_)
 refine ZO ?_
 refine Ay (Ay ?_)
 refine Dm [.fz 13] ?_
 refine ZO ?_
 refine Eg.mk ?_
 refine Cl h (fun v34=>[(37,(As v34))]) (fun v34=>[]) ?_ ?_
 intro _ h _ _ _
 exact Y
 rintro v34 _ h
 refine Aq h (fun _ h=>?_) (fun _ h=>?_)
 exact Y
 refine Z ?_
 refine Bk h (fun _ h=>?_)
 refine Z ?_
 refine Aq h (fun _ h=>?_) (fun _ h=>?_)
 exact Y
 refine Z ?_
 refine Wq h (fun o36 h=>?_)
 refine Z ?_
 refine Ei h (fun (v45,o46)=>[(49,(O .i64 v45))]) (fun (v45,o46)=>[(2,.rows 56 13 (List.map I7 o46))]) (fun (v45,o46)=>o36.length=o46.length) ?_
 rintro ⟨v45,o46⟩ _ _ _ h _ _ q46
 refine Z ?_
 refine Aq h (fun _ h=>?_) (fun _ h=>?_)
 refine Z ?_
 refine G9 h (fun _ _ _ _ h=>?_)
 refine Z ?_
 refine Bk h (fun v48 h=>?_)
 refine Z ?_
 refine G9 h (fun _ v49 hiv49 _ h=>?_)
 refine Z ?_
 refine Kj (f:=I7) (x:=(C9.mk v49.Axiom v49.Coef v49.Passive v48 v49.Second)) (j:=v45) rfl rfl (Nat.zero_add _) hiv49 ?_
 refine Z ?_
 refine G9 h (fun _ _ _ _ h=>?_)
 refine Z ?_
 refine Aq h (fun _ h=>?_) (fun _ h=>?_)
 refine Z ?_
 refine G9 h (fun _ _ _ _ h=>?_)
 refine Z ?_
 refine Bk h (fun v52 h=>?_)
 refine Z ?_
 refine G9 h (fun _ v53 hiv53 _ h=>?_)
 refine Z ?_
 refine Kj (f:=I7) (x:=(C9.mk v53.Axiom v53.Coef v53.Passive v53.First v52)) (j:=v45) rfl rfl (Nat.zero_add _) hiv53 ?_
 exact Y
 exact Y
 replace h:=Co h
 refine Fr (Fp rfl (Ay ?_))
 refine Dm [.fz 14] ?_
 exact Y⟩
end Go.Ab
