/- The contracts of the functions, each by its walk (made by a program). -/
import Derived.Test.YtidkdnlhdbbbjaaGreatDoorAsV0
namespace Go.Ab
open Go Go.Proofs
set_option maxRecDepth 10000
set_option maxHeartbeats 4000000
set_option linter.unusedVariables false
instance {a0:Ap} {a1:Bd}:OK (Ab9 a0 a1) fun r=>Aw Tryz.prog 143 [(.val (.pointer none)),Cn a0,Gq a1] (.tup [(Ar 5 B4) r.1,(O .i64) r.2]):=⟨fun {r} h=>by
 refine pw {T:=Cb,an:=(fun s=>bif Nat.beq s 22 then .own else .ask),nl:=(fun s=>bif Nat.beq s 155 then [(0,3)] else bif Nat.beq s 31 then [(3,3),(4,3)] else bif Nat.beq s 22 then [(0,5)] else bif Nat.beq s 6 then [(0,5)] else [])} Tryz.func143 ?_
 refine Z ?_
 refine Bk h (fun _ h=>?_)
 refine Z ?_
 refine Ao h (fun _ h=>?_) (fun _ h=>?_)
 exact Y
 refine Z ?_
 refine A7 [] h (fun v4 h=>?_)
 refine Z ?_
 refine A7 [3] h (fun _ h=>?_)
 refine Da h (fun v8 hgv8 h=>?_)
 refine Z ?_
 refine Bb h (fun _=>[(6,(.sl 5 (List.map B4 []))),(7,(O .i64 0)),(8,(.sl 5 (List.map B4 [(Aj.mk a0 (Bd.mk [] []))]))),(9,(.arr 3 v4.2.length 0 v4.2.length))]) (fun _=>[]) ?_
 rintro _ _ _ _ h _ _
 refine Z ?_
 refine Ao h (fun _ h=>?_) (fun _ h=>?_)
 refine Z ?_
 refine G1 h (fun _ _ _ _ h=>?_)
 refine Z ?_
 refine Bb h (fun v11=>[(11,(O .i64 v11))]) (fun v11=>[]) ?_
 rintro v11 _ _ _ h _ _
 refine Z ?_
 refine Fz h (fun _ h=>?_) (fun _ h=>?_)
 refine Z ?_
 refine G1 h (fun _ _ _ _ h=>?_)
 refine Z ?_
 refine Ao h (fun _ h=>?_) (fun _ h=>?_)
 exact Y
 replace h:=Cv h
 refine F4 (F2 rfl (Ax ?_))
 refine D3 [.fz 9] ?_
 exact Y
 replace h:=Cv h
 refine ZO ?_
 refine Qi (F4 (F2 rfl (Ax ?_)))
 refine D3 [.fz 9] ?_
 exact Y
 replace h:=Cv h
 refine Z ?_
 refine A7 [] h (fun _ h=>?_)
 refine Z ?_
 refine A7 [5] h (fun _ h=>?_)
 refine Da h (fun v19 hgv19 h=>?_)
 refine ZO ?_
 refine Ax (Kg ?_)
 refine D3 [.fz 19] ?_
 refine Z ?_
 refine Bb h (fun (v110,v111)=>[(8,(.sl 5 (List.map B4 v110))),(19,(.sl 3 (List.map Ed v111)))]) (fun (v110,v111)=>[]) ?_
 rintro ⟨v110,v111⟩ _ _ _ h _ _
 refine Z ?_
 refine Ao h (fun _ h=>?_) (fun _ h=>?_)
 refine Z ?_
 refine Ck h (fun _ _ _ _ h=>?_)
 refine Z ?_
 refine Bb h (fun v116=>[(21,(O .i64 v116))]) (fun v116=>[]) ?_
 rintro v116 _ _ _ h _ _
 refine Z ?_
 refine Fz h (fun _ h=>?_) (fun _ h=>?_)
 refine Z ?_
 refine Ck h (fun _ _ _ _ h=>?_)
 refine Z ?_
 refine Bk h (fun _ h=>?_)
 refine Z ?_
 refine Ao h (fun _ h=>?_) (fun _ h=>?_)
 exact Y
 replace h:=Cv h
 refine Z ?_
 refine Pc h (fun _ h=>?_)
 refine Z ?_
 refine Bk h (fun _ h=>?_)
 refine Z ?_
 refine Bb h (fun (v173,o174)=>[(22,(.arr 7 o174.length 0 o174.length)),(135,(O .i64 v173))]) (fun (v173,o174)=>[(7,.rows 72 5 (List.map B4 o174))]) ?_
 rintro ⟨v173,o174⟩ _ _ _ h _ _
 refine Z ?_
 refine Ao h (fun _ h=>?_) (fun _ h=>?_)
 refine Z ?_
 refine Ck h (fun _ _ _ _ h=>?_)
 refine Z ?_
 refine Bk h (fun _ h=>?_)
 refine Z ?_
 refine Ao h (fun _ h=>?_) (fun _ h=>?_)
 exact Y
 refine Z ?_
 refine Bb h (fun (v190,o191)=>[(22,(.arr 7 o191.length 0 o191.length)),(145,(O .i64 v190))]) (fun (v190,o191)=>[(7,.rows 72 5 (List.map B4 o191))]) ?_
 rintro ⟨v190,o191⟩ _ _ _ h _ _
 exact Y
 replace h:=Cv h
 refine F4 (F2 rfl ?_)
 refine D3 [.fz 22] ?_
 exact Y
 replace h:=Cv h
 refine Z ?_
 refine Pc h (fun _ h=>?_)
 refine Z ?_
 refine Bk h (fun _ h=>?_)
 refine Z ?_
 refine Bb h (fun (v173,o174)=>[(22,(.arr 7 o174.length 0 o174.length)),(135,(O .i64 v173))]) (fun (v173,o174)=>[(7,.rows 72 5 (List.map B4 o174))]) ?_
 rintro ⟨v173,o174⟩ _ _ _ h _ _
 refine Z ?_
 refine Ao h (fun _ h=>?_) (fun _ h=>?_)
 refine Z ?_
 refine Ck h (fun _ _ _ _ h=>?_)
 refine Z ?_
 refine Bk h (fun _ h=>?_)
 refine Z ?_
 refine Ao h (fun _ h=>?_) (fun _ h=>?_)
 exact Y
 refine Z ?_
 refine Bb h (fun (v190,o191)=>[(22,(.arr 7 o191.length 0 o191.length)),(145,(O .i64 v190))]) (fun (v190,o191)=>[(7,.rows 72 5 (List.map B4 o191))]) ?_
 rintro ⟨v190,o191⟩ _ _ _ h _ _
 exact Y
 replace h:=Cv h
 refine F4 (F2 rfl ?_)
 refine D3 [.fz 22] ?_
 exact Y
 exact Y⟩
instance {a0:Bd}:OK (Ahf a0) fun r=>Aw Tryz.prog 82 [(.val (.pointer none)),Gq a0] (.tup [(Ar 5 B4) r.1,(O .i64) r.2]):=⟨fun {r} h=>by
 refine pw {T:=Cb,an:=(fun _=>.ask),nl:=(fun s=>bif Nat.beq s 4 then [(0,5)] else [])} Tryz.func82 ?_
 refine Z ?_
 refine Bk h (fun _ h=>?_)
 refine Z ?_
 refine Bk h (fun _ h=>?_)
 refine Z ?_
 refine Ao h (fun _ h=>?_) (fun _ h=>?_)
 exact Y
 refine Z ?_
 refine A7 [] h (fun _ h=>?_)
 refine Z ?_
 refine A7 [2,1,3] h (fun _ h=>?_)
 refine Z ?_
 refine A7 [2,1,3] h (fun _ h=>?_)
 exact Y⟩
instance {a0:Bw} {a1:Bf} {a2:Int}:OK (Jf a0 a1 a2) fun r=>Aw Tryz.prog 44 [Hg a0,Fh a1,(O .i64) a2] (.tup [(Ar 5 B4) r.1,(O .i64) r.2]):=⟨fun {r} h=>by
 refine pw {T:=Cb,an:=(fun _=>.ask),nl:=(fun s=>bif Nat.beq s 37 then [(0,3)] else bif Nat.beq s 6 then [(0,5)] else [])} Tryz.func44 ?_
 refine Z ?_
 refine Da h (fun v3 hcv3 h=>?_)
 rcases v3 with v4 | v9
 refine E6.act [] _ _ _ _ (Br.sub (args:=[_,.val (.slice none 0 0)]) (Us (a0:=a0) (a1:=[]) hcv3) ⟨Sub.refl _,Sub.nil _,trivial⟩) rfl rfl trivial ?_
 refine Z ?_
 refine Ao h (fun _ h=>?_) (fun _ h=>?_)
 exact Y
 refine Il (Ax (Ax ?_))
 refine Cd h (fun v11=>[(27,(Av v11))]) (fun v11=>[]) ?_ ?_
 intro _ h _ _ _
 exact Y
 rintro v11 _ h
 refine Ao h (fun _ h=>?_) (fun _ h=>?_)
 exact Y
 refine Z ?_
 refine A7 [5,3,4] h (fun _ h=>?_)
 refine Z ?_
 refine Ao h (fun _ h=>?_) (fun _ h=>?_)
 exact Y
 refine Z ?_
 refine A7 [5,3,4] h (fun _ h=>?_)
 exact Y
 refine E6.act [] _ _ _ _ (Br.sub (args:=[_,.val (.slice none 0 0)]) (Ut (a0:=a0) (a1:=[]) hcv3) ⟨Sub.refl _,Sub.nil _,trivial⟩) rfl rfl trivial ?_
 refine Z ?_
 refine Ao h (fun _ h=>?_) (fun _ h=>?_)
 exact Y
 refine Il (Ax (Ax ?_))
 refine Cd h (fun v15=>[(27,(Av v15))]) (fun v15=>[]) ?_ ?_
 intro _ h _ _ _
 exact Y
 rintro v15 _ h
 exact Y⟩
instance {a0:List Aj} {a1:Ap}:OK (Tm a0 a1) fun r=>Aw Tryz.prog 83 [(Ar 5 B4) a0,Cn a1] ((Ar 5 B4) r):=⟨fun {r} h=>by
 refine pw {T:=Cb,an:=(fun s=>bif Nat.beq s 5 then .own else .ask),nl:=(fun s=>bif Nat.beq s 5 then [(0,5)] else bif Nat.beq s 4 then [(0,5)] else [])} Tryz.func83 ?_
 refine Z ?_
 refine Bb h (fun (v13,o14)=>[(5,(.arr 1 o14.length 0 o14.length)),(10,(O .i64 v13))]) (fun (v13,o14)=>[(1,.rows 72 5 (List.map B4 o14))]) ?_
 rintro ⟨v13,o14⟩ _ _ _ h _ _
 exact Y⟩
instance {a0:Bw} {a1 a2:List Aj}:OK (M0 a0 a1 a2) fun r=>Aw Tryz.prog 45 [Hg a0,(Ar 5 B4) a1,(Ar 5 B4) a2] (.tup [(Ar 5 B4) r.1,(O .i64) r.2]):=⟨fun {r} h=>by
 refine pw {T:=Cb,an:=(fun _=>.ask),nl:=(fun s=>bif Nat.beq s 6 then [(0,5)] else [])} Tryz.func45 ?_
 refine ZS ?_
 refine Ca ?_
 refine ZO ?_
 refine Ax (Ax ?_)
 refine Cd h (fun v9=>[(9,(Av v9))]) (fun v9=>[]) ?_ ?_
 intro _ h _ _ _
 refine Z ?_
 refine Da h (fun v2 hcv2 h=>?_)
 rcases v2 with v3 | v8
 refine E6.act [] _ _ _ _ (Us (a0:=a0) (a1:=[a1,a2]) hcv2) rfl rfl trivial ?_
 exact Y
 refine E6.act [] _ _ _ _ (Ut (a0:=a0) (a1:=[a1,a2]) hcv2) rfl rfl trivial ?_
 exact Y
 rintro v9 _ h
 refine Z ?_
 refine Ao h (fun _ h=>?_) (fun _ h=>?_)
 exact Y
 refine Z ?_
 refine A7 [] h (fun _ h=>?_)
 refine Z ?_
 refine A7 [2,1,3] h (fun _ h=>?_)
 refine Z ?_
 refine Bk h (fun _ h=>?_)
 refine Z ?_
 refine Bk h (fun _ h=>?_)
 refine Z ?_
 refine A7 [2,1,3] h (fun _ h=>?_)
 refine Z ?_
 refine A7 [2,1,3] h (fun _ h=>?_)
 exact Y⟩
instance {a0:Bw} {a1:F9}:OK (Xd a0 a1) fun r=>Aw Tryz.prog 22 [Hg a0,Rh a1] (.tup [(Ar 5 B4) r.1,(O .i64) r.2]):=⟨fun {r} h=>by
 refine pw {T:=Cb,an:=(fun _=>.ask),nl:=(fun s=>bif Nat.beq s 4 then [(0,5)] else [])} Tryz.func22 ?_
 exact Y⟩
instance {a0:List Aj} {b1:List (ByteArray×Int)} {b2:List (ByteArray×(List Dd))} {b0_0:List A3} {b0_1:List Ai} {b0_2 b0_3:Int} {b0_4:List Ai}:OK (Q3 a0 b1 b2 b0_0 b0_1 b0_2 b0_3 b0_4) fun r=>Br Tryz.prog 144 [(.loc 0 0),(Ar 5 B4) a0] [.cells 119 [(.sl 3 (List.map Cu b0_0)),(.sl 3 (Bn b0_1)),(O .i64 b0_2),(O .i64 b0_3),(.sl 3 (Bn b0_4)),(.mp 1),(.mp 2)],.map (Bg (O .i64) b1),.map (Bg (Ar 5 Ee) b2)] ((O .i64) r.1) [.cells 119 [(.sl 3 (List.map Cu b0_0)),(.sl 3 (Bn b0_1)),(O .i64 b0_2),(O .i64 b0_3),(.sl 3 (Bn b0_4)),(.mp 1),(.mp 2)],.map (Bg (O .i64) r.2),.map (Bg (Ar 5 Ee) b2)]:=⟨fun {r} h=>by
 refine aw C0 true Tryz.func144 ?_
 refine Z ?_
 refine Bb h (fun (v4,v5,o6)=>[(5,(O .i64 v4)),(10,(O .i64 v5))]) (fun (v4,v5,o6)=>[(1,.map (Bg (O .i64) o6))]) ?_
 rintro ⟨v4,v5,o6⟩ _ _ _ h _ _
 refine Z ?_
 refine Ao h (fun _ h=>?_) (fun _ h=>?_)
 refine Z ?_
 refine Ck h (fun _ _ _ _ h=>?_)
 refine Z ?_
 refine A7 [0,1,2] h (fun _ h=>?_)
 exact Y
 exact Y⟩
instance {a0:Int} {a1:Bp}:OK (Ahg a0 a1) fun r=>Aw Tryz.prog 163 [(.val (.pointer none)),(O .i64) a0,Hq a1] ((O .i64) r):=⟨fun {r} h=>by
 refine pw C0 Tryz.func163 ?_
 exact Y⟩
instance {a0:Bd}:OK (Ahh a0) fun r=>Aw Tryz.prog 162 [(.val (.pointer none)),Gq a0] ((O .i64) r):=⟨fun {r} h=>by
 refine pw C0 Tryz.func162 ?_
 refine Z ?_
 refine Bb h (fun (v5,v6)=>[(5,(O .i64 v5)),(13,(O .i64 v6))]) (fun (v5,v6)=>[]) ?_
 rintro ⟨v5,v6⟩ _ _ _ h _ _
 refine Z ?_
 refine Ao h (fun _ h=>?_) (fun _ h=>?_)
 exact Y
 replace h:=Cv h
 refine Z ?_
 refine Bb h (fun (v13,v14)=>[(5,(O .i64 v13)),(31,(O .i64 v14))]) (fun (v13,v14)=>[]) ?_
 rintro ⟨v13,v14⟩ _ _ _ h _ _
 exact Y⟩
instance {a0:List Aj}:OK (Aca a0) fun r=>Aw Tryz.prog 144 [(.val (.pointer none)),(Ar 5 B4) a0] ((O .i64) r):=⟨fun {r} h=>by
 refine pw C0 Tryz.func144 ?_
 refine Z ?_
 refine Bb h (fun (v4,v5)=>[(5,(O .i64 v4)),(10,(O .i64 v5))]) (fun (v4,v5)=>[]) ?_
 rintro ⟨v4,v5⟩ _ _ _ h _ _
 exact Y⟩
instance {a0:Bw} {a1 a2:List Aj}:OK (Oh a0 a1 a2) fun r=>Aw Tryz.prog 84 [Hg a0,(Ar 5 B4) a1,(Ar 5 B4) a2] (.tup [(Ar 5 B4) r.1,(O .i64) r.2]):=⟨fun {r} h=>by
 refine pw {T:=Cb,an:=(fun _=>.ask),nl:=(fun s=>bif Nat.beq s 6 then [(0,5)] else [])} Tryz.func84 ?_
 refine Z ?_
 refine Da h (fun v2 hcv2 h=>?_)
 rcases v2 with v3 | v8
 refine E6.act [] _ _ _ _ (Us (a0:=a0) (a1:=[a1,a2]) hcv2) rfl rfl trivial ?_
 refine Z ?_
 refine Ao h (fun _ h=>?_) (fun _ h=>?_)
 exact Y
 refine Il (Ax (Ax ?_))
 refine Cd h (fun (v11,o12)=>[(44,(Av v11))]) (fun (v11,o12)=>[(2,.map (Bg (O .i64) o12))]) ?_ ?_
 intro _ h _ _ _
 refine Z ?_
 refine Fz h (fun _ h=>?_) (fun _ h=>?_)
 refine Z ?_
 refine Fz h (fun _ h=>?_) (fun _ h=>?_)
 refine Z ?_
 refine A7 [4,2,3] h (fun _ h=>?_)
 refine Z ?_
 refine A7 [4,2,3] h (fun _ h=>?_)
 exact Y
 exact Y
 exact Y
 rintro ⟨v11,o12⟩ _ h
 refine Ao h (fun _ h=>?_) (fun _ h=>?_)
 exact Y
 refine Z ?_
 refine A7 [] h (fun _ h=>?_)
 refine Z ?_
 refine Bb h (fun (v82,o83,o84)=>[(6,(.sl 5 (List.map B4 []))),(7,(O .i64 0)),(48,(O .i64 v82))]) (fun (v82,o83,o84)=>[(5,.map (Bg (O .i64) o83)),(6,.cells 122 [(.mp 5),(.arr 7 o84.length 0 o84.length)]),(7,.rows 72 5 (List.map B4 o84))]) ?_
 rintro ⟨v82,o83,o84⟩ _ _ _ h _ _
 refine Z ?_
 refine Ao h (fun _ h=>?_) (fun _ h=>?_)
 refine Z ?_
 refine Ck h (fun _ _ _ _ h=>?_)
 refine Z ?_
 refine Bb h (fun (v102,o103,o104)=>[(6,(.sl 5 (List.map B4 []))),(7,(O .i64 0)),(54,(O .i64 v102))]) (fun (v102,o103,o104)=>[(5,.map (Bg (O .i64) o103)),(6,.cells 122 [(.mp 5),(.arr 7 o104.length 0 o104.length)]),(7,.rows 72 5 (List.map B4 o104))]) ?_
 rintro ⟨v102,o103,o104⟩ _ _ _ h _ _
 refine Z ?_
 refine Ao h (fun _ h=>?_) (fun _ h=>?_)
 refine Z ?_
 refine Ck h (fun _ _ _ _ h=>?_)
 refine Z ?_
 refine Bk h (fun _ h=>?_)
 refine Z ?_
 refine Bk h (fun _ h=>?_)
 refine Z ?_
 refine A7 [4,2,3] h (fun _ h=>?_)
 refine Z ?_
 refine Ao h (fun _ h=>?_) (fun _ h=>?_)
 exact Y
 refine Z ?_
 refine A7 [6,5,7] h (fun _ h=>?_)
 exact Y
 exact Y
 replace h:=Cv h
 refine Z ?_
 refine A7 [6,5,7] h (fun _ h=>?_)
 exact Y
 refine E6.act [] _ _ _ _ (Ut (a0:=a0) (a1:=[a1,a2]) hcv2) rfl rfl trivial ?_
 refine Z ?_
 refine Ao h (fun _ h=>?_) (fun _ h=>?_)
 exact Y
 refine Il (Ax (Ax ?_))
 refine Cd h (fun v123=>[(44,(Av v123))]) (fun v123=>[]) ?_ ?_
 intro _ h _ _ _
 exact Y
 rintro v123 _ h
 refine Ao h (fun _ h=>?_) (fun _ h=>?_)
 exact Y
 refine Z ?_
 refine A7 [] h (fun _ h=>?_)
 refine Z ?_
 refine Bb h (fun (v193,o194,o195)=>[(6,(.sl 5 (List.map B4 []))),(7,(O .i64 0)),(48,(O .i64 v193))]) (fun (v193,o194,o195)=>[(1,.map (Bg (O .i64) o194)),(2,.cells 122 [(.mp 1),(.arr 3 o195.length 0 o195.length)]),(3,.rows 72 5 (List.map B4 o195))]) ?_
 rintro ⟨v193,o194,o195⟩ _ _ _ h _ _
 refine Z ?_
 refine Ao h (fun _ h=>?_) (fun _ h=>?_)
 refine Z ?_
 refine Ck h (fun _ _ _ _ h=>?_)
 refine Z ?_
 refine Bb h (fun (v213,o214,o215)=>[(6,(.sl 5 (List.map B4 []))),(7,(O .i64 0)),(54,(O .i64 v213))]) (fun (v213,o214,o215)=>[(1,.map (Bg (O .i64) o214)),(2,.cells 122 [(.mp 1),(.arr 3 o215.length 0 o215.length)]),(3,.rows 72 5 (List.map B4 o215))]) ?_
 rintro ⟨v213,o214,o215⟩ _ _ _ h _ _
 refine Z ?_
 refine Ao h (fun _ h=>?_) (fun _ h=>?_)
 refine Z ?_
 refine Ck h (fun _ _ _ _ h=>?_)
 refine Z ?_
 refine Bk h (fun _ h=>?_)
 refine Z ?_
 refine Bk h (fun _ h=>?_)
 refine Z ?_
 refine Bk h (fun _ h=>?_)
 refine Z ?_
 refine Ao h (fun _ h=>?_) (fun _ h=>?_)
 exact Y
 refine Z ?_
 refine A7 [2,1,3] h (fun _ h=>?_)
 exact Y
 exact Y
 replace h:=Cv h
 refine Z ?_
 refine A7 [2,1,3] h (fun _ h=>?_)
 exact Y⟩
instance {a0:Bw} {a1:F9} {a2:Int}:OK (Qo a0 a1 a2) fun r=>Aw Tryz.prog 46 [Hg a0,Rh a1,(O .i64) a2] (.tup [(Ar 5 B4) r.1,(O .i64) r.2]):=⟨fun {r} h=>by
 refine pw {T:=Cb,an:=(fun _=>.ask),nl:=(fun s=>bif Nat.beq s 6 then [(0,5)] else [])} Tryz.func46 ?_
 exact Y⟩
instance {a0:Bw} {a1:F9}:OK (Ta a0 a1) fun r=>Aw Tryz.prog 23 [Hg a0,Rh a1] (.tup [(Ar 5 B4) r.1,(O .i64) r.2]):=⟨fun {r} h=>by
 refine pw {T:=Cb,an:=(fun _=>.ask),nl:=(fun s=>bif Nat.beq s 10 then [(0,5)] else bif Nat.beq s 4 then [(0,5)] else [])} Tryz.func23 ?_
 refine Z ?_
 refine Bk h (fun _ h=>?_)
 refine Z ?_
 refine Ao h (fun _ h=>?_) (fun _ h=>?_)
 exact Y
 refine Z ?_
 refine Bk h (fun _ h=>?_)
 refine Z ?_
 refine Bb h (fun (v9,v10,v11)=>[(7,(O .i64 v9)),(8,(.sl 5 (List.map B4 v10))),(9,(O .i64 v11))]) (fun (v9,v10,v11)=>[]) ?_
 rintro ⟨v9,v10,v11⟩ _ _ _ h _ _
 refine Ax (Ax ?_)
 refine Cd h (fun v12=>[(37,(Av v12))]) (fun v12=>[]) ?_ ?_
 intro _ h _ _ _
 exact Y
 rintro v12 _ h
 exact Y⟩
instance {a0:Bw} {a1:Bf}:OK (Qm a0 a1) fun r=>Aw Tryz.prog 21 [Hg a0,Fh a1] (Av r):=⟨fun {r} h=>by
 refine pw C0 Tryz.func21 ?_
 refine Z ?_
 refine Bb h (fun v6=>[(4,(Av false)),(10,(O .i64 v6))]) (fun v6=>[]) ?_
 rintro v6 _ _ _ h _ _
 exact Y⟩
instance {a0:Bw} {a1:List Aj}:OK (Oa a0 a1) fun r=>Aw Tryz.prog 20 [Hg a0,(Ar 5 B4) a1] (Av r):=⟨fun {r} h=>by
 refine pw C0 Tryz.func20 ?_
 refine Z ?_
 refine Da h (fun v2 hcv2 h=>?_)
 rcases v2 with v3 | v8
 refine E6.act [] _ _ _ _ (Us (a0:=a0) (a1:=[a1]) hcv2) rfl rfl trivial ?_
 exact Y
 refine E6.act [] _ _ _ _ (Ut (a0:=a0) (a1:=[a1]) hcv2) rfl rfl trivial ?_
 exact Y⟩
instance {a0:Bw} {a1:F9}:OK (Kh a0 a1) fun r=>Aw Tryz.prog 9 [Hg a0,Rh a1] (.tup [(Ar 5 B4) r.1,(O .i64) r.2]):=⟨fun {r} h=>by
 refine pw {T:=Cb,an:=(fun _=>.ask),nl:=(fun s=>bif Nat.beq s 4 then [(0,5)] else [])} Tryz.func9 ?_
 refine ZS ?_
 refine Ca ?_
 refine ZO ?_
 refine Ax (Ax ?_)
 refine Cd h (fun v5=>[(13,(Av v5))]) (fun v5=>[]) ?_ ?_
 intro _ h _ _ _
 exact Y
 rintro v5 _ h
 refine Ao h (fun _ h=>?_) (fun _ h=>?_)
 exact Y
 refine Il (Ax (Ax ?_))
 refine Cd h (fun v8=>[(25,(Av v8))]) (fun v8=>[]) ?_ ?_
 intro _ h _ _ _
 exact Y
 rintro v8 _ h
 exact Y⟩
instance {a0:Bw}:OK (Xc a0) fun r=>Aw Tryz.prog 10 [Hg a0] (Av r):=⟨fun {r} h=>by
 refine pw C0 Tryz.func10 ?_
 exact Y⟩
instance {a0:Bf}:OK (Xe a0) fun r=>Aw Tryz.prog 33 [Fh a0] (Fh r):=⟨fun {r} h=>by
 refine pw C0 Tryz.func33 ?_
 exact Y⟩
instance {a0:F9}:OK (Abr a0) fun r=>Aw Tryz.prog 15 [Rh a0] ((Ar 2 Fh) r):=⟨fun {r} h=>by
 refine pw {T:=Cb,an:=(fun _=>.ask),nl:=(fun s=>bif Nat.beq s 2 then [(0,2)] else [])} Tryz.func15 ?_
 exact Y⟩
instance {a0:Int}:OK (Abq a0) fun r=>Aw Tryz.prog 8 [(O .i64) a0] (Hg r):=⟨fun {r} h=>by
 refine pw {T:=Cb,an:=(fun _=>.ask),nl:=(fun s=>bif Nat.beq s 18 then [(0,3),(4,3)] else bif Nat.beq s 14 then [(2,3)] else bif Nat.beq s 13 then [(0,3)] else [])} Tryz.func8 ?_
 refine ZS ?_
 refine Ca ?_
 refine ZS ?_
 refine Ca ?_
 refine ZO ?_
 refine Ax (Ax ?_)
 refine D3 [.own 3 1 29 3] ?_
 refine Z ?_
 refine Bb h (fun (v8,o9)=>[(4,(O .i64 v8))]) (fun (v8,o9)=>[(1,.cells 31 [(.val (.slice none 0 0)),(.arr 2 o9.length 0 o9.length),(O .i64 1),(O .i64 0),(.val (.slice none 0 0))]),(2,.rows 29 3 (Bn o9))]) ?_
 rintro ⟨v8,o9⟩ _ _ _ h _ _
 exact Y⟩
instance {a0 a1:Int}:OK (Abs a0 a1) fun r=>Aw Tryz.prog 19 [(O .i64) a0,(O .i64) a1] (Fh r):=⟨fun {r} h=>by
 refine pw C0 Tryz.func19 ?_
 exact Y⟩
instance  : OK (Xb) fun r=>Aw Tryz.prog 7 [] (Av r):=⟨fun {r} h=>by
 refine pw {T:=Cb,an:=(fun _=>.ask),nl:=(fun s=>bif Nat.beq s 31 then [(2,2),(4,2)] else bif Nat.beq s 25 then [(4,2)] else bif Nat.beq s 21 then [(4,2)] else bif Nat.beq s 9 then [(4,2)] else [])} Tryz.func7 ?_
 exact Y⟩
instance {a0:Bw} {a1 a2:List Aj}:OK (Qk a0 a1 a2) fun r=>Aw Tryz.prog 12 [Hg a0,(Ar 5 B4) a1,(Ar 5 B4) a2] (.tup [(Ar 5 B4) r.1,(O .i64) r.2]):=⟨fun {r} h=>by
 refine pw {T:=Cb,an:=(fun _=>.ask),nl:=(fun s=>bif Nat.beq s 6 then [(0,5)] else [])} Tryz.func12 ?_
 refine ZS ?_
 refine Ca ?_
 refine ZO ?_
 refine Ax (Ax ?_)
 refine Cd h (fun v9=>[(9,(Av v9))]) (fun v9=>[]) ?_ ?_
 intro _ h _ _ _
 refine Z ?_
 refine Da h (fun v2 hcv2 h=>?_)
 rcases v2 with v3 | v8
 refine E6.act [] _ _ _ _ (Us (a0:=a0) (a1:=[a1,a2]) hcv2) rfl rfl trivial ?_
 exact Y
 refine E6.act [] _ _ _ _ (Ut (a0:=a0) (a1:=[a1,a2]) hcv2) rfl rfl trivial ?_
 exact Y
 rintro v9 _ h
 refine Z ?_
 refine Ao h (fun _ h=>?_) (fun _ h=>?_)
 exact Y
 refine Z ?_
 refine A7 [] h (fun _ h=>?_)
 refine Z ?_
 refine A7 [2,1,3] h (fun _ h=>?_)
 refine Z ?_
 refine A7 [2,1,3] h (fun _ h=>?_)
 refine Z ?_
 refine A7 [2,1,3] h (fun _ h=>?_)
 exact Y⟩
instance {a0:List Int}:OK (Iq a0) fun r=>Aw Tryz.prog 209 [(Ar 1 (O .u32)) a0] ((Ar 1 (O .u32)) r):=⟨fun {r} h=>by
 refine pw {T:=Cb,an:=(fun _=>.ask),nl:=(fun s=>bif Nat.beq s 2 then [(0,1)] else [])} Tryz.func209 ?_
 refine Z ?_
 refine Bb h (fun v2=>[(3,(O .i64 v2))]) (fun v2=>[]) ?_
 rintro v2 _ _ _ h _ _
 exact Y⟩
instance {a0:List Int}:OK (Qy a0) fun r=>Aw Tryz.prog 137 [(Ar 1 (O .u32)) a0] ((Ar 1 (O .u32)) r):=⟨fun {r} h=>by
 refine pw {T:=Cb,an:=(fun s=>bif Nat.beq s 3 then .own else .ask),nl:=(fun s=>bif Nat.beq s 3 then [(0,1)] else bif Nat.beq s 2 then [(0,1)] else [])} Tryz.func137 ?_
 refine Z ?_
 refine Bb h (fun (v13,v14,o15)=>[(3,(.arr 0 o15.length 0 o15.length)),(4,(O .u64 v13)),(5,(O .i64 v14))]) (fun (v13,v14,o15)=>[(0,.rows 141 1 (List.map (O .u32) o15))]) ?_
 rintro ⟨v13,v14,o15⟩ _ _ _ h _ _
 refine Z ?_
 refine Ao h (fun _ h=>?_) (fun _ h=>?_)
 exact Y
 replace h:=Cv h
 refine Z ?_
 refine Ao h (fun _ h=>?_) (fun _ h=>?_)
 refine Z ?_
 refine Nj h (fun _ h=>?_)
 refine ZO ?_
 refine Ax ?_
 refine D3 [.fz 3] ?_
 exact Y
 refine Il (Ax ?_)
 refine D3 [.fz 3] ?_
 exact Y⟩
instance {a0 a1:List Int}:OK (Ub a0 a1) fun r=>Aw Tryz.prog 212 [(Ar 1 (O .u32)) a0,(Ar 1 (O .u32)) a1] ((O .u64) r):=⟨fun {r} h=>by
 refine pw C0 Tryz.func212 ?_
 exact Y⟩
instance {a0:Int}:OK (Oz a0) fun r=>Aw Tryz.prog 211 [(O .u64) a0] ((Ar 1 (O .u32)) r):=⟨fun {r} h=>by
 refine pw {T:=Cb,an:=(fun s=>bif Nat.beq s 3 then .own else .ask),nl:=(fun s=>bif Nat.beq s 3 then [(0,1)] else bif Nat.beq s 2 then [(0,1)] else [])} Tryz.func211 ?_
 refine Z ?_
 refine Bb h (fun (v10,o11)=>[(0,(O .u64 v10)),(3,(.arr 0 o11.length 0 o11.length))]) (fun (v10,o11)=>[(0,.rows 141 1 (List.map (O .u32) o11))]) ?_
 rintro ⟨v10,o11⟩ _ _ _ h _ _
 exact Y⟩
instance {a0 a1:List Int}:OK (M6 a0 a1) fun r=>Aw Tryz.prog 148 [(Ar 1 (O .u32)) a0,(Ar 1 (O .u32)) a1] ((O .i64) r):=⟨fun {r} h=>by
 refine pw C0 Tryz.func148 ?_
 refine Z ?_
 refine Ao h (fun _ h=>?_) (fun _ h=>?_)
 exact Y
 refine Z ?_
 refine Bb h (fun v5=>[(4,(O .i64 0)),(5,(O .i64 v5))]) (fun v5=>[]) ?_
 rintro v5 _ _ _ h _ _
 exact Y⟩
instance {a0 a1:List Int}:OK (La a0 a1) fun r=>Aw Tryz.prog 146 [(Ar 1 (O .u32)) a0,(Ar 1 (O .u32)) a1] ((Ar 1 (O .u32)) r):=⟨fun {r} h=>by
 refine pw {T:=Cb,an:=(fun _=>.ask),nl:=(fun s=>bif Nat.beq s 4 then [(0,1)] else [])} Tryz.func146 ?_
 refine Z ?_
 refine Gi h (fun o1 h=>?_)
 refine Z ?_
 refine Ej h (fun (v25,o26)=>[(6,(O .i64 v25))]) (fun (v25,o26)=>[(0,.rows 141 1 (List.map (O .u32) o26))]) (fun (v25,o26)=>o1.length=o26.length) ?_
 rintro ⟨v25,o26⟩ _ _ _ h _ _ q26
 refine Z ?_
 refine Ao h (fun _ h=>?_) (fun _ h=>?_)
 refine Z ?_
 refine Ej h (fun (v35,v36,o37)=>[(7,(O .u64 v35)),(8,(O .i64 v36))]) (fun (v35,v36,o37)=>[(0,.rows 141 1 (List.map (O .u32) o37))]) (fun (v35,v36,o37)=>o1.length=o37.length) ?_
 rintro ⟨v35,v36,o37⟩ _ _ _ h _ _ q37
 refine Ax (Ax ?_)
 refine Cd h (fun v38=>[(29,(Av v38))]) (fun v38=>[]) ?_ ?_
 intro _ h _ _ _
 exact Y
 rintro v38 _ h
 refine Ao h (fun _ h=>?_) (fun _ h=>?_)
 refine Z ?_
 refine G1 h (fun _ _ _ _ h=>?_)
 refine ZS ?_
 refine Ca ?_
 refine ZO ?_
 refine Cd h (fun v42=>[(7,(O .u64 v42))]) (fun v42=>[]) ?_ ?_
 intro _ h _ _ _
 exact Y
 rintro v42 _ h
 exact Y
 exact Y
 replace h:=Cv h
 refine F4 (F2 rfl (Ax ?_))
 refine D3 [.fz 5] ?_
 exact Y⟩
instance {a0:List Int} {a1:Int}:OK (Ua a0 a1) fun r=>Aw Tryz.prog 210 [(Ar 1 (O .u32)) a0,(O .u64) a1] (.tup [(Ar 1 (O .u32)) r.1,(O .u64) r.2]):=⟨fun {r} h=>by
 refine pw {T:=Cb,an:=(fun _=>.ask),nl:=(fun s=>bif Nat.beq s 4 then [(0,1)] else [])} Tryz.func210 ?_
 refine Z ?_
 refine Gi h (fun o1 h=>?_)
 refine Z ?_
 refine Ej h (fun (v7,v8,o9)=>[(7,(O .u64 v7)),(8,(O .i64 v8))]) (fun (v7,v8,o9)=>[(0,.rows 141 1 (List.map (O .u32) o9))]) (fun (v7,v8,o9)=>o1.length=o9.length) ?_
 rintro ⟨v7,v8,o9⟩ _ _ _ h _ _ q9
 refine Z ?_
 refine Ao h (fun _ h=>?_) (fun _ h=>?_)
 exact Y
 replace h:=Cv h
 refine F4 (F2 rfl (Ax ?_))
 refine D3 [.fz 6] ?_
 exact Y⟩
instance {a0 a1:List Int}:OK (M7 a0 a1) fun r=>Aw Tryz.prog 149 [(Ar 1 (O .u32)) a0,(Ar 1 (O .u32)) a1] ((Ar 1 (O .u32)) r):=⟨fun {r} h=>by
 refine pw {T:=Cb,an:=(fun _=>.ask),nl:=(fun s=>bif Nat.beq s 4 then [(0,1)] else [])} Tryz.func149 ?_
 refine Z ?_
 refine Gi h (fun o1 h=>?_)
 refine Z ?_
 refine Ej h (fun (v10,v11,o12)=>[(6,(O .u32 v10)),(7,(O .i64 v11))]) (fun (v10,v11,o12)=>[(0,.rows 141 1 (List.map (O .u32) o12))]) (fun (v10,v11,o12)=>o1.length=o12.length) ?_
 rintro ⟨v10,v11,o12⟩ _ _ _ h _ _ q12
 refine Z ?_
 refine Ao h (fun _ h=>?_) (fun _ h=>?_)
 refine ZS ?_
 refine Ca ?_
 refine ZS ?_
 refine Ca ?_
 refine ZO ?_
 refine Cd h (fun v14=>[(8,(O .u32 v14))]) (fun v14=>[]) ?_ ?_
 intro _ h _ _ _
 exact Y
 rintro v14 _ h
 exact Y
 replace h:=Cv h
 refine F4 (F2 rfl (Ax ?_))
 refine D3 [.fz 5] ?_
 exact Y⟩
instance {a0 a1:List Int}:OK (Ol a0 a1) fun r=>Aw Tryz.prog 139 [(Ar 1 (O .u32)) a0,(Ar 1 (O .u32)) a1] (.tup [(Ar 1 (O .u32)) r.1,(Ar 1 (O .u32)) r.2]):=⟨fun {r} h=>by
 refine pw {T:=Cb,an:=(fun s=>bif Nat.beq s 50 then .frz 0 else bif Nat.beq s 47 then .own else .ask),nl:=(fun s=>bif Nat.beq s 9 then [(0,1)] else bif Nat.beq s 5 then [(0,1)] else bif Nat.beq s 4 then [(0,1)] else [])} Tryz.func139 ?_
 refine Z ?_
 refine Bk h (fun _ h=>?_)
 refine Z ?_
 refine Ao h (fun _ h=>?_) (fun _ h=>?_)
 exact Y
 refine Z ?_
 refine Ao h (fun _ h=>?_) (fun _ h=>?_)
 exact Y
 refine Z ?_
 refine Gi h (fun o6 h=>?_)
 refine Z ?_
 refine Ej h (fun (v33,v34,o35)=>[(9,(.sl 1 (List.map (O .u32) v33))),(10,(O .i64 v34))]) (fun (v33,v34,o35)=>[(0,.rows 141 1 (List.map (O .u32) o35))]) (fun (v33,v34,o35)=>o6.length=o35.length) ?_
 rintro ⟨v33,v34,o35⟩ _ _ _ h _ _ q35
 refine Z ?_
 refine Ao h (fun _ h=>?_) (fun _ h=>?_)
 refine Z ?_
 refine Ck h (fun _ _ _ _ h=>?_)
 refine Z ?_
 refine Nj h (fun o38 h=>?_)
 refine Z ?_
 refine Da h (fun v39 hcv39 h=>?_)
 refine Afz.mk _ (OK.ok hcv39 :) rfl ?_
 refine Z ?_
 refine Bk h (fun _ h=>?_)
 refine Z ?_
 refine Bb h (fun v44=>[(11,(O .u64 v44))]) (fun v44=>[]) ?_
 rintro v44 _ _ _ h _ _
 refine Z ?_
 refine Fz h (fun _ h=>?_) (fun _ h=>?_)
 refine Z ?_
 refine Bk h (fun _ h=>?_)
 refine Z ?_
 refine Bk h (fun _ h=>?_)
 refine Z ?_
 refine Bk h (fun _ h=>?_)
 refine Z ?_
 refine Ao h (fun _ h=>?_) (fun _ h=>?_)
 exact Y
 replace h:=Cv h
 refine Z ?_
 refine Bk h (fun _ h=>?_)
 refine Z ?_
 refine Bk h (fun _ h=>?_)
 refine Z ?_
 refine Bk h (fun _ h=>?_)
 refine Z ?_
 refine Bb h (fun (v54,v55)=>[(9,(.sl 1 (List.map (O .u32) v54))),(11,(O .u64 v55))]) (fun (v54,v55)=>[]) ?_
 rintro ⟨v54,v55⟩ _ _ _ h _ _
 exact Y
 replace h:=Cv h
 refine Z ?_
 refine Bk h (fun _ h=>?_)
 refine Z ?_
 refine Bk h (fun _ h=>?_)
 refine Z ?_
 refine Bk h (fun _ h=>?_)
 refine Z ?_
 refine Bb h (fun (v54,v55)=>[(9,(.sl 1 (List.map (O .u32) v54))),(11,(O .u64 v55))]) (fun (v54,v55)=>[]) ?_
 rintro ⟨v54,v55⟩ _ _ _ h _ _
 exact Y
 replace h:=Cv h
 refine F4 (F2 rfl (Ax ?_))
 refine D3 [.fz 8] ?_
 exact Y⟩
instance {a0 a1:List Int}:OK (Tx a0 a1) fun r=>Aw Tryz.prog 138 [(Ar 1 (O .u32)) a0,(Ar 1 (O .u32)) a1] ((Ar 1 (O .u32)) r):=⟨fun {r} h=>by
 refine pw {T:=Cb,an:=(fun _=>.ask),nl:=(fun s=>bif Nat.beq s 4 then [(0,1)] else [])} Tryz.func138 ?_
 refine Z ?_
 refine Bb h (fun (v2,v3)=>[(0,(.sl 1 (List.map (O .u32) v2))),(1,(.sl 1 (List.map (O .u32) v3)))]) (fun (v2,v3)=>[]) ?_
 rintro ⟨v2,v3⟩ _ _ _ h _ _
 exact Y⟩
instance {a0:Bool} {a1 a2:List Int}:OK (K7 a0 a1 a2) fun r=>Aw Tryz.prog 80 [Av a0,(Ar 1 (O .u32)) a1,(Ar 1 (O .u32)) a2] (Cn r):=⟨fun {r} h=>by
 refine pw {T:=Cb,an:=(fun _=>.ask),nl:=(fun s=>bif Nat.beq s 21 then [(1,1)] else [])} Tryz.func80 ?_
 refine Z ?_
 refine Bk h (fun _ h=>?_)
 refine Z ?_
 refine Bk h (fun _ h=>?_)
 refine ZO ?_
 refine Ax (Ax ?_)
 refine Cd h (fun v4=>[(19,(Av v4))]) (fun v4=>[]) ?_ ?_
 intro _ h _ _ _
 exact Y
 rintro v4 _ h
 refine Ao h (fun _ h=>?_) (fun _ h=>?_)
 exact Y
 refine Z ?_
 refine Bk h (fun _ h=>?_)
 refine ZO ?_
 refine Ax (Ax ?_)
 refine Cd h (fun v7=>[(33,(Av v7))]) (fun v7=>[]) ?_ ?_
 intro _ h _ _ _
 exact Y
 rintro v7 _ h
 exact Y⟩
instance {a0:Ap}:OK (Ob a0) fun r=>Aw Tryz.prog 43 [Cn a0] (Cn r):=⟨fun {r} h=>by
 refine pw C0 Tryz.func43 ?_
 exact Y⟩
instance {a0:Ap}:OK (Ql a0) fun r=>Aw Tryz.prog 18 [Cn a0] ((O .i64) r):=⟨fun {r} h=>by
 refine pw C0 Tryz.func18 ?_
 exact Y⟩
instance {a0 a1:List Int}:OK (Ty a0 a1) fun r=>Aw Tryz.prog 147 [(Ar 1 (O .u32)) a0,(Ar 1 (O .u32)) a1] ((Ar 1 (O .u32)) r):=⟨fun {r} h=>by
 refine pw {T:=Cb,an:=(fun s=>bif Nat.beq s 5 then .own else .ask),nl:=(fun s=>bif Nat.beq s 5 then [(0,1)] else bif Nat.beq s 4 then [(0,1)] else [])} Tryz.func147 ?_
 refine Z ?_
 refine Bb h (fun (v21,v22,o23)=>[(5,(.arr 0 o23.length 0 o23.length)),(6,(O .u32 v21)),(7,(O .i64 v22))]) (fun (v21,v22,o23)=>[(0,.rows 141 1 (List.map (O .u32) o23))]) ?_
 rintro ⟨v21,v22,o23⟩ _ _ _ h _ _
 refine Ax (Ax ?_)
 refine Cd h (fun v24=>[(22,(Av v24))]) (fun v24=>[]) ?_ ?_
 intro _ h _ _ _
 exact Y
 rintro v24 _ h
 refine Ao h (fun _ h=>?_) (fun _ h=>?_)
 refine ZS ?_
 refine Ca ?_
 refine ZS ?_
 refine Ca ?_
 refine ZO ?_
 refine Cd h (fun v26=>[(8,(O .u32 v26))]) (fun v26=>[]) ?_ ?_
 intro _ h _ _ _
 exact Y
 rintro v26 _ h
 refine ZS ?_
 refine Ca ?_
 refine ZO ?_
 refine Cd h (fun v28=>[(8,(O .u32 v28))]) (fun v28=>[]) ?_ ?_
 intro _ h _ _ _
 exact Y
 rintro v28 _ h
 exact Y
 exact Y⟩
instance {a0 a1:Ap}:OK (Oj a0 a1) fun r=>Aw Tryz.prog 88 [Cn a0,Cn a1] (Cn r):=⟨fun {r} h=>by
 refine pw C0 Tryz.func88 ?_
 exact Y⟩
instance {a0:Ap}:OK (To a0) fun r=>Aw Tryz.prog 89 [Cn a0] (Cn r):=⟨fun {r} h=>by
 refine pw C0 Tryz.func89 ?_
 exact Y⟩
instance {a0 a1:Ap}:OK (Xf a0 a1) fun r=>Aw Tryz.prog 50 [Cn a0,Cn a1] (Cn r):=⟨fun {r} h=>by
 refine pw C0 Tryz.func50 ?_
 exact Y⟩
instance {a0 a1:Ap}:OK (Tc a0 a1) fun r=>Aw Tryz.prog 25 [Cn a0,Cn a1] ((O .i64) r):=⟨fun {r} h=>by
 refine pw C0 Tryz.func25 ?_
 exact Y⟩
instance {a0:Bool}:OK (Qs a0) fun r=>Aw Tryz.prog 85 [Av a0] ((O .i64) r):=⟨fun {r} h=>by
 refine pw C0 Tryz.func85 ?_
 exact Y⟩
abbrev Aig (k:Nat):Prop:=∀{a0 a1:Bp},OK (M1 k a0 a1) fun r=>Aw Tryz.prog 48 [Hq a0,Hq a1] ((O .i64) r)
abbrev Aih (k:Nat):Prop:=∀{a0 a1:List Bp},OK (Tn k a0 a1) fun r=>Aw Tryz.prog 86 [(Ir 2 It) a0,(Ir 2 It) a1] ((O .i64) r)
theorem Aii (k:Nat):Aig k/\Aih k:=by
 induction k with
 | zero=>exact ⟨okz,okz⟩
 | succ k ih=>
  obtain ⟨i0_,i1_⟩:=ih
  refine ⟨@fun a0 a1=>⟨fun {r} h=>?_⟩,@fun a0 a1=>⟨fun {r} h=>?_⟩⟩
  .unfold M1 at h
   refine pw C0 Tryz.func48 ?_
   exact Y
  .unfold Tn at h
   refine pw C0 Tryz.func86 ?_
   refine Z ?_
   refine Ao h (fun _ h=>?_) (fun _ h=>?_)
   exact Y
   refine Z ?_
   refine Bb h (fun v5=>[(4,(O .i64 0)),(20,(O .i64 v5))]) (fun v5=>[]) ?_
   rintro v5 _ _ _ h _ _
   exact Y
instance {k:Nat}:Aig k:=(Aii k).1
instance {k:Nat}:Aih k:=(Aii k).2
instance {a0:Bool}:OK (Oi a0) fun r=>Aw Tryz.prog 87 [Av a0] ((O .i64) r):=⟨fun {r} h=>by
 refine pw C0 Tryz.func87 ?_
 exact Y⟩
instance {a0 a1:Bf}:OK (Td a0 a1) fun r=>Aw Tryz.prog 49 [Fh a0,Fh a1] ((O .i64) r):=⟨fun {r} h=>by
 refine pw C0 Tryz.func49 ?_
 refine Z ?_
 refine Ao h (fun _ h=>?_) (fun _ h=>?_)
 exact Y
 refine Z ?_
 refine Bb h (fun v14=>[(4,(O .i64 0)),(24,(O .i64 v14))]) (fun v14=>[]) ?_
 rintro v14 _ _ _ h _ _
 exact Y⟩
instance {a0:Bool}:OK (Oc a0) fun r=>Aw Tryz.prog 47 [Av a0] ((O .i64) r):=⟨fun {r} h=>by
 refine pw C0 Tryz.func47 ?_
 exact Y⟩
end Go.Ab
namespace Go.Ab
open Go Go.Proofs
set_option maxRecDepth 10000
set_option maxHeartbeats 4000000
set_option linter.unusedVariables false
instance {a0 a1:Bd}:OK (Tb a0 a1) fun r=>Aw Tryz.prog 24 [Gq a0,Gq a1] ((O .i64) r):=⟨fun {r} h=>by
 refine pw C0 Tryz.func24 ?_
 refine Z ?_
 refine Ao h (fun _ h=>?_) (fun _ h=>?_)
 exact Y
 refine Z ?_
 refine Bb h (fun v12=>[(4,(O .i64 0)),(27,(O .i64 v12))]) (fun v12=>[]) ?_
 rintro v12 _ _ _ h _ _
 refine Z ?_
 refine Ao h (fun _ h=>?_) (fun _ h=>?_)
 exact Y
 replace h:=Cv h
 refine Z ?_
 refine Ao h (fun _ h=>?_) (fun _ h=>?_)
 exact Y
 refine Z ?_
 refine Bb h (fun v31=>[(4,(O .i64 0)),(92,(O .i64 v31))]) (fun v31=>[]) ?_
 rintro v31 _ _ _ h _ _
 exact Y⟩
instance {a0 a1:List Aj}:OK (My a0 a1) fun r=>Aw Tryz.prog 11 [(Ar 5 B4) a0,(Ar 5 B4) a1] (Av r):=⟨fun {r} h=>by
 refine pw C0 Tryz.func11 ?_
 refine Z ?_
 refine Ao h (fun _ h=>?_) (fun _ h=>?_)
 exact Y
 refine Z ?_
 refine Bb h (fun v7=>[(4,(Av false)),(13,(O .i64 v7))]) (fun v7=>[]) ?_
 rintro v7 _ _ _ h _ _
 exact Y⟩
instance {a0:Bw} {a1 a2:Bf} {a3:Int}:OK (Xa a0 a1 a2 a3) fun r=>Aw Tryz.prog 4 [Hg a0,Fh a1,Fh a2,(O .i64) a3] (Av r):=⟨fun {r} h=>by
 refine pw C0 Tryz.func4 ?_
 refine Z ?_
 refine Bk h (fun _ h=>?_)
 refine Z ?_
 refine Ao h (fun _ h=>?_) (fun _ h=>?_)
 exact Y
 refine Il (Ax (Ax ?_))
 refine Cd h (fun v6=>[(35,(Av v6))]) (fun v6=>[]) ?_ ?_
 intro _ h _ _ _
 exact Y
 rintro v6 _ h
 refine Ao h (fun _ h=>?_) (fun _ h=>?_)
 exact Y
 refine Z ?_
 refine Bk h (fun _ h=>?_)
 refine Z ?_
 refine Bk h (fun _ h=>?_)
 refine Z ?_
 refine Bk h (fun _ h=>?_)
 refine Z ?_
 refine Bk h (fun _ h=>?_)
 refine ZO ?_
 refine Ax (Ax ?_)
 refine Cd h (fun v12=>[(85,(Av v12))]) (fun v12=>[]) ?_ ?_
 intro _ h _ _ _
 exact Y
 rintro v12 _ h
 exact Y⟩
end Go.Ab
