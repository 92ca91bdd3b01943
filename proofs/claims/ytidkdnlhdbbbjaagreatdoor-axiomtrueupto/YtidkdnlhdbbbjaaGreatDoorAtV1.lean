/- The contracts of the functions, each by its walk (made by a program). -/
import Derived.Test.YtidkdnlhdbbbjaaGreatDoorAtV0
namespace Go.Ab
open Go Go.Proofs
set_option maxRecDepth 10000
set_option maxHeartbeats 4000000
set_option linter.unusedVariables false
instance {a0:Ak} {a1:A8}:OK (Afi a0 a1) fun r=>Ax Tryz.prog 143 [(.val (.pointer none)),Cr a0,Ir a1] (.tup [(As 5 Cj) r.1,(O .i64) r.2]):=⟨fun {r} h=>by
 refine pw {T:=Cb,an:=(fun s=>bif Nat.beq s 22 then .own else .ask),nl:=(fun s=>bif Nat.beq s 155 then [(0,3)] else bif Nat.beq s 31 then [(3,3),(4,3)] else bif Nat.beq s 22 then [(0,5)] else bif Nat.beq s 6 then [(0,5)] else [])} Tryz.func143 ?_
 refine Z ?_
 refine Bh h (fun _ h=>?_)
 refine Z ?_
 refine Ao h (fun _ h=>?_) (fun _ h=>?_)
 exact Y
 refine Z ?_
 refine A9 [] h (fun v4 h=>?_)
 refine Z ?_
 refine A9 [3] h (fun _ h=>?_)
 refine C3 h (fun v8 hgv8 h=>?_)
 refine Z ?_
 refine A7 h (fun _=>[(6,(.sl 5 (List.map Cj []))),(7,(O .i64 0)),(8,(.sl 5 (List.map Cj [(Aj.mk a0 (A8.mk [] []))]))),(9,(.arr 3 v4.2.length 0 v4.2.length))]) (fun _=>[]) ?_
 rintro _ _ _ _ h _ _
 refine Z ?_
 refine Ao h (fun _ h=>?_) (fun _ h=>?_)
 refine Z ?_
 refine Gx h (fun _ _ _ _ h=>?_)
 refine Z ?_
 refine A7 h (fun v11=>[(11,(O .i64 v11))]) (fun v11=>[]) ?_
 rintro v11 _ _ _ h _ _
 refine Z ?_
 refine Fv h (fun _ h=>?_) (fun _ h=>?_)
 refine Z ?_
 refine Gx h (fun _ _ _ _ h=>?_)
 refine Z ?_
 refine Ao h (fun _ h=>?_) (fun _ h=>?_)
 exact Y
 replace h:=Ck h
 refine Gc (Gb rfl (Az ?_))
 refine Dr [.fz 9] ?_
 exact Y
 replace h:=Ck h
 refine ZO ?_
 refine Sy (Gc (Gb rfl (Az ?_)))
 refine Dr [.fz 9] ?_
 exact Y
 replace h:=Ck h
 refine Z ?_
 refine A9 [] h (fun _ h=>?_)
 refine Z ?_
 refine A9 [5] h (fun _ h=>?_)
 refine C3 h (fun v19 hgv19 h=>?_)
 refine ZO ?_
 refine Az (K1 ?_)
 refine Dr [.fz 19] ?_
 refine Z ?_
 refine A7 h (fun (v110,v111)=>[(8,(.sl 5 (List.map Cj v110))),(19,(.sl 3 (List.map Ev v111)))]) (fun (v110,v111)=>[]) ?_
 rintro ⟨v110,v111⟩ _ _ _ h _ _
 refine Z ?_
 refine Ao h (fun _ h=>?_) (fun _ h=>?_)
 refine Z ?_
 refine B3 h (fun _ _ _ _ h=>?_)
 refine Z ?_
 refine A7 h (fun v116=>[(21,(O .i64 v116))]) (fun v116=>[]) ?_
 rintro v116 _ _ _ h _ _
 refine Z ?_
 refine Fv h (fun _ h=>?_) (fun _ h=>?_)
 refine Z ?_
 refine B3 h (fun _ _ _ _ h=>?_)
 refine Z ?_
 refine Bh h (fun _ h=>?_)
 refine Z ?_
 refine Ao h (fun _ h=>?_) (fun _ h=>?_)
 exact Y
 replace h:=Ck h
 refine Z ?_
 refine Rl h (fun _ h=>?_)
 refine Z ?_
 refine Bh h (fun _ h=>?_)
 refine Z ?_
 refine A7 h (fun (v173,o174)=>[(22,(.arr 7 o174.length 0 o174.length)),(135,(O .i64 v173))]) (fun (v173,o174)=>[(7,.rows 72 5 (List.map Cj o174))]) ?_
 rintro ⟨v173,o174⟩ _ _ _ h _ _
 refine Z ?_
 refine Ao h (fun _ h=>?_) (fun _ h=>?_)
 refine Z ?_
 refine B3 h (fun _ _ _ _ h=>?_)
 refine Z ?_
 refine Bh h (fun _ h=>?_)
 refine Z ?_
 refine Ao h (fun _ h=>?_) (fun _ h=>?_)
 exact Y
 refine Z ?_
 refine A7 h (fun (v190,o191)=>[(22,(.arr 7 o191.length 0 o191.length)),(145,(O .i64 v190))]) (fun (v190,o191)=>[(7,.rows 72 5 (List.map Cj o191))]) ?_
 rintro ⟨v190,o191⟩ _ _ _ h _ _
 exact Y
 replace h:=Ck h
 refine Gc (Gb rfl ?_)
 refine Dr [.fz 22] ?_
 exact Y
 replace h:=Ck h
 refine Z ?_
 refine Rl h (fun _ h=>?_)
 refine Z ?_
 refine Bh h (fun _ h=>?_)
 refine Z ?_
 refine A7 h (fun (v173,o174)=>[(22,(.arr 7 o174.length 0 o174.length)),(135,(O .i64 v173))]) (fun (v173,o174)=>[(7,.rows 72 5 (List.map Cj o174))]) ?_
 rintro ⟨v173,o174⟩ _ _ _ h _ _
 refine Z ?_
 refine Ao h (fun _ h=>?_) (fun _ h=>?_)
 refine Z ?_
 refine B3 h (fun _ _ _ _ h=>?_)
 refine Z ?_
 refine Bh h (fun _ h=>?_)
 refine Z ?_
 refine Ao h (fun _ h=>?_) (fun _ h=>?_)
 exact Y
 refine Z ?_
 refine A7 h (fun (v190,o191)=>[(22,(.arr 7 o191.length 0 o191.length)),(145,(O .i64 v190))]) (fun (v190,o191)=>[(7,.rows 72 5 (List.map Cj o191))]) ?_
 rintro ⟨v190,o191⟩ _ _ _ h _ _
 exact Y
 replace h:=Ck h
 refine Gc (Gb rfl ?_)
 refine Dr [.fz 22] ?_
 exact Y
 exact Y⟩
instance {a0:A8}:OK (Ak9 a0) fun r=>Ax Tryz.prog 82 [(.val (.pointer none)),Ir a0] (.tup [(As 5 Cj) r.1,(O .i64) r.2]):=⟨fun {r} h=>by
 refine pw {T:=Cb,an:=(fun _=>.ask),nl:=(fun s=>bif Nat.beq s 4 then [(0,5)] else [])} Tryz.func82 ?_
 refine Z ?_
 refine Bh h (fun _ h=>?_)
 refine Z ?_
 refine Bh h (fun _ h=>?_)
 refine Z ?_
 refine Ao h (fun _ h=>?_) (fun _ h=>?_)
 exact Y
 refine Z ?_
 refine A9 [] h (fun _ h=>?_)
 refine Z ?_
 refine A9 [2,1,3] h (fun _ h=>?_)
 refine Z ?_
 refine A9 [2,1,3] h (fun _ h=>?_)
 exact Y⟩
instance {a0:Bo} {a1:Be} {a2:Int}:OK (Kc a0 a1 a2) fun r=>Ax Tryz.prog 44 [Kf a0,Gm a1,(O .i64) a2] (.tup [(As 5 Cj) r.1,(O .i64) r.2]):=⟨fun {r} h=>by
 refine pw {T:=Cb,an:=(fun _=>.ask),nl:=(fun s=>bif Nat.beq s 37 then [(0,3)] else bif Nat.beq s 6 then [(0,5)] else [])} Tryz.func44 ?_
 refine Z ?_
 refine C3 h (fun v3 hcv3 h=>?_)
 rcases v3 with v4 | v9
 refine Fk.act [] _ _ _ _ (Bn.sub (args:=[_,.val (.slice none 0 0)]) (W7 (a0:=a0) (a1:=[]) hcv3) ⟨Sub.refl _,Sub.nil _,trivial⟩) rfl rfl trivial ?_
 refine Z ?_
 refine Ao h (fun _ h=>?_) (fun _ h=>?_)
 exact Y
 refine Jt (Az (Az ?_))
 refine Cn h (fun v11=>[(27,(Aq v11))]) (fun v11=>[]) ?_ ?_
 intro _ h _ _ _
 exact Y
 rintro v11 _ h
 refine Ao h (fun _ h=>?_) (fun _ h=>?_)
 exact Y
 refine Z ?_
 refine A9 [5,3,4] h (fun _ h=>?_)
 refine Z ?_
 refine Ao h (fun _ h=>?_) (fun _ h=>?_)
 exact Y
 refine Z ?_
 refine A9 [5,3,4] h (fun _ h=>?_)
 exact Y
 refine Fk.act [] _ _ _ _ (Bn.sub (args:=[_,.val (.slice none 0 0)]) (W8 (a0:=a0) (a1:=[]) hcv3) ⟨Sub.refl _,Sub.nil _,trivial⟩) rfl rfl trivial ?_
 refine Z ?_
 refine Ao h (fun _ h=>?_) (fun _ h=>?_)
 exact Y
 refine Jt (Az (Az ?_))
 refine Cn h (fun v15=>[(27,(Aq v15))]) (fun v15=>[]) ?_ ?_
 intro _ h _ _ _
 exact Y
 rintro v15 _ h
 exact Y⟩
instance {a0:List Aj} {a1:Ak}:OK (Vy a0 a1) fun r=>Ax Tryz.prog 83 [(As 5 Cj) a0,Cr a1] ((As 5 Cj) r):=⟨fun {r} h=>by
 refine pw {T:=Cb,an:=(fun s=>bif Nat.beq s 5 then .own else .ask),nl:=(fun s=>bif Nat.beq s 5 then [(0,5)] else bif Nat.beq s 4 then [(0,5)] else [])} Tryz.func83 ?_
 refine Z ?_
 refine A7 h (fun (v13,o14)=>[(5,(.arr 1 o14.length 0 o14.length)),(10,(O .i64 v13))]) (fun (v13,o14)=>[(1,.rows 72 5 (List.map Cj o14))]) ?_
 rintro ⟨v13,o14⟩ _ _ _ h _ _
 exact Y⟩
instance {a0:Bo} {a1 a2:List Aj}:OK (Og a0 a1 a2) fun r=>Ax Tryz.prog 45 [Kf a0,(As 5 Cj) a1,(As 5 Cj) a2] (.tup [(As 5 Cj) r.1,(O .i64) r.2]):=⟨fun {r} h=>by
 refine pw {T:=Cb,an:=(fun _=>.ask),nl:=(fun s=>bif Nat.beq s 6 then [(0,5)] else [])} Tryz.func45 ?_
 refine ZS ?_
 refine Cm ?_
 refine ZO ?_
 refine Az (Az ?_)
 refine Cn h (fun v9=>[(9,(Aq v9))]) (fun v9=>[]) ?_ ?_
 intro _ h _ _ _
 refine Z ?_
 refine C3 h (fun v2 hcv2 h=>?_)
 rcases v2 with v3 | v8
 refine Fk.act [] _ _ _ _ (W7 (a0:=a0) (a1:=[a1,a2]) hcv2) rfl rfl trivial ?_
 exact Y
 refine Fk.act [] _ _ _ _ (W8 (a0:=a0) (a1:=[a1,a2]) hcv2) rfl rfl trivial ?_
 exact Y
 rintro v9 _ h
 refine Z ?_
 refine Ao h (fun _ h=>?_) (fun _ h=>?_)
 exact Y
 refine Z ?_
 refine A9 [] h (fun _ h=>?_)
 refine Z ?_
 refine A9 [2,1,3] h (fun _ h=>?_)
 refine Z ?_
 refine Bh h (fun _ h=>?_)
 refine Z ?_
 refine Bh h (fun _ h=>?_)
 refine Z ?_
 refine A9 [2,1,3] h (fun _ h=>?_)
 refine Z ?_
 refine A9 [2,1,3] h (fun _ h=>?_)
 exact Y⟩
instance {a0:Bo} {a1:Gn}:OK (Z7 a0 a1) fun r=>Ax Tryz.prog 22 [Kf a0,Ms a1] (.tup [(As 5 Cj) r.1,(O .i64) r.2]):=⟨fun {r} h=>by
 refine pw {T:=Cb,an:=(fun _=>.ask),nl:=(fun s=>bif Nat.beq s 4 then [(0,5)] else [])} Tryz.func22 ?_
 exact Y⟩
instance {a0:List Aj} {b1:List (ByteArray×Int)} {b2:List (ByteArray×(List Dl))} {b0_0:List Ap} {b0_1:List Ah} {b0_2 b0_3:Int} {b0_4:List Ah}:OK (Tk a0 b1 b2 b0_0 b0_1 b0_2 b0_3 b0_4) fun r=>Bn Tryz.prog 144 [(.loc 0 0),(As 5 Cj) a0] [.cells 119 [(.sl 3 (List.map Cd b0_0)),(.sl 3 (Bk b0_1)),(O .i64 b0_2),(O .i64 b0_3),(.sl 3 (Bk b0_4)),(.mp 1),(.mp 2)],.map (Bm (O .i64) b1),.map (Bm (As 5 Ew) b2)] ((O .i64) r.1) [.cells 119 [(.sl 3 (List.map Cd b0_0)),(.sl 3 (Bk b0_1)),(O .i64 b0_2),(O .i64 b0_3),(.sl 3 (Bk b0_4)),(.mp 1),(.mp 2)],.map (Bm (O .i64) r.2),.map (Bm (As 5 Ew) b2)]:=⟨fun {r} h=>by
 refine aw C0 true Tryz.func144 ?_
 refine Z ?_
 refine A7 h (fun (v4,v5,o6)=>[(5,(O .i64 v4)),(10,(O .i64 v5))]) (fun (v4,v5,o6)=>[(1,.map (Bm (O .i64) o6))]) ?_
 rintro ⟨v4,v5,o6⟩ _ _ _ h _ _
 refine Z ?_
 refine Ao h (fun _ h=>?_) (fun _ h=>?_)
 refine Z ?_
 refine B3 h (fun _ _ _ _ h=>?_)
 refine Z ?_
 refine A9 [0,1,2] h (fun _ h=>?_)
 exact Y
 exact Y⟩
instance {a0:Int} {a1:Bc}:OK (Ala a0 a1) fun r=>Ax Tryz.prog 163 [(.val (.pointer none)),(O .i64) a0,Hw a1] ((O .i64) r):=⟨fun {r} h=>by
 refine pw C0 Tryz.func163 ?_
 exact Y⟩
instance {a0:A8}:OK (Alb a0) fun r=>Ax Tryz.prog 162 [(.val (.pointer none)),Ir a0] ((O .i64) r):=⟨fun {r} h=>by
 refine pw C0 Tryz.func162 ?_
 refine Z ?_
 refine A7 h (fun (v5,v6)=>[(5,(O .i64 v5)),(13,(O .i64 v6))]) (fun (v5,v6)=>[]) ?_
 rintro ⟨v5,v6⟩ _ _ _ h _ _
 refine Z ?_
 refine Ao h (fun _ h=>?_) (fun _ h=>?_)
 exact Y
 replace h:=Ck h
 refine Z ?_
 refine A7 h (fun (v13,v14)=>[(5,(O .i64 v13)),(31,(O .i64 v14))]) (fun (v13,v14)=>[]) ?_
 rintro ⟨v13,v14⟩ _ _ _ h _ _
 exact Y⟩
instance {a0:List Aj}:OK (Afj a0) fun r=>Ax Tryz.prog 144 [(.val (.pointer none)),(As 5 Cj) a0] ((O .i64) r):=⟨fun {r} h=>by
 refine pw C0 Tryz.func144 ?_
 refine Z ?_
 refine A7 h (fun (v4,v5)=>[(5,(O .i64 v4)),(10,(O .i64 v5))]) (fun (v4,v5)=>[]) ?_
 rintro ⟨v4,v5⟩ _ _ _ h _ _
 exact Y⟩
instance {a0:Bo} {a1 a2:List Aj}:OK (Qo a0 a1 a2) fun r=>Ax Tryz.prog 84 [Kf a0,(As 5 Cj) a1,(As 5 Cj) a2] (.tup [(As 5 Cj) r.1,(O .i64) r.2]):=⟨fun {r} h=>by
 refine pw {T:=Cb,an:=(fun _=>.ask),nl:=(fun s=>bif Nat.beq s 6 then [(0,5)] else [])} Tryz.func84 ?_
 refine Z ?_
 refine C3 h (fun v2 hcv2 h=>?_)
 rcases v2 with v3 | v8
 refine Fk.act [] _ _ _ _ (W7 (a0:=a0) (a1:=[a1,a2]) hcv2) rfl rfl trivial ?_
 refine Z ?_
 refine Ao h (fun _ h=>?_) (fun _ h=>?_)
 exact Y
 refine Jt (Az (Az ?_))
 refine Cn h (fun (v11,o12)=>[(44,(Aq v11))]) (fun (v11,o12)=>[(2,.map (Bm (O .i64) o12))]) ?_ ?_
 intro _ h _ _ _
 refine Z ?_
 refine Fv h (fun _ h=>?_) (fun _ h=>?_)
 refine Z ?_
 refine Fv h (fun _ h=>?_) (fun _ h=>?_)
 refine Z ?_
 refine A9 [4,2,3] h (fun _ h=>?_)
 refine Z ?_
 refine A9 [4,2,3] h (fun _ h=>?_)
 exact Y
 exact Y
 exact Y
 rintro ⟨v11,o12⟩ _ h
 refine Ao h (fun _ h=>?_) (fun _ h=>?_)
 exact Y
 refine Z ?_
 refine A9 [] h (fun _ h=>?_)
 refine Z ?_
 refine A7 h (fun (v82,o83,o84)=>[(6,(.sl 5 (List.map Cj []))),(7,(O .i64 0)),(48,(O .i64 v82))]) (fun (v82,o83,o84)=>[(5,.map (Bm (O .i64) o83)),(6,.cells 122 [(.mp 5),(.arr 7 o84.length 0 o84.length)]),(7,.rows 72 5 (List.map Cj o84))]) ?_
 rintro ⟨v82,o83,o84⟩ _ _ _ h _ _
 refine Z ?_
 refine Ao h (fun _ h=>?_) (fun _ h=>?_)
 refine Z ?_
 refine B3 h (fun _ _ _ _ h=>?_)
 refine Z ?_
 refine A7 h (fun (v102,o103,o104)=>[(6,(.sl 5 (List.map Cj []))),(7,(O .i64 0)),(54,(O .i64 v102))]) (fun (v102,o103,o104)=>[(5,.map (Bm (O .i64) o103)),(6,.cells 122 [(.mp 5),(.arr 7 o104.length 0 o104.length)]),(7,.rows 72 5 (List.map Cj o104))]) ?_
 rintro ⟨v102,o103,o104⟩ _ _ _ h _ _
 refine Z ?_
 refine Ao h (fun _ h=>?_) (fun _ h=>?_)
 refine Z ?_
 refine B3 h (fun _ _ _ _ h=>?_)
 refine Z ?_
 refine Bh h (fun _ h=>?_)
 refine Z ?_
 refine Bh h (fun _ h=>?_)
 refine Z ?_
 refine A9 [4,2,3] h (fun _ h=>?_)
 refine Z ?_
 refine Ao h (fun _ h=>?_) (fun _ h=>?_)
 exact Y
 refine Z ?_
 refine A9 [6,5,7] h (fun _ h=>?_)
 exact Y
 exact Y
 replace h:=Ck h
 refine Z ?_
 refine A9 [6,5,7] h (fun _ h=>?_)
 exact Y
 refine Fk.act [] _ _ _ _ (W8 (a0:=a0) (a1:=[a1,a2]) hcv2) rfl rfl trivial ?_
 refine Z ?_
 refine Ao h (fun _ h=>?_) (fun _ h=>?_)
 exact Y
 refine Jt (Az (Az ?_))
 refine Cn h (fun v123=>[(44,(Aq v123))]) (fun v123=>[]) ?_ ?_
 intro _ h _ _ _
 exact Y
 rintro v123 _ h
 refine Ao h (fun _ h=>?_) (fun _ h=>?_)
 exact Y
 refine Z ?_
 refine A9 [] h (fun _ h=>?_)
 refine Z ?_
 refine A7 h (fun (v193,o194,o195)=>[(6,(.sl 5 (List.map Cj []))),(7,(O .i64 0)),(48,(O .i64 v193))]) (fun (v193,o194,o195)=>[(1,.map (Bm (O .i64) o194)),(2,.cells 122 [(.mp 1),(.arr 3 o195.length 0 o195.length)]),(3,.rows 72 5 (List.map Cj o195))]) ?_
 rintro ⟨v193,o194,o195⟩ _ _ _ h _ _
 refine Z ?_
 refine Ao h (fun _ h=>?_) (fun _ h=>?_)
 refine Z ?_
 refine B3 h (fun _ _ _ _ h=>?_)
 refine Z ?_
 refine A7 h (fun (v213,o214,o215)=>[(6,(.sl 5 (List.map Cj []))),(7,(O .i64 0)),(54,(O .i64 v213))]) (fun (v213,o214,o215)=>[(1,.map (Bm (O .i64) o214)),(2,.cells 122 [(.mp 1),(.arr 3 o215.length 0 o215.length)]),(3,.rows 72 5 (List.map Cj o215))]) ?_
 rintro ⟨v213,o214,o215⟩ _ _ _ h _ _
 refine Z ?_
 refine Ao h (fun _ h=>?_) (fun _ h=>?_)
 refine Z ?_
 refine B3 h (fun _ _ _ _ h=>?_)
 refine Z ?_
 refine Bh h (fun _ h=>?_)
 refine Z ?_
 refine Bh h (fun _ h=>?_)
 refine Z ?_
 refine Bh h (fun _ h=>?_)
 refine Z ?_
 refine Ao h (fun _ h=>?_) (fun _ h=>?_)
 exact Y
 refine Z ?_
 refine A9 [2,1,3] h (fun _ h=>?_)
 exact Y
 exact Y
 replace h:=Ck h
 refine Z ?_
 refine A9 [2,1,3] h (fun _ h=>?_)
 exact Y⟩
instance {a0:Bo} {a1:Gn} {a2:Int}:OK (S5 a0 a1 a2) fun r=>Ax Tryz.prog 46 [Kf a0,Ms a1,(O .i64) a2] (.tup [(As 5 Cj) r.1,(O .i64) r.2]):=⟨fun {r} h=>by
 refine pw {T:=Cb,an:=(fun _=>.ask),nl:=(fun s=>bif Nat.beq s 6 then [(0,5)] else [])} Tryz.func46 ?_
 exact Y⟩
instance {a0:Bo} {a1:Gn}:OK (Vp a0 a1) fun r=>Ax Tryz.prog 23 [Kf a0,Ms a1] (.tup [(As 5 Cj) r.1,(O .i64) r.2]):=⟨fun {r} h=>by
 refine pw {T:=Cb,an:=(fun _=>.ask),nl:=(fun s=>bif Nat.beq s 10 then [(0,5)] else bif Nat.beq s 4 then [(0,5)] else [])} Tryz.func23 ?_
 refine Z ?_
 refine Bh h (fun _ h=>?_)
 refine Z ?_
 refine Ao h (fun _ h=>?_) (fun _ h=>?_)
 exact Y
 refine Z ?_
 refine Bh h (fun _ h=>?_)
 refine Z ?_
 refine A7 h (fun (v9,v10,v11)=>[(7,(O .i64 v9)),(8,(.sl 5 (List.map Cj v10))),(9,(O .i64 v11))]) (fun (v9,v10,v11)=>[]) ?_
 rintro ⟨v9,v10,v11⟩ _ _ _ h _ _
 refine Az (Az ?_)
 refine Cn h (fun v12=>[(37,(Aq v12))]) (fun v12=>[]) ?_ ?_
 intro _ h _ _ _
 exact Y
 rintro v12 _ h
 exact Y⟩
instance {a0:Bo} {a1:Be}:OK (S0 a0 a1) fun r=>Ax Tryz.prog 21 [Kf a0,Gm a1] (Aq r):=⟨fun {r} h=>by
 refine pw C0 Tryz.func21 ?_
 refine Z ?_
 refine A7 h (fun v6=>[(4,(Aq false)),(10,(O .i64 v6))]) (fun v6=>[]) ?_
 rintro v6 _ _ _ h _ _
 exact Y⟩
instance {a0:Bo} {a1:List Aj}:OK (Oe a0 a1) fun r=>Ax Tryz.prog 20 [Kf a0,(As 5 Cj) a1] (Aq r):=⟨fun {r} h=>by
 refine pw C0 Tryz.func20 ?_
 refine Z ?_
 refine C3 h (fun v2 hcv2 h=>?_)
 rcases v2 with v3 | v8
 refine Fk.act [] _ _ _ _ (W7 (a0:=a0) (a1:=[a1]) hcv2) rfl rfl trivial ?_
 exact Y
 refine Fk.act [] _ _ _ _ (W8 (a0:=a0) (a1:=[a1]) hcv2) rfl rfl trivial ?_
 exact Y⟩
instance {a0:Bo} {a1:Gn}:OK (Od a0 a1) fun r=>Ax Tryz.prog 9 [Kf a0,Ms a1] (.tup [(As 5 Cj) r.1,(O .i64) r.2]):=⟨fun {r} h=>by
 refine pw {T:=Cb,an:=(fun _=>.ask),nl:=(fun s=>bif Nat.beq s 4 then [(0,5)] else [])} Tryz.func9 ?_
 refine ZS ?_
 refine Cm ?_
 refine ZO ?_
 refine Az (Az ?_)
 refine Cn h (fun v5=>[(13,(Aq v5))]) (fun v5=>[]) ?_ ?_
 intro _ h _ _ _
 exact Y
 rintro v5 _ h
 refine Ao h (fun _ h=>?_) (fun _ h=>?_)
 exact Y
 refine Jt (Az (Az ?_))
 refine Cn h (fun v8=>[(25,(Aq v8))]) (fun v8=>[]) ?_ ?_
 intro _ h _ _ _
 exact Y
 rintro v8 _ h
 exact Y⟩
instance {a0:Be}:OK (S3 a0) fun r=>Ax Tryz.prog 33 [Gm a0] (Gm r):=⟨fun {r} h=>by
 refine pw C0 Tryz.func33 ?_
 exact Y⟩
instance {a0:Gn}:OK (Vo a0) fun r=>Ax Tryz.prog 15 [Ms a0] ((As 2 Gm) r):=⟨fun {r} h=>by
 refine pw {T:=Cb,an:=(fun _=>.ask),nl:=(fun s=>bif Nat.beq s 2 then [(0,2)] else [])} Tryz.func15 ?_
 exact Y⟩
instance {a0:Int}:OK (Vn a0) fun r=>Ax Tryz.prog 8 [(O .i64) a0] (Kf r):=⟨fun {r} h=>by
 refine pw {T:=Cb,an:=(fun _=>.ask),nl:=(fun s=>bif Nat.beq s 18 then [(0,3),(4,3)] else bif Nat.beq s 14 then [(2,3)] else bif Nat.beq s 13 then [(0,3)] else [])} Tryz.func8 ?_
 refine ZS ?_
 refine Cm ?_
 refine ZS ?_
 refine Cm ?_
 refine ZO ?_
 refine Az (Az ?_)
 refine Dr [.own 3 1 29 3] ?_
 refine Z ?_
 refine A7 h (fun (v8,o9)=>[(4,(O .i64 v8))]) (fun (v8,o9)=>[(1,.cells 31 [(.val (.slice none 0 0)),(.arr 2 o9.length 0 o9.length),(O .i64 1),(O .i64 0),(.val (.slice none 0 0))]),(2,.rows 29 3 (Bk o9))]) ?_
 rintro ⟨v8,o9⟩ _ _ _ h _ _
 exact Y⟩
instance {a0:Gn}:OK (Z6 a0) fun r=>Ax Tryz.prog 13 [Ms a0] (Aq r):=⟨fun {r} h=>by
 refine pw C0 Tryz.func13 ?_
 exact Y⟩
instance {a0 a1:Int}:OK (Aez a0 a1) fun r=>Ax Tryz.prog 19 [(O .i64) a0,(O .i64) a1] (Gm r):=⟨fun {r} h=>by
 refine pw C0 Tryz.func19 ?_
 exact Y⟩
instance  : OK (Z5) fun r=>Ax Tryz.prog 7 [] (Aq r):=⟨fun {r} h=>by
 refine pw {T:=Cb,an:=(fun _=>.ask),nl:=(fun s=>bif Nat.beq s 31 then [(2,2),(4,2)] else bif Nat.beq s 25 then [(4,2)] else bif Nat.beq s 21 then [(4,2)] else bif Nat.beq s 9 then [(4,2)] else [])} Tryz.func7 ?_
 exact Y⟩
instance {a0:Be} {a1:List Int}:OK (Qd a0 a1) fun r=>Ax Tryz.prog 16 [Gm a0,(As 1 (O .i8)) a1] (.tup [(O .i64) r.1,Aq r.2]):=⟨fun {r} h=>by
 refine pw C0 Tryz.func16 ?_
 refine Z ?_
 refine A7 h (fun (v6,v7)=>[(4,(O .i64 0)),(5,(Aq false)),(6,(O .i64 v6)),(14,(O .i64 v7))]) (fun (v6,v7)=>[]) ?_
 rintro ⟨v6,v7⟩ _ _ _ h _ _
 refine Z ?_
 refine Ao h (fun _ h=>?_) (fun _ h=>?_)
 refine Z ?_
 refine B3 h (fun _ _ _ _ h=>?_)
 refine ZO ?_
 refine Az (Az ?_)
 refine Cn h (fun v9=>[(30,(Aq v9))]) (fun v9=>[]) ?_ ?_
 intro _ h _ _ _
 exact Y
 rintro v9 _ h
 exact Y
 exact Y⟩
abbrev Amb (k:Nat):Prop:=∀{a0:Ay} {b3:List Ay} {b4:List (List Bool)},OK (Q9 k a0 b3 b4) fun r=>Bn Tryz.prog 267 [H9 a0,(.loc 0 0),(.loc 1 0),(.loc 2 0)] [.cells 52 [(.arr 3 b3.length 0 b3.length)],.cells 335 [(.arr 4 b4.length 0 b4.length)],.cells 336 [(.fn 267 [(.loc 0 0),(.loc 1 0),(.loc 2 0)])],.rows 55 3 (Gw b3),.rows 230 1 (List.map (As 1 Aq) b4)] (.tup []) [.cells 52 [(.arr 3 r.length 0 r.length)],.cells 335 [(.arr 4 b4.length 0 b4.length)],.cells 336 [(.fn 267 [(.loc 0 0),(.loc 1 0),(.loc 2 0)])],.rows 55 3 (Gw r),.rows 230 1 (List.map (As 1 Aq) b4)]
theorem Axl (k:Nat):Amb k:=by
 induction k with
 | zero=>exact okz
 | succ k ih=>
  refine @fun a0 b3 b4=>⟨fun {r} h=>?_⟩
  .unfold Q9 at h
   refine aw {T:=Cb,an:=(fun _=>.ask),nl:=(fun s=>bif Nat.beq s 10 then [(1002,3)] else [])} true Tryz.func267 ?_
   refine Z ?_
   refine Afl h (fun o2 h=>?_)
   refine Z ?_
   refine Gx h (fun _ _ hiv3 _ h=>?_)
   refine Z ?_
   refine Avw (g:=Gw) Kg (f:=H9) (x:=a0) (j:=((b3.length:Nat):Int)) (Kg _) rfl (Nat.zero_add _) hiv3 ?_
   refine Z ?_
   refine Gx h (fun _ _ _ _ h=>?_)
   refine Z ?_
   refine A7 h (fun (v13,o14)=>[(19,(O .i64 v13))]) (fun (v13,o14)=>[(0,.cells 52 [(.arr 3 o14.length 0 o14.length)]),(3,.rows 55 3 (Gw o14))]) ?_ (hh:=⟨⟨rfl,rfl⟩,⟨rfl,rfl⟩,⟨rfl,rfl⟩,⟨rfl,rfl⟩,⟨rfl,rfl⟩,⟨congrArg (fun q_=>Bl.cells 52 [(.arr 3 q_ 0 q_)]) (Hm (l:=o2) rfl ((b3.length:Nat):Int) a0),rfl⟩,trivial⟩)
   rintro ⟨v13,o14⟩ _ _ _ h _ _
   refine Z ?_
   refine Ao h (fun _ h=>?_) (fun _ h=>?_)
   refine Z ?_
   refine B3 h (fun _ _ _ _ h=>?_)
   refine Z ?_
   refine Ao h (fun _ h=>?_) (fun _ h=>?_)
   refine Z ?_
   refine B3 h (fun _ _ _ _ h=>?_)
   refine Z ?_
   refine A9 [0,1,2,3,4] h (fun _ h=>?_)
   exact Y
   exact Y
   exact Y
instance {k:Nat}:Amb k:=(Axl k)
instance {a0:List Ap} {a1:Ah} {a2:Ay}:OK (Wn a0 a1 a2) fun r=>Ax Tryz.prog 208 [(As 3 Cd) a0,E4 a1,H9 a2] ((Fz 3 Gw) r):=⟨fun {r} h=>by
 refine pw {T:=Cb,an:=(fun _=>.ask),nl:=(fun s=>bif Nat.beq s 21 then [(0,1)] else bif Nat.beq s 6 then [(0,3)] else [])} Tryz.func208 ?_
 refine ZS ?_
 refine Cm ?_
 refine ZS ?_
 refine Cm ?_
 refine ZO ?_
 refine Az (Az ?_)
 refine Dr [.own 7 0 230 1] ?_
 refine Z ?_
 refine B3 h (fun _ _ _ _ h=>?_)
 refine Z ?_
 refine A7 h (fun (v12,o13)=>[(18,(O .i64 v12))]) (fun (v12,o13)=>[(2,.cells 335 [(.arr 3 o13.length 0 o13.length)]),(3,.rows 230 1 (List.map (As 1 Aq) o13))]) ?_
 rintro ⟨v12,o13⟩ _ _ _ h _ _
 refine Z ?_
 refine Ao h (fun _ h=>?_) (fun _ h=>?_)
 exact Y
 replace h:=Ck h
 refine ZS ?_
 refine Cm ?_
 refine ZO ?_
 refine Az ?_
 refine Dr [.own 9 0 55 3] ?_
 refine Z ?_
 refine A9 [4,2,6,5,3] h (fun _ h=>?_)
 exact Y⟩
instance {a0 a1:Int}:OK (Wa a0 a1) fun r=>Ax Tryz.prog 130 [(O .i64) a0,(O .i64) a1] (.tup [Cr r.1,Aq r.2]):=⟨fun {r} h=>by
 refine pw C0 Tryz.func130 ?_
 refine ZS ?_
 refine Cm ?_
 refine ZO ?_
 refine Az (Az ?_)
 refine Cn h (fun v2=>[(11,(Aq v2))]) (fun v2=>[]) ?_ ?_
 intro _ h _ _ _
 exact Y
 rintro v2 _ h
 exact Y⟩
abbrev Amc (k:Nat):Prop:=∀{a0:List Ap} {a1:Ah} {a2:List Bc} {a3:Ay},OK (Te k a0 a1 a2 a3) fun r=>Ax Tryz.prog 131 [(As 3 Cd) a0,E4 a1,(Fz 2 I3) a2,H9 a3] (Cr r)
abbrev Amd (k:Nat):Prop:=∀{a0:List Ap} {a1:Ah} {a2:Bc} {a3:Ay},OK (Lt k a0 a1 a2 a3) fun r=>Ax Tryz.prog 74 [(As 3 Cd) a0,E4 a1,Hw a2,H9 a3] (Cr r)
theorem Ame (k:Nat):Amc k/\Amd k:=by
 induction k with
 | zero=>exact ⟨okz,okz⟩
 | succ k ih=>
  obtain ⟨i0_,i1_⟩:=ih
  refine ⟨@fun a0 a1 a2 a3=>⟨fun {r} h=>?_⟩,@fun a0 a1 a2 a3=>⟨fun {r} h=>?_⟩⟩
  .unfold Te at h
   refine pw {T:=Cb,an:=(fun s=>bif Nat.beq s 9 then .own else .ask),nl:=(fun s=>bif Nat.beq s 66 then [(0,3)] else bif Nat.beq s 60 then [(0,1)] else bif Nat.beq s 9 then [(0,4)] else [])} Tryz.func131 ?_
   refine Z ?_
   refine A7 h (fun (v65,o66)=>[(9,(.arr 3 o66.length 0 o66.length)),(28,(O .i64 v65))]) (fun (v65,o66)=>[(3,.rows 275 4 (List.map Awf o66))]) ?_
   rintro ⟨v65,o66⟩ _ _ _ h _ _
   refine Z ?_
   refine Ao h (fun _ h=>?_) (fun _ h=>?_)
   refine Z ?_
   refine B3 h (fun _ v67 _ _ h=>?_)
   refine ZS ?_
   refine Cm ?_
   refine ZO ?_
   refine Az ?_
   refine Dr [.own 12 2 3 1,.own 12 3 29 3] ?_
   refine Z ?_
   refine Bh h (fun _ h=>?_)
   refine Z ?_
   refine Bh h (fun _ h=>?_)
   refine Z ?_
   refine A7 h (fun (v85,o86,o87)=>[(52,(O .i64 v85))]) (fun (v85,o86,o87)=>[(5,.cells 275 [(O .i64 v67.Num),(.sl 2 (I3 v67.Kids)),(.arr 6 o86.length 0 o86.length),(.arr 7 o87.length 0 o87.length)]),(6,.rows 3 1 (List.map (O .i64) o86)),(7,.rows 29 3 (Bk o87))]) ?_
   rintro ⟨v85,o86,o87⟩ _ _ _ h _ _
   refine Z ?_
   refine Ao h (fun _ h=>?_) (fun _ h=>?_)
   exact Y
   replace h:=Ck h
   refine Gc (Gb rfl ?_)
   refine Dr [.fzc 12 2,.fzc 12 3] ?_
   exact Y
   replace h:=Ck h
   refine Z ?_
   refine Qc (f:=Cr) (z:=((Ak.mk false [] []):Ak)) (by repeat (first | exact E8.nil | apply E8.sl | apply E8.same)) h (fun o97 h=>?_)
   refine Z ?_
   refine D7 h (fun (v101,o102)=>[(86,(O .i64 v101))]) (fun (v101,o102)=>[(4,.rows 58 3 (List.map Cr o102))]) (fun (v101,o102)=>o97.length=o102.length) ?_
   rintro ⟨v101,o102⟩ _ _ _ h _ _ q102
   refine Z ?_
   refine Ao h (fun _ h=>?_) (fun _ h=>?_)
   exact Y
   replace h:=Ck h
   refine Z ?_
   refine Bh h (fun v106 h=>?_)
   refine Z ?_
   refine Gx h (fun _ _ hiv107 _ h=>?_)
   refine Z ?_
   refine K0 (f:=Cr) (x:=v106) (j:=0) rfl rfl (Nat.zero_add _) hiv107 ?_
   refine Z ?_
   refine Bh h (fun _ h=>?_)
   refine Z ?_
   refine D7 h (fun (v175,o176)=>[(102,(O .i64 v175))]) (fun (v175,o176)=>[(4,.rows 58 3 (List.map Cr o176))]) (fun (v175,o176)=>o97.length=o176.length) ?_
   rintro ⟨v175,o176⟩ _ _ _ h _ _ q176
   refine Z ?_
   refine Ao h (fun _ h=>?_) (fun _ h=>?_)
   refine Z ?_
   refine B3 h (fun _ _ _ _ h=>?_)
   refine Z ?_
   refine D7 h (fun (v209,o210)=>[(21,(O .i64 v209))]) (fun (v209,o210)=>[(4,.rows 58 3 (List.map Cr o210))]) (fun (v209,o210)=>o97.length=o210.length) ?_
   rintro ⟨v209,o210⟩ _ _ _ h _ _ q210
   refine Z ?_
   refine Ao h (fun _ h=>?_) (fun _ h=>?_)
   refine Z ?_
   refine Gx h (fun _ _ _ _ h=>?_)
   refine ZO ?_
   refine Az (Az ?_)
   refine Cn h (fun v215=>[(130,(Aq v215))]) (fun v215=>[]) ?_ ?_
   intro _ h _ _ _
   exact Y
   rintro v215 _ h
   refine Ao h (fun _ h=>?_) (fun _ h=>?_)
   exact Y
   refine Z ?_
   refine Gx h (fun _ _ _ _ h=>?_)
   refine Z ?_
   refine A7 h (fun (v224,v225,v226,v227)=>[(139,(O .i64 v224))]) (fun (v224,v225,v226,v227)=>[(7,.cells 58 [(Aq v225),(.sl 1 (List.map (O .u32) v226)),(.sl 1 (List.map (O .u32) v227))])]) ?_
   rintro ⟨v224,v225,v226,v227⟩ _ _ _ h _ _
   exact Y
   exact Y
   exact Y
  .unfold Lt at h
   refine pw C0 Tryz.func74 ?_
   refine Z ?_
   refine Bh h (fun _ h=>?_)
   refine Z ?_
   refine Ao h (fun _ h=>?_) (fun _ h=>?_)
   refine Z ?_
   refine A7 h (fun (v13,v14,v15,v16)=>[(20,(O .i64 v13))]) (fun (v13,v14,v15,v16)=>[(4,.cells 58 [(Aq v14),(.sl 1 (List.map (O .u32) v15)),(.sl 1 (List.map (O .u32) v16))])]) ?_
   rintro ⟨v13,v14,v15,v16⟩ _ _ _ h _ _
   exact Y
   exact Y
instance {k:Nat}:Amc k:=(Ame k).1
instance {k:Nat}:Amd k:=(Ame k).2
instance {a0:List Ap} {a1:Ah} {a2:Int}:OK (Tv a0 a1 a2) fun r=>Ax Tryz.prog 266 [(As 3 Cd) a0,E4 a1,(O .i64) a2] (.tup [(Fz 3 Bk) r.1,Aq r.2]):=⟨fun {r} h=>by
 refine pw {T:=Cb,an:=(fun s=>bif Nat.beq s 10 then .own else .ask),nl:=(fun s=>bif Nat.beq s 10 then [(0,3)] else bif Nat.beq s 6 then [(0,3)] else [])} Tryz.func266 ?_
 refine Z ?_
 refine Bh h (fun _ h=>?_)
 refine Z ?_
 refine Ao h (fun _ h=>?_) (fun _ h=>?_)
 exact Y
 refine Z ?_
 refine Bh h (fun _ h=>?_)
 refine Z ?_
 refine A7 h (fun (v13,o14)=>[(10,(.arr 1 o14.length 0 o14.length)),(28,(O .i64 v13))]) (fun (v13,o14)=>[(1,.rows 29 3 (Bk o14))]) ?_
 rintro ⟨v13,o14⟩ _ _ _ h _ _
 exact Y⟩
abbrev Amf (k:Nat):Prop:=∀{a0:List Ap} {a1:Ah} {a2:Bc},OK (Ov k a0 a1 a2) fun r=>Ax Tryz.prog 205 [(As 3 Cd) a0,E4 a1,Hw a2] (.tup [(O .i64) r.1,Aq r.2])
abbrev Amg (k:Nat):Prop:=∀{a0:List Ap} {a1:List Ah} {a2:List Bc},OK (Ox k a0 a1 a2) fun r=>Ax Tryz.prog 265 [(As 3 Cd) a0,(Fz 3 Bk) a1,(Fz 2 I3) a2] (.tup [(O .i64) r.1,Aq r.2])
theorem Amh (k:Nat):Amf k/\Amg k:=by
 induction k with
 | zero=>exact ⟨okz,okz⟩
 | succ k ih=>
  obtain ⟨i0_,i1_⟩:=ih
  refine ⟨@fun a0 a1 a2=>⟨fun {r} h=>?_⟩,@fun a0 a1 a2=>⟨fun {r} h=>?_⟩⟩
  .unfold Ov at h
   refine pw C0 Tryz.func205 ?_
   refine Z ?_
   refine Ao h (fun _ h=>?_) (fun _ h=>?_)
   exact Y
   refine Z ?_
   refine Ao h (fun _ h=>?_) (fun _ h=>?_)
   exact Y
   refine Z ?_
   refine Ao h (fun _ h=>?_) (fun _ h=>?_)
   refine Z ?_
   refine Ao h (fun _ h=>?_) (fun _ h=>?_)
   exact Y
   refine Z ?_
   refine A7 h (fun (v8,v9)=>[(6,(O .i64 0)),(7,(Aq false)),(8,(O .i64 v8)),(55,(O .i64 v9))]) (fun (v8,v9)=>[]) ?_
   rintro ⟨v8,v9⟩ _ _ _ h _ _
   exact Y
   exact Y
  .unfold Ox at h
   refine pw C0 Tryz.func265 ?_
   refine Z ?_
   refine Ao h (fun _ h=>?_) (fun _ h=>?_)
   exact Y
   refine Z ?_
   refine A7 h (fun (v5,v6)=>[(6,(O .i64 0)),(7,(Aq false)),(8,(O .i64 v5)),(20,(O .i64 v6))]) (fun (v5,v6)=>[]) ?_
   rintro ⟨v5,v6⟩ _ _ _ h _ _
   exact Y
instance {k:Nat}:Amf k:=(Amh k).1
instance {k:Nat}:Amg k:=(Amh k).2
instance {a0:List Ap} {a1:Ah}:OK (Aaj a0 a1) fun r=>Ax Tryz.prog 204 [(As 3 Cd) a0,E4 a1] (Aq r):=⟨fun {r} h=>by
 refine pw {T:=Cb,an:=(fun _=>.ask),nl:=(fun s=>bif Nat.beq s 6 then [(1,7),(2,3),(3,8)] else [])} Tryz.func204 ?_
 exact Y⟩
instance {a0:List Ap} {a1:Ah} {a2:Bc}:OK (V9 a0 a1 a2) fun r=>Ax Tryz.prog 129 [(As 3 Cd) a0,E4 a1,Hw a2] ((O .i64) r):=⟨fun {r} h=>by
 refine pw C0 Tryz.func129 ?_
 exact Y⟩
instance {a0:List Ap} {a1:Ah} {a2:Bc}:OK (Z9 a0 a1 a2) fun r=>Ax Tryz.prog 73 [(As 3 Cd) a0,E4 a1,Hw a2] (Aq r):=⟨fun {r} h=>by
 refine pw C0 Tryz.func73 ?_
 exact Y⟩
end Go.Ab
namespace Go.Ab
open Go Go.Proofs
set_option maxRecDepth 10000
set_option maxHeartbeats 4000000
set_option linter.unusedVariables false
abbrev Ami (k:Nat):Prop:=∀{a0:List Ay} {b1:Int},OK (V7 k a0 b1) fun r=>Bn Tryz.prog 122 [(Fz 3 Gw) a0,(.fn 123 [(.loc 0 0)])] [.cells 138 [(.loc 1 0)],.cells 3 [(O .i64 b1)]] (Aq r.1) [.cells 138 [(.loc 1 0)],.cells 3 [(O .i64 r.2)]]
abbrev Amj (k:Nat):Prop:=∀{a0:List Ay} {b1:Int},OK (Tl k a0 b1) fun r=>Bn Tryz.prog 195 [(Fz 3 Gw) a0,(.fn 123 [(.loc 0 0)])] [.cells 138 [(.loc 1 0)],.cells 3 [(O .i64 b1)]] ((O .i64) r.1) [.cells 138 [(.loc 1 0)],.cells 3 [(O .i64 r.2)]]
abbrev Amk (k:Nat):Prop:=∀{a0:Ay} {b0:Int},OK (Ml k a0 b0) fun r=>Bn Tryz.prog 69 [H9 a0,(.loc 0 0)] [.cells 3 [(O .i64 b0)]] (Aq r.1) [.cells 3 [(O .i64 r.2)]]
abbrev Aml (k:Nat):Prop:=∀{a0:Ay} {b1:Int},OK (V8 k a0 b1) fun r=>Bn Tryz.prog 123 [H9 a0,(.loc 0 0)] [.cells 138 [(.loc 1 0)],.cells 3 [(O .i64 b1)]] (Aq r.1) [.cells 138 [(.loc 1 0)],.cells 3 [(O .i64 r.2)]]
theorem Aa9 (k:Nat):Ami k/\Amj k/\Amk k/\Aml k:=by
 induction k with
 | zero=>exact ⟨okz,okz,okz,okz⟩
 | succ k ih=>
  obtain ⟨i0_,i1_,i2_,i3_⟩:=ih
  refine ⟨@fun a0 b1=>⟨fun {r} h=>?_⟩,@fun a0 b1=>⟨fun {r} h=>?_⟩,@fun a0 b0=>⟨fun {r} h=>?_⟩,@fun a0 b1=>⟨fun {r} h=>?_⟩⟩
  .unfold V7 at h
   refine aw C0 true Tryz.func122 ?_
   refine Z ?_
   refine A9 [0,1] h (fun _ h=>?_)
   exact Y
  .unfold Tl at h
   refine aw C0 true Tryz.func195 ?_
   refine Z ?_
   refine A7 h (fun (v3,v4)=>[(4,(O .i64 0)),(8,(O .i64 v3))]) (fun (v3,v4)=>[(1,.cells 3 [(O .i64 v4)])]) ?_
   rintro ⟨v3,v4⟩ _ _ _ h _ _
   refine Z ?_
   refine Ao h (fun _ h=>?_) (fun _ h=>?_)
   refine Z ?_
   refine B3 h (fun _ _ _ _ h=>?_)
   refine Z ?_
   refine A9 [0,1] h (fun _ h=>?_)
   exact Y
   exact Y
  .unfold Ml at h
   refine aw C0 true Tryz.func69 ?_
   refine Z ?_
   refine Ao h (fun _ h=>?_) (fun _ h=>?_)
   exact Y
   refine Z ?_
   refine A9 [2,0] h (fun _ h=>?_)
   exact Y
  .unfold V8 at h
   refine aw C0 true Tryz.func123 ?_
   refine Z ?_
   refine A9 [1] h (fun _ h=>?_)
   exact Y
instance {k:Nat}:Ami k:=(Aa9 k).1
instance {k:Nat}:Amj k:=(Aa9 k).2.1
instance {k:Nat}:Amk k:=(Aa9 k).2.2.1
instance {k:Nat}:Aml k:=(Aa9 k).2.2.2
instance {a0:List Ap} {a1:Ah} {a2:Int}:OK (Aad a0 a1 a2) fun r=>Ax Tryz.prog 125 [(As 3 Cd) a0,E4 a1,(O .i64) a2] (.tup [(Fz 3 Bk) r.1,Aq r.2]):=⟨fun {r} h=>by
 refine pw {T:=Cb,an:=(fun s=>bif Nat.beq s 14 then .own else .ask),nl:=(fun s=>bif Nat.beq s 14 then [(0,3)] else bif Nat.beq s 6 then [(0,3)] else [])} Tryz.func125 ?_
 refine ZS ?_
 refine Cm ?_
 refine ZO ?_
 refine Az (Az ?_)
 refine Cn h (fun v2=>[(31,(Aq v2))]) (fun v2=>[]) ?_ ?_
 intro _ h _ _ _
 exact Y
 rintro v2 _ h
 refine Ao h (fun _ h=>?_) (fun _ h=>?_)
 exact Y
 refine Z ?_
 refine B3 h (fun _ _ _ _ h=>?_)
 refine ZO ?_
 refine Az (Az ?_)
 refine Cn h (fun v5=>[(53,(Aq v5))]) (fun v5=>[]) ?_ ?_
 intro _ h _ _ _
 exact Y
 rintro v5 _ h
 refine Ao h (fun _ h=>?_) (fun _ h=>?_)
 exact Y
 refine Z ?_
 refine Hf h (fun o6 h=>?_)
 refine Z ?_
 refine D7 h (fun (v12,o13)=>[(61,(O .i64 v12))]) (fun (v12,o13)=>[(2,.rows 3 1 (List.map (O .i64) o13))]) (fun (v12,o13)=>o6.length=o13.length) ?_
 rintro ⟨v12,o13⟩ _ _ _ h _ _ q13
 refine Z ?_
 refine Ao h (fun _ h=>?_) (fun _ h=>?_)
 exact Y
 replace h:=Ck h
 refine Z ?_
 refine B3 h (fun _ _ _ _ h=>?_)
 refine ZO ?_
 refine K1 ?_
 refine Dr [.fz 9] ?_
 refine Z ?_
 refine A7 h (fun v23=>[(6,(.sl 3 (Bk []))),(7,(Aq false)),(79,(O .i64 v23))]) (fun v23=>[]) ?_
 rintro v23 _ _ _ h _ _
 refine Z ?_
 refine Ao h (fun _ h=>?_) (fun _ h=>?_)
 exact Y
 replace h:=Ck h
 refine Z ?_
 refine B3 h (fun _ _ _ _ h=>?_)
 refine Z ?_
 refine A7 h (fun (v41,o42)=>[(14,(.arr 3 o42.length 0 o42.length)),(95,(O .i64 v41))]) (fun (v41,o42)=>[(3,.rows 29 3 (Bk o42))]) ?_
 rintro ⟨v41,o42⟩ _ _ _ h _ _
 exact Y⟩
abbrev Amm (k:Nat):Prop:=∀{a0:List Ay} {b0:List Ap} {b1:Ah},OK (W6 k a0 b0 b1) fun r=>Bn Tryz.prog 122 [(Fz 3 Gw) a0,(.fn 126 [(.loc 0 0),(.loc 1 0)])] [.cells 26 [(.sl 3 (List.map Cd b0))],.cells 29 [(O .i64 b1.Kind),(O .i64 b1.Num),(.sl 3 (Bk b1.Args))]] (Aq r) [.cells 26 [(.sl 3 (List.map Cd b0))],.cells 29 [(O .i64 b1.Kind),(O .i64 b1.Num),(.sl 3 (Bk b1.Args))]]
abbrev Amn (k:Nat):Prop:=∀{a0:List Ay} {a1:List Ah} {b0:List Ap},OK (Wl k a0 a1 b0) fun r=>Bn Tryz.prog 196 [(Fz 3 Gw) a0,(Fz 3 Bk) a1,(.fn 197 [(.loc 0 0)])] [.cells 26 [(.sl 3 (List.map Cd b0))]] (Aq r) [.cells 26 [(.sl 3 (List.map Cd b0))]]
abbrev Amo (k:Nat):Prop:=∀{a0:List Ay} {b0:List Ap} {b1:Ah},OK (Aa5 k a0 b0 b1) fun r=>Bn Tryz.prog 195 [(Fz 3 Gw) a0,(.fn 126 [(.loc 0 0),(.loc 1 0)])] [.cells 26 [(.sl 3 (List.map Cd b0))],.cells 29 [(O .i64 b1.Kind),(O .i64 b1.Num),(.sl 3 (Bk b1.Args))]] ((O .i64) r) [.cells 26 [(.sl 3 (List.map Cd b0))],.cells 29 [(O .i64 b1.Kind),(O .i64 b1.Num),(.sl 3 (Bk b1.Args))]]
abbrev Amp (k:Nat):Prop:=∀{a0:List Ap} {a1:Ay} {a2:Ah},OK (Oi k a0 a1 a2) fun r=>Ax Tryz.prog 70 [(As 3 Cd) a0,H9 a1,E4 a2] (Aq r)
abbrev Amq (k:Nat):Prop:=∀{a0:Ay} {b0:List Ap} {b1:Ah},OK (Td k a0 b0 b1) fun r=>Bn Tryz.prog 126 [H9 a0,(.loc 0 0),(.loc 1 0)] [.cells 26 [(.sl 3 (List.map Cd b0))],.cells 29 [(O .i64 b1.Kind),(O .i64 b1.Num),(.sl 3 (Bk b1.Args))]] (Aq r) [.cells 26 [(.sl 3 (List.map Cd b0))],.cells 29 [(O .i64 b1.Kind),(O .i64 b1.Num),(.sl 3 (Bk b1.Args))]]
abbrev Amr (k:Nat):Prop:=∀{a0:List Ap} {a1:List Ay} {a2:List Ah},OK (Ok k a0 a1 a2) fun r=>Ax Tryz.prog 124 [(As 3 Cd) a0,(Fz 3 Gw) a1,(Fz 3 Bk) a2] (Aq r)
abbrev Ams (k:Nat):Prop:=∀{a0:Ay} {a1:Ah} {b0:List Ap},OK (Tm k a0 a1 b0) fun r=>Bn Tryz.prog 197 [H9 a0,E4 a1,(.loc 0 0)] [.cells 26 [(.sl 3 (List.map Cd b0))]] (Aq r) [.cells 26 [(.sl 3 (List.map Cd b0))]]
theorem Rm (k:Nat):Amm k/\Amn k/\Amo k/\Amp k/\Amq k/\Amr k/\Ams k:=by
 induction k with
 | zero=>exact ⟨okz,okz,okz,okz,okz,okz,okz⟩
 | succ k ih=>
  obtain ⟨i0_,i1_,i2_,i3_,i4_,i5_,i6_⟩:=ih
  refine ⟨@fun a0 b0 b1=>⟨fun {r} h=>?_⟩,@fun a0 a1 b0=>⟨fun {r} h=>?_⟩,@fun a0 b0 b1=>⟨fun {r} h=>?_⟩,@fun a0 a1 a2=>⟨fun {r} h=>?_⟩,@fun a0 b0 b1=>⟨fun {r} h=>?_⟩,@fun a0 a1 a2=>⟨fun {r} h=>?_⟩,@fun a0 a1 b0=>⟨fun {r} h=>?_⟩⟩
  .unfold W6 at h
   refine aw C0 true Tryz.func122 ?_
   refine Z ?_
   refine A9 [0,1] h (fun _ h=>?_)
   exact Y
  .unfold Wl at h
   refine aw C0 true Tryz.func196 ?_
   refine Z ?_
   refine Ao h (fun _ h=>?_) (fun _ h=>?_)
   exact Y
   refine Z ?_
   refine A7 h (fun v6=>[(6,(Aq false)),(17,(O .i64 v6))]) (fun v6=>[]) ?_
   rintro v6 _ _ _ h _ _
   refine Z ?_
   refine Ao h (fun _ h=>?_) (fun _ h=>?_)
   refine Z ?_
   refine B3 h (fun _ _ _ _ h=>?_)
   refine Z ?_
   refine B3 h (fun _ _ _ _ h=>?_)
   refine Z ?_
   refine A9 [0] h (fun _ h=>?_)
   exact Y
   exact Y
  .unfold Aa5 at h
   refine aw C0 true Tryz.func195 ?_
   refine Z ?_
   refine A7 h (fun v3=>[(4,(O .i64 0)),(8,(O .i64 v3))]) (fun v3=>[]) ?_
   rintro v3 _ _ _ h _ _
   refine Z ?_
   refine Ao h (fun _ h=>?_) (fun _ h=>?_)
   refine Z ?_
   refine B3 h (fun _ _ _ _ h=>?_)
   refine Z ?_
   refine A9 [0,1] h (fun _ h=>?_)
   exact Y
   exact Y
  .unfold Oi at h
   refine pw C0 Tryz.func70 ?_
   refine Z ?_
   refine Ao h (fun _ h=>?_) (fun _ h=>?_)
   exact Y
   refine Z ?_
   refine Ao h (fun _ h=>?_) (fun _ h=>?_)
   exact Y
   refine Z ?_
   refine Ao h (fun _ h=>?_) (fun _ h=>?_)
   exact Y
   refine Z ?_
   refine Ao h (fun _ h=>?_) (fun _ h=>?_)
   exact Y
   refine Z ?_
   refine Ao h (fun _ h=>?_) (fun _ h=>?_)
   refine Az (Az ?_)
   refine Cn h (fun v5=>[(101,(Aq v5))]) (fun v5=>[]) ?_ ?_
   intro _ h _ _ _
   exact Y
   rintro v5 _ h
   exact Y
   refine Z ?_
   refine Ao h (fun _ h=>?_) (fun _ h=>?_)
   refine Z ?_
   refine Fv h (fun _ h=>?_) (fun _ h=>?_)
   refine Z ?_
   refine Fv h (fun _ h=>?_) (fun _ h=>?_)
   refine Z ?_
   refine Fv h (fun _ h=>?_) (fun _ h=>?_)
   refine Z ?_
   refine A9 [0,2] h (fun _ h=>?_)
   exact Y
   exact Y
   exact Y
   exact Y
   exact Y
  .unfold Td at h
   refine aw C0 true Tryz.func126 ?_
   exact Y
  .unfold Ok at h
   refine pw C0 Tryz.func124 ?_
   refine Z ?_
   refine A9 [0] h (fun _ h=>?_)
   exact Y
  .unfold Tm at h
   refine aw C0 true Tryz.func197 ?_
   exact Y
instance {k:Nat}:Amm k:=(Rm k).1
instance {k:Nat}:Amn k:=(Rm k).2.1
instance {k:Nat}:Amo k:=(Rm k).2.2.1
instance {k:Nat}:Amp k:=(Rm k).2.2.2.1
instance {k:Nat}:Amq k:=(Rm k).2.2.2.2.1
instance {k:Nat}:Amr k:=(Rm k).2.2.2.2.2.1
instance {k:Nat}:Ams k:=(Rm k).2.2.2.2.2.2
instance {a0:List Ap} {a1:Ah}:OK (Z8 a0 a1) fun r=>Ax Tryz.prog 68 [(As 3 Cd) a0,E4 a1] (Aq r):=⟨fun {r} h=>by
 refine pw {T:=Cb,an:=(fun _=>.ask),nl:=(fun s=>bif Nat.beq s 6 then [(1,7),(2,3),(3,8)] else [])} Tryz.func68 ?_
 exact Y⟩
instance {a0:List Ap} {a1:Ay} {a2:Ah}:OK (Na a0 a1 a2) fun r=>Ax Tryz.prog 36 [(As 3 Cd) a0,H9 a1,E4 a2] (Aq r):=⟨fun {r} h=>by
 refine pw C0 Tryz.func36 ?_
 refine Z ?_
 refine Bh h (fun _ h=>?_)
 refine Z ?_
 refine Fv h (fun _ h=>?_) (fun _ h=>?_)
 refine Z ?_
 refine A9 [2] h (fun _ h=>?_)
 exact Y
 exact Y⟩
instance {a0:List Ap} {a1:Ah} {a2:Bc} {a3:Ay}:OK (Qg a0 a1 a2 a3) fun r=>Ax Tryz.prog 39 [(As 3 Cd) a0,E4 a1,Hw a2,H9 a3] (.tup [Cr r.1,(O .i64) r.2]):=⟨fun {r} h=>by
 refine pw {T:=Cb,an:=(fun _=>.ask),nl:=(fun s=>bif Nat.beq s 21 then [(1,1),(2,1)] else bif Nat.beq s 15 then [(1,1),(2,1)] else [])} Tryz.func39 ?_
 exact Y⟩
instance {a0:Int} {b0:Ay} {b1:List Ay}:OK (Kb a0 b0 b1) fun r=>Bn Tryz.prog 34 [(O .i64) a0,(.loc 0 0),(.loc 1 0)] [.cells 55 [(O .i64 b0.Kind),(O .i64 b0.Num),(.sl 3 (Gw b0.Kids))],.cells 52 [(.sl 3 (Gw b1))]] (H9 r) [.cells 55 [(O .i64 b0.Kind),(O .i64 b0.Num),(.sl 3 (Gw b0.Kids))],.cells 52 [(.sl 3 (Gw b1))]]:=⟨fun {r} h=>by
 refine aw C0 true Tryz.func34 ?_
 exact Y⟩
instance {a0:Nat} {b0:List Int}:OK (S9 a0 b0) fun r=>Bn Tryz.prog 67 [(.arr 0 b0.length 0 a0)] [.rows 3 1 (List.map (O .i64) b0)] (.arr 0 r.2.length 0 r.1) [.rows 3 1 (List.map (O .i64) r.2)]:=⟨fun {r} h=>by
 refine aw {T:=Cb,an:=(fun _=>.ask),nl:=(fun s=>bif Nat.beq s 2 then [(0,1)] else [])} false Tryz.func67 ?_
 refine Z ?_
 refine Ao h (fun _ h=>?_) (fun _ h=>?_)
 exact Y
 refine Z ?_
 refine A7 h (fun v23=>[(2,(.sl 1 (List.map (O .i64) []))),(3,(O .i64 v23))]) (fun v23=>[]) ?_
 rintro v23 _ _ _ h _ _
 refine Z ?_
 refine Ao h (fun _ h=>?_) (fun _ h=>?_)
 refine Z ?_
 refine K7 h (fun _ _ _ _ h=>?_)
 refine Z ?_
 refine K7 h (fun _ _ _ _ h=>?_)
 refine Z ?_
 refine Ao h (fun _ h=>?_) (fun _ h=>?_)
 refine Z ?_
 refine Akk (f:=(O .i64)) (l:=b0) rfl rfl h (fun v26 h=>?_)
 refine Z ?_
 refine D7 h (fun (v31,v32,o33)=>[(3,(O .i64 v31)),(5,(O .i64 v32))]) (fun (v31,v32,o33)=>[(0,.rows 3 1 (List.map (O .i64) o33))]) (fun (v31,v32,o33)=>b0.length=o33.length) ?_
 rintro ⟨v31,v32,o33⟩ _ _ _ h _ _ q33
 refine Z ?_
 refine Ao h (fun _ h=>?_) (fun _ h=>?_)
 refine Z ?_
 refine K7 h (fun _ _ _ _ h=>?_)
 refine Z ?_
 refine K7 h (fun _ _ _ _ h=>?_)
 refine Z ?_
 refine Ao h (fun _ h=>?_) (fun _ h=>?_)
 refine Z ?_
 refine K7 h (fun _ v36 _ _ h=>?_)
 refine Z ?_
 refine K7 h (fun _ _ hiv37 _ h=>?_)
 refine Z ?_
 refine K0 (f:=(O .i64)) (x:=v36) (j:=(((0:Nat):Int)+v31)) rfl rfl rfl (Akf _ hiv37) ?_
 exact Y
 exact Y
 replace h:=Ck h
 refine Z ?_
 refine Avu (f:=(O .i64)) (l:=o33) rfl q33 h (fun v42 h=>?_) (fun h=>?_)
 refine Z ?_
 refine Avs (f:=(O .i64)) (l:=o33) (z:=(0:Int)) rfl rfl q33 h (fun o43 hco43 h=>?_)
 refine Z ?_
 refine Akm (f:=(O .i64)) (l:=o43) rfl (Akl q33 hco43) h (fun v44 h=>?_)
 replace h:=Ck h
 refine Z ?_
 cases h
 exact ⟨congrArg (fun q_=>AV.arr 0 q_ 0 _) (Akl q33 hco43),rfl,trivial⟩
 refine Z ?_
 refine Akm (f:=(O .i64)) (l:=o33) rfl q33 h (fun v45 h=>?_)
 replace h:=Ck h
 refine Z ?_
 cases h
 exact ⟨congrArg (fun q_=>AV.arr 0 q_ 0 _) q33,rfl,trivial⟩
 exact Y
 exact Y⟩
instance {a0 a1:Int}:OK (Afa a0 a1) fun r=>Ax Tryz.prog 192 [(O .i64) a0,(O .i64) a1] (Aq r):=⟨fun {r} h=>by
 refine pw C0 Tryz.func192 ?_
 exact Y⟩
instance {a0 a1:Int} {b0:List Int}:OK (Ae9 a0 a1 b0) fun r=>Bn Tryz.prog 186 [(.arr 0 b0.length 0 b0.length),(O .i64) a0,(O .i64) a1] [.rows 3 1 (List.map (O .i64) b0)] (.tup []) [.rows 3 1 (List.map (O .i64) r)]:=⟨fun {r} h=>by
 refine aw C0 true Tryz.func186 ?_
 refine Z ?_
 refine D7 h (fun (v21,o22)=>[(6,(O .i64 v21))]) (fun (v21,o22)=>[(0,.rows 3 1 (List.map (O .i64) o22))]) (fun (v21,o22)=>b0.length=o22.length) ?_
 rintro ⟨v21,o22⟩ _ _ _ h _ _ q22
 refine Z ?_
 refine Ao h (fun _ h=>?_) (fun _ h=>?_)
 refine Z ?_
 refine D7 h (fun (v31,o32)=>[(7,(O .i64 v31))]) (fun (v31,o32)=>[(0,.rows 3 1 (List.map (O .i64) o32))]) (fun (v31,o32)=>b0.length=o32.length) ?_
 rintro ⟨v31,o32⟩ _ _ _ h _ _ q32
 refine Az (Az ?_)
 refine Cn h (fun v36=>[(30,(Aq v36))]) (fun v36=>[]) ?_ ?_
 intro _ h _ _ _
 exact Y
 rintro v36 _ h
 exact Y
 exact Y⟩
instance {a0 a1 a2:Int} {b0:List Int}:OK (Ae6 a0 a1 a2 b0) fun r=>Bn Tryz.prog 121 [(.arr 0 b0.length 0 b0.length),(O .i64) a0,(O .i64) a1,(O .i64) a2] [.rows 3 1 (List.map (O .i64) b0)] (.tup []) [.rows 3 1 (List.map (O .i64) r)]:=⟨fun {r} h=>by
 refine aw C0 true Tryz.func121 ?_
 refine Z ?_
 refine A7 h (fun _=>[(1,(O .i64 a0)),(2,(O .i64 a1)),(3,(O .i64 a2)),(8,(Aq true)),(9,(Aq true))]) (fun _=>[]) ?_
 rintro _ _ _ _ h _ _
 refine Z ?_
 refine Ao h (fun _ h=>?_) (fun _ h=>?_)
 refine Z ?_
 refine A9 [0] h (fun _ h=>?_)
 refine C3 h (fun v2 hgv2 h=>?_)
 exact Y
 exact Y⟩
theorem Axm {b0:List Int} {r:(List Int)} (h:Alc b0=some r):Bn Tryz.prog 66 [(.arr 0 b0.length 0 b0.length)] [.rows 3 1 (List.map (O .i64) b0)] (.tup []) [.rows 3 1 (List.map (O .i64) r)]:=by
 refine aw C0 true Tryz.func66 ?_
 refine Z ?_
 refine Bh h (fun _ h=>?_)
 refine Z ?_
 refine A9 [0] h (fun _ h=>?_)
 refine C3 h (fun v3 hgv3 h=>?_)
 exact Y
instance {b0:List Int}:OK (Vx b0) fun r=>Bn Tryz.prog 66 [(.arr 0 b0.length 0 b0.length)] [.rows 3 1 (List.map (O .i64) b0)] (.tup []) [.rows 3 1 (List.map (O .i64) r)]:=⟨fun {r} h=>by
 cases b0 with
 | nil=>exact Axm h
 | cons b l=>exact Awt h (by simp)⟩
instance {a0:List Aj}:OK (S4 a0) fun r=>Ax Tryz.prog 35 [(As 5 Cj) a0] ((As 1 (O .i64)) r):=⟨fun {r} h=>by
 refine pw {T:=Cb,an:=(fun s=>bif Nat.beq s 3 then .own else .ask),nl:=(fun s=>bif Nat.beq s 3 then [(0,1)] else bif Nat.beq s 2 then [(0,1)] else [])} Tryz.func35 ?_
 refine Z ?_
 refine A7 h (fun (v152,o153)=>[(3,(.arr 0 o153.length 0 o153.length)),(14,(O .i64 v152))]) (fun (v152,o153)=>[(0,.rows 3 1 (List.map (O .i64) o153))]) ?_
 rintro ⟨v152,o153⟩ _ _ _ h _ _
 refine Z ?_
 refine Ao h (fun _ h=>?_) (fun _ h=>?_)
 refine Z ?_
 refine B3 h (fun _ _ _ _ h=>?_)
 refine Z ?_
 refine A7 h (fun (v164,o165)=>[(3,(.arr 0 o165.length 0 o165.length)),(22,(O .i64 v164))]) (fun (v164,o165)=>[(0,.rows 3 1 (List.map (O .i64) o165))]) ?_
 rintro ⟨v164,o165⟩ _ _ _ h _ _
 refine Z ?_
 refine Ao h (fun _ h=>?_) (fun _ h=>?_)
 exact Y
 replace h:=Ck h
 refine Z ?_
 refine A7 h (fun (v207,o208)=>[(3,(.arr 0 o208.length 0 o208.length)),(36,(O .i64 v207))]) (fun (v207,o208)=>[(0,.rows 3 1 (List.map (O .i64) o208))]) ?_
 rintro ⟨v207,o208⟩ _ _ _ h _ _
 refine Z ?_
 refine Ao h (fun _ h=>?_) (fun _ h=>?_)
 refine Z ?_
 refine B3 h (fun _ _ _ _ h=>?_)
 refine Z ?_
 refine A7 h (fun (v219,o220)=>[(3,(.arr 0 o220.length 0 o220.length)),(44,(O .i64 v219))]) (fun (v219,o220)=>[(0,.rows 3 1 (List.map (O .i64) o220))]) ?_
 rintro ⟨v219,o220⟩ _ _ _ h _ _
 exact Y
 exact Y
 replace h:=Ck h
 refine Z ?_
 refine A9 [0] h (fun v229 h=>?_)
 refine C3 h (fun v230 hgv230 h=>?_)
 refine Z ?_
 refine C3 h (fun v231 hcv231 h=>?_)
 have okv231:=(OK.ok hcv231 :)
 rw [<-(I1 hgv230)] at okv231
 refine Fk.act [0] _ _ _ _ okv231 rfl rfl ⟨rfl,trivial⟩ ?_
 refine ZO ?_
 refine Dr [.fzp 2] ?_
 refine Avt (f:=(O .i64)) (l:=v231.2) rfl rfl h (fun o232 h=>?_)
 exact Y⟩
instance {a0 a1:Ak}:OK (Qk a0 a1) fun r=>Ax Tryz.prog 78 [Cr a0,Cr a1] (Cr r):=⟨fun {r} h=>by
 refine pw C0 Tryz.func78 ?_
 exact Y⟩
instance {a0:Ak} {a1:Int}:OK (Of a0 a1) fun r=>Ax Tryz.prog 42 [Cr a0,(O .i64) a1] (Cr r):=⟨fun {r} h=>by
 refine pw C0 Tryz.func42 ?_
 refine Z ?_
 refine Bh h (fun _ h=>?_)
 refine ZO ?_
 refine Cn h (fun (v5,v6,v7)=>[]) (fun (v5,v6,v7)=>[(0,.cells 58 [(Aq v5),(.sl 1 (List.map (O .u32) v6)),(.sl 1 (List.map (O .u32) v7))])]) ?_ ?_
 intro _ h _ _ _
 exact Y
 rintro ⟨v5,v6,v7⟩ _ h
 refine Z ?_
 refine Bh h (fun _ h=>?_)
 refine Z ?_
 refine A7 h (fun (v16,v17,v18,v19)=>[(14,(O .i64 v16))]) (fun (v16,v17,v18,v19)=>[(2,.cells 58 [(Aq v17),(.sl 1 (List.map (O .u32) v18)),(.sl 1 (List.map (O .u32) v19))])]) ?_
 rintro ⟨v16,v17,v18,v19⟩ _ _ _ h _ _
 exact Y⟩
instance {a0:Bo} {a1:List Aj} {a2:List Ay} {a3:Ay}:OK (Qf a0 a1 a2 a3) fun r=>Ax Tryz.prog 17 [Kf a0,(As 5 Cj) a1,(Fz 3 Gw) a2,H9 a3] (.tup [Cr r.1,(O .i64) r.2]):=⟨fun {r} h=>by
 refine pw {T:=Cb,an:=(fun _=>.ask),nl:=(fun s=>bif Nat.beq s 100 then [(1,1),(2,1)] else bif Nat.beq s 63 then [(1,1),(2,1)] else bif Nat.beq s 44 then [(1,1),(2,1)] else bif Nat.beq s 37 then [(1,1),(2,1)] else [])} Tryz.func17 ?_
 refine Z ?_
 refine C3 h (fun v5 hcv5 h=>?_)
 rcases v5 with v6 | v11
 refine Fk.act [] _ _ _ _ (W7 (a0:=a0) (a1:=[a1]) hcv5) rfl rfl trivial ?_
 refine Z ?_
 refine Ao h (fun _ h=>?_) (fun _ h=>?_)
 exact Y
 refine Z ?_
 refine Ao h (fun _ h=>?_) (fun _ h=>?_)
 exact Y
 refine Z ?_
 refine Bh h (fun _ h=>?_)
 refine Z ?_
 refine A7 h (fun v17=>[(9,(O .i64 0)),(49,(O .i64 v17))]) (fun v17=>[]) ?_
 rintro v17 _ _ _ h _ _
 refine Z ?_
 refine Ao h (fun _ h=>?_) (fun _ h=>?_)
 refine Z ?_
 refine B3 h (fun _ _ _ _ h=>?_)
 refine Z ?_
 refine A9 [2,1] h (fun _ h=>?_)
 refine Z ?_
 refine A9 [7,5,6] h (fun _ h=>?_)
 exact Y
 replace h:=Ck h
 refine Z ?_
 refine Bh h (fun _ h=>?_)
 refine Z ?_
 refine A7 h (fun (v118,v119,v120,v121)=>[(9,(O .i64 0)),(68,(O .i64 v118))]) (fun (v118,v119,v120,v121)=>[(8,.cells 58 [(Aq v119),(.sl 1 (List.map (O .u32) v120)),(.sl 1 (List.map (O .u32) v121))])]) ?_
 rintro ⟨v118,v119,v120,v121⟩ _ _ _ h _ _
 refine Z ?_
 refine Ao h (fun _ h=>?_) (fun _ h=>?_)
 refine Z ?_
 refine B3 h (fun _ _ _ _ h=>?_)
 refine Z ?_
 refine A7 h (fun (v132,v133,v134,v135)=>[(9,(O .i64 0)),(78,(O .i64 v132))]) (fun (v132,v133,v134,v135)=>[(10,.cells 58 [(Aq v133),(.sl 1 (List.map (O .u32) v134)),(.sl 1 (List.map (O .u32) v135))])]) ?_
 rintro ⟨v132,v133,v134,v135⟩ _ _ _ h _ _
 refine Z ?_
 refine Ao h (fun _ h=>?_) (fun _ h=>?_)
 refine Z ?_
 refine B3 h (fun _ _ _ _ h=>?_)
 refine Z ?_
 refine A9 [7,5,6] h (fun _ h=>?_)
 refine Z ?_
 refine A9 [2,1] h (fun _ h=>?_)
 exact Y
 replace h:=Ck h
 refine Z ?_
 refine A7 h (fun (v177,v178,v179,v180)=>[(110,(O .i64 v177))]) (fun (v177,v178,v179,v180)=>[(10,.cells 58 [(Aq v178),(.sl 1 (List.map (O .u32) v179)),(.sl 1 (List.map (O .u32) v180))])]) ?_
 rintro ⟨v177,v178,v179,v180⟩ _ _ _ h _ _
 refine Z ?_
 refine Ao h (fun _ h=>?_) (fun _ h=>?_)
 refine Z ?_
 refine B3 h (fun _ _ _ _ h=>?_)
 refine Z ?_
 refine Bh h (fun _ h=>?_)
 refine Z ?_
 refine A7 h (fun (v192,v193,v194,v195)=>[(122,(O .i64 v192))]) (fun (v192,v193,v194,v195)=>[(12,.cells 58 [(Aq v193),(.sl 1 (List.map (O .u32) v194)),(.sl 1 (List.map (O .u32) v195))])]) ?_
 rintro ⟨v192,v193,v194,v195⟩ _ _ _ h _ _
 refine Z ?_
 refine Ao h (fun _ h=>?_) (fun _ h=>?_)
 refine Z ?_
 refine B3 h (fun _ _ _ _ h=>?_)
 refine Z ?_
 refine Bh h (fun _ h=>?_)
 refine Z ?_
 refine A9 [2,1] h (fun _ h=>?_)
 refine Z ?_
 refine Va.mk 2 (by kernel_rfl) ?_
 exact Y
 exact Y
 exact Y
 exact Y
 refine Fk.act [] _ _ _ _ (W8 (a0:=a0) (a1:=[a1]) hcv5) rfl rfl trivial ?_
 refine Z ?_
 refine Ao h (fun _ h=>?_) (fun _ h=>?_)
 exact Y
 refine Z ?_
 refine Ao h (fun _ h=>?_) (fun _ h=>?_)
 exact Y
 refine Z ?_
 refine Bh h (fun _ h=>?_)
 refine Z ?_
 refine A7 h (fun v224=>[(9,(O .i64 0)),(49,(O .i64 v224))]) (fun v224=>[]) ?_
 rintro v224 _ _ _ h _ _
 refine Z ?_
 refine Ao h (fun _ h=>?_) (fun _ h=>?_)
 refine Z ?_
 refine B3 h (fun _ _ _ _ h=>?_)
 refine Z ?_
 refine A9 [2,1] h (fun _ h=>?_)
 exact Y
 replace h:=Ck h
 refine Z ?_
 refine Bh h (fun _ h=>?_)
 refine Z ?_
 refine A7 h (fun (v325,v326,v327,v328)=>[(9,(O .i64 0)),(68,(O .i64 v325))]) (fun (v325,v326,v327,v328)=>[(4,.cells 58 [(Aq v326),(.sl 1 (List.map (O .u32) v327)),(.sl 1 (List.map (O .u32) v328))])]) ?_
 rintro ⟨v325,v326,v327,v328⟩ _ _ _ h _ _
 refine Z ?_
 refine Ao h (fun _ h=>?_) (fun _ h=>?_)
 refine Z ?_
 refine B3 h (fun _ _ _ _ h=>?_)
 refine Z ?_
 refine A7 h (fun (v339,v340,v341,v342)=>[(9,(O .i64 0)),(78,(O .i64 v339))]) (fun (v339,v340,v341,v342)=>[(6,.cells 58 [(Aq v340),(.sl 1 (List.map (O .u32) v341)),(.sl 1 (List.map (O .u32) v342))])]) ?_
 rintro ⟨v339,v340,v341,v342⟩ _ _ _ h _ _
 refine Z ?_
 refine Ao h (fun _ h=>?_) (fun _ h=>?_)
 refine Z ?_
 refine B3 h (fun _ _ _ _ h=>?_)
 refine Z ?_
 refine Bh h (fun _ h=>?_)
 refine Z ?_
 refine A9 [2,1] h (fun _ h=>?_)
 exact Y
 replace h:=Ck h
 refine Z ?_
 refine A7 h (fun (v384,v385,v386,v387)=>[(110,(O .i64 v384))]) (fun (v384,v385,v386,v387)=>[(6,.cells 58 [(Aq v385),(.sl 1 (List.map (O .u32) v386)),(.sl 1 (List.map (O .u32) v387))])]) ?_
 rintro ⟨v384,v385,v386,v387⟩ _ _ _ h _ _
 refine Z ?_
 refine Ao h (fun _ h=>?_) (fun _ h=>?_)
 refine Z ?_
 refine B3 h (fun _ _ _ _ h=>?_)
 refine Z ?_
 refine Bh h (fun _ h=>?_)
 refine Z ?_
 refine A7 h (fun (v399,v400,v401,v402)=>[(122,(O .i64 v399))]) (fun (v399,v400,v401,v402)=>[(8,.cells 58 [(Aq v400),(.sl 1 (List.map (O .u32) v401)),(.sl 1 (List.map (O .u32) v402))])]) ?_
 rintro ⟨v399,v400,v401,v402⟩ _ _ _ h _ _
 refine Z ?_
 refine Ao h (fun _ h=>?_) (fun _ h=>?_)
 refine Z ?_
 refine B3 h (fun _ _ _ _ h=>?_)
 refine Z ?_
 refine Bh h (fun _ h=>?_)
 refine Z ?_
 refine A9 [2,1] h (fun _ h=>?_)
 refine Z ?_
 refine Va.mk 2 (by kernel_rfl) ?_
 exact Y
 exact Y
 exact Y
 exact Y⟩
instance {a0:List Int}:OK (Jx a0) fun r=>Ax Tryz.prog 209 [(As 1 (O .u32)) a0] ((As 1 (O .u32)) r):=⟨fun {r} h=>by
 refine pw {T:=Cb,an:=(fun _=>.ask),nl:=(fun s=>bif Nat.beq s 2 then [(0,1)] else [])} Tryz.func209 ?_
 refine Z ?_
 refine A7 h (fun v2=>[(3,(O .i64 v2))]) (fun v2=>[]) ?_
 rintro v2 _ _ _ h _ _
 exact Y⟩
instance {a0:List Int}:OK (Th a0) fun r=>Ax Tryz.prog 137 [(As 1 (O .u32)) a0] ((As 1 (O .u32)) r):=⟨fun {r} h=>by
 refine pw {T:=Cb,an:=(fun s=>bif Nat.beq s 3 then .own else .ask),nl:=(fun s=>bif Nat.beq s 3 then [(0,1)] else bif Nat.beq s 2 then [(0,1)] else [])} Tryz.func137 ?_
 refine Z ?_
 refine A7 h (fun (v13,v14,o15)=>[(3,(.arr 0 o15.length 0 o15.length)),(4,(O .u64 v13)),(5,(O .i64 v14))]) (fun (v13,v14,o15)=>[(0,.rows 141 1 (List.map (O .u32) o15))]) ?_
 rintro ⟨v13,v14,o15⟩ _ _ _ h _ _
 refine Z ?_
 refine Ao h (fun _ h=>?_) (fun _ h=>?_)
 exact Y
 replace h:=Ck h
 refine Z ?_
 refine Ao h (fun _ h=>?_) (fun _ h=>?_)
 refine Z ?_
 refine O4 h (fun _ h=>?_)
 refine ZO ?_
 refine Az ?_
 refine Dr [.fz 3] ?_
 exact Y
 refine Jt (Az ?_)
 refine Dr [.fz 3] ?_
 exact Y⟩
instance {a0 a1:List Int}:OK (Wp a0 a1) fun r=>Ax Tryz.prog 212 [(As 1 (O .u32)) a0,(As 1 (O .u32)) a1] ((O .u64) r):=⟨fun {r} h=>by
 refine pw C0 Tryz.func212 ?_
 exact Y⟩
instance {a0:Int}:OK (Q4 a0) fun r=>Ax Tryz.prog 211 [(O .u64) a0] ((As 1 (O .u32)) r):=⟨fun {r} h=>by
 refine pw {T:=Cb,an:=(fun s=>bif Nat.beq s 3 then .own else .ask),nl:=(fun s=>bif Nat.beq s 3 then [(0,1)] else bif Nat.beq s 2 then [(0,1)] else [])} Tryz.func211 ?_
 refine Z ?_
 refine A7 h (fun (v10,o11)=>[(0,(O .u64 v10)),(3,(.arr 0 o11.length 0 o11.length))]) (fun (v10,o11)=>[(0,.rows 141 1 (List.map (O .u32) o11))]) ?_
 rintro ⟨v10,o11⟩ _ _ _ h _ _
 exact Y⟩
instance {a0 a1:List Int}:OK (Om a0 a1) fun r=>Ax Tryz.prog 148 [(As 1 (O .u32)) a0,(As 1 (O .u32)) a1] ((O .i64) r):=⟨fun {r} h=>by
 refine pw C0 Tryz.func148 ?_
 refine Z ?_
 refine Ao h (fun _ h=>?_) (fun _ h=>?_)
 exact Y
 refine Z ?_
 refine A7 h (fun v5=>[(4,(O .i64 0)),(5,(O .i64 v5))]) (fun v5=>[]) ?_
 rintro v5 _ _ _ h _ _
 exact Y⟩
instance {a0 a1:List Int}:OK (Mp a0 a1) fun r=>Ax Tryz.prog 146 [(As 1 (O .u32)) a0,(As 1 (O .u32)) a1] ((As 1 (O .u32)) r):=⟨fun {r} h=>by
 refine pw {T:=Cb,an:=(fun _=>.ask),nl:=(fun s=>bif Nat.beq s 4 then [(0,1)] else [])} Tryz.func146 ?_
 refine Z ?_
 refine Hf h (fun o1 h=>?_)
 refine Z ?_
 refine D7 h (fun (v25,o26)=>[(6,(O .i64 v25))]) (fun (v25,o26)=>[(0,.rows 141 1 (List.map (O .u32) o26))]) (fun (v25,o26)=>o1.length=o26.length) ?_
 rintro ⟨v25,o26⟩ _ _ _ h _ _ q26
 refine Z ?_
 refine Ao h (fun _ h=>?_) (fun _ h=>?_)
 refine Z ?_
 refine D7 h (fun (v35,v36,o37)=>[(7,(O .u64 v35)),(8,(O .i64 v36))]) (fun (v35,v36,o37)=>[(0,.rows 141 1 (List.map (O .u32) o37))]) (fun (v35,v36,o37)=>o1.length=o37.length) ?_
 rintro ⟨v35,v36,o37⟩ _ _ _ h _ _ q37
 refine Az (Az ?_)
 refine Cn h (fun v38=>[(29,(Aq v38))]) (fun v38=>[]) ?_ ?_
 intro _ h _ _ _
 exact Y
 rintro v38 _ h
 refine Ao h (fun _ h=>?_) (fun _ h=>?_)
 refine Z ?_
 refine Gx h (fun _ _ _ _ h=>?_)
 refine ZS ?_
 refine Cm ?_
 refine ZO ?_
 refine Cn h (fun v42=>[(7,(O .u64 v42))]) (fun v42=>[]) ?_ ?_
 intro _ h _ _ _
 exact Y
 rintro v42 _ h
 exact Y
 exact Y
 replace h:=Ck h
 refine Gc (Gb rfl (Az ?_))
 refine Dr [.fz 5] ?_
 exact Y⟩
instance {a0:List Int} {a1:Int}:OK (Wo a0 a1) fun r=>Ax Tryz.prog 210 [(As 1 (O .u32)) a0,(O .u64) a1] (.tup [(As 1 (O .u32)) r.1,(O .u64) r.2]):=⟨fun {r} h=>by
 refine pw {T:=Cb,an:=(fun _=>.ask),nl:=(fun s=>bif Nat.beq s 4 then [(0,1)] else [])} Tryz.func210 ?_
 refine Z ?_
 refine Hf h (fun o1 h=>?_)
 refine Z ?_
 refine D7 h (fun (v7,v8,o9)=>[(7,(O .u64 v7)),(8,(O .i64 v8))]) (fun (v7,v8,o9)=>[(0,.rows 141 1 (List.map (O .u32) o9))]) (fun (v7,v8,o9)=>o1.length=o9.length) ?_
 rintro ⟨v7,v8,o9⟩ _ _ _ h _ _ q9
 refine Z ?_
 refine Ao h (fun _ h=>?_) (fun _ h=>?_)
 exact Y
 replace h:=Ck h
 refine Gc (Gb rfl (Az ?_))
 refine Dr [.fz 6] ?_
 exact Y⟩
instance {a0 a1:List Int}:OK (On a0 a1) fun r=>Ax Tryz.prog 149 [(As 1 (O .u32)) a0,(As 1 (O .u32)) a1] ((As 1 (O .u32)) r):=⟨fun {r} h=>by
 refine pw {T:=Cb,an:=(fun _=>.ask),nl:=(fun s=>bif Nat.beq s 4 then [(0,1)] else [])} Tryz.func149 ?_
 refine Z ?_
 refine Hf h (fun o1 h=>?_)
 refine Z ?_
 refine D7 h (fun (v10,v11,o12)=>[(6,(O .u32 v10)),(7,(O .i64 v11))]) (fun (v10,v11,o12)=>[(0,.rows 141 1 (List.map (O .u32) o12))]) (fun (v10,v11,o12)=>o1.length=o12.length) ?_
 rintro ⟨v10,v11,o12⟩ _ _ _ h _ _ q12
 refine Z ?_
 refine Ao h (fun _ h=>?_) (fun _ h=>?_)
 refine ZS ?_
 refine Cm ?_
 refine ZS ?_
 refine Cm ?_
 refine ZO ?_
 refine Cn h (fun v14=>[(8,(O .u32 v14))]) (fun v14=>[]) ?_ ?_
 intro _ h _ _ _
 exact Y
 rintro v14 _ h
 exact Y
 replace h:=Ck h
 refine Gc (Gb rfl (Az ?_))
 refine Dr [.fz 5] ?_
 exact Y⟩
instance {a0 a1:List Int}:OK (Qs a0 a1) fun r=>Ax Tryz.prog 139 [(As 1 (O .u32)) a0,(As 1 (O .u32)) a1] (.tup [(As 1 (O .u32)) r.1,(As 1 (O .u32)) r.2]):=⟨fun {r} h=>by
 refine pw {T:=Cb,an:=(fun s=>bif Nat.beq s 50 then .frz 0 else bif Nat.beq s 47 then .own else .ask),nl:=(fun s=>bif Nat.beq s 9 then [(0,1)] else bif Nat.beq s 5 then [(0,1)] else bif Nat.beq s 4 then [(0,1)] else [])} Tryz.func139 ?_
 refine Z ?_
 refine Bh h (fun _ h=>?_)
 refine Z ?_
 refine Ao h (fun _ h=>?_) (fun _ h=>?_)
 exact Y
 refine Z ?_
 refine Ao h (fun _ h=>?_) (fun _ h=>?_)
 exact Y
 refine Z ?_
 refine Hf h (fun o6 h=>?_)
 refine Z ?_
 refine D7 h (fun (v33,v34,o35)=>[(9,(.sl 1 (List.map (O .u32) v33))),(10,(O .i64 v34))]) (fun (v33,v34,o35)=>[(0,.rows 141 1 (List.map (O .u32) o35))]) (fun (v33,v34,o35)=>o6.length=o35.length) ?_
 rintro ⟨v33,v34,o35⟩ _ _ _ h _ _ q35
 refine Z ?_
 refine Ao h (fun _ h=>?_) (fun _ h=>?_)
 refine Z ?_
 refine B3 h (fun _ _ _ _ h=>?_)
 refine Z ?_
 refine O4 h (fun o38 h=>?_)
 refine Z ?_
 refine C3 h (fun v39 hcv39 h=>?_)
 refine Ajp.mk _ (OK.ok hcv39 :) rfl ?_
 refine Z ?_
 refine Bh h (fun _ h=>?_)
 refine Z ?_
 refine A7 h (fun v44=>[(11,(O .u64 v44))]) (fun v44=>[]) ?_
 rintro v44 _ _ _ h _ _
 refine Z ?_
 refine Fv h (fun _ h=>?_) (fun _ h=>?_)
 refine Z ?_
 refine Bh h (fun _ h=>?_)
 refine Z ?_
 refine Bh h (fun _ h=>?_)
 refine Z ?_
 refine Bh h (fun _ h=>?_)
 refine Z ?_
 refine Ao h (fun _ h=>?_) (fun _ h=>?_)
 exact Y
 replace h:=Ck h
 refine Z ?_
 refine Bh h (fun _ h=>?_)
 refine Z ?_
 refine Bh h (fun _ h=>?_)
 refine Z ?_
 refine Bh h (fun _ h=>?_)
 refine Z ?_
 refine A7 h (fun (v54,v55)=>[(9,(.sl 1 (List.map (O .u32) v54))),(11,(O .u64 v55))]) (fun (v54,v55)=>[]) ?_
 rintro ⟨v54,v55⟩ _ _ _ h _ _
 exact Y
 replace h:=Ck h
 refine Z ?_
 refine Bh h (fun _ h=>?_)
 refine Z ?_
 refine Bh h (fun _ h=>?_)
 refine Z ?_
 refine Bh h (fun _ h=>?_)
 refine Z ?_
 refine A7 h (fun (v54,v55)=>[(9,(.sl 1 (List.map (O .u32) v54))),(11,(O .u64 v55))]) (fun (v54,v55)=>[]) ?_
 rintro ⟨v54,v55⟩ _ _ _ h _ _
 exact Y
 replace h:=Ck h
 refine Gc (Gb rfl (Az ?_))
 refine Dr [.fz 8] ?_
 exact Y⟩
end Go.Ab
namespace Go.Ab
open Go Go.Proofs
set_option maxRecDepth 10000
set_option maxHeartbeats 4000000
set_option linter.unusedVariables false
instance {a0 a1:List Int}:OK (Wc a0 a1) fun r=>Ax Tryz.prog 138 [(As 1 (O .u32)) a0,(As 1 (O .u32)) a1] ((As 1 (O .u32)) r):=⟨fun {r} h=>by
 refine pw {T:=Cb,an:=(fun _=>.ask),nl:=(fun s=>bif Nat.beq s 4 then [(0,1)] else [])} Tryz.func138 ?_
 refine Z ?_
 refine A7 h (fun (v2,v3)=>[(0,(.sl 1 (List.map (O .u32) v2))),(1,(.sl 1 (List.map (O .u32) v3)))]) (fun (v2,v3)=>[]) ?_
 rintro ⟨v2,v3⟩ _ _ _ h _ _
 exact Y⟩
instance {a0:Bool} {a1 a2:List Int}:OK (Ng a0 a1 a2) fun r=>Ax Tryz.prog 80 [Aq a0,(As 1 (O .u32)) a1,(As 1 (O .u32)) a2] (Cr r):=⟨fun {r} h=>by
 refine pw {T:=Cb,an:=(fun _=>.ask),nl:=(fun s=>bif Nat.beq s 21 then [(1,1)] else [])} Tryz.func80 ?_
 refine Z ?_
 refine Bh h (fun _ h=>?_)
 refine Z ?_
 refine Bh h (fun _ h=>?_)
 refine ZO ?_
 refine Az (Az ?_)
 refine Cn h (fun v4=>[(19,(Aq v4))]) (fun v4=>[]) ?_ ?_
 intro _ h _ _ _
 exact Y
 rintro v4 _ h
 refine Ao h (fun _ h=>?_) (fun _ h=>?_)
 exact Y
 refine Z ?_
 refine Bh h (fun _ h=>?_)
 refine ZO ?_
 refine Az (Az ?_)
 refine Cn h (fun v7=>[(33,(Aq v7))]) (fun v7=>[]) ?_ ?_
 intro _ h _ _ _
 exact Y
 rintro v7 _ h
 exact Y⟩
instance {a0:Ak}:OK (Qh a0) fun r=>Ax Tryz.prog 43 [Cr a0] (Cr r):=⟨fun {r} h=>by
 refine pw C0 Tryz.func43 ?_
 exact Y⟩
instance {a0:Ak}:OK (M9 a0) fun r=>Ax Tryz.prog 18 [Cr a0] ((O .i64) r):=⟨fun {r} h=>by
 refine pw C0 Tryz.func18 ?_
 exact Y⟩
instance {a0:Gn} {a1:List Int}:OK (Z4 a0 a1) fun r=>Ax Tryz.prog 6 [Ms a0,(As 1 (O .i8)) a1] (Aq r):=⟨fun {r} h=>by
 refine pw {T:=Cb,an:=(fun s=>bif Nat.beq s 12 then .own else .ask),nl:=(fun s=>bif Nat.beq s 82 then [(2,3)] else bif Nat.beq s 74 then [(2,3)] else bif Nat.beq s 12 then [(0,3)] else [])} Tryz.func6 ?_
 refine Z ?_
 refine Bh h (fun _ h=>?_)
 refine Z ?_
 refine Ao h (fun _ h=>?_) (fun _ h=>?_)
 exact Y
 refine Jt (Az (Az ?_))
 refine Cn h (fun v5=>[(31,(Aq v5))]) (fun v5=>[]) ?_ ?_
 intro _ h _ _ _
 exact Y
 rintro v5 _ h
 refine Ao h (fun _ h=>?_) (fun _ h=>?_)
 exact Y
 refine Z ?_
 refine Bh h (fun _ h=>?_)
 refine Z ?_
 refine Bh h (fun _ h=>?_)
 refine Z ?_
 refine A7 h (fun v12=>[(4,(Aq false)),(38,(O .i64 v12))]) (fun v12=>[]) ?_
 rintro v12 _ _ _ h _ _
 refine Z ?_
 refine Ao h (fun _ h=>?_) (fun _ h=>?_)
 exact Y
 replace h:=Ck h
 refine Z ?_
 refine Bh h (fun _ h=>?_)
 refine Z ?_
 refine Ao h (fun _ h=>?_) (fun _ h=>?_)
 exact Y
 refine Z ?_
 refine A7 h (fun (v25,o26)=>[(12,(.arr 2 o26.length 0 o26.length)),(67,(O .i64 v25))]) (fun (v25,o26)=>[(2,.rows 55 3 (Gw o26))]) ?_
 rintro ⟨v25,o26⟩ _ _ _ h _ _
 refine Z ?_
 refine Ao h (fun _ h=>?_) (fun _ h=>?_)
 exact Y
 replace h:=Ck h
 refine Gc (Gb rfl (Az ?_))
 refine Dr [.fz 12] ?_
 exact Y⟩
end Go.Ab
