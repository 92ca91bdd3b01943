/- The contracts of the functions, each by its walk (made by a program). -/
import Derived.Test.YtidkdnlhdbbbjaaGreatDoorAzV0
namespace Go.Ab
open Go Go.Proofs
set_option maxRecDepth 10000
set_option maxHeartbeats 4000000
set_option linter.unusedVariables false
instance {a0:Aq} {a1:Bf}:OK (Abe a0 a1) fun r=>Ax Tryz.prog 143 [(.val (.pointer none)),C6 a0,G2 a1] (.tup [(Aw 5 B5) r.1,(Aa .i64) r.2]):=⟨fun {r} h=>by
 refine pw {T:=Cl,an:=(fun s=>bif Nat.beq s 22 then .own else .ask),nl:=(fun s=>bif Nat.beq s 155 then [(0,3)] else bif Nat.beq s 31 then [(3,3),(4,3)] else bif Nat.beq s 22 then [(0,5)] else bif Nat.beq s 6 then [(0,5)] else [])} Tryz.func143 ?_
 refine Z ?_
 refine Bu h (fun _ h=>?_)
 refine Z ?_
 refine As h (fun _ h=>?_) (fun _ h=>?_)
 exact Y
 refine Z ?_
 refine A5 [] h (fun v4 h=>?_)
 refine Z ?_
 refine A5 [3] h (fun _ h=>?_)
 refine C7 h (fun v8 hgv8 h=>?_)
 refine Z ?_
 refine Bc h (fun _=>[(6,(.sl 5 (List.map B5 []))),(7,(Aa .i64 0)),(8,(.sl 5 (List.map B5 [(Aj.mk a0 (Bf.mk [] []))]))),(9,(.arr 3 v4.2.length 0 v4.2.length))]) (fun _=>[]) ?_
 rintro _ _ _ _ h _ _
 refine Z ?_
 refine As h (fun _ h=>?_) (fun _ h=>?_)
 refine Z ?_
 refine G4 h (fun _ _ _ _ h=>?_)
 refine Z ?_
 refine Bc h (fun v11=>[(11,(Aa .i64 v11))]) (fun v11=>[]) ?_
 rintro v11 _ _ _ h _ _
 refine Z ?_
 refine Fw h (fun _ h=>?_) (fun _ h=>?_)
 refine Z ?_
 refine G4 h (fun _ _ _ _ h=>?_)
 refine Z ?_
 refine As h (fun _ h=>?_) (fun _ h=>?_)
 exact Y
 replace h:=C3 h
 refine Gb (F8 rfl (Az ?_))
 refine Ee [.fz 9] ?_
 exact Y
 replace h:=C3 h
 refine ZO ?_
 refine Pu (Gb (F8 rfl (Az ?_)))
 refine Ee [.fz 9] ?_
 exact Y
 replace h:=C3 h
 refine Z ?_
 refine A5 [] h (fun _ h=>?_)
 refine Z ?_
 refine A5 [5] h (fun _ h=>?_)
 refine C7 h (fun v19 hgv19 h=>?_)
 refine ZO ?_
 refine Az (J4 ?_)
 refine Ee [.fz 19] ?_
 refine Z ?_
 refine Bc h (fun (v110,v111)=>[(8,(.sl 5 (List.map B5 v110))),(19,(.sl 3 (List.map D5 v111)))]) (fun (v110,v111)=>[]) ?_
 rintro ⟨v110,v111⟩ _ _ _ h _ _
 refine Z ?_
 refine As h (fun _ h=>?_) (fun _ h=>?_)
 refine Z ?_
 refine Ch h (fun _ _ _ _ h=>?_)
 refine Z ?_
 refine Bc h (fun v116=>[(21,(Aa .i64 v116))]) (fun v116=>[]) ?_
 rintro v116 _ _ _ h _ _
 refine Z ?_
 refine Fw h (fun _ h=>?_) (fun _ h=>?_)
 refine Z ?_
 refine Ch h (fun _ _ _ _ h=>?_)
 refine Z ?_
 refine Bu h (fun _ h=>?_)
 refine Z ?_
 refine As h (fun _ h=>?_) (fun _ h=>?_)
 exact Y
 replace h:=C3 h
 refine Z ?_
 refine Oq h (fun _ h=>?_)
 refine Z ?_
 refine Bu h (fun _ h=>?_)
 refine Z ?_
 refine Bc h (fun (v173,o174)=>[(22,(.arr 7 o174.length 0 o174.length)),(135,(Aa .i64 v173))]) (fun (v173,o174)=>[(7,.rows 72 5 (List.map B5 o174))]) ?_
 rintro ⟨v173,o174⟩ _ _ _ h _ _
 refine Z ?_
 refine As h (fun _ h=>?_) (fun _ h=>?_)
 refine Z ?_
 refine Ch h (fun _ _ _ _ h=>?_)
 refine Z ?_
 refine Bu h (fun _ h=>?_)
 refine Z ?_
 refine As h (fun _ h=>?_) (fun _ h=>?_)
 exact Y
 refine Z ?_
 refine Bc h (fun (v190,o191)=>[(22,(.arr 7 o191.length 0 o191.length)),(145,(Aa .i64 v190))]) (fun (v190,o191)=>[(7,.rows 72 5 (List.map B5 o191))]) ?_
 rintro ⟨v190,o191⟩ _ _ _ h _ _
 exact Y
 replace h:=C3 h
 refine Gb (F8 rfl ?_)
 refine Ee [.fz 22] ?_
 exact Y
 replace h:=C3 h
 refine Z ?_
 refine Oq h (fun _ h=>?_)
 refine Z ?_
 refine Bu h (fun _ h=>?_)
 refine Z ?_
 refine Bc h (fun (v173,o174)=>[(22,(.arr 7 o174.length 0 o174.length)),(135,(Aa .i64 v173))]) (fun (v173,o174)=>[(7,.rows 72 5 (List.map B5 o174))]) ?_
 rintro ⟨v173,o174⟩ _ _ _ h _ _
 refine Z ?_
 refine As h (fun _ h=>?_) (fun _ h=>?_)
 refine Z ?_
 refine Ch h (fun _ _ _ _ h=>?_)
 refine Z ?_
 refine Bu h (fun _ h=>?_)
 refine Z ?_
 refine As h (fun _ h=>?_) (fun _ h=>?_)
 exact Y
 refine Z ?_
 refine Bc h (fun (v190,o191)=>[(22,(.arr 7 o191.length 0 o191.length)),(145,(Aa .i64 v190))]) (fun (v190,o191)=>[(7,.rows 72 5 (List.map B5 o191))]) ?_
 rintro ⟨v190,o191⟩ _ _ _ h _ _
 exact Y
 replace h:=C3 h
 refine Gb (F8 rfl ?_)
 refine Ee [.fz 22] ?_
 exact Y
 exact Y⟩
instance {a0:Bf}:OK (Agi a0) fun r=>Ax Tryz.prog 82 [(.val (.pointer none)),G2 a0] (.tup [(Aw 5 B5) r.1,(Aa .i64) r.2]):=⟨fun {r} h=>by
 refine pw {T:=Cl,an:=(fun _=>.ask),nl:=(fun s=>bif Nat.beq s 4 then [(0,5)] else [])} Tryz.func82 ?_
 refine Z ?_
 refine Bu h (fun _ h=>?_)
 refine Z ?_
 refine Bu h (fun _ h=>?_)
 refine Z ?_
 refine As h (fun _ h=>?_) (fun _ h=>?_)
 exact Y
 refine Z ?_
 refine A5 [] h (fun _ h=>?_)
 refine Z ?_
 refine A5 [2,1,3] h (fun _ h=>?_)
 refine Z ?_
 refine A5 [2,1,3] h (fun _ h=>?_)
 exact Y⟩
instance {a0:Bx} {a1:Be} {a2:Int}:OK (I0 a0 a1 a2) fun r=>Ax Tryz.prog 44 [Jn a0,Fr a1,(Aa .i64) a2] (.tup [(Aw 5 B5) r.1,(Aa .i64) r.2]):=⟨fun {r} h=>by
 refine pw {T:=Cl,an:=(fun _=>.ask),nl:=(fun s=>bif Nat.beq s 37 then [(0,3)] else bif Nat.beq s 6 then [(0,5)] else [])} Tryz.func44 ?_
 refine Z ?_
 refine C7 h (fun v3 hcv3 h=>?_)
 rcases v3 with v4 | v9
 refine E6.act [] _ _ _ _ (Bp.sub (args:=[_,.val (.slice none 0 0)]) (Xl (a0:=a0) (a1:=[]) hcv3) ⟨Sub.refl _,Sub.nil _,trivial⟩) rfl rfl trivial ?_
 refine Z ?_
 refine As h (fun _ h=>?_) (fun _ h=>?_)
 exact Y
 refine Ix (Az (Az ?_))
 refine Cm h (fun v11=>[(27,(Au v11))]) (fun v11=>[]) ?_ ?_
 intro _ h _ _ _
 exact Y
 rintro v11 _ h
 refine As h (fun _ h=>?_) (fun _ h=>?_)
 exact Y
 refine Z ?_
 refine A5 [5,3,4] h (fun _ h=>?_)
 refine Z ?_
 refine As h (fun _ h=>?_) (fun _ h=>?_)
 exact Y
 refine Z ?_
 refine A5 [5,3,4] h (fun _ h=>?_)
 exact Y
 refine E6.act [] _ _ _ _ (Bp.sub (args:=[_,.val (.slice none 0 0)]) (Xm (a0:=a0) (a1:=[]) hcv3) ⟨Sub.refl _,Sub.nil _,trivial⟩) rfl rfl trivial ?_
 refine Z ?_
 refine As h (fun _ h=>?_) (fun _ h=>?_)
 exact Y
 refine Ix (Az (Az ?_))
 refine Cm h (fun v15=>[(27,(Au v15))]) (fun v15=>[]) ?_ ?_
 intro _ h _ _ _
 exact Y
 rintro v15 _ h
 exact Y⟩
instance {a0:List Aj} {a1:Aq}:OK (Sr a0 a1) fun r=>Ax Tryz.prog 83 [(Aw 5 B5) a0,C6 a1] ((Aw 5 B5) r):=⟨fun {r} h=>by
 refine pw {T:=Cl,an:=(fun s=>bif Nat.beq s 5 then .own else .ask),nl:=(fun s=>bif Nat.beq s 5 then [(0,5)] else bif Nat.beq s 4 then [(0,5)] else [])} Tryz.func83 ?_
 refine Z ?_
 refine Bc h (fun (v13,o14)=>[(5,(.arr 1 o14.length 0 o14.length)),(10,(Aa .i64 v13))]) (fun (v13,o14)=>[(1,.rows 72 5 (List.map B5 o14))]) ?_
 rintro ⟨v13,o14⟩ _ _ _ h _ _
 exact Y⟩
instance {a0:Bx} {a1 a2:List Aj}:OK (Ml a0 a1 a2) fun r=>Ax Tryz.prog 45 [Jn a0,(Aw 5 B5) a1,(Aw 5 B5) a2] (.tup [(Aw 5 B5) r.1,(Aa .i64) r.2]):=⟨fun {r} h=>by
 refine pw {T:=Cl,an:=(fun _=>.ask),nl:=(fun s=>bif Nat.beq s 6 then [(0,5)] else [])} Tryz.func45 ?_
 refine ZS ?_
 refine Cg ?_
 refine ZO ?_
 refine Az (Az ?_)
 refine Cm h (fun v9=>[(9,(Au v9))]) (fun v9=>[]) ?_ ?_
 intro _ h _ _ _
 refine Z ?_
 refine C7 h (fun v2 hcv2 h=>?_)
 rcases v2 with v3 | v8
 refine E6.act [] _ _ _ _ (Xl (a0:=a0) (a1:=[a1,a2]) hcv2) rfl rfl trivial ?_
 exact Y
 refine E6.act [] _ _ _ _ (Xm (a0:=a0) (a1:=[a1,a2]) hcv2) rfl rfl trivial ?_
 exact Y
 rintro v9 _ h
 refine Z ?_
 refine As h (fun _ h=>?_) (fun _ h=>?_)
 exact Y
 refine Z ?_
 refine A5 [] h (fun _ h=>?_)
 refine Z ?_
 refine A5 [2,1,3] h (fun _ h=>?_)
 refine Z ?_
 refine Bu h (fun _ h=>?_)
 refine Z ?_
 refine Bu h (fun _ h=>?_)
 refine Z ?_
 refine A5 [2,1,3] h (fun _ h=>?_)
 refine Z ?_
 refine A5 [2,1,3] h (fun _ h=>?_)
 exact Y⟩
instance {a0:Bx} {a1:Em}:OK (Wi a0 a1) fun r=>Ax Tryz.prog 22 [Jn a0,Mw a1] (.tup [(Aw 5 B5) r.1,(Aa .i64) r.2]):=⟨fun {r} h=>by
 refine pw {T:=Cl,an:=(fun _=>.ask),nl:=(fun s=>bif Nat.beq s 4 then [(0,5)] else [])} Tryz.func22 ?_
 exact Y⟩
instance {a0:List Aj} {b1:List (ByteArray×Int)} {b2:List (ByteArray×(List Db))} {b0_0:List Ay} {b0_1:List Ai} {b0_2 b0_3:Int} {b0_4:List Ai}:OK (Qa a0 b1 b2 b0_0 b0_1 b0_2 b0_3 b0_4) fun r=>Bp Tryz.prog 144 [(.loc 0 0),(Aw 5 B5) a0] [.cells 119 [(.sl 3 (List.map Cs b0_0)),(.sl 3 (Bm b0_1)),(Aa .i64 b0_2),(Aa .i64 b0_3),(.sl 3 (Bm b0_4)),(.mp 1),(.mp 2)],.map (Bg (Aa .i64) b1),.map (Bg (Aw 5 D6) b2)] ((Aa .i64) r.1) [.cells 119 [(.sl 3 (List.map Cs b0_0)),(.sl 3 (Bm b0_1)),(Aa .i64 b0_2),(Aa .i64 b0_3),(.sl 3 (Bm b0_4)),(.mp 1),(.mp 2)],.map (Bg (Aa .i64) r.2),.map (Bg (Aw 5 D6) b2)]:=⟨fun {r} h=>by
 refine aw C0 true Tryz.func144 ?_
 refine Z ?_
 refine Bc h (fun (v4,v5,o6)=>[(5,(Aa .i64 v4)),(10,(Aa .i64 v5))]) (fun (v4,v5,o6)=>[(1,.map (Bg (Aa .i64) o6))]) ?_
 rintro ⟨v4,v5,o6⟩ _ _ _ h _ _
 refine Z ?_
 refine As h (fun _ h=>?_) (fun _ h=>?_)
 refine Z ?_
 refine Ch h (fun _ _ _ _ h=>?_)
 refine Z ?_
 refine A5 [0,1,2] h (fun _ h=>?_)
 exact Y
 exact Y⟩
instance {a0:Int} {a1:Bq}:OK (Agj a0 a1) fun r=>Ax Tryz.prog 163 [(.val (.pointer none)),(Aa .i64) a0,Ib a1] ((Aa .i64) r):=⟨fun {r} h=>by
 refine pw C0 Tryz.func163 ?_
 exact Y⟩
instance {a0:Bf}:OK (Agk a0) fun r=>Ax Tryz.prog 162 [(.val (.pointer none)),G2 a0] ((Aa .i64) r):=⟨fun {r} h=>by
 refine pw C0 Tryz.func162 ?_
 refine Z ?_
 refine Bc h (fun (v5,v6)=>[(5,(Aa .i64 v5)),(13,(Aa .i64 v6))]) (fun (v5,v6)=>[]) ?_
 rintro ⟨v5,v6⟩ _ _ _ h _ _
 refine Z ?_
 refine As h (fun _ h=>?_) (fun _ h=>?_)
 exact Y
 replace h:=C3 h
 refine Z ?_
 refine Bc h (fun (v13,v14)=>[(5,(Aa .i64 v13)),(31,(Aa .i64 v14))]) (fun (v13,v14)=>[]) ?_
 rintro ⟨v13,v14⟩ _ _ _ h _ _
 exact Y⟩
instance {a0:List Aj}:OK (Abf a0) fun r=>Ax Tryz.prog 144 [(.val (.pointer none)),(Aw 5 B5) a0] ((Aa .i64) r):=⟨fun {r} h=>by
 refine pw C0 Tryz.func144 ?_
 refine Z ?_
 refine Bc h (fun (v4,v5)=>[(5,(Aa .i64 v4)),(10,(Aa .i64 v5))]) (fun (v4,v5)=>[]) ?_
 rintro ⟨v4,v5⟩ _ _ _ h _ _
 exact Y⟩
instance {a0:Bx} {a1 a2:List Aj}:OK (Ny a0 a1 a2) fun r=>Ax Tryz.prog 84 [Jn a0,(Aw 5 B5) a1,(Aw 5 B5) a2] (.tup [(Aw 5 B5) r.1,(Aa .i64) r.2]):=⟨fun {r} h=>by
 refine pw {T:=Cl,an:=(fun _=>.ask),nl:=(fun s=>bif Nat.beq s 6 then [(0,5)] else [])} Tryz.func84 ?_
 refine Z ?_
 refine C7 h (fun v2 hcv2 h=>?_)
 rcases v2 with v3 | v8
 refine E6.act [] _ _ _ _ (Xl (a0:=a0) (a1:=[a1,a2]) hcv2) rfl rfl trivial ?_
 refine Z ?_
 refine As h (fun _ h=>?_) (fun _ h=>?_)
 exact Y
 refine Ix (Az (Az ?_))
 refine Cm h (fun (v11,o12)=>[(44,(Au v11))]) (fun (v11,o12)=>[(2,.map (Bg (Aa .i64) o12))]) ?_ ?_
 intro _ h _ _ _
 refine Z ?_
 refine Fw h (fun _ h=>?_) (fun _ h=>?_)
 refine Z ?_
 refine Fw h (fun _ h=>?_) (fun _ h=>?_)
 refine Z ?_
 refine A5 [4,2,3] h (fun _ h=>?_)
 refine Z ?_
 refine A5 [4,2,3] h (fun _ h=>?_)
 exact Y
 exact Y
 exact Y
 rintro ⟨v11,o12⟩ _ h
 refine As h (fun _ h=>?_) (fun _ h=>?_)
 exact Y
 refine Z ?_
 refine A5 [] h (fun _ h=>?_)
 refine Z ?_
 refine Bc h (fun (v82,o83,o84)=>[(6,(.sl 5 (List.map B5 []))),(7,(Aa .i64 0)),(48,(Aa .i64 v82))]) (fun (v82,o83,o84)=>[(5,.map (Bg (Aa .i64) o83)),(6,.cells 122 [(.mp 5),(.arr 7 o84.length 0 o84.length)]),(7,.rows 72 5 (List.map B5 o84))]) ?_
 rintro ⟨v82,o83,o84⟩ _ _ _ h _ _
 refine Z ?_
 refine As h (fun _ h=>?_) (fun _ h=>?_)
 refine Z ?_
 refine Ch h (fun _ _ _ _ h=>?_)
 refine Z ?_
 refine Bc h (fun (v102,o103,o104)=>[(6,(.sl 5 (List.map B5 []))),(7,(Aa .i64 0)),(54,(Aa .i64 v102))]) (fun (v102,o103,o104)=>[(5,.map (Bg (Aa .i64) o103)),(6,.cells 122 [(.mp 5),(.arr 7 o104.length 0 o104.length)]),(7,.rows 72 5 (List.map B5 o104))]) ?_
 rintro ⟨v102,o103,o104⟩ _ _ _ h _ _
 refine Z ?_
 refine As h (fun _ h=>?_) (fun _ h=>?_)
 refine Z ?_
 refine Ch h (fun _ _ _ _ h=>?_)
 refine Z ?_
 refine Bu h (fun _ h=>?_)
 refine Z ?_
 refine Bu h (fun _ h=>?_)
 refine Z ?_
 refine A5 [4,2,3] h (fun _ h=>?_)
 refine Z ?_
 refine As h (fun _ h=>?_) (fun _ h=>?_)
 exact Y
 refine Z ?_
 refine A5 [6,5,7] h (fun _ h=>?_)
 exact Y
 exact Y
 replace h:=C3 h
 refine Z ?_
 refine A5 [6,5,7] h (fun _ h=>?_)
 exact Y
 refine E6.act [] _ _ _ _ (Xm (a0:=a0) (a1:=[a1,a2]) hcv2) rfl rfl trivial ?_
 refine Z ?_
 refine As h (fun _ h=>?_) (fun _ h=>?_)
 exact Y
 refine Ix (Az (Az ?_))
 refine Cm h (fun v123=>[(44,(Au v123))]) (fun v123=>[]) ?_ ?_
 intro _ h _ _ _
 exact Y
 rintro v123 _ h
 refine As h (fun _ h=>?_) (fun _ h=>?_)
 exact Y
 refine Z ?_
 refine A5 [] h (fun _ h=>?_)
 refine Z ?_
 refine Bc h (fun (v193,o194,o195)=>[(6,(.sl 5 (List.map B5 []))),(7,(Aa .i64 0)),(48,(Aa .i64 v193))]) (fun (v193,o194,o195)=>[(1,.map (Bg (Aa .i64) o194)),(2,.cells 122 [(.mp 1),(.arr 3 o195.length 0 o195.length)]),(3,.rows 72 5 (List.map B5 o195))]) ?_
 rintro ⟨v193,o194,o195⟩ _ _ _ h _ _
 refine Z ?_
 refine As h (fun _ h=>?_) (fun _ h=>?_)
 refine Z ?_
 refine Ch h (fun _ _ _ _ h=>?_)
 refine Z ?_
 refine Bc h (fun (v213,o214,o215)=>[(6,(.sl 5 (List.map B5 []))),(7,(Aa .i64 0)),(54,(Aa .i64 v213))]) (fun (v213,o214,o215)=>[(1,.map (Bg (Aa .i64) o214)),(2,.cells 122 [(.mp 1),(.arr 3 o215.length 0 o215.length)]),(3,.rows 72 5 (List.map B5 o215))]) ?_
 rintro ⟨v213,o214,o215⟩ _ _ _ h _ _
 refine Z ?_
 refine As h (fun _ h=>?_) (fun _ h=>?_)
 refine Z ?_
 refine Ch h (fun _ _ _ _ h=>?_)
 refine Z ?_
 refine Bu h (fun _ h=>?_)
 refine Z ?_
 refine Bu h (fun _ h=>?_)
 refine Z ?_
 refine Bu h (fun _ h=>?_)
 refine Z ?_
 refine As h (fun _ h=>?_) (fun _ h=>?_)
 exact Y
 refine Z ?_
 refine A5 [2,1,3] h (fun _ h=>?_)
 exact Y
 exact Y
 replace h:=C3 h
 refine Z ?_
 refine A5 [2,1,3] h (fun _ h=>?_)
 exact Y⟩
instance {a0:Bx} {a1:Em} {a2:Int}:OK (Pz a0 a1 a2) fun r=>Ax Tryz.prog 46 [Jn a0,Mw a1,(Aa .i64) a2] (.tup [(Aw 5 B5) r.1,(Aa .i64) r.2]):=⟨fun {r} h=>by
 refine pw {T:=Cl,an:=(fun _=>.ask),nl:=(fun s=>bif Nat.beq s 6 then [(0,5)] else [])} Tryz.func46 ?_
 exact Y⟩
instance {a0:Bx} {a1:Em}:OK (Sh a0 a1) fun r=>Ax Tryz.prog 23 [Jn a0,Mw a1] (.tup [(Aw 5 B5) r.1,(Aa .i64) r.2]):=⟨fun {r} h=>by
 refine pw {T:=Cl,an:=(fun _=>.ask),nl:=(fun s=>bif Nat.beq s 10 then [(0,5)] else bif Nat.beq s 4 then [(0,5)] else [])} Tryz.func23 ?_
 refine Z ?_
 refine Bu h (fun _ h=>?_)
 refine Z ?_
 refine As h (fun _ h=>?_) (fun _ h=>?_)
 exact Y
 refine Z ?_
 refine Bu h (fun _ h=>?_)
 refine Z ?_
 refine Bc h (fun (v9,v10,v11)=>[(7,(Aa .i64 v9)),(8,(.sl 5 (List.map B5 v10))),(9,(Aa .i64 v11))]) (fun (v9,v10,v11)=>[]) ?_
 rintro ⟨v9,v10,v11⟩ _ _ _ h _ _
 refine Az (Az ?_)
 refine Cm h (fun v12=>[(37,(Au v12))]) (fun v12=>[]) ?_ ?_
 intro _ h _ _ _
 exact Y
 rintro v12 _ h
 exact Y⟩
instance {a0:Bx} {a1:Be}:OK (Px a0 a1) fun r=>Ax Tryz.prog 21 [Jn a0,Fr a1] (Au r):=⟨fun {r} h=>by
 refine pw C0 Tryz.func21 ?_
 refine Z ?_
 refine Bc h (fun v6=>[(4,(Au false)),(10,(Aa .i64 v6))]) (fun v6=>[]) ?_
 rintro v6 _ _ _ h _ _
 exact Y⟩
instance {a0:Bx} {a1:List Aj}:OK (Nt a0 a1) fun r=>Ax Tryz.prog 20 [Jn a0,(Aw 5 B5) a1] (Au r):=⟨fun {r} h=>by
 refine pw C0 Tryz.func20 ?_
 refine Z ?_
 refine C7 h (fun v2 hcv2 h=>?_)
 rcases v2 with v3 | v8
 refine E6.act [] _ _ _ _ (Xl (a0:=a0) (a1:=[a1]) hcv2) rfl rfl trivial ?_
 exact Y
 refine E6.act [] _ _ _ _ (Xm (a0:=a0) (a1:=[a1]) hcv2) rfl rfl trivial ?_
 exact Y⟩
instance {a0:Bx} {a1:Em}:OK (J5 a0 a1) fun r=>Ax Tryz.prog 9 [Jn a0,Mw a1] (.tup [(Aw 5 B5) r.1,(Aa .i64) r.2]):=⟨fun {r} h=>by
 refine pw {T:=Cl,an:=(fun _=>.ask),nl:=(fun s=>bif Nat.beq s 4 then [(0,5)] else [])} Tryz.func9 ?_
 refine ZS ?_
 refine Cg ?_
 refine ZO ?_
 refine Az (Az ?_)
 refine Cm h (fun v5=>[(13,(Au v5))]) (fun v5=>[]) ?_ ?_
 intro _ h _ _ _
 exact Y
 rintro v5 _ h
 refine As h (fun _ h=>?_) (fun _ h=>?_)
 exact Y
 refine Ix (Az (Az ?_))
 refine Cm h (fun v8=>[(25,(Au v8))]) (fun v8=>[]) ?_ ?_
 intro _ h _ _ _
 exact Y
 rintro v8 _ h
 exact Y⟩
instance {a0:Int}:OK (Sg a0) fun r=>Ax Tryz.prog 8 [(Aa .i64) a0] (Jn r):=⟨fun {r} h=>by
 refine pw {T:=Cl,an:=(fun _=>.ask),nl:=(fun s=>bif Nat.beq s 18 then [(0,3),(4,3)] else bif Nat.beq s 14 then [(2,3)] else bif Nat.beq s 13 then [(0,3)] else [])} Tryz.func8 ?_
 refine ZS ?_
 refine Cg ?_
 refine ZS ?_
 refine Cg ?_
 refine ZO ?_
 refine Az (Az ?_)
 refine Ee [.own 3 1 29 3] ?_
 refine Z ?_
 refine Bc h (fun (v8,o9)=>[(4,(Aa .i64 v8))]) (fun (v8,o9)=>[(1,.cells 31 [(.val (.slice none 0 0)),(.arr 2 o9.length 0 o9.length),(Aa .i64 1),(Aa .i64 0),(.val (.slice none 0 0))]),(2,.rows 29 3 (Bm o9))]) ?_
 rintro ⟨v8,o9⟩ _ _ _ h _ _
 exact Y⟩
instance {a0:Be}:OK (Wj a0) fun r=>Ax Tryz.prog 33 [Fr a0] (Fr r):=⟨fun {r} h=>by
 refine pw C0 Tryz.func33 ?_
 exact Y⟩
instance {a0:Em}:OK (Aaw a0) fun r=>Ax Tryz.prog 15 [Mw a0] ((Aw 2 Fr) r):=⟨fun {r} h=>by
 refine pw {T:=Cl,an:=(fun _=>.ask),nl:=(fun s=>bif Nat.beq s 2 then [(0,2)] else [])} Tryz.func15 ?_
 exact Y⟩
instance {a0 a1:Int}:OK (Aax a0 a1) fun r=>Ax Tryz.prog 19 [(Aa .i64) a0,(Aa .i64) a1] (Fr r):=⟨fun {r} h=>by
 refine pw C0 Tryz.func19 ?_
 exact Y⟩
instance  : OK (Wg) fun r=>Ax Tryz.prog 7 [] (Au r):=⟨fun {r} h=>by
 refine pw {T:=Cl,an:=(fun _=>.ask),nl:=(fun s=>bif Nat.beq s 31 then [(2,2),(4,2)] else bif Nat.beq s 25 then [(4,2)] else bif Nat.beq s 21 then [(4,2)] else bif Nat.beq s 9 then [(4,2)] else [])} Tryz.func7 ?_
 exact Y⟩
instance {a0 a1:Be} {a2:Int}:OK (Wf a0 a1 a2) fun r=>Ax Tryz.prog 3 [Fr a0,Fr a1,(Aa .u8) a2] (Au r):=⟨fun {r} h=>by
 refine pw C0 Tryz.func3 ?_
 refine Z ?_
 refine Bu h (fun _ h=>?_)
 refine Z ?_
 refine As h (fun _ h=>?_) (fun _ h=>?_)
 exact Y
 refine Ix (Az (Az ?_))
 refine Cm h (fun v4=>[(23,(Au v4))]) (fun v4=>[]) ?_ ?_
 intro _ h _ _ _
 exact Y
 rintro v4 _ h
 refine As h (fun _ h=>?_) (fun _ h=>?_)
 exact Y
 refine Z ?_
 refine Bu h (fun _ h=>?_)
 refine Z ?_
 refine Sd h (fun v7 h=>?_)
 refine Z ?_
 refine Afy (f:=Mw) (l:=[(Em.mk 1 a0 a1 0),(Em.mk 2 a0 a1 0),(Em.mk 2 a0 a0 v7)]) rfl ?_
 refine Z ?_
 refine Bc h (fun v11=>[(6,(Au false)),(39,(Aa .i64 v11))]) (fun v11=>[]) ?_
 rintro v11 _ _ _ h _ _
 refine Z ?_
 refine As h (fun _ h=>?_) (fun _ h=>?_)
 refine Z ?_
 refine Aft (f:=Mw) rfl h (fun nv12 v12 hiv12 hxv12 h=>?_)
 exact Y
 exact Y⟩
end Go.Ab
