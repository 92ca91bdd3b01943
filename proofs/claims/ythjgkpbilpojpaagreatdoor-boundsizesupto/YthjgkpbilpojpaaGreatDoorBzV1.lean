/- The contracts of the functions, each by its walk (made by a program). -/
import Derived.Test.YthjgkpbilpojpaaGreatDoorBzV0
namespace Go.Ab
open Go Go.Proofs
set_option maxRecDepth 10000
set_option maxHeartbeats 4000000
set_option linter.unusedVariables false
instance {a0:List (List Bb)}:OK (W5 a0) fun r=>Aw Tryz.prog 173 [(As 1 (As 3 Dn)) a0] ((As 3 Dn) r):=⟨fun {r} h=>by
 refine pw {T:=Ce,an:=(fun _=>.ask),nl:=(fun s=>bif Nat.beq s 2 then [(0,3)] else [])} Tryz.func173 ?_
 refine Z ?_
 refine A5 h (fun (v2,v3)=>[(3,(O .i64 v2)),(11,(O .i64 v3))]) (fun (v2,v3)=>[]) ?_
 rintro ⟨v2,v3⟩ _ _ _ h _ _
 refine Z ?_
 refine An h (fun _ h=>?_) (fun _ h=>?_)
 exact Y
 replace h:=B9 h
 refine Z ?_
 refine A9 [] h (fun _ h=>?_)
 refine Z ?_
 refine A5 h (fun (v14,o15)=>[(6,(.arr 0 o15.length 0 o15.length)),(27,(O .i64 v14))]) (fun (v14,o15)=>[(0,.rows 84 3 (List.map Dn o15))]) ?_
 rintro ⟨v14,o15⟩ _ _ _ h _ _
 exact Y⟩
instance {a0:Int}:OK (Xa a0) fun r=>Br Tryz.prog 239 [(.val (.slice none 0 0)),(O .i64) a0] [] (.arr 0 r.length 0 r.length) [.rows 72 3 (List.map Dh r)]:=⟨fun {r} h=>by
 exact Aqq h⟩
instance {a0:List (List Bq)}:OK (W4 a0) fun r=>Aw Tryz.prog 172 [(As 1 (As 3 Dh)) a0] ((As 3 Dh) r):=⟨fun {r} h=>by
 refine pw {T:=Ce,an:=(fun _=>.ask),nl:=(fun s=>bif Nat.beq s 2 then [(0,3)] else [])} Tryz.func172 ?_
 refine Z ?_
 refine A5 h (fun (v2,v3)=>[(3,(O .i64 v2)),(11,(O .i64 v3))]) (fun (v2,v3)=>[]) ?_
 rintro ⟨v2,v3⟩ _ _ _ h _ _
 refine Z ?_
 refine An h (fun _ h=>?_) (fun _ h=>?_)
 exact Y
 replace h:=B9 h
 refine Z ?_
 refine A9 [] h (fun _ h=>?_)
 refine Z ?_
 refine A5 h (fun (v14,o15)=>[(6,(.arr 0 o15.length 0 o15.length)),(27,(O .i64 v14))]) (fun (v14,o15)=>[(0,.rows 72 3 (List.map Dh o15))]) ?_
 rintro ⟨v14,o15⟩ _ _ _ h _ _
 exact Y⟩
instance {a0 a1:Bc}:OK (S7 a0 a1) fun r=>Aw Tryz.prog 113 [Gn a0,Gn a1] (Gn r):=⟨fun {r} h=>by
 refine pw C0 Tryz.func113 ?_
 exact Y⟩
instance {a0:Ai} {a1:Ak} {a2:Bc}:OK (H6 a0 a1 a2) fun r=>Aw Tryz.prog 58 [Bt a0,B0 a1,Gn a2] (Bt r):=⟨fun {r} h=>by
 refine pw C0 Tryz.func58 ?_
 exact Y⟩
instance {a0:List Bb}:OK (Qj a0) fun r=>Br Tryz.prog 60 [(As 3 Dn) a0] [] (.arr 1 r.2.length 0 r.2.length) [.rows 84 3 (List.map Dn r.1),.rows 84 3 (List.map Dn r.2)]:=⟨fun {r} h=>by
 exact Aqd h⟩
instance {a0:List Bq}:OK (Qf a0) fun r=>Br Tryz.prog 54 [(As 3 Dh) a0] [] (.arr 1 r.2.length 0 r.2.length) [.rows 72 3 (List.map Dh r.1),.rows 72 3 (List.map Dh r.2)]:=⟨fun {r} h=>by
 exact Aqc h⟩
instance {a0 a1:Bb}:OK (Ql a0 a1) fun r=>Aw Tryz.prog 62 [Dn a0,Dn a1] ((O .i64) r):=⟨fun {r} h=>by
 refine pw C0 Tryz.func62 ?_
 exact Y⟩
instance {a0 a1:Int} {b0:List Bb}:OK (W6 a0 a1 b0) fun r=>Br Tryz.prog 174 [(.arr 0 b0.length 0 b0.length),(O .i64) a0,(O .i64) a1,(.fn 62 [])] [.rows 84 3 (List.map Dn b0)] (.tup []) [.rows 84 3 (List.map Dn r)]:=⟨fun {r} h=>by
 refine aw C0 true Tryz.func174 ?_
 refine Z ?_
 refine Ep h (fun (v21,o22)=>[(8,(O .i64 v21))]) (fun (v21,o22)=>[(0,.rows 84 3 (List.map Dn o22))]) (fun (v21,o22)=>b0.length=o22.length) ?_
 rintro ⟨v21,o22⟩ _ _ _ h _ _ q22
 refine Z ?_
 refine An h (fun _ h=>?_) (fun _ h=>?_)
 refine Z ?_
 refine Ep h (fun (v31,o32)=>[(9,(O .i64 v31))]) (fun (v31,o32)=>[(0,.rows 84 3 (List.map Dn o32))]) (fun (v31,o32)=>b0.length=o32.length) ?_
 rintro ⟨v31,o32⟩ _ _ _ h _ _ q32
 refine Ay (Ay ?_)
 refine Cg h (fun v36=>[(34,(Ar v36))]) (fun v36=>[]) ?_ ?_
 intro _ h _ _ _
 exact Y
 rintro v36 _ h
 exact Y
 exact Y⟩
instance {a0:Int} {b0:List Bb}:OK (Wx a0 b0) fun r=>Br Tryz.prog 114 [(.arr 0 b0.length 0 b0.length),(O .i64) a0,(.fn 62 [])] [.rows 84 3 (List.map Dn b0)] (.tup []) [.rows 84 3 (List.map Dn r)]:=⟨fun {r} h=>by
 refine aw C0 true Tryz.func114 ?_
 refine Z ?_
 refine Ep h (fun (v3,v4,o5)=>[(7,(O .i64 v3)),(8,(O .i64 v4))]) (fun (v3,v4,o5)=>[(0,.rows 84 3 (List.map Dn o5))]) (fun (v3,v4,o5)=>b0.length=o5.length) ?_
 rintro ⟨v3,v4,o5⟩ _ _ _ h _ hn1 q5
 refine Z ?_
 refine An h (fun _ h=>?_) (fun _ h=>?_)
 refine Z ?_
 refine C5 h (fun v6 hcv6 h=>?_)
 have okv6:=(OK.ok hcv6 :)
 rw [<-q5] at okv6
 refine Fy.act [0] _ _ _ _ okv6 rfl rfl ⟨rfl,trivial⟩ ?_
 refine C5 h (fun v7 hgv7 h=>?_)
 refine Z ?_
 exact hn1 _ _ _ _ (Option.some.inj h) ⟨rfl,rfl,trivial⟩ ⟨⟨rfl,rfl⟩,trivial⟩ (Hn hgv7)
 replace h:=B9 h
 refine Z ?_
 refine C5 h (fun v11 hcv11 h=>?_)
 have okv11:=(OK.ok hcv11 :)
 rw [<-q5] at okv11
 refine Fy.act [0] _ _ _ _ okv11 rfl rfl ⟨rfl,trivial⟩ ?_
 refine C5 h (fun v12 hgv12 h=>?_)
 refine Z ?_
 refine A5 h (fun (v13,v14,v15)=>[(6,(O .i64 v13)),(7,(O .i64 v14)),(8,(O .i64 v15))]) (fun (v13,v14,v15)=>[]) ?_
 rintro ⟨v13,v14,v15⟩ _ _ _ h _ _
 refine Z ?_
 refine An h (fun _ h=>?_) (fun _ h=>?_)
 refine Z ?_
 refine A5 h (fun _=>[(7,(O .i64 0)),(8,(O .i64 (Ac (2*v13))))]) (fun _=>[]) ?_
 rintro _ _ _ _ h _ _
 exact Y
 exact Y⟩
instance {b0:List Bb}:OK (Qk b0) fun r=>Br Tryz.prog 61 [(.arr 0 b0.length 0 b0.length),(.fn 62 [])] [.rows 84 3 (List.map Dn b0)] (.tup []) [.rows 84 3 (List.map Dn r)]:=⟨fun {r} h=>by
 refine aw C0 true Tryz.func61 ?_
 refine Z ?_
 refine A9 [0] h (fun _ h=>?_)
 refine C5 h (fun v2 hgv2 h=>?_)
 exact Y⟩
instance {a0 a1:Bq}:OK (Qh a0 a1) fun r=>Aw Tryz.prog 56 [Dh a0,Dh a1] ((O .i64) r):=⟨fun {r} h=>by
 refine pw C0 Tryz.func56 ?_
 exact Y⟩
instance {a0 a1:Int} {b0:List Bq}:OK (W3 a0 a1 b0) fun r=>Br Tryz.prog 162 [(.arr 0 b0.length 0 b0.length),(O .i64) a0,(O .i64) a1,(.fn 56 [])] [.rows 72 3 (List.map Dh b0)] (.tup []) [.rows 72 3 (List.map Dh r)]:=⟨fun {r} h=>by
 refine aw C0 true Tryz.func162 ?_
 refine Z ?_
 refine Ep h (fun (v21,o22)=>[(8,(O .i64 v21))]) (fun (v21,o22)=>[(0,.rows 72 3 (List.map Dh o22))]) (fun (v21,o22)=>b0.length=o22.length) ?_
 rintro ⟨v21,o22⟩ _ _ _ h _ _ q22
 refine Z ?_
 refine An h (fun _ h=>?_) (fun _ h=>?_)
 refine Z ?_
 refine Ep h (fun (v31,o32)=>[(9,(O .i64 v31))]) (fun (v31,o32)=>[(0,.rows 72 3 (List.map Dh o32))]) (fun (v31,o32)=>b0.length=o32.length) ?_
 rintro ⟨v31,o32⟩ _ _ _ h _ _ q32
 refine Ay (Ay ?_)
 refine Cg h (fun v36=>[(34,(Ar v36))]) (fun v36=>[]) ?_ ?_
 intro _ h _ _ _
 exact Y
 rintro v36 _ h
 exact Y
 exact Y⟩
instance {a0:Int} {b0:List Bq}:OK (Ww a0 b0) fun r=>Br Tryz.prog 109 [(.arr 0 b0.length 0 b0.length),(O .i64) a0,(.fn 56 [])] [.rows 72 3 (List.map Dh b0)] (.tup []) [.rows 72 3 (List.map Dh r)]:=⟨fun {r} h=>by
 refine aw C0 true Tryz.func109 ?_
 refine Z ?_
 refine Ep h (fun (v3,v4,o5)=>[(7,(O .i64 v3)),(8,(O .i64 v4))]) (fun (v3,v4,o5)=>[(0,.rows 72 3 (List.map Dh o5))]) (fun (v3,v4,o5)=>b0.length=o5.length) ?_
 rintro ⟨v3,v4,o5⟩ _ _ _ h _ hn1 q5
 refine Z ?_
 refine An h (fun _ h=>?_) (fun _ h=>?_)
 refine Z ?_
 refine C5 h (fun v6 hcv6 h=>?_)
 have okv6:=(OK.ok hcv6 :)
 rw [<-q5] at okv6
 refine Fy.act [0] _ _ _ _ okv6 rfl rfl ⟨rfl,trivial⟩ ?_
 refine C5 h (fun v7 hgv7 h=>?_)
 refine Z ?_
 exact hn1 _ _ _ _ (Option.some.inj h) ⟨rfl,rfl,trivial⟩ ⟨⟨rfl,rfl⟩,trivial⟩ (Hn hgv7)
 replace h:=B9 h
 refine Z ?_
 refine C5 h (fun v11 hcv11 h=>?_)
 have okv11:=(OK.ok hcv11 :)
 rw [<-q5] at okv11
 refine Fy.act [0] _ _ _ _ okv11 rfl rfl ⟨rfl,trivial⟩ ?_
 refine C5 h (fun v12 hgv12 h=>?_)
 refine Z ?_
 refine A5 h (fun (v13,v14,v15)=>[(6,(O .i64 v13)),(7,(O .i64 v14)),(8,(O .i64 v15))]) (fun (v13,v14,v15)=>[]) ?_
 rintro ⟨v13,v14,v15⟩ _ _ _ h _ _
 refine Z ?_
 refine An h (fun _ h=>?_) (fun _ h=>?_)
 refine Z ?_
 refine A5 h (fun _=>[(7,(O .i64 0)),(8,(O .i64 (Ac (2*v13))))]) (fun _=>[]) ?_
 rintro _ _ _ _ h _ _
 exact Y
 exact Y⟩
instance {b0:List Bq}:OK (Qg b0) fun r=>Br Tryz.prog 55 [(.arr 0 b0.length 0 b0.length),(.fn 56 [])] [.rows 72 3 (List.map Dh b0)] (.tup []) [.rows 72 3 (List.map Dh r)]:=⟨fun {r} h=>by
 refine aw C0 true Tryz.func55 ?_
 refine Z ?_
 refine A9 [0] h (fun _ h=>?_)
 refine C5 h (fun v2 hgv2 h=>?_)
 exact Y⟩
instance {a0:Ak} {a1:Bc} {b1:List (ByteArray×Int)} {b2:List (ByteArray×(List B7))} {b0_0:List Az} {b0_1:List Aj} {b0_2 b0_3:Int} {b0_4:List Aj}:OK (N8 a0 a1 b1 b2 b0_0 b0_1 b0_2 b0_3 b0_4) fun r=>Br Tryz.prog 23 [(.loc 0 0),B0 a0,Gn a1] [.cells 118 [(.sl 3 (List.map Co b0_0)),(.sl 3 (Bl b0_1)),(O .i64 b0_2),(O .i64 b0_3),(.sl 3 (Bl b0_4)),(.mp 1),(.mp 2)],.map (Bd (O .i64) b1),.map (Bd (As 5 C6) b2)] (.tup [(As 5 Bt) r.1,(O .i64) r.2.1]) [.cells 118 [(.sl 3 (List.map Co b0_0)),(.sl 3 (Bl b0_1)),(O .i64 b0_2),(O .i64 b0_3),(.sl 3 (Bl b0_4)),(.mp 1),(.mp 2)],.map (Bd (O .i64) r.2.2.1),.map (Bd (As 5 C6) r.2.2.2)]:=⟨fun {r} h=>by
 refine aw {T:=Ce,an:=(fun s=>bif Nat.beq s 22 then .own else bif Nat.beq s 14 then .own else .ask),nl:=(fun s=>bif Nat.beq s 155 then [(0,3)] else bif Nat.beq s 92 then [(1,3)] else bif Nat.beq s 31 then [(3,3),(4,3)] else bif Nat.beq s 22 then [(0,5)] else bif Nat.beq s 14 then [(0,5)] else bif Nat.beq s 6 then [(0,5)] else [])} true Tryz.func23 ?_
 refine Z ?_
 refine Bh h (fun _ h=>?_)
 refine Z ?_
 refine An h (fun _ h=>?_) (fun _ h=>?_)
 exact Y
 refine Z ?_
 refine A9 [] h (fun _ h=>?_)
 refine Z ?_
 refine A9 [6] h (fun _ h=>?_)
 refine C5 h (fun v8 hgv8 h=>?_)
 refine ZO ?_
 refine Ay (Ix ?_)
 refine C4 [.fz 9] ?_
 refine Z ?_
 refine A5 h (fun (v105,v106,o107,o108)=>[(6,(.sl 5 (List.map Bt []))),(7,(O .i64 0)),(8,(.sl 5 (List.map Bt v105))),(9,(.sl 3 (List.map Dh v106)))]) (fun (v105,v106,o107,o108)=>[(1,.map (Bd (O .i64) o107)),(2,.map (Bd (As 5 C6) o108))]) ?_
 rintro ⟨v105,v106,o107,o108⟩ _ _ _ h _ _
 refine Z ?_
 refine An h (fun _ h=>?_) (fun _ h=>?_)
 refine Z ?_
 refine Bx h (fun _ _ _ _ h=>?_)
 refine Z ?_
 refine A5 h (fun v111=>[(11,(O .i64 v111))]) (fun v111=>[]) ?_
 rintro v111 _ _ _ h _ _
 refine Z ?_
 refine Fq h (fun _ h=>?_) (fun _ h=>?_)
 refine Z ?_
 refine Bx h (fun _ _ _ _ h=>?_)
 refine Z ?_
 refine An h (fun _ h=>?_) (fun _ h=>?_)
 exact Y
 replace h:=B9 h
 refine Z ?_
 refine Km h (fun _ h=>?_)
 refine Z ?_
 refine A9 [0,1,2] h (fun _ h=>?_)
 refine Z ?_
 refine An h (fun _ h=>?_) (fun _ h=>?_)
 exact Y
 refine Z ?_
 refine A5 h (fun (v172,o173,o174)=>[(14,(.arr 7 o174.length 0 o174.length)),(73,(O .i64 v172))]) (fun (v172,o173,o174)=>[(1,.map (Bd (O .i64) o173)),(7,.rows 42 5 (List.map Bt o174))]) ?_
 rintro ⟨v172,o173,o174⟩ _ _ _ h _ _
 refine Z ?_
 refine An h (fun _ h=>?_) (fun _ h=>?_)
 refine Z ?_
 refine Bx h (fun _ _ _ _ h=>?_)
 refine Z ?_
 refine A5 h (fun (v190,o191,o192)=>[(14,(.arr 7 o192.length 0 o192.length)),(79,(O .i64 v190))]) (fun (v190,o191,o192)=>[(1,.map (Bd (O .i64) o191)),(7,.rows 42 5 (List.map Bt o192))]) ?_
 rintro ⟨v190,o191,o192⟩ _ _ _ h _ _
 refine Z ?_
 refine An h (fun _ h=>?_) (fun _ h=>?_)
 refine Z ?_
 refine Bx h (fun _ _ _ _ h=>?_)
 refine Z ?_
 refine A9 [0,1,2] h (fun _ h=>?_)
 exact Y
 exact Y
 replace h:=B9 h
 refine Ez (Ew rfl ?_)
 refine C4 [.fz 14] ?_
 exact Y
 replace h:=B9 h
 refine Z ?_
 refine Km h (fun _ h=>?_)
 refine Z ?_
 refine A9 [0,1,2] h (fun _ h=>?_)
 refine Z ?_
 refine An h (fun _ h=>?_) (fun _ h=>?_)
 exact Y
 refine Z ?_
 refine A5 h (fun (v172,o173,o174)=>[(14,(.arr 7 o174.length 0 o174.length)),(73,(O .i64 v172))]) (fun (v172,o173,o174)=>[(1,.map (Bd (O .i64) o173)),(7,.rows 42 5 (List.map Bt o174))]) ?_
 rintro ⟨v172,o173,o174⟩ _ _ _ h _ _
 refine Z ?_
 refine An h (fun _ h=>?_) (fun _ h=>?_)
 refine Z ?_
 refine Bx h (fun _ _ _ _ h=>?_)
 refine Z ?_
 refine A5 h (fun (v190,o191,o192)=>[(14,(.arr 7 o192.length 0 o192.length)),(79,(O .i64 v190))]) (fun (v190,o191,o192)=>[(1,.map (Bd (O .i64) o191)),(7,.rows 42 5 (List.map Bt o192))]) ?_
 rintro ⟨v190,o191,o192⟩ _ _ _ h _ _
 refine Z ?_
 refine An h (fun _ h=>?_) (fun _ h=>?_)
 refine Z ?_
 refine Bx h (fun _ _ _ _ h=>?_)
 refine Z ?_
 refine A9 [0,1,2] h (fun _ h=>?_)
 exact Y
 exact Y
 replace h:=B9 h
 refine Ez (Ew rfl ?_)
 refine C4 [.fz 14] ?_
 exact Y
 replace h:=B9 h
 refine Z ?_
 refine A9 [] h (fun _ h=>?_)
 refine Z ?_
 refine A9 [8] h (fun _ h=>?_)
 refine C5 h (fun v216 hgv216 h=>?_)
 refine ZO ?_
 refine Ay (Ix ?_)
 refine C4 [.fz 19] ?_
 refine Z ?_
 refine A5 h (fun (v307,v308)=>[(8,(.sl 5 (List.map Bt v307))),(19,(.sl 3 (List.map Dn v308)))]) (fun (v307,v308)=>[]) ?_
 rintro ⟨v307,v308⟩ _ _ _ h _ _
 refine Z ?_
 refine An h (fun _ h=>?_) (fun _ h=>?_)
 refine Z ?_
 refine Bx h (fun _ _ _ _ h=>?_)
 refine Z ?_
 refine A5 h (fun v313=>[(21,(O .i64 v313))]) (fun v313=>[]) ?_
 rintro v313 _ _ _ h _ _
 refine Z ?_
 refine Fq h (fun _ h=>?_) (fun _ h=>?_)
 refine Z ?_
 refine Bx h (fun _ _ _ _ h=>?_)
 refine Z ?_
 refine Bh h (fun _ h=>?_)
 refine Z ?_
 refine An h (fun _ h=>?_) (fun _ h=>?_)
 exact Y
 replace h:=B9 h
 refine Z ?_
 refine Km h (fun _ h=>?_)
 refine Z ?_
 refine Bh h (fun _ h=>?_)
 refine Z ?_
 refine A5 h (fun (v370,o371)=>[(22,(.arr 10 o371.length 0 o371.length)),(135,(O .i64 v370))]) (fun (v370,o371)=>[(10,.rows 42 5 (List.map Bt o371))]) ?_
 rintro ⟨v370,o371⟩ _ _ _ h _ _
 refine Z ?_
 refine An h (fun _ h=>?_) (fun _ h=>?_)
 refine Z ?_
 refine Bx h (fun _ _ _ _ h=>?_)
 refine Z ?_
 refine Bh h (fun _ h=>?_)
 refine Z ?_
 refine An h (fun _ h=>?_) (fun _ h=>?_)
 exact Y
 refine Z ?_
 refine A5 h (fun (v387,o388)=>[(22,(.arr 10 o388.length 0 o388.length)),(145,(O .i64 v387))]) (fun (v387,o388)=>[(10,.rows 42 5 (List.map Bt o388))]) ?_
 rintro ⟨v387,o388⟩ _ _ _ h _ _
 exact Y
 replace h:=B9 h
 refine Ez (Ew rfl ?_)
 refine C4 [.fz 22] ?_
 exact Y
 replace h:=B9 h
 refine Z ?_
 refine Km h (fun _ h=>?_)
 refine Z ?_
 refine Bh h (fun _ h=>?_)
 refine Z ?_
 refine A5 h (fun (v370,o371)=>[(22,(.arr 10 o371.length 0 o371.length)),(135,(O .i64 v370))]) (fun (v370,o371)=>[(10,.rows 42 5 (List.map Bt o371))]) ?_
 rintro ⟨v370,o371⟩ _ _ _ h _ _
 refine Z ?_
 refine An h (fun _ h=>?_) (fun _ h=>?_)
 refine Z ?_
 refine Bx h (fun _ _ _ _ h=>?_)
 refine Z ?_
 refine Bh h (fun _ h=>?_)
 refine Z ?_
 refine An h (fun _ h=>?_) (fun _ h=>?_)
 exact Y
 refine Z ?_
 refine A5 h (fun (v387,o388)=>[(22,(.arr 10 o388.length 0 o388.length)),(145,(O .i64 v387))]) (fun (v387,o388)=>[(10,.rows 42 5 (List.map Bt o388))]) ?_
 rintro ⟨v387,o388⟩ _ _ _ h _ _
 exact Y
 replace h:=B9 h
 refine Ez (Ew rfl ?_)
 refine C4 [.fz 22] ?_
 exact Y
 exact Y⟩
instance {a0:Int} {a1:Be}:OK (Agl a0 a1) fun r=>Aw Tryz.prog 59 [(.val (.pointer none)),(O .i64) a0,F7 a1] ((As 3 Dh) r):=⟨fun {r} h=>by
 refine pw {T:=Ce,an:=(fun _=>.ask),nl:=(fun s=>bif Nat.beq s 6 then [(0,3)] else [])} Tryz.func59 ?_
 exact Y⟩
instance {a0:List Bq}:OK (Agm a0) fun r=>Aw Tryz.prog 57 [(.val (.pointer none)),(As 3 Dh) a0] (.tup [(As 5 C6) r.1,(O .i64) r.2]):=⟨fun {r} h=>by
 refine pw {T:=Ce,an:=(fun _=>.ask),nl:=(fun s=>bif Nat.beq s 4 then [(0,5)] else [])} Tryz.func57 ?_
 refine ZS ?_
 refine Bw ?_
 refine ZS ?_
 refine Bw ?_
 refine ZO ?_
 refine Ay (Ay ?_)
 refine C4 [.own 6 1 5 1] ?_
 refine Z ?_
 refine P1 ?_
 refine Z ?_
 refine An h (fun _ h=>?_) (fun _ h=>?_)
 refine Z ?_
 refine Bx h (fun _ _ _ _ h=>?_)
 refine Z ?_
 refine Bh h (fun _ h=>?_)
 refine Z ?_
 refine A9 [0,1] h (fun _ h=>?_)
 refine Z ?_
 refine A5 h (fun (v17,o18)=>[(18,(O .i64 v17))]) (fun (v17,o18)=>[(0,.cells 187 [(.loc 0 0),(.arr 1 o18.length 0 o18.length)]),(1,.rows 5 1 (List.map (O .u8) o18))]) ?_
 rintro ⟨v17,o18⟩ _ _ _ h _ _
 refine Z ?_
 refine An h (fun _ h=>?_) (fun _ h=>?_)
 refine Z ?_
 refine Bx h (fun _ _ _ _ h=>?_)
 refine Z ?_
 refine Bh h (fun _ h=>?_)
 refine Z ?_
 refine A9 [0,1] h (fun _ h=>?_)
 exact Y
 exact Y
 exact Y⟩
instance {a0:Ak} {a1:Bc}:OK (Agn a0 a1) fun r=>Aw Tryz.prog 23 [(.val (.pointer none)),B0 a0,Gn a1] (.tup [(As 5 Bt) r.1,(O .i64) r.2]):=⟨fun {r} h=>by
 refine pw {T:=Ce,an:=(fun s=>bif Nat.beq s 22 then .own else bif Nat.beq s 14 then .own else .ask),nl:=(fun s=>bif Nat.beq s 155 then [(0,3)] else bif Nat.beq s 92 then [(1,3)] else bif Nat.beq s 31 then [(3,3),(4,3)] else bif Nat.beq s 22 then [(0,5)] else bif Nat.beq s 14 then [(0,5)] else bif Nat.beq s 6 then [(0,5)] else [])} Tryz.func23 ?_
 refine Z ?_
 refine Bh h (fun _ h=>?_)
 refine Z ?_
 refine An h (fun _ h=>?_) (fun _ h=>?_)
 exact Y
 refine Z ?_
 refine A9 [] h (fun _ h=>?_)
 refine Z ?_
 refine A9 [3] h (fun _ h=>?_)
 refine C5 h (fun v8 hgv8 h=>?_)
 refine ZO ?_
 refine Ay (Ix ?_)
 refine C4 [.fz 9] ?_
 refine Z ?_
 refine A5 h (fun (v93,v94)=>[(6,(.sl 5 (List.map Bt []))),(7,(O .i64 0)),(8,(.sl 5 (List.map Bt v93))),(9,(.sl 3 (List.map Dh v94)))]) (fun (v93,v94)=>[]) ?_
 rintro ⟨v93,v94⟩ _ _ _ h _ _
 refine Z ?_
 refine An h (fun _ h=>?_) (fun _ h=>?_)
 refine Z ?_
 refine Bx h (fun _ _ _ _ h=>?_)
 refine Z ?_
 refine A5 h (fun v97=>[(11,(O .i64 v97))]) (fun v97=>[]) ?_
 rintro v97 _ _ _ h _ _
 refine Z ?_
 refine Fq h (fun _ h=>?_) (fun _ h=>?_)
 refine Z ?_
 refine Bx h (fun _ _ _ _ h=>?_)
 refine Z ?_
 refine An h (fun _ h=>?_) (fun _ h=>?_)
 exact Y
 replace h:=B9 h
 refine Z ?_
 refine Km h (fun _ h=>?_)
 refine Z ?_
 refine Bh h (fun _ h=>?_)
 refine Z ?_
 refine An h (fun _ h=>?_) (fun _ h=>?_)
 exact Y
 refine Z ?_
 refine A5 h (fun (v151,o152)=>[(14,(.arr 4 o152.length 0 o152.length)),(73,(O .i64 v151))]) (fun (v151,o152)=>[(4,.rows 42 5 (List.map Bt o152))]) ?_
 rintro ⟨v151,o152⟩ _ _ _ h _ _
 refine Z ?_
 refine An h (fun _ h=>?_) (fun _ h=>?_)
 refine Z ?_
 refine Bx h (fun _ _ _ _ h=>?_)
 refine Z ?_
 refine A5 h (fun (v167,o168)=>[(14,(.arr 4 o168.length 0 o168.length)),(79,(O .i64 v167))]) (fun (v167,o168)=>[(4,.rows 42 5 (List.map Bt o168))]) ?_
 rintro ⟨v167,o168⟩ _ _ _ h _ _
 exact Y
 replace h:=B9 h
 refine Ez (Ew rfl ?_)
 refine C4 [.fz 14] ?_
 exact Y
 replace h:=B9 h
 refine Z ?_
 refine Km h (fun _ h=>?_)
 refine Z ?_
 refine Bh h (fun _ h=>?_)
 refine Z ?_
 refine An h (fun _ h=>?_) (fun _ h=>?_)
 exact Y
 refine Z ?_
 refine A5 h (fun (v151,o152)=>[(14,(.arr 4 o152.length 0 o152.length)),(73,(O .i64 v151))]) (fun (v151,o152)=>[(4,.rows 42 5 (List.map Bt o152))]) ?_
 rintro ⟨v151,o152⟩ _ _ _ h _ _
 refine Z ?_
 refine An h (fun _ h=>?_) (fun _ h=>?_)
 refine Z ?_
 refine Bx h (fun _ _ _ _ h=>?_)
 refine Z ?_
 refine A5 h (fun (v167,o168)=>[(14,(.arr 4 o168.length 0 o168.length)),(79,(O .i64 v167))]) (fun (v167,o168)=>[(4,.rows 42 5 (List.map Bt o168))]) ?_
 rintro ⟨v167,o168⟩ _ _ _ h _ _
 exact Y
 replace h:=B9 h
 refine Ez (Ew rfl ?_)
 refine C4 [.fz 14] ?_
 exact Y
 replace h:=B9 h
 refine Z ?_
 refine A9 [] h (fun _ h=>?_)
 refine Z ?_
 refine A9 [5] h (fun _ h=>?_)
 refine C5 h (fun v186 hgv186 h=>?_)
 refine ZO ?_
 refine Ay (Ix ?_)
 refine C4 [.fz 19] ?_
 refine Z ?_
 refine A5 h (fun (v277,v278)=>[(8,(.sl 5 (List.map Bt v277))),(19,(.sl 3 (List.map Dn v278)))]) (fun (v277,v278)=>[]) ?_
 rintro ⟨v277,v278⟩ _ _ _ h _ _
 refine Z ?_
 refine An h (fun _ h=>?_) (fun _ h=>?_)
 refine Z ?_
 refine Bx h (fun _ _ _ _ h=>?_)
 refine Z ?_
 refine A5 h (fun v283=>[(21,(O .i64 v283))]) (fun v283=>[]) ?_
 rintro v283 _ _ _ h _ _
 refine Z ?_
 refine Fq h (fun _ h=>?_) (fun _ h=>?_)
 refine Z ?_
 refine Bx h (fun _ _ _ _ h=>?_)
 refine Z ?_
 refine Bh h (fun _ h=>?_)
 refine Z ?_
 refine An h (fun _ h=>?_) (fun _ h=>?_)
 exact Y
 replace h:=B9 h
 refine Z ?_
 refine Km h (fun _ h=>?_)
 refine Z ?_
 refine Bh h (fun _ h=>?_)
 refine Z ?_
 refine A5 h (fun (v340,o341)=>[(22,(.arr 7 o341.length 0 o341.length)),(135,(O .i64 v340))]) (fun (v340,o341)=>[(7,.rows 42 5 (List.map Bt o341))]) ?_
 rintro ⟨v340,o341⟩ _ _ _ h _ _
 refine Z ?_
 refine An h (fun _ h=>?_) (fun _ h=>?_)
 refine Z ?_
 refine Bx h (fun _ _ _ _ h=>?_)
 refine Z ?_
 refine Bh h (fun _ h=>?_)
 refine Z ?_
 refine An h (fun _ h=>?_) (fun _ h=>?_)
 exact Y
 refine Z ?_
 refine A5 h (fun (v357,o358)=>[(22,(.arr 7 o358.length 0 o358.length)),(145,(O .i64 v357))]) (fun (v357,o358)=>[(7,.rows 42 5 (List.map Bt o358))]) ?_
 rintro ⟨v357,o358⟩ _ _ _ h _ _
 exact Y
 replace h:=B9 h
 refine Ez (Ew rfl ?_)
 refine C4 [.fz 22] ?_
 exact Y
 replace h:=B9 h
 refine Z ?_
 refine Km h (fun _ h=>?_)
 refine Z ?_
 refine Bh h (fun _ h=>?_)
 refine Z ?_
 refine A5 h (fun (v340,o341)=>[(22,(.arr 7 o341.length 0 o341.length)),(135,(O .i64 v340))]) (fun (v340,o341)=>[(7,.rows 42 5 (List.map Bt o341))]) ?_
 rintro ⟨v340,o341⟩ _ _ _ h _ _
 refine Z ?_
 refine An h (fun _ h=>?_) (fun _ h=>?_)
 refine Z ?_
 refine Bx h (fun _ _ _ _ h=>?_)
 refine Z ?_
 refine Bh h (fun _ h=>?_)
 refine Z ?_
 refine An h (fun _ h=>?_) (fun _ h=>?_)
 exact Y
 refine Z ?_
 refine A5 h (fun (v357,o358)=>[(22,(.arr 7 o358.length 0 o358.length)),(145,(O .i64 v357))]) (fun (v357,o358)=>[(7,.rows 42 5 (List.map Bt o358))]) ?_
 rintro ⟨v357,o358⟩ _ _ _ h _ _
 exact Y
 replace h:=B9 h
 refine Ez (Ew rfl ?_)
 refine C4 [.fz 22] ?_
 exact Y
 exact Y⟩
instance {a0:Int}:OK (Ago a0) fun r=>Aw Tryz.prog 101 [(.val (.pointer none)),(O .i64) a0] (Fp r):=⟨fun {r} h=>by
 refine pw C0 Tryz.func101 ?_
 exact Y⟩
instance {a0:Int}:OK (Abq a0) fun r=>Aw Tryz.prog 47 [(.val (.pointer none)),(O .i64) a0] (Ar r):=⟨fun {r} h=>by
 refine pw C0 Tryz.func47 ?_
 exact Y⟩
instance {a0:B6}:OK (Agp a0) fun r=>Br Tryz.prog 103 [Dw a0,(.loc 0 0)] [.cells 73 [(.val (.pointer none))]] (Ar r) [.cells 73 [(.val (.pointer none))]]:=⟨fun {r} h=>by
 refine aw C0 true Tryz.func103 ?_
 refine Z ?_
 refine Bh h (fun _ h=>?_)
 refine Z ?_
 refine Fq h (fun _ h=>?_) (fun _ h=>?_)
 exact Y
 refine Z ?_
 refine Bh h (fun _ h=>?_)
 refine Z ?_
 refine Z5.mk 3 (by kernel_rfl) ?_
 exact Y⟩
instance {a0:List B6}:OK (Agq a0) fun r=>Br Tryz.prog 158 [(As 2 Dw) a0,(.fn 103 [(.loc 0 0)])] [.cells 73 [(.val (.pointer none))]] ((O .i64) r) [.cells 73 [(.val (.pointer none))]]:=⟨fun {r} h=>by
 refine aw C0 true Tryz.func158 ?_
 refine Z ?_
 refine A5 h (fun v3=>[(4,(O .i64 0)),(8,(O .i64 v3))]) (fun v3=>[]) ?_
 rintro v3 _ _ _ h _ _
 refine Z ?_
 refine An h (fun _ h=>?_) (fun _ h=>?_)
 refine Z ?_
 refine Bx h (fun _ _ _ _ h=>?_)
 refine Z ?_
 refine A9 [0] h (fun _ h=>?_)
 exact Y
 exact Y⟩
instance {a0:List B6}:OK (Agr a0) fun r=>Br Tryz.prog 102 [(As 2 Dw) a0,(.fn 103 [(.loc 0 0)])] [.cells 73 [(.val (.pointer none))]] (Ar r) [.cells 73 [(.val (.pointer none))]]:=⟨fun {r} h=>by
 refine aw C0 true Tryz.func102 ?_
 refine Z ?_
 refine A9 [0] h (fun _ h=>?_)
 exact Y⟩
instance {a0:Ct}:OK (Ags a0) fun r=>Aw Tryz.prog 49 [(.val (.pointer none)),K8 a0] (Ar r):=⟨fun {r} h=>by
 refine pw C0 Tryz.func49 ?_
 refine Z ?_
 refine A9 [0] h (fun _ h=>?_)
 exact Y⟩
instance {a0:Bc}:OK (Agt a0) fun r=>Aw Tryz.prog 19 [(.val (.pointer none)),Gn a0] (Ar r):=⟨fun {r} h=>by
 refine pw C0 Tryz.func19 ?_
 refine Z ?_
 refine A5 h (fun v6=>[(4,(Ar false)),(12,(O .i64 v6))]) (fun v6=>[]) ?_
 rintro v6 _ _ _ h _ _
 refine Z ?_
 refine An h (fun _ h=>?_) (fun _ h=>?_)
 exact Y
 replace h:=B9 h
 refine Z ?_
 refine A5 h (fun v15=>[(4,(Ar false)),(34,(O .i64 v15))]) (fun v15=>[]) ?_
 rintro v15 _ _ _ h _ _
 exact Y⟩
theorem Ahw {a0:Int} {a1:Bool} {b1:List Int} {r:(Int×(List Int))} (h:Ol a0 a1 b1=some (.inl r)):Br Tryz.prog 182 [(.loc 0 0),(O .i64) a0,Ar a1] [.cells 187 [(.val (.pointer none)),(.arr 1 b1.length 0 b1.length)],.rows 5 1 (List.map (O .u8) b1)] ((O .i64) r.1) [.cells 187 [(.loc 0 0),(.arr 1 r.2.length 0 r.2.length)],.rows 5 1 (List.map (O .u8) r.2)]:=by
 refine aw C0 true Tryz.func182 ?_
 refine ZS ?_
 refine Bw ?_
 refine ZO ?_
 refine Ay (Ix (Ay ?_))
 refine Cg h (fun v1=>[(7,(Ar v1))]) (fun v1=>[]) ?_ ?_
 intro _ h _ _ _
 exact Y
 rintro v1 _ h
 refine An h (fun _ h=>?_) (fun _ h=>?_)
 refine Z ?_
 refine A9 [0,1] h (fun _ h=>?_)
 exact Y
 refine Z ?_
 refine An h (fun _ h=>?_) (fun _ h=>?_)
 refine Z ?_
 refine A9 [0,1] h (fun _ h=>?_)
 exact Y
 refine Z ?_
 refine An h (fun _ h=>?_) (fun _ h=>?_)
 refine Z ?_
 refine A9 [0,1] h (fun _ h=>?_)
 exact Y
 exact Y
theorem Ahx {a0:Int} {a1:Bool} {b1:List Int} {r:(Int×(List Int))} (h:Ol a0 a1 b1=some (.inr r)):Br Tryz.prog 182 [(.loc 0 0),(O .i64) a0,Ar a1] [.cells 187 [(.val (.pointer none)),(.arr 1 b1.length 0 b1.length)],.rows 5 1 (List.map (O .u8) b1)] ((O .i64) r.1) [.cells 187 [(.val (.pointer none)),(.arr 1 r.2.length 0 r.2.length)],.rows 5 1 (List.map (O .u8) r.2)]:=by
 refine aw C0 true Tryz.func182 ?_
 refine ZS ?_
 refine Bw ?_
 refine ZO ?_
 refine Ay (Ix (Ay ?_))
 refine Cg h (fun v1=>[(7,(Ar v1))]) (fun v1=>[]) ?_ ?_
 intro _ h _ _ _
 exact Y
 rintro v1 _ h
 refine An h (fun _ h=>?_) (fun _ h=>?_)
 refine Z ?_
 refine A9 [0,1] h (fun _ h=>?_)
 exact Y
 refine Z ?_
 refine An h (fun _ h=>?_) (fun _ h=>?_)
 refine Z ?_
 refine A9 [0,1] h (fun _ h=>?_)
 exact Y
 refine Z ?_
 refine An h (fun _ h=>?_) (fun _ h=>?_)
 refine Z ?_
 refine A9 [0,1] h (fun _ h=>?_)
 exact Y
 exact Y
instance {a0:Int} {a1:Bool} {b1:List Int}:OK (T6 a0 a1 b1) fun r=>Br Tryz.prog 182 [(.loc 0 0),(O .i64) a0,Ar a1] [.cells 187 [(.loc 0 0),(.arr 1 b1.length 0 b1.length)],.rows 5 1 (List.map (O .u8) b1)] ((O .i64) r.1) [.cells 187 [(.loc 0 0),(.arr 1 r.2.length 0 r.2.length)],.rows 5 1 (List.map (O .u8) r.2)]:=⟨fun {r} h=>by
 refine aw C0 true Tryz.func182 ?_
 refine ZS ?_
 refine Bw ?_
 refine ZO ?_
 refine Ay (Ix (Ay ?_))
 refine Cg h (fun v1=>[(7,(Ar v1))]) (fun v1=>[]) ?_ ?_
 intro _ h _ _ _
 exact Y
 rintro v1 _ h
 refine An h (fun _ h=>?_) (fun _ h=>?_)
 refine Z ?_
 refine A9 [0,1] h (fun _ h=>?_)
 exact Y
 refine Z ?_
 refine An h (fun _ h=>?_) (fun _ h=>?_)
 refine Z ?_
 refine A9 [0,1] h (fun _ h=>?_)
 exact Y
 refine Z ?_
 refine An h (fun _ h=>?_) (fun _ h=>?_)
 refine Z ?_
 refine A9 [0,1] h (fun _ h=>?_)
 exact Y
 exact Y⟩
instance {a0 a1:Int}:OK (Ki a0 a1) fun r=>Aw Tryz.prog 183 [(O .i64) a0,(O .i64) a1] (Ek r):=⟨fun {r} h=>by
 exact Ap5 h⟩
end Go.Ab
namespace Go.Ab
open Go Go.Proofs
set_option maxRecDepth 10000
set_option maxHeartbeats 4000000
set_option linter.unusedVariables false
instance {a0:Ct}:OK (Ly a0) fun r=>Aw Tryz.prog 121 [K8 a0] (Ek r):=⟨fun {r} h=>by
 refine pw C0 Tryz.func121 ?_
 refine Z ?_
 refine Bh h (fun _ h=>?_)
 refine Z ?_
 refine An h (fun _ h=>?_) (fun _ h=>?_)
 exact Y
 refine ZS ?_
 refine Bw ?_
 refine ZO ?_
 refine Ay (Ay ?_)
 refine C4 [.own 3 1 5 1] ?_
 refine Z ?_
 refine P1 ?_
 refine Z ?_
 refine An h (fun _ h=>?_) (fun _ h=>?_)
 refine Mn (Ay ?_)
 refine Cg h (fun (v30,o31)=>[(4,(O .i64 0)),(6,(O .i64 v30))]) (fun (v30,o31)=>[(1,.cells 187 [(.loc 1 0),(.arr 2 o31.length 0 o31.length)]),(2,.rows 5 1 (List.map (O .u8) o31))]) ?_ ?_
 intro _ h _ _ _
 refine Z ?_
 refine Bx h (fun _ v5 _ _ h=>?_)
 refine Z ?_
 refine C5 h (fun v7 hcv7 h=>?_)
 rcases v7 with v8 | v9
 refine Fy.act [1,2] _ _ _ _ (Ahw (a0:=v5.Coef) (a1:=true) (b1:=[]) hcv7) rfl rfl ⟨rfl,rfl,trivial⟩ ?_
 refine ZS ?_
 refine Bw ?_
 refine ZO ?_
 refine Cg h (fun o14=>[]) (fun o14=>[(1,.cells 187 [(.loc 1 0),(.arr 2 o14.length 0 o14.length)]),(2,.rows 5 1 (List.map (O .u8) o14))]) ?_ ?_
 intro _ h _ _ _
 refine An h (fun _ h=>?_) (fun _ h=>?_)
 refine Z ?_
 refine Bh h (fun _ h=>?_)
 refine Z ?_
 refine Fr h (fun h=>?_)
 refine Z ?_
 refine A9 [1,2] h (fun _ h=>?_)
 exact Y
 exact Y
 rintro o14 _ h
 refine Z ?_
 refine An h (fun _ h=>?_) (fun _ h=>?_)
 refine Z ?_
 refine A9 [1,2] h (fun _ h=>?_)
 exact Y
 refine Z ?_
 refine Bh h (fun _ h=>?_)
 refine Z ?_
 refine Fr h (fun h=>?_)
 refine Z ?_
 refine A9 [1,2] h (fun _ h=>?_)
 exact Y
 refine Fy.act [1,2] _ _ _ _ (Ahx (a0:=v5.Coef) (a1:=true) (b1:=[]) hcv7) rfl rfl ⟨rfl,rfl,trivial⟩ ?_
 refine Z ?_
 refine An h (fun _ h=>?_) (fun _ h=>?_)
 refine Z ?_
 refine Bh h (fun _ h=>?_)
 refine Z ?_
 refine Fr h (fun h=>?_)
 refine Z ?_
 refine A9 [1,2] h (fun _ h=>?_)
 refine Z ?_
 refine An h (fun _ h=>?_) (fun _ h=>?_)
 refine Z ?_
 refine A9 [1,2] h (fun _ h=>?_)
 exact Y
 refine Z ?_
 refine Bh h (fun _ h=>?_)
 refine Z ?_
 refine Fr h (fun h=>?_)
 refine Z ?_
 refine A9 [1,2] h (fun _ h=>?_)
 exact Y
 refine Z ?_
 refine An h (fun _ h=>?_) (fun _ h=>?_)
 refine Z ?_
 refine A9 [1,2] h (fun _ h=>?_)
 exact Y
 refine Z ?_
 refine Bh h (fun _ h=>?_)
 refine Z ?_
 refine Fr h (fun h=>?_)
 refine Z ?_
 refine A9 [1,2] h (fun _ h=>?_)
 exact Y
 rintro ⟨v30,o31⟩ _ h
 refine Z ?_
 refine A5 h (fun (v43,o44)=>[(13,(O .i64 v43))]) (fun (v43,o44)=>[(1,.cells 187 [(.loc 1 0),(.arr 2 o44.length 0 o44.length)]),(2,.rows 5 1 (List.map (O .u8) o44))]) ?_
 rintro ⟨v43,o44⟩ _ _ _ h _ _
 refine Z ?_
 refine An h (fun _ h=>?_) (fun _ h=>?_)
 refine Z ?_
 refine Bx h (fun _ _ _ _ h=>?_)
 refine Z ?_
 refine A9 [1,2] h (fun _ h=>?_)
 refine ZS ?_
 refine Bw ?_
 refine ZO ?_
 refine Cg h (fun o51=>[]) (fun o51=>[(1,.cells 187 [(.loc 1 0),(.arr 2 o51.length 0 o51.length)]),(2,.rows 5 1 (List.map (O .u8) o51))]) ?_ ?_
 intro _ h _ _ _
 refine An h (fun _ h=>?_) (fun _ h=>?_)
 refine Z ?_
 refine Bh h (fun _ h=>?_)
 refine Z ?_
 refine Fr h (fun h=>?_)
 refine Z ?_
 refine A9 [1,2] h (fun _ h=>?_)
 exact Y
 exact Y
 rintro o51 _ h
 refine Z ?_
 refine An h (fun _ h=>?_) (fun _ h=>?_)
 refine Z ?_
 refine A9 [1,2] h (fun _ h=>?_)
 exact Y
 refine Z ?_
 refine Bh h (fun _ h=>?_)
 refine Z ?_
 refine Fr h (fun h=>?_)
 refine Z ?_
 refine A9 [1,2] h (fun _ h=>?_)
 exact Y
 replace h:=B9 h
 refine Ez (Ew rfl (Ay (Ay ?_)))
 refine Cg h (fun v57=>[(47,(Ar v57))]) (fun v57=>[]) ?_ ?_
 intro _ h _ _ _
 exact Y
 rintro v57 _ h
 refine An h (fun _ h=>?_) (fun _ h=>?_)
 refine Z ?_
 refine A9 [1,2] h (fun _ h=>?_)
 refine Z ?_
 refine Bh h (fun _ h=>?_)
 refine Z ?_
 refine A9 [1,2] h (fun _ h=>?_)
 refine Z ?_
 refine A9 [1,2] h (fun _ h=>?_)
 exact Y
 refine Z ?_
 refine A9 [1,2] h (fun _ h=>?_)
 exact Y
 refine Ez (Ew rfl (Ay (Ay ?_)))
 refine Cg h (fun v63=>[(47,(Ar v63))]) (fun v63=>[]) ?_ ?_
 intro _ h _ _ _
 exact Y
 rintro v63 _ h
 refine An h (fun _ h=>?_) (fun _ h=>?_)
 refine Z ?_
 refine C5 h (fun v64 hcv64 h=>?_)
 rcases v64 with v65 | v66
 refine Fy.act [1,2] _ _ _ _ (Ahw (a0:=a0.Const) (a1:=((a0.Terms.length:Int)==(0:Int))) (b1:=[]) hcv64) rfl rfl ⟨rfl,rfl,trivial⟩ ?_
 refine Z ?_
 refine Bh h (fun _ h=>?_)
 refine Z ?_
 refine A9 [1,2] h (fun _ h=>?_)
 refine Z ?_
 refine A9 [1,2] h (fun _ h=>?_)
 exact Y
 refine Fy.act [1,2] _ _ _ _ (Ahx (a0:=a0.Const) (a1:=((a0.Terms.length:Int)==(0:Int))) (b1:=[]) hcv64) rfl rfl ⟨rfl,rfl,trivial⟩ ?_
 refine Z ?_
 refine Bh h (fun _ h=>?_)
 refine Z ?_
 refine A9 [1,2] h (fun _ h=>?_)
 refine Z ?_
 refine A9 [1,2] h (fun _ h=>?_)
 exact Y
 refine Z ?_
 refine A9 [1,2] h (fun _ h=>?_)
 exact Y⟩
instance {a0:Bc}:OK (Sy a0) fun r=>Aw Tryz.prog 66 [Gn a0] (Ek r):=⟨fun {r} h=>by
 refine pw C0 Tryz.func66 ?_
 refine ZS ?_
 refine Bw ?_
 refine ZS ?_
 refine Bw ?_
 refine ZO ?_
 refine Ay (Ay ?_)
 refine C4 [.own 3 1 5 1] ?_
 refine Z ?_
 refine P1 ?_
 refine Z ?_
 refine An h (fun _ h=>?_) (fun _ h=>?_)
 refine Z ?_
 refine Bx h (fun _ _ _ _ h=>?_)
 refine Z ?_
 refine Bh h (fun _ h=>?_)
 refine Z ?_
 refine A9 [1,2] h (fun _ h=>?_)
 refine Z ?_
 refine A5 h (fun (v18,o19)=>[(11,(O .i64 v18))]) (fun (v18,o19)=>[(1,.cells 187 [(.loc 1 0),(.arr 2 o19.length 0 o19.length)]),(2,.rows 5 1 (List.map (O .u8) o19))]) ?_
 rintro ⟨v18,o19⟩ _ _ _ h _ _
 refine Z ?_
 refine An h (fun _ h=>?_) (fun _ h=>?_)
 refine Z ?_
 refine Bx h (fun _ _ _ _ h=>?_)
 refine Z ?_
 refine Bh h (fun _ h=>?_)
 refine Z ?_
 refine A9 [1,2] h (fun _ h=>?_)
 exact Y
 replace h:=B9 h
 refine Z ?_
 refine P1 ?_
 refine Z ?_
 refine An h (fun _ h=>?_) (fun _ h=>?_)
 refine Z ?_
 refine Bx h (fun _ _ _ _ h=>?_)
 refine Z ?_
 refine Bh h (fun _ h=>?_)
 refine Z ?_
 refine Fr h (fun h=>?_)
 refine Z ?_
 refine Fr h (fun h=>?_)
 refine Z ?_
 refine Bh h (fun _ h=>?_)
 refine Z ?_
 refine Fr h (fun h=>?_)
 refine Z ?_
 refine A9 [1,2] h (fun _ h=>?_)
 refine Z ?_
 refine A5 h (fun (v51,o52)=>[(25,(O .i64 v51))]) (fun (v51,o52)=>[(1,.cells 187 [(.loc 1 0),(.arr 2 o52.length 0 o52.length)]),(2,.rows 5 1 (List.map (O .u8) o52))]) ?_
 rintro ⟨v51,o52⟩ _ _ _ h _ _
 refine Z ?_
 refine An h (fun _ h=>?_) (fun _ h=>?_)
 refine Z ?_
 refine Bx h (fun _ _ _ _ h=>?_)
 refine Z ?_
 refine Bh h (fun _ h=>?_)
 refine Z ?_
 refine Fr h (fun h=>?_)
 refine Z ?_
 refine Fr h (fun h=>?_)
 refine Z ?_
 refine Bh h (fun _ h=>?_)
 refine Z ?_
 refine Fr h (fun h=>?_)
 refine Z ?_
 refine A9 [1,2] h (fun _ h=>?_)
 exact Y
 replace h:=B9 h
 refine Z ?_
 refine A9 [1,2] h (fun _ h=>?_)
 exact Y
 refine Z ?_
 refine A9 [1,2] h (fun _ h=>?_)
 exact Y
 refine Z ?_
 refine P1 ?_
 refine Z ?_
 refine An h (fun _ h=>?_) (fun _ h=>?_)
 refine Z ?_
 refine Bx h (fun _ _ _ _ h=>?_)
 refine Z ?_
 refine Bh h (fun _ h=>?_)
 refine Z ?_
 refine Fr h (fun h=>?_)
 refine Z ?_
 refine Fr h (fun h=>?_)
 refine Z ?_
 refine Bh h (fun _ h=>?_)
 refine Z ?_
 refine Fr h (fun h=>?_)
 refine Z ?_
 refine A9 [1,2] h (fun _ h=>?_)
 refine Z ?_
 refine A5 h (fun (v90,o91)=>[(25,(O .i64 v90))]) (fun (v90,o91)=>[(1,.cells 187 [(.loc 1 0),(.arr 2 o91.length 0 o91.length)]),(2,.rows 5 1 (List.map (O .u8) o91))]) ?_
 rintro ⟨v90,o91⟩ _ _ _ h _ _
 refine Z ?_
 refine An h (fun _ h=>?_) (fun _ h=>?_)
 refine Z ?_
 refine Bx h (fun _ _ _ _ h=>?_)
 refine Z ?_
 refine Bh h (fun _ h=>?_)
 refine Z ?_
 refine Fr h (fun h=>?_)
 refine Z ?_
 refine Fr h (fun h=>?_)
 refine Z ?_
 refine Bh h (fun _ h=>?_)
 refine Z ?_
 refine Fr h (fun h=>?_)
 refine Z ?_
 refine A9 [1,2] h (fun _ h=>?_)
 exact Y
 replace h:=B9 h
 refine Z ?_
 refine A9 [1,2] h (fun _ h=>?_)
 exact Y
 refine Z ?_
 refine A9 [1,2] h (fun _ h=>?_)
 exact Y⟩
instance {a0:List Ai} {b1:List (ByteArray×Int)} {b2:List Ai}:OK (P7 a0 b1 b2) fun r=>Br Tryz.prog 24 [(.loc 0 0),(As 5 Bt) a0] [.cells 124 [(.mp 1),(.arr 2 b2.length 0 b2.length)],.map (Bd (O .i64) b1),.rows 42 5 (List.map Bt b2)] (.tup []) [.cells 124 [(.mp 1),(.arr 2 r.2.length 0 r.2.length)],.map (Bd (O .i64) r.1),.rows 42 5 (List.map Bt r.2)]:=⟨fun {r} h=>by
 refine aw C0 true Tryz.func24 ?_
 refine Z ?_
 refine A5 h (fun (v10,o11,o12)=>[(11,(O .i64 v10))]) (fun (v10,o11,o12)=>[(0,.cells 124 [(.mp 1),(.arr 2 o12.length 0 o12.length)]),(1,.map (Bd (O .i64) o11)),(2,.rows 42 5 (List.map Bt o12))]) ?_
 rintro ⟨v10,o11,o12⟩ _ _ _ h _ hn1
 refine Z ?_
 refine An h (fun _ h=>?_) (fun _ h=>?_)
 refine Z ?_
 refine Bx h (fun _ _ _ _ h=>?_)
 refine Z ?_
 refine Bh h (fun _ h=>?_)
 refine ZO ?_
 refine Ay (Ay ?_)
 refine Cg h (fun (v16,v17)=>[(7,(O .i64 v16)),(8,(Ar v17))]) (fun (v16,v17)=>[]) ?_ ?_
 intro _ h _ _ _
 refine Z ?_
 refine Pz (f:=(O .i64)) (l:=o11) rfl (0:Int) h (fun j_ hb h=>?_) (fun hb h=>?_)
 exact Y
 exact Y
 rintro ⟨v16,v17⟩ _ h
 refine Z ?_
 refine An h (fun _ h=>?_) (fun _ h=>?_)
 refine Z ?_
 refine I4 h (fun _ _ _ _ h=>?_)
 refine Z ?_
 refine Bh h (fun v19 h=>?_)
 refine Z ?_
 refine I4 h (fun _ v20 hiv20 _ h=>?_)
 refine Z ?_
 refine Lp (f:=Bt) (x:=(Ai.mk v19 v20.Mono)) (j:=v16) rfl rfl (Nat.zero_add _) hiv20 ?_
 refine Z ?_
 exact hn1 _ _ _ _ (Option.some.inj h) ⟨rfl,trivial⟩ ⟨⟨rfl,rfl⟩,⟨rfl,rfl⟩,⟨congrArg (fun q_=>Bf.cells 124 [(.mp 1),(.arr 2 q_ 0 q_)]) (Gd (l:=o12) rfl v16 (Ai.mk v19 v20.Mono)),rfl⟩,trivial⟩ trivial
 refine Z ?_
 refine N6 (f:=(O .i64)) (l:=o11) (x:=((o12.length:Nat):Int)) rfl rfl ?_
 exact Y
 exact Y⟩
abbrev Ahy (k:Nat):Prop:=∀{a0:Be},OK (Om k a0) fun r=>Aw Tryz.prog 195 [F7 a0] (F7 r)
theorem Aq3 (k:Nat):Ahy k:=by
 induction k with
 | zero=>exact okz
 | succ k ih=>
  refine @fun a0=>⟨fun {r} h=>?_⟩
  .unfold Om at h
   refine pw {T:=Ce,an:=(fun _=>.ask),nl:=(fun s=>bif Nat.beq s 17 then [(0,2)] else [])} Tryz.func195 ?_
   refine ZS ?_
   refine Bw ?_
   refine ZS ?_
   refine Bw ?_
   refine ZO ?_
   refine Ay (Ay ?_)
   refine C4 [.own 3 1 69 2] ?_
   refine Z ?_
   refine A5 h (fun (v15,o16)=>[(12,(O .i64 v15))]) (fun (v15,o16)=>[(2,.cells 69 [(O .i64 a0.Num),(.arr 3 o16.length 0 o16.length)]),(3,.rows 69 2 (Hr o16))]) ?_
   rintro ⟨v15,o16⟩ _ _ _ h _ _
   exact Y
instance {k:Nat}:Ahy k:=(Aq3 k)
instance {a0:Bc}:OK (Te a0) fun r=>Aw Tryz.prog 129 [Gn a0] (Gn r):=⟨fun {r} h=>by
 refine pw {T:=Ce,an:=(fun _=>.ask),nl:=(fun s=>bif Nat.beq s 44 then [(0,3)] else bif Nat.beq s 17 then [(0,3)] else [])} Tryz.func129 ?_
 refine ZS ?_
 refine Bw ?_
 refine ZS ?_
 refine Bw ?_
 refine ZO ?_
 refine Ay (Ay ?_)
 refine C4 [.own 3 0 72 3,.own 3 1 84 3] ?_
 refine Z ?_
 refine A5 h (fun (v16,o17)=>[(12,(O .i64 v16))]) (fun (v16,o17)=>[(2,.cells 40 [(.arr 3 o17.length 0 o17.length),(.arr 4 0 0 0)]),(3,.rows 72 3 (List.map Dh o17))]) ?_
 rintro ⟨v16,o17⟩ _ _ _ h _ _
 refine Z ?_
 refine An h (fun _ h=>?_) (fun _ h=>?_)
 exact Y
 replace h:=B9 h
 refine Z ?_
 refine A5 h (fun (v35,o36)=>[(31,(O .i64 v35))]) (fun (v35,o36)=>[(2,.cells 40 [(.arr 3 o17.length 0 o17.length),(.arr 4 o36.length 0 o36.length)]),(4,.rows 84 3 (List.map Dn o36))]) ?_
 rintro ⟨v35,o36⟩ _ _ _ h _ _
 exact Y⟩
instance {a0:List Ai}:OK (Sz a0) fun r=>Aw Tryz.prog 70 [(As 5 Bt) a0] ((As 5 Bt) r):=⟨fun {r} h=>by
 refine pw {T:=Ce,an:=(fun s=>bif Nat.beq s 3 then .own else .ask),nl:=(fun s=>bif Nat.beq s 3 then [(0,5)] else bif Nat.beq s 2 then [(0,5)] else [])} Tryz.func70 ?_
 refine Z ?_
 refine A5 h (fun (v14,o15)=>[(3,(.arr 0 o15.length 0 o15.length)),(8,(O .i64 v14))]) (fun (v14,o15)=>[(0,.rows 42 5 (List.map Bt o15))]) ?_
 rintro ⟨v14,o15⟩ _ _ _ h _ _
 exact Y⟩
instance {a0 a1:Ai}:OK (Lw a0 a1) fun r=>Aw Tryz.prog 68 [Bt a0,Bt a1] ((O .i64) r):=⟨fun {r} h=>by
 refine pw C0 Tryz.func68 ?_
 exact Y⟩
instance {a0 a1:Int} {b0:List Ai}:OK (Tp a0 a1 b0) fun r=>Br Tryz.prog 184 [(.arr 0 b0.length 0 b0.length),(O .i64) a0,(O .i64) a1,(.fn 68 [])] [.rows 42 5 (List.map Bt b0)] (.tup []) [.rows 42 5 (List.map Bt r)]:=⟨fun {r} h=>by
 refine aw C0 true Tryz.func184 ?_
 refine Z ?_
 refine Ep h (fun (v21,o22)=>[(8,(O .i64 v21))]) (fun (v21,o22)=>[(0,.rows 42 5 (List.map Bt o22))]) (fun (v21,o22)=>b0.length=o22.length) ?_
 rintro ⟨v21,o22⟩ _ _ _ h _ _ q22
 refine Z ?_
 refine An h (fun _ h=>?_) (fun _ h=>?_)
 refine Z ?_
 refine Ep h (fun (v31,o32)=>[(9,(O .i64 v31))]) (fun (v31,o32)=>[(0,.rows 42 5 (List.map Bt o32))]) (fun (v31,o32)=>b0.length=o32.length) ?_
 rintro ⟨v31,o32⟩ _ _ _ h _ _ q32
 refine Ay (Ay ?_)
 refine Cg h (fun v36=>[(34,(Ar v36))]) (fun v36=>[]) ?_ ?_
 intro _ h _ _ _
 exact Y
 rintro v36 _ h
 exact Y
 exact Y⟩
instance {a0 a1 a2:Int} {b0:List Ai}:OK (Tb a0 a1 a2 b0) fun r=>Br Tryz.prog 122 [(.arr 0 b0.length 0 b0.length),(O .i64) a0,(O .i64) a1,(O .i64) a2,(.fn 68 [])] [.rows 42 5 (List.map Bt b0)] (.tup []) [.rows 42 5 (List.map Bt r)]:=⟨fun {r} h=>by
 refine aw C0 true Tryz.func122 ?_
 refine Z ?_
 refine A5 h (fun _=>[(1,(O .i64 a0)),(2,(O .i64 a1)),(3,(O .i64 a2)),(10,(Ar true)),(11,(Ar true))]) (fun _=>[]) ?_
 rintro _ _ _ _ h _ _
 refine Z ?_
 refine An h (fun _ h=>?_) (fun _ h=>?_)
 refine Z ?_
 refine A9 [0] h (fun _ h=>?_)
 refine C5 h (fun v2 hgv2 h=>?_)
 exact Y
 exact Y⟩
theorem Aq4 {b0:List Ai} {r:(List Ai)} (h:Abr b0=some r):Br Tryz.prog 67 [(.arr 0 b0.length 0 b0.length),(.fn 68 [])] [.rows 42 5 (List.map Bt b0)] (.tup []) [.rows 42 5 (List.map Bt r)]:=by
 refine aw C0 true Tryz.func67 ?_
 refine Z ?_
 refine Bh h (fun _ h=>?_)
 refine Z ?_
 refine A9 [0] h (fun _ h=>?_)
 refine C5 h (fun v3 hgv3 h=>?_)
 exact Y
instance {b0:List Ai}:OK (Lv b0) fun r=>Br Tryz.prog 67 [(.arr 0 b0.length 0 b0.length),(.fn 68 [])] [.rows 42 5 (List.map Bt b0)] (.tup []) [.rows 42 5 (List.map Bt r)]:=⟨fun {r} h=>by
 unfold Lv at h
 cases hb:Nat.ble b0.length 12 with
 | true=>rw [hb] at h; exact Aq4 h
 | false=>rw [hb] at h; exact Aqk (eA:=Bt) (cmp:=Lw) (g:=68) (enters_of Tryz.func68 (by kernel_rfl) rfl) (fun x y n h=>(OK.ok h :)) (fun x=>⟨_,rfl⟩) h (by rintro rfl; cases hb)⟩
instance {b1:List (ByteArray×Int)} {b2:List Ai}:OK (P8 b1 b2) fun r=>Br Tryz.prog 25 [(.loc 0 0)] [.cells 124 [(.mp 1),(.arr 2 b2.length 0 b2.length)],.map (Bd (O .i64) b1),.rows 42 5 (List.map Bt b2)] (.tup [(As 5 Bt) r.1,(O .i64) r.2]) [.cells 124 [(.mp 1),(.arr 2 b2.length 0 b2.length)],.map (Bd (O .i64) b1),.rows 42 5 (List.map Bt b2)]:=⟨fun {r} h=>by
 refine aw {T:=Ce,an:=(fun s=>bif Nat.beq s 4 then .own else .ask),nl:=(fun s=>bif Nat.beq s 4 then [(0,5)] else bif Nat.beq s 2 then [(0,5)] else [])} true Tryz.func25 ?_
 refine Z ?_
 refine A5 h (fun (v12,o13)=>[(4,(.arr 3 o13.length 0 o13.length)),(12,(O .i64 v12))]) (fun (v12,o13)=>[(3,.rows 42 5 (List.map Bt o13))]) ?_
 rintro ⟨v12,o13⟩ _ _ _ h _ _
 refine Z ?_
 refine An h (fun _ h=>?_) (fun _ h=>?_)
 exact Y
 replace h:=B9 h
 refine Z ?_
 refine An h (fun _ h=>?_) (fun _ h=>?_)
 exact Y
 refine Z ?_
 refine A9 [3] h (fun _ h=>?_)
 refine C5 h (fun v20 hgv20 h=>?_)
 refine ZO ?_
 refine Ay ?_
 refine C4 [.fz 4] ?_
 exact Y⟩
instance {a0:Cw} {a1:List Ai}:OK (Sr a0 a1) fun r=>Aw Tryz.prog 8 [H9 a0,(As 5 Bt) a1] (.tup [(As 5 Bt) r.1,(O .i64) r.2]):=⟨fun {r} h=>by
 refine pw {T:=Ce,an:=(fun _=>.ask),nl:=(fun s=>bif Nat.beq s 84 then [(0,3)] else bif Nat.beq s 4 then [(0,5)] else [])} Tryz.func8 ?_
 refine Z ?_
 refine C5 h (fun v2 hcv2 h=>?_)
 rcases v2 with v3 | v8
 refine Fy.act [] _ _ _ _ (Br.sub (args:=[_,.val (.slice none 0 0)]) (Aht (a0:=a0) (a1:=[]) hcv2) ⟨Sub.refl _,Sub.nil _,trivial⟩) rfl rfl trivial ?_
 refine Z ?_
 refine An h (fun _ h=>?_) (fun _ h=>?_)
 exact Y
 refine Z ?_
 refine A5 h (fun (v12,o13)=>[(4,(.sl 5 (List.map Bt []))),(5,(O .i64 0)),(31,(O .i64 v12))]) (fun (v12,o13)=>[(2,.map (Bd (O .i64) o13))]) ?_
 rintro ⟨v12,o13⟩ _ _ _ h _ _
 refine Z ?_
 refine An h (fun _ h=>?_) (fun _ h=>?_)
 refine Z ?_
 refine Bx h (fun _ _ _ _ h=>?_)
 refine Z ?_
 refine A9 [4,2,3] h (fun _ h=>?_)
 exact Y
 replace h:=B9 h
 refine Z ?_
 refine A5 h (fun (v23,o24)=>[(4,(.sl 5 (List.map Bt []))),(5,(O .i64 0)),(43,(O .i64 v23))]) (fun (v23,o24)=>[(2,.map (Bd (O .i64) o24))]) ?_
 rintro ⟨v23,o24⟩ _ _ _ h _ _
 refine Z ?_
 refine An h (fun _ h=>?_) (fun _ h=>?_)
 refine Z ?_
 refine Bx h (fun _ _ _ _ h=>?_)
 refine Z ?_
 refine A9 [4,2,3] h (fun _ h=>?_)
 exact Y
 replace h:=B9 h
 refine Z ?_
 refine An h (fun _ h=>?_) (fun _ h=>?_)
 exact Y
 refine Z ?_
 refine A9 [] h (fun _ h=>?_)
 refine Z ?_
 refine A5 h (fun (v98,o99,o100,o101,o102)=>[(4,(.sl 5 (List.map Bt []))),(5,(O .i64 0)),(59,(O .i64 v98))]) (fun (v98,o99,o100,o101,o102)=>[(2,.map (Bd (O .i64) o99)),(3,.map (Bd (As 5 C6) o100)),(5,.map (Bd (O .i64) o101)),(6,.cells 124 [(.mp 5),(.arr 7 o102.length 0 o102.length)]),(7,.rows 42 5 (List.map Bt o102))]) ?_
 rintro ⟨v98,o99,o100,o101,o102⟩ _ _ _ h _ _
 refine Z ?_
 refine An h (fun _ h=>?_) (fun _ h=>?_)
 refine Z ?_
 refine Bx h (fun _ v103 _ _ h=>?_)
 refine ZS ?_
 refine Bw ?_
 refine ZO ?_
 refine Ay (Ay ?_)
 refine C4 [.own 15 1 84 3] ?_
 refine Z ?_
 refine A5 h (fun (v119,o120)=>[(4,(.sl 5 (List.map Bt []))),(5,(O .i64 0)),(71,(O .i64 v119))]) (fun (v119,o120)=>[(9,.cells 40 [(.sl 3 (List.map Dh v103.Mono.Factors)),(.arr 10 o120.length 0 o120.length)]),(10,.rows 84 3 (List.map Dn o120))]) ?_
 rintro ⟨v119,o120⟩ _ _ _ h _ _
 refine Z ?_
 refine An h (fun _ h=>?_) (fun _ h=>?_)
 exact Y
 replace h:=B9 h
 refine Ez (Ew rfl (Ay ?_))
 refine C4 [.fzc 15 1] ?_
 refine Z ?_
 refine A9 [4,2,3] h (fun _ h=>?_)
 refine Z ?_
 refine Fq h (fun _ h=>?_) (fun _ h=>?_)
 exact Y
 refine Z ?_
 refine An h (fun _ h=>?_) (fun _ h=>?_)
 exact Y
 refine Z ?_
 refine A9 [6,5,7] h (fun _ h=>?_)
 exact Y
 replace h:=B9 h
 refine Z ?_
 refine A9 [6,5,7] h (fun _ h=>?_)
 exact Y
 refine Fy.act [] _ _ _ _ (Br.sub (args:=[_,.val (.slice none 0 0)]) (Ahu (a0:=a0) (a1:=[]) hcv2) ⟨Sub.refl _,Sub.nil _,trivial⟩) rfl rfl trivial ?_
 refine Z ?_
 refine An h (fun _ h=>?_) (fun _ h=>?_)
 exact Y
 refine Z ?_
 refine A5 h (fun v142=>[(4,(.sl 5 (List.map Bt []))),(5,(O .i64 0)),(31,(O .i64 v142))]) (fun v142=>[]) ?_
 rintro v142 _ _ _ h _ _
 refine Z ?_
 refine An h (fun _ h=>?_) (fun _ h=>?_)
 exact Y
 replace h:=B9 h
 refine Z ?_
 refine A5 h (fun v151=>[(4,(.sl 5 (List.map Bt []))),(5,(O .i64 0)),(43,(O .i64 v151))]) (fun v151=>[]) ?_
 rintro v151 _ _ _ h _ _
 refine Z ?_
 refine An h (fun _ h=>?_) (fun _ h=>?_)
 exact Y
 replace h:=B9 h
 refine Z ?_
 refine An h (fun _ h=>?_) (fun _ h=>?_)
 exact Y
 refine Z ?_
 refine A9 [] h (fun _ h=>?_)
 refine Z ?_
 refine A5 h (fun (v222,o223,o224)=>[(4,(.sl 5 (List.map Bt []))),(5,(O .i64 0)),(59,(O .i64 v222))]) (fun (v222,o223,o224)=>[(1,.map (Bd (O .i64) o223)),(2,.cells 124 [(.mp 1),(.arr 3 o224.length 0 o224.length)]),(3,.rows 42 5 (List.map Bt o224))]) ?_
 rintro ⟨v222,o223,o224⟩ _ _ _ h _ _
 refine Z ?_
 refine An h (fun _ h=>?_) (fun _ h=>?_)
 refine Z ?_
 refine Bx h (fun _ v225 _ _ h=>?_)
 refine ZS ?_
 refine Bw ?_
 refine ZO ?_
 refine Ay (Ay ?_)
 refine C4 [.own 15 1 84 3] ?_
 refine Z ?_
 refine A5 h (fun (v241,o242)=>[(4,(.sl 5 (List.map Bt []))),(5,(O .i64 0)),(71,(O .i64 v241))]) (fun (v241,o242)=>[(5,.cells 40 [(.sl 3 (List.map Dh v225.Mono.Factors)),(.arr 6 o242.length 0 o242.length)]),(6,.rows 84 3 (List.map Dn o242))]) ?_
 rintro ⟨v241,o242⟩ _ _ _ h _ _
 refine Z ?_
 refine An h (fun _ h=>?_) (fun _ h=>?_)
 exact Y
 replace h:=B9 h
 refine Ez (Ew rfl (Ay ?_))
 refine C4 [.fzc 15 1] ?_
 refine Z ?_
 refine Bh h (fun _ h=>?_)
 refine Z ?_
 refine Fq h (fun _ h=>?_) (fun _ h=>?_)
 exact Y
 refine Z ?_
 refine An h (fun _ h=>?_) (fun _ h=>?_)
 exact Y
 refine Z ?_
 refine A9 [2,1,3] h (fun _ h=>?_)
 exact Y
 replace h:=B9 h
 refine Z ?_
 refine A9 [2,1,3] h (fun _ h=>?_)
 exact Y⟩
instance {a0 a1:Ak}:OK (P5 a0 a1) fun r=>Aw Tryz.prog 16 [B0 a0,B0 a1] (.tup [B0 r.1,Ar r.2]):=⟨fun {r} h=>by
 refine pw C0 Tryz.func16 ?_
 exact Y⟩
instance {a0 a1:Int}:OK (P2 a0 a1) fun r=>Aw Tryz.prog 6 [(O .i64) a0,(O .i64) a1] (B0 r):=⟨fun {r} h=>by
 refine pw C0 Tryz.func6 ?_
 exact Y⟩
instance {a0:List Int} {a1 a2:Int}:OK (Wn a0 a1 a2) fun r=>Aw Tryz.prog 3 [(As 1 (O .i8)) a0,(O .u8) a1,(O .u8) a2] (Ar r):=⟨fun {r} h=>by
 refine pw {T:=Ce,an:=(fun s=>bif Nat.beq s 9 then .own else .ask),nl:=(fun s=>bif Nat.beq s 41 then [(3,3),(4,3)] else bif Nat.beq s 9 then [(0,5)] else [])} Tryz.func3 ?_
 refine Z ?_
 refine Bh h (fun _ h=>?_)
 refine Z ?_
 refine An h (fun _ h=>?_) (fun _ h=>?_)
 exact Y
 refine Z ?_
 refine Bh h (fun _ h=>?_)
 refine Z ?_
 refine Sn h (fun _ h=>?_)
 refine Z ?_
 refine A5 h (fun (v18,o19)=>[(9,(.arr 1 o19.length 0 o19.length)),(10,(O .i64 v18))]) (fun (v18,o19)=>[(1,.rows 42 5 (List.map Bt o19))]) ?_
 rintro ⟨v18,o19⟩ _ _ _ h _ _
 refine Z ?_
 refine An h (fun _ h=>?_) (fun _ h=>?_)
 exact Y
 replace h:=B9 h
 refine Ez (Ew rfl (Ay ?_))
 refine C4 [.fz 9] ?_
 exact Y⟩
end Go.Ab
