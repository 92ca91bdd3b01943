/- The contracts of the functions, each by its walk (made by a program). -/
import Derived.Test.YtpedagkdpokpkaaGreatDoorAkV0
namespace Go.Ab
open Go Go.Proofs
set_option maxRecDepth 10000
set_option maxHeartbeats 4000000
set_option linter.unusedVariables false
instance {a0:Ce}:OK (W8 a0) fun r=>Ar Tryz.prog 78 [Fx a0] (D4 r):=⟨fun {r} h=>by
 refine pw C0 Tryz.func78 ?_
 refine ZS ?_
 refine Bv ?_
 refine ZS ?_
 refine Bv ?_
 refine ZO ?_
 refine Au (Au ?_)
 refine C5 [.own 3 1 5 1] ?_
 refine Z ?_
 refine So ?_
 refine Z ?_
 refine Am h (fun _ h=>?_) (fun _ h=>?_)
 refine Z ?_
 refine B7 h (fun _ _ _ _ h=>?_)
 refine Z ?_
 refine Be h (fun _ h=>?_)
 refine Z ?_
 refine A7 [1,2] h (fun _ h=>?_)
 refine Z ?_
 refine A6 h (fun (v18,o19)=>[(11,(O .i64 v18))]) (fun (v18,o19)=>[(1,.cells 178 [(.loc 1 0),(.arr 2 o19.length 0 o19.length)]),(2,.rows 5 1 (List.map (O .u8) o19))]) ?_
 rintro ⟨v18,o19⟩ _ _ _ h _ _
 refine Z ?_
 refine Am h (fun _ h=>?_) (fun _ h=>?_)
 refine Z ?_
 refine B7 h (fun _ _ _ _ h=>?_)
 refine Z ?_
 refine Be h (fun _ h=>?_)
 refine Z ?_
 refine A7 [1,2] h (fun _ h=>?_)
 exact Y
 replace h:=Cf h
 refine Z ?_
 refine So ?_
 refine Z ?_
 refine Am h (fun _ h=>?_) (fun _ h=>?_)
 refine Z ?_
 refine B7 h (fun _ _ _ _ h=>?_)
 refine Z ?_
 refine Be h (fun _ h=>?_)
 refine Z ?_
 refine Ev h (fun h=>?_)
 refine Z ?_
 refine Ev h (fun h=>?_)
 refine Z ?_
 refine Be h (fun _ h=>?_)
 refine Z ?_
 refine Ev h (fun h=>?_)
 refine Z ?_
 refine A7 [1,2] h (fun _ h=>?_)
 refine Z ?_
 refine A6 h (fun (v51,o52)=>[(25,(O .i64 v51))]) (fun (v51,o52)=>[(1,.cells 178 [(.loc 1 0),(.arr 2 o52.length 0 o52.length)]),(2,.rows 5 1 (List.map (O .u8) o52))]) ?_
 rintro ⟨v51,o52⟩ _ _ _ h _ _
 refine Z ?_
 refine Am h (fun _ h=>?_) (fun _ h=>?_)
 refine Z ?_
 refine B7 h (fun _ _ _ _ h=>?_)
 refine Z ?_
 refine Be h (fun _ h=>?_)
 refine Z ?_
 refine Ev h (fun h=>?_)
 refine Z ?_
 refine Ev h (fun h=>?_)
 refine Z ?_
 refine Be h (fun _ h=>?_)
 refine Z ?_
 refine Ev h (fun h=>?_)
 refine Z ?_
 refine A7 [1,2] h (fun _ h=>?_)
 exact Y
 replace h:=Cf h
 refine Z ?_
 refine A7 [1,2] h (fun _ h=>?_)
 exact Y
 refine Z ?_
 refine A7 [1,2] h (fun _ h=>?_)
 exact Y
 refine Z ?_
 refine So ?_
 refine Z ?_
 refine Am h (fun _ h=>?_) (fun _ h=>?_)
 refine Z ?_
 refine B7 h (fun _ _ _ _ h=>?_)
 refine Z ?_
 refine Be h (fun _ h=>?_)
 refine Z ?_
 refine Ev h (fun h=>?_)
 refine Z ?_
 refine Ev h (fun h=>?_)
 refine Z ?_
 refine Be h (fun _ h=>?_)
 refine Z ?_
 refine Ev h (fun h=>?_)
 refine Z ?_
 refine A7 [1,2] h (fun _ h=>?_)
 refine Z ?_
 refine A6 h (fun (v90,o91)=>[(25,(O .i64 v90))]) (fun (v90,o91)=>[(1,.cells 178 [(.loc 1 0),(.arr 2 o91.length 0 o91.length)]),(2,.rows 5 1 (List.map (O .u8) o91))]) ?_
 rintro ⟨v90,o91⟩ _ _ _ h _ _
 refine Z ?_
 refine Am h (fun _ h=>?_) (fun _ h=>?_)
 refine Z ?_
 refine B7 h (fun _ _ _ _ h=>?_)
 refine Z ?_
 refine Be h (fun _ h=>?_)
 refine Z ?_
 refine Ev h (fun h=>?_)
 refine Z ?_
 refine Ev h (fun h=>?_)
 refine Z ?_
 refine Be h (fun _ h=>?_)
 refine Z ?_
 refine Ev h (fun h=>?_)
 refine Z ?_
 refine A7 [1,2] h (fun _ h=>?_)
 exact Y
 replace h:=Cf h
 refine Z ?_
 refine A7 [1,2] h (fun _ h=>?_)
 exact Y
 refine Z ?_
 refine A7 [1,2] h (fun _ h=>?_)
 exact Y⟩
instance {a0:List Az} {b1:List (ByteArray×Int)} {b2:List Az}:OK (J9 a0 b1 b2) fun r=>Bh Tryz.prog 43 [(.loc 0 0),(Ak 5 B8) a0] [.cells 138 [(.mp 1),(.arr 2 b2.length 0 b2.length)],.map (Bf (O .i64) b1),.rows 75 5 (List.map B8 b2)] (.tup []) [.cells 138 [(.mp 1),(.arr 2 r.2.length 0 r.2.length)],.map (Bf (O .i64) r.1),.rows 75 5 (List.map B8 r.2)]:=⟨fun {r} h=>by
 refine aw C0 true Tryz.func43 ?_
 refine Z ?_
 refine A6 h (fun (v10,o11,o12)=>[(11,(O .i64 v10))]) (fun (v10,o11,o12)=>[(0,.cells 138 [(.mp 1),(.arr 2 o12.length 0 o12.length)]),(1,.map (Bf (O .i64) o11)),(2,.rows 75 5 (List.map B8 o12))]) ?_
 rintro ⟨v10,o11,o12⟩ _ _ _ h _ hn1
 refine Z ?_
 refine Am h (fun _ h=>?_) (fun _ h=>?_)
 refine Z ?_
 refine B7 h (fun _ _ _ _ h=>?_)
 refine Z ?_
 refine Be h (fun _ h=>?_)
 refine ZO ?_
 refine Au (Au ?_)
 refine Bw h (fun (v16,v17)=>[(7,(O .i64 v16)),(8,(Al v17))]) (fun (v16,v17)=>[]) ?_ ?_
 intro _ h _ _ _
 refine Z ?_
 refine Sj (f:=(O .i64)) (l:=o11) rfl (0:Int) h (fun j_ hb h=>?_) (fun hb h=>?_)
 exact Y
 exact Y
 rintro ⟨v16,v17⟩ _ h
 refine Z ?_
 refine Am h (fun _ h=>?_) (fun _ h=>?_)
 refine Z ?_
 refine Fq h (fun _ _ _ _ h=>?_)
 refine Z ?_
 refine Be h (fun v19 h=>?_)
 refine Z ?_
 refine Fq h (fun _ v20 hiv20 _ h=>?_)
 refine Z ?_
 refine Gl (f:=B8) (x:=(Az.mk v19 v20.Mono)) (j:=v16) rfl rfl (Nat.zero_add _) hiv20 ?_
 refine Z ?_
 exact hn1 _ _ _ _ (Option.some.inj h) ⟨rfl,trivial⟩ ⟨⟨rfl,rfl⟩,⟨rfl,rfl⟩,⟨congrArg (fun q_=>Bd.cells 138 [(.mp 1),(.arr 2 q_ 0 q_)]) (Dw (l:=o12) rfl v16 (Az.mk v19 v20.Mono)),rfl⟩,trivial⟩ trivial
 refine Z ?_
 refine O2 (f:=(O .i64)) (l:=o11) (x:=((o12.length:Nat):Int)) rfl rfl ?_
 exact Y
 exact Y⟩
abbrev Aeo (k:Nat):Prop:=∀{a0:Cq},OK (P5 k a0) fun r=>Ar Tryz.prog 207 [Gr a0] (Gr r)
theorem Alq (k:Nat):Aeo k:=by
 induction k with
 | zero=>exact okz
 | succ k ih=>
  refine @fun a0=>⟨fun {r} h=>?_⟩
  .unfold P5 at h
   refine pw {T:=Bs,an:=(fun _=>.ask),nl:=(fun s=>bif Nat.beq s 17 then [(0,2)] else [])} Tryz.func207 ?_
   refine ZS ?_
   refine Bv ?_
   refine ZS ?_
   refine Bv ?_
   refine ZO ?_
   refine Au (Au ?_)
   refine C5 [.own 3 1 111 2] ?_
   refine Z ?_
   refine A6 h (fun (v15,o16)=>[(12,(O .i64 v15))]) (fun (v15,o16)=>[(2,.cells 111 [(O .i64 a0.Num),(.arr 3 o16.length 0 o16.length)]),(3,.rows 111 2 (Hs o16))]) ?_
   rintro ⟨v15,o16⟩ _ _ _ h _ _
   exact Y
instance {k:Nat}:Aeo k:=(Alq k)
instance {a0:Ce}:OK (Xq a0) fun r=>Ar Tryz.prog 144 [Fx a0] (Fx r):=⟨fun {r} h=>by
 refine pw {T:=Bs,an:=(fun _=>.ask),nl:=(fun s=>bif Nat.beq s 44 then [(0,3)] else bif Nat.beq s 17 then [(0,3)] else [])} Tryz.func144 ?_
 refine ZS ?_
 refine Bv ?_
 refine ZS ?_
 refine Bv ?_
 refine ZO ?_
 refine Au (Au ?_)
 refine C5 [.own 3 0 113 3,.own 3 1 73 3] ?_
 refine Z ?_
 refine A6 h (fun (v16,o17)=>[(12,(O .i64 v16))]) (fun (v16,o17)=>[(2,.cells 54 [(.arr 3 o17.length 0 o17.length),(.arr 4 0 0 0)]),(3,.rows 113 3 (List.map D6 o17))]) ?_
 rintro ⟨v16,o17⟩ _ _ _ h _ _
 refine Z ?_
 refine Am h (fun _ h=>?_) (fun _ h=>?_)
 exact Y
 replace h:=Cf h
 refine Z ?_
 refine A6 h (fun (v35,o36)=>[(31,(O .i64 v35))]) (fun (v35,o36)=>[(2,.cells 54 [(.arr 3 o17.length 0 o17.length),(.arr 4 o36.length 0 o36.length)]),(4,.rows 73 3 (List.map Dt o36))]) ?_
 rintro ⟨v35,o36⟩ _ _ _ h _ _
 exact Y⟩
instance {a0:List Az}:OK (W9 a0) fun r=>Ar Tryz.prog 83 [(Ak 5 B8) a0] ((Ak 5 B8) r):=⟨fun {r} h=>by
 refine pw {T:=Bs,an:=(fun s=>bif Nat.beq s 3 then .own else .ask),nl:=(fun s=>bif Nat.beq s 3 then [(0,5)] else bif Nat.beq s 2 then [(0,5)] else [])} Tryz.func83 ?_
 refine Z ?_
 refine A6 h (fun (v14,o15)=>[(3,(.arr 0 o15.length 0 o15.length)),(8,(O .i64 v14))]) (fun (v14,o15)=>[(0,.rows 75 5 (List.map B8 o15))]) ?_
 rintro ⟨v14,o15⟩ _ _ _ h _ _
 exact Y⟩
instance {a0 a1:Az}:OK (Pg a0 a1) fun r=>Ar Tryz.prog 81 [B8 a0,B8 a1] ((O .i64) r):=⟨fun {r} h=>by
 refine pw C0 Tryz.func81 ?_
 exact Y⟩
instance {a0 a1:Int} {b0:List Az}:OK (Xx a0 a1 b0) fun r=>Bh Tryz.prog 192 [(.arr 0 b0.length 0 b0.length),(O .i64) a0,(O .i64) a1,(.fn 81 [])] [.rows 75 5 (List.map B8 b0)] (.tup []) [.rows 75 5 (List.map B8 r)]:=⟨fun {r} h=>by
 refine aw C0 true Tryz.func192 ?_
 refine Z ?_
 refine Dc h (fun (v21,o22)=>[(8,(O .i64 v21))]) (fun (v21,o22)=>[(0,.rows 75 5 (List.map B8 o22))]) (fun (v21,o22)=>b0.length=o22.length) ?_
 rintro ⟨v21,o22⟩ _ _ _ h _ _ q22
 refine Z ?_
 refine Am h (fun _ h=>?_) (fun _ h=>?_)
 refine Z ?_
 refine Dc h (fun (v31,o32)=>[(9,(O .i64 v31))]) (fun (v31,o32)=>[(0,.rows 75 5 (List.map B8 o32))]) (fun (v31,o32)=>b0.length=o32.length) ?_
 rintro ⟨v31,o32⟩ _ _ _ h _ _ q32
 refine Au (Au ?_)
 refine Bw h (fun v36=>[(34,(Al v36))]) (fun v36=>[]) ?_ ?_
 intro _ h _ _ _
 exact Y
 rintro v36 _ h
 exact Y
 exact Y⟩
instance {a0 a1 a2:Int} {b0:List Az}:OK (Xl a0 a1 a2 b0) fun r=>Bh Tryz.prog 134 [(.arr 0 b0.length 0 b0.length),(O .i64) a0,(O .i64) a1,(O .i64) a2,(.fn 81 [])] [.rows 75 5 (List.map B8 b0)] (.tup []) [.rows 75 5 (List.map B8 r)]:=⟨fun {r} h=>by
 refine aw C0 true Tryz.func134 ?_
 refine Z ?_
 refine A6 h (fun _=>[(1,(O .i64 a0)),(2,(O .i64 a1)),(3,(O .i64 a2)),(10,(Al true)),(11,(Al true))]) (fun _=>[]) ?_
 rintro _ _ _ _ h _ _
 refine Z ?_
 refine Am h (fun _ h=>?_) (fun _ h=>?_)
 refine Z ?_
 refine A7 [0] h (fun _ h=>?_)
 refine Cl h (fun v2 hgv2 h=>?_)
 exact Y
 exact Y⟩
theorem Alr {b0:List Az} {r:(List Az)} (h:Adn b0=some r):Bh Tryz.prog 80 [(.arr 0 b0.length 0 b0.length),(.fn 81 [])] [.rows 75 5 (List.map B8 b0)] (.tup []) [.rows 75 5 (List.map B8 r)]:=by
 refine aw C0 true Tryz.func80 ?_
 refine Z ?_
 refine Be h (fun _ h=>?_)
 refine Z ?_
 refine A7 [0] h (fun _ h=>?_)
 refine Cl h (fun v3 hgv3 h=>?_)
 exact Y
instance {b0:List Az}:OK (Sw b0) fun r=>Bh Tryz.prog 80 [(.arr 0 b0.length 0 b0.length),(.fn 81 [])] [.rows 75 5 (List.map B8 b0)] (.tup []) [.rows 75 5 (List.map B8 r)]:=⟨fun {r} h=>by
 unfold Sw at h
 cases hb:Nat.ble b0.length 12 with
 | true=>rw [hb] at h; exact Alr h
 | false=>rw [hb] at h; exact Ak5 (eA:=B8) (cmp:=Pg) (g:=81) (enters_of Tryz.func81 (by kernel_rfl) rfl) (fun x y n h=>(OK.ok h :)) (fun x=>⟨_,rfl⟩) h (by rintro rfl; cases hb)⟩
instance {b1:List (ByteArray×Int)} {b2:List Az}:OK (Lq b1 b2) fun r=>Bh Tryz.prog 44 [(.loc 0 0)] [.cells 138 [(.mp 1),(.arr 2 b2.length 0 b2.length)],.map (Bf (O .i64) b1),.rows 75 5 (List.map B8 b2)] (.tup [(Ak 5 B8) r.1,(O .i64) r.2]) [.cells 138 [(.mp 1),(.arr 2 b2.length 0 b2.length)],.map (Bf (O .i64) b1),.rows 75 5 (List.map B8 b2)]:=⟨fun {r} h=>by
 refine aw {T:=Bs,an:=(fun s=>bif Nat.beq s 4 then .own else .ask),nl:=(fun s=>bif Nat.beq s 4 then [(0,5)] else bif Nat.beq s 2 then [(0,5)] else [])} true Tryz.func44 ?_
 refine Z ?_
 refine A6 h (fun (v12,o13)=>[(4,(.arr 3 o13.length 0 o13.length)),(12,(O .i64 v12))]) (fun (v12,o13)=>[(3,.rows 75 5 (List.map B8 o13))]) ?_
 rintro ⟨v12,o13⟩ _ _ _ h _ _
 refine Z ?_
 refine Am h (fun _ h=>?_) (fun _ h=>?_)
 exact Y
 replace h:=Cf h
 refine Z ?_
 refine Am h (fun _ h=>?_) (fun _ h=>?_)
 exact Y
 refine Z ?_
 refine A7 [3] h (fun _ h=>?_)
 refine Cl h (fun v20 hgv20 h=>?_)
 refine ZO ?_
 refine Au ?_
 refine C5 [.fz 4] ?_
 exact Y⟩
instance {a0:Ce} {b1:List (ByteArray×Int)} {b2:List (ByteArray×(List Db))} {b0_0:List B3} {b0_1:List Aw} {b0_2 b0_3:Int} {b0_4:List Aw}:OK (Xr a0 b1 b2 b0_0 b0_1 b0_2 b0_3 b0_4) fun r=>Bh Tryz.prog 146 [(.loc 0 0),Fx a0] [.cells 136 [(.sl 3 (List.map Cp b0_0)),(.sl 3 (Bl b0_1)),(O .i64 b0_2),(O .i64 b0_3),(.sl 3 (Bl b0_4)),(.mp 1),(.mp 2)],.map (Bf (O .i64) b1),.map (Bf (Ak 5 Du) b2)] (.tup [(Ak 5 B8) r.1,(O .i64) r.2]) [.cells 136 [(.sl 3 (List.map Cp b0_0)),(.sl 3 (Bl b0_1)),(O .i64 b0_2),(O .i64 b0_3),(.sl 3 (Bl b0_4)),(.mp 1),(.mp 2)],.map (Bf (O .i64) b1),.map (Bf (Ak 5 Du) b2)]:=⟨fun {r} h=>by
 refine aw {T:=Bs,an:=(fun _=>.ask),nl:=(fun s=>bif Nat.beq s 4 then [(0,5)] else [])} true Tryz.func146 ?_
 refine Z ?_
 refine Be h (fun _ h=>?_)
 refine Z ?_
 refine A7 [0,1,2] h (fun _ h=>?_)
 refine Z ?_
 refine Am h (fun _ h=>?_) (fun _ h=>?_)
 exact Y
 refine Z ?_
 refine A7 [] h (fun _ h=>?_)
 refine Z ?_
 refine A7 [5,4,6] h (fun _ h=>?_)
 refine Z ?_
 refine A7 [5,4,6] h (fun _ h=>?_)
 exact Y⟩
instance {a0:Ai} {a1:Ce}:OK (Y6 a0 a1) fun r=>Ar Tryz.prog 166 [(.val (.pointer none)),Bi a0,Fx a1] (.tup [(Ak 5 B8) r.1,(O .i64) r.2]):=⟨fun {r} h=>by
 refine pw {T:=Bs,an:=(fun s=>bif Nat.beq s 22 then .own else .ask),nl:=(fun s=>bif Nat.beq s 155 then [(0,3)] else bif Nat.beq s 31 then [(3,3),(4,3)] else bif Nat.beq s 22 then [(0,5)] else bif Nat.beq s 6 then [(0,5)] else [])} Tryz.func166 ?_
 refine Z ?_
 refine Be h (fun _ h=>?_)
 refine Z ?_
 refine Am h (fun _ h=>?_) (fun _ h=>?_)
 exact Y
 refine Z ?_
 refine A7 [] h (fun v4 h=>?_)
 refine Z ?_
 refine A7 [3] h (fun _ h=>?_)
 refine Cl h (fun v8 hgv8 h=>?_)
 refine Z ?_
 refine A6 h (fun _=>[(6,(.sl 5 (List.map B8 []))),(7,(O .i64 0)),(8,(.sl 5 (List.map B8 [(Az.mk a0 (Ce.mk [] []))]))),(9,(.arr 3 v4.2.length 0 v4.2.length))]) (fun _=>[]) ?_
 rintro _ _ _ _ h _ _
 refine Z ?_
 refine Am h (fun _ h=>?_) (fun _ h=>?_)
 refine Z ?_
 refine Fq h (fun _ _ _ _ h=>?_)
 refine Z ?_
 refine A6 h (fun v11=>[(11,(O .i64 v11))]) (fun v11=>[]) ?_
 rintro v11 _ _ _ h _ _
 refine Z ?_
 refine Eg h (fun _ h=>?_) (fun _ h=>?_)
 refine Z ?_
 refine Fq h (fun _ _ _ _ h=>?_)
 refine Z ?_
 refine Am h (fun _ h=>?_) (fun _ h=>?_)
 exact Y
 replace h:=Cf h
 refine Ed (Eb rfl (Au ?_))
 refine C5 [.fz 9] ?_
 exact Y
 replace h:=Cf h
 refine ZO ?_
 refine J8 (Ed (Eb rfl (Au ?_)))
 refine C5 [.fz 9] ?_
 exact Y
 replace h:=Cf h
 refine Z ?_
 refine A7 [] h (fun _ h=>?_)
 refine Z ?_
 refine A7 [5] h (fun _ h=>?_)
 refine Cl h (fun v19 hgv19 h=>?_)
 refine ZO ?_
 refine Au (Ia ?_)
 refine C5 [.fz 19] ?_
 refine Z ?_
 refine A6 h (fun (v110,v111)=>[(8,(.sl 5 (List.map B8 v110))),(19,(.sl 3 (List.map Dt v111)))]) (fun (v110,v111)=>[]) ?_
 rintro ⟨v110,v111⟩ _ _ _ h _ _
 refine Z ?_
 refine Am h (fun _ h=>?_) (fun _ h=>?_)
 refine Z ?_
 refine B7 h (fun _ _ _ _ h=>?_)
 refine Z ?_
 refine A6 h (fun v116=>[(21,(O .i64 v116))]) (fun v116=>[]) ?_
 rintro v116 _ _ _ h _ _
 refine Z ?_
 refine Eg h (fun _ h=>?_) (fun _ h=>?_)
 refine Z ?_
 refine B7 h (fun _ _ _ _ h=>?_)
 refine Z ?_
 refine Be h (fun _ h=>?_)
 refine Z ?_
 refine Am h (fun _ h=>?_) (fun _ h=>?_)
 exact Y
 replace h:=Cf h
 refine Z ?_
 refine L8 h (fun _ h=>?_)
 refine Z ?_
 refine Be h (fun _ h=>?_)
 refine Z ?_
 refine A6 h (fun (v173,o174)=>[(22,(.arr 7 o174.length 0 o174.length)),(135,(O .i64 v173))]) (fun (v173,o174)=>[(7,.rows 75 5 (List.map B8 o174))]) ?_
 rintro ⟨v173,o174⟩ _ _ _ h _ _
 refine Z ?_
 refine Am h (fun _ h=>?_) (fun _ h=>?_)
 refine Z ?_
 refine B7 h (fun _ _ _ _ h=>?_)
 refine Z ?_
 refine Be h (fun _ h=>?_)
 refine Z ?_
 refine Am h (fun _ h=>?_) (fun _ h=>?_)
 exact Y
 refine Z ?_
 refine A6 h (fun (v190,o191)=>[(22,(.arr 7 o191.length 0 o191.length)),(145,(O .i64 v190))]) (fun (v190,o191)=>[(7,.rows 75 5 (List.map B8 o191))]) ?_
 rintro ⟨v190,o191⟩ _ _ _ h _ _
 exact Y
 replace h:=Cf h
 refine Ed (Eb rfl ?_)
 refine C5 [.fz 22] ?_
 exact Y
 replace h:=Cf h
 refine Z ?_
 refine L8 h (fun _ h=>?_)
 refine Z ?_
 refine Be h (fun _ h=>?_)
 refine Z ?_
 refine A6 h (fun (v173,o174)=>[(22,(.arr 7 o174.length 0 o174.length)),(135,(O .i64 v173))]) (fun (v173,o174)=>[(7,.rows 75 5 (List.map B8 o174))]) ?_
 rintro ⟨v173,o174⟩ _ _ _ h _ _
 refine Z ?_
 refine Am h (fun _ h=>?_) (fun _ h=>?_)
 refine Z ?_
 refine B7 h (fun _ _ _ _ h=>?_)
 refine Z ?_
 refine Be h (fun _ h=>?_)
 refine Z ?_
 refine Am h (fun _ h=>?_) (fun _ h=>?_)
 exact Y
 refine Z ?_
 refine A6 h (fun (v190,o191)=>[(22,(.arr 7 o191.length 0 o191.length)),(145,(O .i64 v190))]) (fun (v190,o191)=>[(7,.rows 75 5 (List.map B8 o191))]) ?_
 rintro ⟨v190,o191⟩ _ _ _ h _ _
 exact Y
 replace h:=Cf h
 refine Ed (Eb rfl ?_)
 refine C5 [.fz 22] ?_
 exact Y
 exact Y⟩
instance {a0:Ce}:OK (Ado a0) fun r=>Ar Tryz.prog 146 [(.val (.pointer none)),Fx a0] (.tup [(Ak 5 B8) r.1,(O .i64) r.2]):=⟨fun {r} h=>by
 refine pw {T:=Bs,an:=(fun _=>.ask),nl:=(fun s=>bif Nat.beq s 4 then [(0,5)] else [])} Tryz.func146 ?_
 refine Z ?_
 refine Be h (fun _ h=>?_)
 refine Z ?_
 refine Be h (fun _ h=>?_)
 refine Z ?_
 refine Am h (fun _ h=>?_) (fun _ h=>?_)
 exact Y
 refine Z ?_
 refine A7 [] h (fun _ h=>?_)
 refine Z ?_
 refine A7 [2,1,3] h (fun _ h=>?_)
 refine Z ?_
 refine A7 [2,1,3] h (fun _ h=>?_)
 exact Y⟩
instance {a0:Df} {a1:Ao} {a2:Int}:OK (Ls a0 a1 a2) fun r=>Ar Tryz.prog 84 [Hr a0,B9 a1,(O .i64) a2] (.tup [(Ak 5 B8) r.1,(O .i64) r.2]):=⟨fun {r} h=>by
 refine pw {T:=Bs,an:=(fun _=>.ask),nl:=(fun s=>bif Nat.beq s 37 then [(0,3)] else bif Nat.beq s 6 then [(0,5)] else [])} Tryz.func84 ?_
 refine Z ?_
 refine Cl h (fun v3 hcv3 h=>?_)
 rcases v3 with v4 | v9
 refine Ea.act [] _ _ _ _ (Bh.sub (args:=[_,.val (.slice none 0 0)]) (T2 (a0:=a0) (a1:=[]) hcv3) ⟨Sub.refl _,Sub.nil _,trivial⟩) rfl rfl trivial ?_
 refine Z ?_
 refine Am h (fun _ h=>?_) (fun _ h=>?_)
 exact Y
 refine Gm (Au (Au ?_))
 refine Bw h (fun v11=>[(27,(Al v11))]) (fun v11=>[]) ?_ ?_
 intro _ h _ _ _
 exact Y
 rintro v11 _ h
 refine Am h (fun _ h=>?_) (fun _ h=>?_)
 exact Y
 refine Z ?_
 refine A7 [5,3,4] h (fun _ h=>?_)
 refine Z ?_
 refine Am h (fun _ h=>?_) (fun _ h=>?_)
 exact Y
 refine Z ?_
 refine A7 [5,3,4] h (fun _ h=>?_)
 exact Y
 refine Ea.act [] _ _ _ _ (Bh.sub (args:=[_,.val (.slice none 0 0)]) (T3 (a0:=a0) (a1:=[]) hcv3) ⟨Sub.refl _,Sub.nil _,trivial⟩) rfl rfl trivial ?_
 refine Z ?_
 refine Am h (fun _ h=>?_) (fun _ h=>?_)
 exact Y
 refine Gm (Au (Au ?_))
 refine Bw h (fun v15=>[(27,(Al v15))]) (fun v15=>[]) ?_ ?_
 intro _ h _ _ _
 exact Y
 rintro v15 _ h
 exact Y⟩
instance {a0:List Az} {a1:Ai}:OK (Xb a0 a1) fun r=>Ar Tryz.prog 111 [(Ak 5 B8) a0,Bi a1] ((Ak 5 B8) r):=⟨fun {r} h=>by
 refine pw {T:=Bs,an:=(fun s=>bif Nat.beq s 5 then .own else .ask),nl:=(fun s=>bif Nat.beq s 5 then [(0,5)] else bif Nat.beq s 4 then [(0,5)] else [])} Tryz.func111 ?_
 refine Z ?_
 refine A6 h (fun (v13,o14)=>[(5,(.arr 1 o14.length 0 o14.length)),(10,(O .i64 v13))]) (fun (v13,o14)=>[(1,.rows 75 5 (List.map B8 o14))]) ?_
 rintro ⟨v13,o14⟩ _ _ _ h _ _
 exact Y⟩
instance {a0:Df} {a1 a2:List Az}:OK (Sv a0 a1 a2) fun r=>Ar Tryz.prog 70 [Hr a0,(Ak 5 B8) a1,(Ak 5 B8) a2] (.tup [(Ak 5 B8) r.1,(O .i64) r.2]):=⟨fun {r} h=>by
 refine pw {T:=Bs,an:=(fun _=>.ask),nl:=(fun s=>bif Nat.beq s 6 then [(0,5)] else [])} Tryz.func70 ?_
 refine ZS ?_
 refine Bv ?_
 refine ZO ?_
 refine Au (Au ?_)
 refine Bw h (fun v9=>[(9,(Al v9))]) (fun v9=>[]) ?_ ?_
 intro _ h _ _ _
 refine Z ?_
 refine Cl h (fun v2 hcv2 h=>?_)
 rcases v2 with v3 | v8
 refine Ea.act [] _ _ _ _ (T2 (a0:=a0) (a1:=[a1,a2]) hcv2) rfl rfl trivial ?_
 exact Y
 refine Ea.act [] _ _ _ _ (T3 (a0:=a0) (a1:=[a1,a2]) hcv2) rfl rfl trivial ?_
 exact Y
 rintro v9 _ h
 refine Z ?_
 refine Am h (fun _ h=>?_) (fun _ h=>?_)
 exact Y
 refine Z ?_
 refine A7 [] h (fun _ h=>?_)
 refine Z ?_
 refine A7 [2,1,3] h (fun _ h=>?_)
 refine Z ?_
 refine Be h (fun _ h=>?_)
 refine Z ?_
 refine Be h (fun _ h=>?_)
 refine Z ?_
 refine A7 [2,1,3] h (fun _ h=>?_)
 refine Z ?_
 refine A7 [2,1,3] h (fun _ h=>?_)
 exact Y⟩
instance {a0:Df} {a1:Ds}:OK (W4 a0 a1) fun r=>Ar Tryz.prog 46 [Hr a0,Gq a1] (.tup [(Ak 5 B8) r.1,(O .i64) r.2]):=⟨fun {r} h=>by
 refine pw {T:=Bs,an:=(fun _=>.ask),nl:=(fun s=>bif Nat.beq s 4 then [(0,5)] else [])} Tryz.func46 ?_
 exact Y⟩
instance {a0:List Az} {b1:List (ByteArray×Int)} {b2:List (ByteArray×(List Db))} {b0_0:List B3} {b0_1:List Aw} {b0_2 b0_3:Int} {b0_4:List Aw}:OK (S3 a0 b1 b2 b0_0 b0_1 b0_2 b0_3 b0_4) fun r=>Bh Tryz.prog 165 [(.loc 0 0),(Ak 5 B8) a0] [.cells 136 [(.sl 3 (List.map Cp b0_0)),(.sl 3 (Bl b0_1)),(O .i64 b0_2),(O .i64 b0_3),(.sl 3 (Bl b0_4)),(.mp 1),(.mp 2)],.map (Bf (O .i64) b1),.map (Bf (Ak 5 Du) b2)] ((O .i64) r.1) [.cells 136 [(.sl 3 (List.map Cp b0_0)),(.sl 3 (Bl b0_1)),(O .i64 b0_2),(O .i64 b0_3),(.sl 3 (Bl b0_4)),(.mp 1),(.mp 2)],.map (Bf (O .i64) r.2),.map (Bf (Ak 5 Du) b2)]:=⟨fun {r} h=>by
 refine aw C0 true Tryz.func165 ?_
 refine Z ?_
 refine A6 h (fun (v4,v5,o6)=>[(5,(O .i64 v4)),(10,(O .i64 v5))]) (fun (v4,v5,o6)=>[(1,.map (Bf (O .i64) o6))]) ?_
 rintro ⟨v4,v5,o6⟩ _ _ _ h _ _
 refine Z ?_
 refine Am h (fun _ h=>?_) (fun _ h=>?_)
 refine Z ?_
 refine B7 h (fun _ _ _ _ h=>?_)
 refine Z ?_
 refine A7 [0,1,2] h (fun _ h=>?_)
 exact Y
 exact Y⟩
instance {a0:Int} {a1:Cq}:OK (Adp a0 a1) fun r=>Ar Tryz.prog 181 [(.val (.pointer none)),(O .i64) a0,Gr a1] ((O .i64) r):=⟨fun {r} h=>by
 refine pw C0 Tryz.func181 ?_
 exact Y⟩
instance {a0:Ce}:OK (Adq a0) fun r=>Ar Tryz.prog 180 [(.val (.pointer none)),Fx a0] ((O .i64) r):=⟨fun {r} h=>by
 refine pw C0 Tryz.func180 ?_
 refine Z ?_
 refine A6 h (fun (v5,v6)=>[(5,(O .i64 v5)),(13,(O .i64 v6))]) (fun (v5,v6)=>[]) ?_
 rintro ⟨v5,v6⟩ _ _ _ h _ _
 refine Z ?_
 refine Am h (fun _ h=>?_) (fun _ h=>?_)
 exact Y
 replace h:=Cf h
 refine Z ?_
 refine A6 h (fun (v13,v14)=>[(5,(O .i64 v13)),(31,(O .i64 v14))]) (fun (v13,v14)=>[]) ?_
 rintro ⟨v13,v14⟩ _ _ _ h _ _
 exact Y⟩
instance {a0:List Az}:OK (Y7 a0) fun r=>Ar Tryz.prog 165 [(.val (.pointer none)),(Ak 5 B8) a0] ((O .i64) r):=⟨fun {r} h=>by
 refine pw C0 Tryz.func165 ?_
 refine Z ?_
 refine A6 h (fun (v4,v5)=>[(5,(O .i64 v4)),(10,(O .i64 v5))]) (fun (v4,v5)=>[]) ?_
 rintro ⟨v4,v5⟩ _ _ _ h _ _
 exact Y⟩
instance {a0:Df} {a1 a2:List Az}:OK (Xc a0 a1 a2) fun r=>Ar Tryz.prog 114 [Hr a0,(Ak 5 B8) a1,(Ak 5 B8) a2] (.tup [(Ak 5 B8) r.1,(O .i64) r.2]):=⟨fun {r} h=>by
 refine pw {T:=Bs,an:=(fun _=>.ask),nl:=(fun s=>bif Nat.beq s 6 then [(0,5)] else [])} Tryz.func114 ?_
 refine Z ?_
 refine Cl h (fun v2 hcv2 h=>?_)
 rcases v2 with v3 | v8
 refine Ea.act [] _ _ _ _ (T2 (a0:=a0) (a1:=[a1,a2]) hcv2) rfl rfl trivial ?_
 refine Z ?_
 refine Am h (fun _ h=>?_) (fun _ h=>?_)
 exact Y
 refine Gm (Au (Au ?_))
 refine Bw h (fun (v11,o12)=>[(44,(Al v11))]) (fun (v11,o12)=>[(2,.map (Bf (O .i64) o12))]) ?_ ?_
 intro _ h _ _ _
 refine Z ?_
 refine Eg h (fun _ h=>?_) (fun _ h=>?_)
 refine Z ?_
 refine Eg h (fun _ h=>?_) (fun _ h=>?_)
 refine Z ?_
 refine A7 [4,2,3] h (fun _ h=>?_)
 refine Z ?_
 refine A7 [4,2,3] h (fun _ h=>?_)
 exact Y
 exact Y
 exact Y
 rintro ⟨v11,o12⟩ _ h
 refine Am h (fun _ h=>?_) (fun _ h=>?_)
 exact Y
 refine Z ?_
 refine A7 [] h (fun _ h=>?_)
 refine Z ?_
 refine A6 h (fun (v82,o83,o84)=>[(6,(.sl 5 (List.map B8 []))),(7,(O .i64 0)),(48,(O .i64 v82))]) (fun (v82,o83,o84)=>[(5,.map (Bf (O .i64) o83)),(6,.cells 138 [(.mp 5),(.arr 7 o84.length 0 o84.length)]),(7,.rows 75 5 (List.map B8 o84))]) ?_
 rintro ⟨v82,o83,o84⟩ _ _ _ h _ _
 refine Z ?_
 refine Am h (fun _ h=>?_) (fun _ h=>?_)
 refine Z ?_
 refine B7 h (fun _ _ _ _ h=>?_)
 refine Z ?_
 refine A6 h (fun (v102,o103,o104)=>[(6,(.sl 5 (List.map B8 []))),(7,(O .i64 0)),(54,(O .i64 v102))]) (fun (v102,o103,o104)=>[(5,.map (Bf (O .i64) o103)),(6,.cells 138 [(.mp 5),(.arr 7 o104.length 0 o104.length)]),(7,.rows 75 5 (List.map B8 o104))]) ?_
 rintro ⟨v102,o103,o104⟩ _ _ _ h _ _
 refine Z ?_
 refine Am h (fun _ h=>?_) (fun _ h=>?_)
 refine Z ?_
 refine B7 h (fun _ _ _ _ h=>?_)
 refine Z ?_
 refine Be h (fun _ h=>?_)
 refine Z ?_
 refine Be h (fun _ h=>?_)
 refine Z ?_
 refine A7 [4,2,3] h (fun _ h=>?_)
 refine Z ?_
 refine Am h (fun _ h=>?_) (fun _ h=>?_)
 exact Y
 refine Z ?_
 refine A7 [6,5,7] h (fun _ h=>?_)
 exact Y
 exact Y
 replace h:=Cf h
 refine Z ?_
 refine A7 [6,5,7] h (fun _ h=>?_)
 exact Y
 refine Ea.act [] _ _ _ _ (T3 (a0:=a0) (a1:=[a1,a2]) hcv2) rfl rfl trivial ?_
 refine Z ?_
 refine Am h (fun _ h=>?_) (fun _ h=>?_)
 exact Y
 refine Gm (Au (Au ?_))
 refine Bw h (fun v123=>[(44,(Al v123))]) (fun v123=>[]) ?_ ?_
 intro _ h _ _ _
 exact Y
 rintro v123 _ h
 refine Am h (fun _ h=>?_) (fun _ h=>?_)
 exact Y
 refine Z ?_
 refine A7 [] h (fun _ h=>?_)
 refine Z ?_
 refine A6 h (fun (v193,o194,o195)=>[(6,(.sl 5 (List.map B8 []))),(7,(O .i64 0)),(48,(O .i64 v193))]) (fun (v193,o194,o195)=>[(1,.map (Bf (O .i64) o194)),(2,.cells 138 [(.mp 1),(.arr 3 o195.length 0 o195.length)]),(3,.rows 75 5 (List.map B8 o195))]) ?_
 rintro ⟨v193,o194,o195⟩ _ _ _ h _ _
 refine Z ?_
 refine Am h (fun _ h=>?_) (fun _ h=>?_)
 refine Z ?_
 refine B7 h (fun _ _ _ _ h=>?_)
 refine Z ?_
 refine A6 h (fun (v213,o214,o215)=>[(6,(.sl 5 (List.map B8 []))),(7,(O .i64 0)),(54,(O .i64 v213))]) (fun (v213,o214,o215)=>[(1,.map (Bf (O .i64) o214)),(2,.cells 138 [(.mp 1),(.arr 3 o215.length 0 o215.length)]),(3,.rows 75 5 (List.map B8 o215))]) ?_
 rintro ⟨v213,o214,o215⟩ _ _ _ h _ _
 refine Z ?_
 refine Am h (fun _ h=>?_) (fun _ h=>?_)
 refine Z ?_
 refine B7 h (fun _ _ _ _ h=>?_)
 refine Z ?_
 refine Be h (fun _ h=>?_)
 refine Z ?_
 refine Be h (fun _ h=>?_)
 refine Z ?_
 refine Be h (fun _ h=>?_)
 refine Z ?_
 refine Am h (fun _ h=>?_) (fun _ h=>?_)
 exact Y
 refine Z ?_
 refine A7 [2,1,3] h (fun _ h=>?_)
 exact Y
 exact Y
 replace h:=Cf h
 refine Z ?_
 refine A7 [2,1,3] h (fun _ h=>?_)
 exact Y⟩
instance {a0:Df} {a1:Ds} {a2:Int}:OK (Xa a0 a1 a2) fun r=>Ar Tryz.prog 85 [Hr a0,Gq a1,(O .i64) a2] (.tup [(Ak 5 B8) r.1,(O .i64) r.2]):=⟨fun {r} h=>by
 refine pw {T:=Bs,an:=(fun _=>.ask),nl:=(fun s=>bif Nat.beq s 6 then [(0,5)] else [])} Tryz.func85 ?_
 exact Y⟩
instance {a0:Df} {a1:Ds}:OK (W5 a0 a1) fun r=>Ar Tryz.prog 47 [Hr a0,Gq a1] (.tup [(Ak 5 B8) r.1,(O .i64) r.2]):=⟨fun {r} h=>by
 refine pw {T:=Bs,an:=(fun _=>.ask),nl:=(fun s=>bif Nat.beq s 10 then [(0,5)] else bif Nat.beq s 4 then [(0,5)] else [])} Tryz.func47 ?_
 refine Z ?_
 refine Be h (fun _ h=>?_)
 refine Z ?_
 refine Am h (fun _ h=>?_) (fun _ h=>?_)
 exact Y
 refine Z ?_
 refine Be h (fun _ h=>?_)
 refine Z ?_
 refine A6 h (fun (v9,v10,v11)=>[(7,(O .i64 v9)),(8,(.sl 5 (List.map B8 v10))),(9,(O .i64 v11))]) (fun (v9,v10,v11)=>[]) ?_
 rintro ⟨v9,v10,v11⟩ _ _ _ h _ _
 refine Au (Au ?_)
 refine Bw h (fun v12=>[(37,(Al v12))]) (fun v12=>[]) ?_ ?_
 intro _ h _ _ _
 exact Y
 rintro v12 _ h
 exact Y⟩
instance {a0:Df} {a1:Ao}:OK (Su a0 a1) fun r=>Ar Tryz.prog 45 [Hr a0,B9 a1] (Al r):=⟨fun {r} h=>by
 refine pw C0 Tryz.func45 ?_
 refine Z ?_
 refine A6 h (fun v6=>[(4,(Al false)),(10,(O .i64 v6))]) (fun v6=>[]) ?_
 rintro v6 _ _ _ h _ _
 exact Y⟩
instance {a0:Df} {a1:List Az}:OK (W3 a0 a1) fun r=>Ar Tryz.prog 35 [Hr a0,(Ak 5 B8) a1] (Al r):=⟨fun {r} h=>by
 refine pw C0 Tryz.func35 ?_
 refine Z ?_
 refine Cl h (fun v2 hcv2 h=>?_)
 rcases v2 with v3 | v8
 refine Ea.act [] _ _ _ _ (T2 (a0:=a0) (a1:=[a1]) hcv2) rfl rfl trivial ?_
 exact Y
 refine Ea.act [] _ _ _ _ (T3 (a0:=a0) (a1:=[a1]) hcv2) rfl rfl trivial ?_
 exact Y⟩
instance {a0:Df} {a1:Ds}:OK (W1 a0 a1) fun r=>Ar Tryz.prog 22 [Hr a0,Gq a1] (.tup [(Ak 5 B8) r.1,(O .i64) r.2]):=⟨fun {r} h=>by
 refine pw {T:=Bs,an:=(fun _=>.ask),nl:=(fun s=>bif Nat.beq s 4 then [(0,5)] else [])} Tryz.func22 ?_
 refine ZS ?_
 refine Bv ?_
 refine ZO ?_
 refine Au (Au ?_)
 refine Bw h (fun v5=>[(13,(Al v5))]) (fun v5=>[]) ?_ ?_
 intro _ h _ _ _
 exact Y
 rintro v5 _ h
 refine Am h (fun _ h=>?_) (fun _ h=>?_)
 exact Y
 refine Gm (Au (Au ?_))
 refine Bw h (fun v8=>[(25,(Al v8))]) (fun v8=>[]) ?_ ?_
 intro _ h _ _ _
 exact Y
 rintro v8 _ h
 exact Y⟩
instance {a0:Int}:OK (W2 a0) fun r=>Ar Tryz.prog 23 [(O .i64) a0] (Hr r):=⟨fun {r} h=>by
 refine pw {T:=Bs,an:=(fun _=>.ask),nl:=(fun s=>bif Nat.beq s 18 then [(0,3),(4,3)] else bif Nat.beq s 14 then [(2,3)] else bif Nat.beq s 13 then [(0,3)] else [])} Tryz.func23 ?_
 refine ZS ?_
 refine Bv ?_
 refine ZS ?_
 refine Bv ?_
 refine ZO ?_
 refine Au (Au ?_)
 refine C5 [.own 3 1 37 3] ?_
 refine Z ?_
 refine A6 h (fun (v8,o9)=>[(4,(O .i64 v8))]) (fun (v8,o9)=>[(1,.cells 39 [(.val (.slice none 0 0)),(.arr 2 o9.length 0 o9.length),(O .i64 1),(O .i64 0),(.val (.slice none 0 0))]),(2,.rows 37 3 (Bl o9))]) ?_
 rintro ⟨v8,o9⟩ _ _ _ h _ _
 exact Y⟩
instance {a0 a1:Int}:OK (W0 a0 a1) fun r=>Ar Tryz.prog 21 [(O .i64) a0,(O .i64) a1] (B9 r):=⟨fun {r} h=>by
 refine pw C0 Tryz.func21 ?_
 exact Y⟩
instance  : OK (Sr) fun r=>Ar Tryz.prog 7 [] (Al r):=⟨fun {r} h=>by
 refine pw {T:=Bs,an:=(fun _=>.ask),nl:=(fun s=>bif Nat.beq s 31 then [(2,2),(4,2)] else bif Nat.beq s 25 then [(4,2)] else bif Nat.beq s 21 then [(4,2)] else bif Nat.beq s 9 then [(4,2)] else [])} Tryz.func7 ?_
 exact Y⟩
instance {a0:List Int}:OK (Gn a0) fun r=>Ar Tryz.prog 159 [(Ak 1 (O .u32)) a0] ((Ak 1 (O .u32)) r):=⟨fun {r} h=>by
 refine pw {T:=Bs,an:=(fun _=>.ask),nl:=(fun s=>bif Nat.beq s 2 then [(0,1)] else [])} Tryz.func159 ?_
 refine Z ?_
 refine A6 h (fun v2=>[(3,(O .i64 v2))]) (fun v2=>[]) ?_
 rintro v2 _ _ _ h _ _
 exact Y⟩
instance {a0:List Int}:OK (Nv a0) fun r=>Ar Tryz.prog 105 [(Ak 1 (O .u32)) a0] ((Ak 1 (O .u32)) r):=⟨fun {r} h=>by
 refine pw {T:=Bs,an:=(fun s=>bif Nat.beq s 3 then .own else .ask),nl:=(fun s=>bif Nat.beq s 3 then [(0,1)] else bif Nat.beq s 2 then [(0,1)] else [])} Tryz.func105 ?_
 refine Z ?_
 refine A6 h (fun (v13,v14,o15)=>[(3,(.arr 0 o15.length 0 o15.length)),(4,(O .u64 v13)),(5,(O .i64 v14))]) (fun (v13,v14,o15)=>[(0,.rows 107 1 (List.map (O .u32) o15))]) ?_
 rintro ⟨v13,v14,o15⟩ _ _ _ h _ _
 refine Z ?_
 refine Am h (fun _ h=>?_) (fun _ h=>?_)
 exact Y
 replace h:=Cf h
 refine Z ?_
 refine Am h (fun _ h=>?_) (fun _ h=>?_)
 refine Z ?_
 refine Ii h (fun _ h=>?_)
 refine ZO ?_
 refine Au ?_
 refine C5 [.fz 3] ?_
 exact Y
 refine Gm (Au ?_)
 refine C5 [.fz 3] ?_
 exact Y⟩
instance {a0 a1:List Int}:OK (Py a0 a1) fun r=>Ar Tryz.prog 161 [(Ak 1 (O .u32)) a0,(Ak 1 (O .u32)) a1] ((O .u64) r):=⟨fun {r} h=>by
 refine pw C0 Tryz.func161 ?_
 exact Y⟩
instance {a0:Int}:OK (Jf a0) fun r=>Ar Tryz.prog 63 [(O .u64) a0] ((Ak 1 (O .u32)) r):=⟨fun {r} h=>by
 refine pw {T:=Bs,an:=(fun s=>bif Nat.beq s 3 then .own else .ask),nl:=(fun s=>bif Nat.beq s 3 then [(0,1)] else bif Nat.beq s 2 then [(0,1)] else [])} Tryz.func63 ?_
 refine Z ?_
 refine A6 h (fun (v10,o11)=>[(0,(O .u64 v10)),(3,(.arr 0 o11.length 0 o11.length))]) (fun (v10,o11)=>[(0,.rows 107 1 (List.map (O .u32) o11))]) ?_
 rintro ⟨v10,o11⟩ _ _ _ h _ _
 exact Y⟩
instance {a0 a1:List Int}:OK (Kd a0 a1) fun r=>Ar Tryz.prog 156 [(Ak 1 (O .u32)) a0,(Ak 1 (O .u32)) a1] ((O .i64) r):=⟨fun {r} h=>by
 refine pw C0 Tryz.func156 ?_
 refine Z ?_
 refine Am h (fun _ h=>?_) (fun _ h=>?_)
 exact Y
 refine Z ?_
 refine A6 h (fun v5=>[(4,(O .i64 0)),(5,(O .i64 v5))]) (fun v5=>[]) ?_
 rintro v5 _ _ _ h _ _
 exact Y⟩
end Go.Ab
namespace Go.Ab
open Go Go.Proofs
set_option maxRecDepth 10000
set_option maxHeartbeats 4000000
set_option linter.unusedVariables false
instance {a0 a1:List Int}:OK (Ho a0 a1) fun r=>Ar Tryz.prog 154 [(Ak 1 (O .u32)) a0,(Ak 1 (O .u32)) a1] ((Ak 1 (O .u32)) r):=⟨fun {r} h=>by
 refine pw {T:=Bs,an:=(fun _=>.ask),nl:=(fun s=>bif Nat.beq s 4 then [(0,1)] else [])} Tryz.func154 ?_
 refine Z ?_
 refine Fc h (fun o1 h=>?_)
 refine Z ?_
 refine Dc h (fun (v25,o26)=>[(6,(O .i64 v25))]) (fun (v25,o26)=>[(0,.rows 107 1 (List.map (O .u32) o26))]) (fun (v25,o26)=>o1.length=o26.length) ?_
 rintro ⟨v25,o26⟩ _ _ _ h _ _ q26
 refine Z ?_
 refine Am h (fun _ h=>?_) (fun _ h=>?_)
 refine Z ?_
 refine Dc h (fun (v35,v36,o37)=>[(7,(O .u64 v35)),(8,(O .i64 v36))]) (fun (v35,v36,o37)=>[(0,.rows 107 1 (List.map (O .u32) o37))]) (fun (v35,v36,o37)=>o1.length=o37.length) ?_
 rintro ⟨v35,v36,o37⟩ _ _ _ h _ _ q37
 refine Au (Au ?_)
 refine Bw h (fun v38=>[(29,(Al v38))]) (fun v38=>[]) ?_ ?_
 intro _ h _ _ _
 exact Y
 rintro v38 _ h
 refine Am h (fun _ h=>?_) (fun _ h=>?_)
 refine Z ?_
 refine Fq h (fun _ _ _ _ h=>?_)
 refine ZS ?_
 refine Bv ?_
 refine ZO ?_
 refine Bw h (fun v42=>[(7,(O .u64 v42))]) (fun v42=>[]) ?_ ?_
 intro _ h _ _ _
 exact Y
 rintro v42 _ h
 exact Y
 exact Y
 replace h:=Cf h
 refine Ed (Eb rfl (Au ?_))
 refine C5 [.fz 5] ?_
 exact Y⟩
instance {a0:List Int} {a1:Int}:OK (Px a0 a1) fun r=>Ar Tryz.prog 160 [(Ak 1 (O .u32)) a0,(O .u64) a1] (.tup [(Ak 1 (O .u32)) r.1,(O .u64) r.2]):=⟨fun {r} h=>by
 refine pw {T:=Bs,an:=(fun _=>.ask),nl:=(fun s=>bif Nat.beq s 4 then [(0,1)] else [])} Tryz.func160 ?_
 refine Z ?_
 refine Fc h (fun o1 h=>?_)
 refine Z ?_
 refine Dc h (fun (v7,v8,o9)=>[(7,(O .u64 v7)),(8,(O .i64 v8))]) (fun (v7,v8,o9)=>[(0,.rows 107 1 (List.map (O .u32) o9))]) (fun (v7,v8,o9)=>o1.length=o9.length) ?_
 rintro ⟨v7,v8,o9⟩ _ _ _ h _ _ q9
 refine Z ?_
 refine Am h (fun _ h=>?_) (fun _ h=>?_)
 exact Y
 replace h:=Cf h
 refine Ed (Eb rfl (Au ?_))
 refine C5 [.fz 6] ?_
 exact Y⟩
instance {a0 a1:List Int}:OK (Ke a0 a1) fun r=>Ar Tryz.prog 157 [(Ak 1 (O .u32)) a0,(Ak 1 (O .u32)) a1] ((Ak 1 (O .u32)) r):=⟨fun {r} h=>by
 refine pw {T:=Bs,an:=(fun _=>.ask),nl:=(fun s=>bif Nat.beq s 4 then [(0,1)] else [])} Tryz.func157 ?_
 refine Z ?_
 refine Fc h (fun o1 h=>?_)
 refine Z ?_
 refine Dc h (fun (v10,v11,o12)=>[(6,(O .u32 v10)),(7,(O .i64 v11))]) (fun (v10,v11,o12)=>[(0,.rows 107 1 (List.map (O .u32) o12))]) (fun (v10,v11,o12)=>o1.length=o12.length) ?_
 rintro ⟨v10,v11,o12⟩ _ _ _ h _ _ q12
 refine Z ?_
 refine Am h (fun _ h=>?_) (fun _ h=>?_)
 refine ZS ?_
 refine Bv ?_
 refine ZS ?_
 refine Bv ?_
 refine ZO ?_
 refine Bw h (fun v14=>[(8,(O .u32 v14))]) (fun v14=>[]) ?_ ?_
 intro _ h _ _ _
 exact Y
 rintro v14 _ h
 exact Y
 replace h:=Cf h
 refine Ed (Eb rfl (Au ?_))
 refine C5 [.fz 5] ?_
 exact Y⟩
instance {a0 a1:List Int}:OK (Lu a0 a1) fun r=>Ar Tryz.prog 107 [(Ak 1 (O .u32)) a0,(Ak 1 (O .u32)) a1] (.tup [(Ak 1 (O .u32)) r.1,(Ak 1 (O .u32)) r.2]):=⟨fun {r} h=>by
 refine pw {T:=Bs,an:=(fun s=>bif Nat.beq s 50 then .frz 0 else bif Nat.beq s 47 then .own else .ask),nl:=(fun s=>bif Nat.beq s 9 then [(0,1)] else bif Nat.beq s 5 then [(0,1)] else bif Nat.beq s 4 then [(0,1)] else [])} Tryz.func107 ?_
 refine Z ?_
 refine Be h (fun _ h=>?_)
 refine Z ?_
 refine Am h (fun _ h=>?_) (fun _ h=>?_)
 exact Y
 refine Z ?_
 refine Am h (fun _ h=>?_) (fun _ h=>?_)
 exact Y
 refine Z ?_
 refine Fc h (fun o6 h=>?_)
 refine Z ?_
 refine Dc h (fun (v33,v34,o35)=>[(9,(.sl 1 (List.map (O .u32) v33))),(10,(O .i64 v34))]) (fun (v33,v34,o35)=>[(0,.rows 107 1 (List.map (O .u32) o35))]) (fun (v33,v34,o35)=>o6.length=o35.length) ?_
 rintro ⟨v33,v34,o35⟩ _ _ _ h _ _ q35
 refine Z ?_
 refine Am h (fun _ h=>?_) (fun _ h=>?_)
 refine Z ?_
 refine B7 h (fun _ _ _ _ h=>?_)
 refine Z ?_
 refine Ii h (fun o38 h=>?_)
 refine Z ?_
 refine Cl h (fun v39 hcv39 h=>?_)
 refine V5.mk _ (OK.ok hcv39 :) rfl ?_
 refine Z ?_
 refine Be h (fun _ h=>?_)
 refine Z ?_
 refine A6 h (fun v44=>[(11,(O .u64 v44))]) (fun v44=>[]) ?_
 rintro v44 _ _ _ h _ _
 refine Z ?_
 refine Eg h (fun _ h=>?_) (fun _ h=>?_)
 refine Z ?_
 refine Be h (fun _ h=>?_)
 refine Z ?_
 refine Be h (fun _ h=>?_)
 refine Z ?_
 refine Be h (fun _ h=>?_)
 refine Z ?_
 refine Am h (fun _ h=>?_) (fun _ h=>?_)
 exact Y
 replace h:=Cf h
 refine Z ?_
 refine Be h (fun _ h=>?_)
 refine Z ?_
 refine Be h (fun _ h=>?_)
 refine Z ?_
 refine Be h (fun _ h=>?_)
 refine Z ?_
 refine A6 h (fun (v54,v55)=>[(9,(.sl 1 (List.map (O .u32) v54))),(11,(O .u64 v55))]) (fun (v54,v55)=>[]) ?_
 rintro ⟨v54,v55⟩ _ _ _ h _ _
 exact Y
 replace h:=Cf h
 refine Z ?_
 refine Be h (fun _ h=>?_)
 refine Z ?_
 refine Be h (fun _ h=>?_)
 refine Z ?_
 refine Be h (fun _ h=>?_)
 refine Z ?_
 refine A6 h (fun (v54,v55)=>[(9,(.sl 1 (List.map (O .u32) v54))),(11,(O .u64 v55))]) (fun (v54,v55)=>[]) ?_
 rintro ⟨v54,v55⟩ _ _ _ h _ _
 exact Y
 replace h:=Cf h
 refine Ed (Eb rfl (Au ?_))
 refine C5 [.fz 8] ?_
 exact Y⟩
instance {a0 a1:List Int}:OK (Pr a0 a1) fun r=>Ar Tryz.prog 106 [(Ak 1 (O .u32)) a0,(Ak 1 (O .u32)) a1] ((Ak 1 (O .u32)) r):=⟨fun {r} h=>by
 refine pw {T:=Bs,an:=(fun _=>.ask),nl:=(fun s=>bif Nat.beq s 4 then [(0,1)] else [])} Tryz.func106 ?_
 refine Z ?_
 refine A6 h (fun (v2,v3)=>[(0,(.sl 1 (List.map (O .u32) v2))),(1,(.sl 1 (List.map (O .u32) v3)))]) (fun (v2,v3)=>[]) ?_
 rintro ⟨v2,v3⟩ _ _ _ h _ _
 exact Y⟩
instance {a0:Bool} {a1 a2:List Int}:OK (G5 a0 a1 a2) fun r=>Ar Tryz.prog 62 [Al a0,(Ak 1 (O .u32)) a1,(Ak 1 (O .u32)) a2] (Bi r):=⟨fun {r} h=>by
 refine pw {T:=Bs,an:=(fun _=>.ask),nl:=(fun s=>bif Nat.beq s 21 then [(1,1)] else [])} Tryz.func62 ?_
 refine Z ?_
 refine Be h (fun _ h=>?_)
 refine Z ?_
 refine Be h (fun _ h=>?_)
 refine ZO ?_
 refine Au (Au ?_)
 refine Bw h (fun v4=>[(19,(Al v4))]) (fun v4=>[]) ?_ ?_
 intro _ h _ _ _
 exact Y
 rintro v4 _ h
 refine Am h (fun _ h=>?_) (fun _ h=>?_)
 exact Y
 refine Z ?_
 refine Be h (fun _ h=>?_)
 refine ZO ?_
 refine Au (Au ?_)
 refine Bw h (fun v7=>[(33,(Al v7))]) (fun v7=>[]) ?_ ?_
 intro _ h _ _ _
 exact Y
 rintro v7 _ h
 exact Y⟩
instance {a0:Ai}:OK (Jk a0) fun r=>Ar Tryz.prog 153 [Bi a0] (Bi r):=⟨fun {r} h=>by
 refine pw C0 Tryz.func153 ?_
 exact Y⟩
instance {a0:Ai}:OK (Jh a0) fun r=>Ar Tryz.prog 101 [Bi a0] ((O .i64) r):=⟨fun {r} h=>by
 refine pw C0 Tryz.func101 ?_
 exact Y⟩
instance {a0 a1:List Int}:OK (Pv a0 a1) fun r=>Ar Tryz.prog 155 [(Ak 1 (O .u32)) a0,(Ak 1 (O .u32)) a1] ((Ak 1 (O .u32)) r):=⟨fun {r} h=>by
 refine pw {T:=Bs,an:=(fun s=>bif Nat.beq s 5 then .own else .ask),nl:=(fun s=>bif Nat.beq s 5 then [(0,1)] else bif Nat.beq s 4 then [(0,1)] else [])} Tryz.func155 ?_
 refine Z ?_
 refine A6 h (fun (v21,v22,o23)=>[(5,(.arr 0 o23.length 0 o23.length)),(6,(O .u32 v21)),(7,(O .i64 v22))]) (fun (v21,v22,o23)=>[(0,.rows 107 1 (List.map (O .u32) o23))]) ?_
 rintro ⟨v21,v22,o23⟩ _ _ _ h _ _
 refine Au (Au ?_)
 refine Bw h (fun v24=>[(22,(Al v24))]) (fun v24=>[]) ?_ ?_
 intro _ h _ _ _
 exact Y
 rintro v24 _ h
 refine Am h (fun _ h=>?_) (fun _ h=>?_)
 refine ZS ?_
 refine Bv ?_
 refine ZS ?_
 refine Bv ?_
 refine ZO ?_
 refine Bw h (fun v26=>[(8,(O .u32 v26))]) (fun v26=>[]) ?_ ?_
 intro _ h _ _ _
 exact Y
 rintro v26 _ h
 refine ZS ?_
 refine Bv ?_
 refine ZO ?_
 refine Bw h (fun v28=>[(8,(O .u32 v28))]) (fun v28=>[]) ?_ ?_
 intro _ h _ _ _
 exact Y
 rintro v28 _ h
 exact Y
 exact Y⟩
instance {a0 a1:Ai}:OK (Hk a0 a1) fun r=>Ar Tryz.prog 102 [Bi a0,Bi a1] (Bi r):=⟨fun {r} h=>by
 refine pw C0 Tryz.func102 ?_
 exact Y⟩
instance {a0:Ai}:OK (Pw a0) fun r=>Ar Tryz.prog 158 [Bi a0] (Bi r):=⟨fun {r} h=>by
 refine pw C0 Tryz.func158 ?_
 exact Y⟩
instance {a0 a1:Ai}:OK (Pq a0 a1) fun r=>Ar Tryz.prog 104 [Bi a0,Bi a1] (Bi r):=⟨fun {r} h=>by
 refine pw C0 Tryz.func104 ?_
 exact Y⟩
instance {a0 a1:Ai}:OK (Nm a0 a1) fun r=>Ar Tryz.prog 60 [Bi a0,Bi a1] ((O .i64) r):=⟨fun {r} h=>by
 refine pw C0 Tryz.func60 ?_
 exact Y⟩
instance {a0:Int}:OK (G4 a0) fun r=>Ar Tryz.prog 30 [(O .i64) a0] (Bi r):=⟨fun {r} h=>by
 refine pw C0 Tryz.func30 ?_
 exact Y⟩
instance {a0:Ao} {a1:Int}:OK (Ka a0 a1) fun r=>Ar Tryz.prog 61 [B9 a0,(O .i64) a1] ((O .i64) r):=⟨fun {r} h=>by
 refine pw C0 Tryz.func61 ?_
 refine Z ?_
 refine A6 h (fun v4=>[(4,(O .i64 0)),(9,(O .i64 v4))]) (fun v4=>[]) ?_
 rintro v4 _ _ _ h _ _
 exact Y⟩
instance {a0:List Int} {a1:Int}:OK (Lr a0 a1) fun r=>Ar Tryz.prog 66 [(Ak 1 (O .i64)) a0,(O .i64) a1] ((Ak 1 (O .i64)) r):=⟨fun {r} h=>by
 refine pw {T:=Bs,an:=(fun _=>.ask),nl:=(fun s=>bif Nat.beq s 4 then [(0,1)] else [])} Tryz.func66 ?_
 refine Z ?_
 refine A6 h (fun v2=>[(5,(O .i64 v2))]) (fun v2=>[]) ?_
 rintro v2 _ _ _ h _ _
 refine Z ?_
 refine Eg h (fun _ h=>?_) (fun _ h=>?_)
 refine Z ?_
 refine B7 h (fun _ _ _ _ h=>?_)
 refine Z ?_
 refine Am h (fun _ h=>?_) (fun _ h=>?_)
 exact Y
 replace h:=Cf h
 refine Ed (Eb rfl (Au (Au ?_)))
 refine Bw h (fun v6=>[(31,(Al v6))]) (fun v6=>[]) ?_ ?_
 intro _ h _ _ _
 exact Y
 rintro v6 _ h
 exact Y
 replace h:=Cf h
 refine ZO ?_
 refine J8 (Ed (Eb rfl (Au (Au ?_))))
 refine Bw h (fun v6=>[(31,(Al v6))]) (fun v6=>[]) ?_ ?_
 intro _ h _ _ _
 exact Y
 rintro v6 _ h
 exact Y⟩
instance {a0:List Ao}:OK (Nf a0) fun r=>Ar Tryz.prog 34 [(Ak 2 B9) a0] ((Ak 1 (O .i64)) r):=⟨fun {r} h=>by
 refine pw {T:=Bs,an:=(fun _=>.ask),nl:=(fun s=>bif Nat.beq s 3 then [(0,1)] else bif Nat.beq s 2 then [(0,1)] else [])} Tryz.func34 ?_
 refine Z ?_
 refine A6 h (fun (v12,v13)=>[(3,(.sl 1 (List.map (O .i64) v12))),(8,(O .i64 v13))]) (fun (v12,v13)=>[]) ?_
 rintro ⟨v12,v13⟩ _ _ _ h _ _
 refine Z ?_
 refine Am h (fun _ h=>?_) (fun _ h=>?_)
 refine Z ?_
 refine B7 h (fun _ _ _ _ h=>?_)
 refine Z ?_
 refine A6 h (fun (v18,v19)=>[(3,(.sl 1 (List.map (O .i64) v18))),(17,(O .i64 v19))]) (fun (v18,v19)=>[]) ?_
 rintro ⟨v18,v19⟩ _ _ _ h _ _
 exact Y
 exact Y⟩
instance {a0:Int}:OK (Nn a0) fun r=>Ar Tryz.prog 65 [(O .i64) a0] (Al r):=⟨fun {r} h=>by
 refine pw C0 Tryz.func65 ?_
 exact Y⟩
instance {a0:Ao}:OK (Nd a0) fun r=>Ar Tryz.prog 33 [B9 a0] (Al r):=⟨fun {r} h=>by
 refine pw C0 Tryz.func33 ?_
 refine ZS ?_
 refine Bv ?_
 refine ZO ?_
 refine Au (Au ?_)
 refine Bw h (fun v3=>[(14,(Al v3))]) (fun v3=>[]) ?_ ?_
 intro _ h _ _ _
 exact Y
 rintro v3 _ h
 refine Am h (fun _ h=>?_) (fun _ h=>?_)
 exact Y
 refine Z ?_
 refine A6 h (fun v7=>[(2,(Al false)),(18,(O .i64 v7))]) (fun v7=>[]) ?_
 rintro v7 _ _ _ h _ _
 exact Y⟩
instance {a0:List Ao}:OK (Nb a0) fun r=>Ar Tryz.prog 16 [(Ak 2 B9) a0] (Al r):=⟨fun {r} h=>by
 refine pw C0 Tryz.func16 ?_
 refine Z ?_
 refine Am h (fun _ h=>?_) (fun _ h=>?_)
 exact Y
 refine Z ?_
 refine A6 h (fun v3=>[(2,(Al false)),(9,(O .i64 v3))]) (fun v3=>[]) ?_
 rintro v3 _ _ _ h _ _
 exact Y⟩
instance {a0 a1:Ai}:OK (Ie a0 a1) fun r=>Ar Tryz.prog 103 [Bi a0,Bi a1] (Bi r):=⟨fun {r} h=>by
 refine pw C0 Tryz.func103 ?_
 exact Y⟩
instance {a0:List Ao} {a1:List Ai} {a2:List Int}:OK (Nl a0 a1 a2) fun r=>Ar Tryz.prog 59 [(Ak 2 B9) a0,(Ak 3 Bi) a1,(Ak 1 (O .i64)) a2] (.tup [(Ak 3 Bi) r.1,Bi r.2]):=⟨fun {r} h=>by
 refine pw {T:=Bs,an:=(fun _=>.ask),nl:=(fun s=>bif Nat.beq s 6 then [(0,3)] else [])} Tryz.func59 ?_
 refine Z ?_
 refine Be h (fun _ h=>?_)
 refine Z ?_
 refine Lk (f:=Bi) (z:=((Ai.mk false [] []):Ai)) (by repeat (first | exact D0.nil | apply D0.sl | apply D0.same)) h (fun o4 h=>?_)
 refine Z ?_
 refine Dc h (fun (v7,o8)=>[(19,(O .i64 v7))]) (fun (v7,o8)=>[(2,.rows 50 3 (List.map Bi o8))]) (fun (v7,o8)=>o4.length=o8.length) ?_
 rintro ⟨v7,o8⟩ _ _ _ h _ _ q8
 refine Z ?_
 refine Am h (fun _ h=>?_) (fun _ h=>?_)
 exact Y
 replace h:=Cf h
 refine Z ?_
 refine Dc h (fun (v38,v39,v40,v41,o42)=>[(29,(O .i64 v38))]) (fun (v38,v39,v40,v41,o42)=>[(1,.cells 50 [(Al v39),(.sl 1 (List.map (O .u32) v40)),(.sl 1 (List.map (O .u32) v41))]),(2,.rows 50 3 (List.map Bi o42))]) (fun (v38,v39,v40,v41,o42)=>o4.length=o42.length) ?_
 rintro ⟨v38,v39,v40,v41,o42⟩ _ _ _ h _ _ q42
 refine Z ?_
 refine Am h (fun _ h=>?_) (fun _ h=>?_)
 refine Z ?_
 refine B7 h (fun _ _ _ _ h=>?_)
 refine Z ?_
 refine B7 h (fun _ _ _ _ h=>?_)
 refine Z ?_
 refine Be h (fun _ h=>?_)
 refine Z ?_
 refine Be h (fun _ h=>?_)
 refine Z ?_
 refine Be h (fun _ h=>?_)
 refine Z ?_
 refine Dc h (fun (v57,o58)=>[(47,(O .i64 v57))]) (fun (v57,o58)=>[(2,.rows 50 3 (List.map Bi o58))]) (fun (v57,o58)=>o4.length=o58.length) ?_
 rintro ⟨v57,o58⟩ _ _ _ h _ _ q58
 exact Y
 exact Y⟩
instance {a0:List Ao} {a1:List Ai}:OK (Nk a0 a1) fun r=>Ar Tryz.prog 57 [(Ak 2 B9) a0,(Ak 3 Bi) a1] (Al r):=⟨fun {r} h=>by
 refine pw C0 Tryz.func57 ?_
 refine Z ?_
 refine A6 h (fun v3=>[(4,(Al false)),(8,(O .i64 v3))]) (fun v3=>[]) ?_
 rintro v3 _ _ _ h _ _
 exact Y⟩
instance {a0:List Ao} {a1:List Ai}:OK (Pe a0 a1) fun r=>Ar Tryz.prog 58 [(Ak 2 B9) a0,(Ak 3 Bi) a1] (Al r):=⟨fun {r} h=>by
 refine pw C0 Tryz.func58 ?_
 refine ZS ?_
 refine Bv ?_
 refine ZO ?_
 refine Au (Au ?_)
 refine Bw h (fun v3=>[(16,(Al v3))]) (fun v3=>[]) ?_ ?_
 intro _ h _ _ _
 exact Y
 rintro v3 _ h
 refine Am h (fun _ h=>?_) (fun _ h=>?_)
 exact Y
 refine Z ?_
 refine Be h (fun _ h=>?_)
 refine Z ?_
 refine Be h (fun _ h=>?_)
 refine Z ?_
 refine A6 h (fun v9=>[(4,(Al false)),(27,(O .i64 v9))]) (fun v9=>[]) ?_
 rintro v9 _ _ _ h _ _
 exact Y⟩
instance {a0:List Ao} {a1:Ao} {a2:List Ai}:OK (Ln a0 a1 a2) fun r=>Ar Tryz.prog 29 [(Ak 2 B9) a0,B9 a1,(Ak 3 Bi) a2] (Al r):=⟨fun {r} h=>by
 refine pw {T:=Bs,an:=(fun s=>bif Nat.beq s 33 then .frz 0 else .ask)} Tryz.func29 ?_
 refine ZS ?_
 refine Bv ?_
 refine ZO ?_
 refine Au (Au ?_)
 refine Bw h (fun v5=>[(24,(Al v5))]) (fun v5=>[]) ?_ ?_
 intro _ h _ _ _
 exact Y
 rintro v5 _ h
 refine Am h (fun _ h=>?_) (fun _ h=>?_)
 exact Y
 refine Z ?_
 refine Be h (fun _ h=>?_)
 refine Z ?_
 refine Am h (fun _ h=>?_) (fun _ h=>?_)
 exact Y
 refine Z ?_
 refine Tz h (fun _ h=>?_)
 refine Z ?_
 refine Ii h (fun o9 h=>?_)
 refine Z ?_
 refine Cl h (fun v10 hcv10 h=>?_)
 refine V5.mk _ (OK.ok hcv10 :) rfl ?_
 refine Z ?_
 refine Be h (fun _ h=>?_)
 refine Z ?_
 refine A6 h (fun v18=>[(6,(Al false)),(43,(O .i64 v18))]) (fun v18=>[]) ?_
 rintro v18 _ _ _ h _ _
 exact Y⟩
instance {a0:Ao}:OK (Ic a0) fun r=>Ar Tryz.prog 97 [B9 a0] (Al r):=⟨fun {r} h=>by
 refine pw C0 Tryz.func97 ?_
 refine ZS ?_
 refine Bv ?_
 refine ZO ?_
 refine Au (Au ?_)
 refine Bw h (fun v2=>[(18,(Al v2))]) (fun v2=>[]) ?_ ?_
 intro _ h _ _ _
 exact Y
 rintro v2 _ h
 refine Am h (fun _ h=>?_) (fun _ h=>?_)
 exact Y
 refine Z ?_
 refine A6 h (fun v5=>[(2,(Al false)),(22,(O .i64 v5))]) (fun v5=>[]) ?_
 rintro v5 _ _ _ h _ _
 exact Y⟩
instance {a0:Ao}:OK (Nt a0) fun r=>Ar Tryz.prog 99 [B9 a0] (.tup [B9 r.1,(O .i64) r.2]):=⟨fun {r} h=>by
 refine pw {T:=Bs,an:=(fun _=>.ask),nl:=(fun s=>bif Nat.beq s 7 then [(1,2)] else [])} Tryz.func99 ?_
 exact Y⟩
instance {a0:Nat} {a1 a2:Int} {b0:List Ax}:OK (N2 a0 a1 a2 b0) fun r=>Bh Tryz.prog 152 [(.arr 0 b0.length 0 a0),(O .i64) a1,(O .i64) a2] [.rows 71 2 (List.map B2 b0)] (.arr 0 r.2.length 0 r.1) [.rows 71 2 (List.map B2 r.2)]:=⟨fun {r} h=>by
 refine aw {T:=Bs,an:=(fun _=>.ask),nl:=(fun s=>bif Nat.beq s 6 then [(0,2)] else [])} false Tryz.func152 ?_
 refine Z ?_
 refine A6 h (fun v2=>[(7,(O .i64 v2))]) (fun v2=>[]) ?_
 rintro v2 _ _ _ h _ _
 refine Z ?_
 refine Eg h (fun _ h=>?_) (fun _ h=>?_)
 refine Z ?_
 refine E8 h (fun _ _ _ _ h=>?_)
 refine Z ?_
 refine Am h (fun _ h=>?_) (fun _ h=>?_)
 exact Y
 replace h:=Cf h
 refine Ed (Eb rfl (Au (Au ?_)))
 refine Bw h (fun v6=>[(35,(Al v6))]) (fun v6=>[]) ?_ ?_
 intro _ h _ _ _
 exact Y
 rintro v6 _ h
 refine Am h (fun _ h=>?_) (fun _ h=>?_)
 refine Z ?_
 refine E8 h (fun _ v7 _ _ h=>?_)
 refine Z ?_
 refine E8 h (fun _ v8 hiv8 _ h=>?_)
 refine Z ?_
 refine Gl (f:=B2) (x:=(Ax.mk v8.Var (Ac (v7.Coef+a2)))) (j:=(((0:Nat):Int)+v2)) rfl rfl rfl (M7 _ hiv8) ?_
 refine Z ?_
 refine E8 h (fun _ _ _ _ h=>?_)
 refine Z ?_
 refine Am h (fun _ h=>?_) (fun _ h=>?_)
 refine Z ?_
 refine Si (f:=B2) (l:=(Bt b0 (((0:Nat):Int)+v2) (Ax.mk v8.Var (Ac (v7.Coef+a2))))) rfl (Dw (l:=b0) rfl (((0:Nat):Int)+v2) (Ax.mk v8.Var (Ac (v7.Coef+a2)))) h (fun v10 h=>?_)
 refine Z ?_
 refine O1 (f:=B2) (l:=(Bt b0 (((0:Nat):Int)+v2) (Ax.mk v8.Var (Ac (v7.Coef+a2))))) rfl (Dw (l:=b0) rfl (((0:Nat):Int)+v2) (Ax.mk v8.Var (Ac (v7.Coef+a2)))) h (fun v12 h=>?_) (fun h=>?_)
 refine Z ?_
 refine Aco (f:=B2) (l:=(Bt b0 (((0:Nat):Int)+v2) (Ax.mk v8.Var (Ac (v7.Coef+a2))))) rfl (Dw (l:=b0) rfl (((0:Nat):Int)+v2) (Ax.mk v8.Var (Ac (v7.Coef+a2)))) (Dw (l:=b0) rfl (((0:Nat):Int)+v2) (Ax.mk v8.Var (Ac (v7.Coef+a2)))) h (fun v13 h=>?_)
 exact Y
 refine Z ?_
 refine Sh (f:=B2) (l:=(Bt b0 (((0:Nat):Int)+v2) (Ax.mk v8.Var (Ac (v7.Coef+a2))))) (ys:=[]) rfl rfl (Dw (l:=b0) rfl (((0:Nat):Int)+v2) (Ax.mk v8.Var (Ac (v7.Coef+a2)))) h (fun v14 h=>?_)
 exact Y
 refine Z ?_
 cases h
 exact ⟨congrArg (fun q_=>AV.arr 0 q_ 0 _) (Dw (l:=b0) rfl (((0:Nat):Int)+v2) (Ax.mk v8.Var (Ac (v7.Coef+a2)))),rfl,trivial⟩
 refine Z ?_
 refine Am h (fun _ h=>?_) (fun _ h=>?_)
 exact Y
 refine Z ?_
 refine Sh (f:=B2) (l:=b0) (ys:=[(Ax.mk 0 0)]) rfl rfl rfl h (fun v15 h=>?_)
 refine ZO ?_
 refine Au ?_
 refine Sf h (fun o3_ h hj3=>?_)
 refine Je (fun (o21:(List Ax))=>o21=o3_/\v15.1.length=o21.length) (fun o21=>[]) (fun o21=>[(0,.rows 71 2 (List.map B2 o21))]) (fun _=>rfl) ?_ ?_
 intro K3 hK3
 refine Z ?_
 refine O1 (f:=B2) (l:=v15.1) rfl rfl h (fun v17 h=>?_) (fun h=>?_)
 refine Z ?_
 refine M9 (f:=B2) (l:=v15.1) rfl rfl h (fun v18 h=>?_)
 refine Z ?_
 refine Acp (f:=B2) (l:=v15.1) rfl rfl rfl h (fun o19 hco19 h=>?_)
 refine Z ?_
 exact hK3 o19 _ _ _ ⟨(Option.some.inj h),(Acq rfl hco19)⟩ trivial ⟨⟨rfl,rfl⟩,trivial⟩
 refine Z ?_
 refine M9 (f:=B2) (l:=v15.1) rfl rfl h (fun v20 h=>?_)
 refine Z ?_
 exact hK3 v15.1 _ _ _ ⟨(Option.some.inj h),rfl⟩ trivial ⟨⟨rfl,rfl⟩,trivial⟩
 rintro o21 u3 ⟨hJ3,q21⟩
 have h:=hj3 _ hJ3
 refine Z ?_
 refine E8 h (fun _ _ hiv22 _ h=>?_)
 refine Z ?_
 refine Gl (f:=B2) (x:=(Ax.mk a1 a2)) (j:=(((0:Nat):Int)+v2)) rfl rfl rfl (M7 _ hiv22) ?_
 refine Z ?_
 cases h
 exact ⟨congrArg (fun q_=>AV.arr 0 q_ 0 _) (Dw (l:=o21) q21 (((0:Nat):Int)+v2) (Ax.mk a1 a2)),rfl,trivial⟩
 replace h:=Cf h
 refine ZO ?_
 refine J8 (Ed (Eb rfl (Au (Au ?_))))
 refine Bw h (fun v6=>[(35,(Al v6))]) (fun v6=>[]) ?_ ?_
 intro _ h _ _ _
 exact Y
 rintro v6 _ h
 refine Am h (fun _ h=>?_) (fun _ h=>?_)
 refine Z ?_
 refine E8 h (fun _ v7 _ _ h=>?_)
 refine Z ?_
 refine E8 h (fun _ v8 hiv8 _ h=>?_)
 refine Z ?_
 refine Gl (f:=B2) (x:=(Ax.mk v8.Var (Ac (v7.Coef+a2)))) (j:=(((0:Nat):Int)+v2)) rfl rfl rfl (M7 _ hiv8) ?_
 refine Z ?_
 refine E8 h (fun _ _ _ _ h=>?_)
 refine Z ?_
 refine Am h (fun _ h=>?_) (fun _ h=>?_)
 refine Z ?_
 refine Si (f:=B2) (l:=(Bt b0 (((0:Nat):Int)+v2) (Ax.mk v8.Var (Ac (v7.Coef+a2))))) rfl (Dw (l:=b0) rfl (((0:Nat):Int)+v2) (Ax.mk v8.Var (Ac (v7.Coef+a2)))) h (fun v10 h=>?_)
 refine Z ?_
 refine O1 (f:=B2) (l:=(Bt b0 (((0:Nat):Int)+v2) (Ax.mk v8.Var (Ac (v7.Coef+a2))))) rfl (Dw (l:=b0) rfl (((0:Nat):Int)+v2) (Ax.mk v8.Var (Ac (v7.Coef+a2)))) h (fun v12 h=>?_) (fun h=>?_)
 refine Z ?_
 refine Aco (f:=B2) (l:=(Bt b0 (((0:Nat):Int)+v2) (Ax.mk v8.Var (Ac (v7.Coef+a2))))) rfl (Dw (l:=b0) rfl (((0:Nat):Int)+v2) (Ax.mk v8.Var (Ac (v7.Coef+a2)))) (Dw (l:=b0) rfl (((0:Nat):Int)+v2) (Ax.mk v8.Var (Ac (v7.Coef+a2)))) h (fun v13 h=>?_)
 exact Y
 refine Z ?_
 refine Sh (f:=B2) (l:=(Bt b0 (((0:Nat):Int)+v2) (Ax.mk v8.Var (Ac (v7.Coef+a2))))) (ys:=[]) rfl rfl (Dw (l:=b0) rfl (((0:Nat):Int)+v2) (Ax.mk v8.Var (Ac (v7.Coef+a2)))) h (fun v14 h=>?_)
 exact Y
 refine Z ?_
 cases h
 exact ⟨congrArg (fun q_=>AV.arr 0 q_ 0 _) (Dw (l:=b0) rfl (((0:Nat):Int)+v2) (Ax.mk v8.Var (Ac (v7.Coef+a2)))),rfl,trivial⟩
 refine Z ?_
 refine Am h (fun _ h=>?_) (fun _ h=>?_)
 exact Y
 refine Z ?_
 refine Sh (f:=B2) (l:=b0) (ys:=[(Ax.mk 0 0)]) rfl rfl rfl h (fun v15 h=>?_)
 refine ZO ?_
 refine Au ?_
 refine Sf h (fun o5_ h hj5=>?_)
 refine Je (fun (o21:(List Ax))=>o21=o5_/\v15.1.length=o21.length) (fun o21=>[]) (fun o21=>[(0,.rows 71 2 (List.map B2 o21))]) (fun _=>rfl) ?_ ?_
 intro K5 hK5
 refine Z ?_
 refine O1 (f:=B2) (l:=v15.1) rfl rfl h (fun v17 h=>?_) (fun h=>?_)
 refine Z ?_
 refine M9 (f:=B2) (l:=v15.1) rfl rfl h (fun v18 h=>?_)
 refine Z ?_
 refine Acp (f:=B2) (l:=v15.1) rfl rfl rfl h (fun o19 hco19 h=>?_)
 refine Z ?_
 exact hK5 o19 _ _ _ ⟨(Option.some.inj h),(Acq rfl hco19)⟩ trivial ⟨⟨rfl,rfl⟩,trivial⟩
 refine Z ?_
 refine M9 (f:=B2) (l:=v15.1) rfl rfl h (fun v20 h=>?_)
 refine Z ?_
 exact hK5 v15.1 _ _ _ ⟨(Option.some.inj h),rfl⟩ trivial ⟨⟨rfl,rfl⟩,trivial⟩
 rintro o21 u5 ⟨hJ5,q21⟩
 have h:=hj5 _ hJ5
 refine Z ?_
 refine E8 h (fun _ _ hiv22 _ h=>?_)
 refine Z ?_
 refine Gl (f:=B2) (x:=(Ax.mk a1 a2)) (j:=(((0:Nat):Int)+v2)) rfl rfl rfl (M7 _ hiv22) ?_
 refine Z ?_
 cases h
 exact ⟨congrArg (fun q_=>AV.arr 0 q_ 0 _) (Dw (l:=o21) q21 (((0:Nat):Int)+v2) (Ax.mk a1 a2)),rfl,trivial⟩⟩
instance {a0 a1:Ao} {a2:Int}:OK (Nu a0 a1 a2) fun r=>Ar Tryz.prog 100 [B9 a0,B9 a1,(O .i64) a2] (B9 r):=⟨fun {r} h=>by
 refine pw C0 Tryz.func100 ?_
 refine Z ?_
 refine Tz h (fun _ h=>?_)
 refine Z ?_
 refine A6 h (fun (v16,o17,v18)=>[(24,(O .i64 v16))]) (fun (v16,o17,v18)=>[(3,.rows 71 2 (List.map B2 o17)),(4,.cells 25 [(O .i64 (Ac (a0.Const+(Ac (a2*a1.Const))))),(.arr 3 o17.length 0 v18)])]) ?_
 rintro ⟨v16,o17,v18⟩ _ _ _ h _ _
 refine Z ?_
 refine Am h (fun _ h=>?_) (fun _ h=>?_)
 refine Z ?_
 refine B7 h (fun _ _ _ _ h=>?_)
 refine Z ?_
 refine A7 [3] h (fun _ h=>?_)
 exact Y
 replace h:=Cf h
 refine ZS ?_
 refine Bv ?_
 refine ZO ?_
 refine C5 [.fzcp 6 1] ?_
 refine Acs (f:=B2) (l:=o17) rfl rfl h (fun o24 h=>?_)
 exact Y⟩
instance {a0 a1:Ao}:OK (Nj a0 a1) fun r=>Ar Tryz.prog 56 [B9 a0,B9 a1] (.tup [B9 r.1,(O .i64) r.2]):=⟨fun {r} h=>by
 refine pw {T:=Bs,an:=(fun _=>.ask),nl:=(fun s=>bif Nat.beq s 14 then [(1,2)] else [])} Tryz.func56 ?_
 refine ZS ?_
 refine Bv ?_
 refine ZO ?_
 refine Au (Au ?_)
 refine Bw h (fun v6=>[(13,(Al v6))]) (fun v6=>[]) ?_ ?_
 intro _ h _ _ _
 exact Y
 rintro v6 _ h
 exact Y⟩
instance {a0 a1:Ao}:OK (Pp a0 a1) fun r=>Ar Tryz.prog 98 [B9 a0,B9 a1] (.tup [B9 r.1,(O .i64) r.2]):=⟨fun {r} h=>by
 refine pw {T:=Bs,an:=(fun _=>.ask),nl:=(fun s=>bif Nat.beq s 14 then [(1,2)] else [])} Tryz.func98 ?_
 refine ZS ?_
 refine Bv ?_
 refine ZO ?_
 refine Au (Au ?_)
 refine Bw h (fun v6=>[(13,(Al v6))]) (fun v6=>[]) ?_ ?_
 intro _ h _ _ _
 exact Y
 rintro v6 _ h
 exact Y⟩
instance {a0:Ds}:OK (Pd a0) fun r=>Ar Tryz.prog 55 [Gq a0] (Al r):=⟨fun {r} h=>by
 refine pw C0 Tryz.func55 ?_
 refine ZS ?_
 refine Bv ?_
 refine ZO ?_
 refine Au (Au ?_)
 refine Bw h (fun v4=>[(26,(Al v4))]) (fun v4=>[]) ?_ ?_
 intro _ h _ _ _
 exact Y
 rintro v4 _ h
 exact Y⟩
instance {a0:Ds}:OK (Pa a0) fun r=>Ar Tryz.prog 28 [Gq a0] ((Ak 2 B9) r):=⟨fun {r} h=>by
 refine pw {T:=Bs,an:=(fun _=>.ask),nl:=(fun s=>bif Nat.beq s 2 then [(0,2)] else [])} Tryz.func28 ?_
 exact Y⟩
instance {a0:List Ao} {a1:Ds} {a2 a3:List Ai}:OK (O8 a0 a1 a2 a3) fun r=>Ar Tryz.prog 12 [(Ak 2 B9) a0,Gq a1,(Ak 3 Bi) a2,(Ak 3 Bi) a3] (Al r):=⟨fun {r} h=>by
 refine pw C0 Tryz.func12 ?_
 exact Y⟩
instance {a0:List Ao} {a1:Ds} {a2 a3:List Ai}:OK (Sq a0 a1 a2 a3) fun r=>Ar Tryz.prog 3 [(Ak 2 B9) a0,Gq a1,(Ak 3 Bi) a2,(Ak 3 Bi) a3] (Al r):=⟨fun {r} h=>by
 refine pw C0 Tryz.func3 ?_
 refine Z ?_
 refine Be h (fun _ h=>?_)
 refine Z ?_
 refine Am h (fun _ h=>?_) (fun _ h=>?_)
 exact Y
 refine Gm (Au (Au ?_))
 refine Bw h (fun v7=>[(28,(Al v7))]) (fun v7=>[]) ?_ ?_
 intro _ h _ _ _
 exact Y
 rintro v7 _ h
 exact Y⟩
end Go.Ab
