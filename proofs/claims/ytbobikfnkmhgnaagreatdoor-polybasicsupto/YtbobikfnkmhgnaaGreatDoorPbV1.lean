/- The contracts of the functions, each by its walk (made by a program). -/
import Derived.Test.YtbobikfnkmhgnaaGreatDoorPbV0
namespace Go.Ab
open Go Go.Proofs
set_option maxRecDepth 10000
set_option maxHeartbeats 4000000
set_option linter.unusedVariables false
instance {a0:List Aj} {b1:List (ByteArray×Int)} {b2:List Aj}:OK (N7 a0 b1 b2) fun r=>Bw Tryz.prog 75 [(.loc 0 0),(Au 5 Bv) a0] [.cells 172 [(.mp 1),(.arr 2 b2.length 0 b2.length)],.map (Bk (O .i64) b1),.rows 61 5 (List.map Bv b2)] (.tup []) [.cells 172 [(.mp 1),(.arr 2 r.2.length 0 r.2.length)],.map (Bk (O .i64) r.1),.rows 61 5 (List.map Bv r.2)]:=⟨fun {r} h=>by
 refine aw C0 true Tryz.func75 ?_
 refine Z ?_
 refine A3 h (fun (v10,o11,o12)=>[(11,(O .i64 v10))]) (fun (v10,o11,o12)=>[(0,.cells 172 [(.mp 1),(.arr 2 o12.length 0 o12.length)]),(1,.map (Bk (O .i64) o11)),(2,.rows 61 5 (List.map Bv o12))]) ?_
 rintro ⟨v10,o11,o12⟩ _ _ _ h _ hn1
 refine Z ?_
 refine Am h (fun _ h=>?_) (fun _ h=>?_)
 refine Z ?_
 refine Bt h (fun _ _ _ _ h=>?_)
 refine Z ?_
 refine Be h (fun _ h=>?_)
 refine ZO ?_
 refine As (As ?_)
 refine Bx h (fun (v16,v17)=>[(7,(O .i64 v16)),(8,(Ao v17))]) (fun (v16,v17)=>[]) ?_ ?_
 intro _ h _ _ _
 refine Z ?_
 refine Sv (f:=(O .i64)) (l:=o11) rfl (0:Int) h (fun j_ hb h=>?_) (fun hb h=>?_)
 exact Y
 exact Y
 rintro ⟨v16,v17⟩ _ h
 refine Z ?_
 refine Am h (fun _ h=>?_) (fun _ h=>?_)
 refine Z ?_
 refine Hs h (fun _ _ _ _ h=>?_)
 refine Z ?_
 refine Be h (fun v19 h=>?_)
 refine Z ?_
 refine Hs h (fun _ v20 hiv20 _ h=>?_)
 refine Z ?_
 refine H6 (f:=Bv) (x:=(Aj.mk v19 v20.Mono)) (j:=v16) rfl rfl (Nat.zero_add _) hiv20 ?_
 refine Z ?_
 exact hn1 _ _ _ _ (Option.some.inj h) ⟨rfl,trivial⟩ ⟨⟨rfl,rfl⟩,⟨rfl,rfl⟩,⟨congrArg (fun q_=>Bj.cells 172 [(.mp 1),(.arr 2 q_ 0 q_)]) (Fy (l:=o12) rfl v16 (Aj.mk v19 v20.Mono)),rfl⟩,trivial⟩ trivial
 refine Z ?_
 refine P1 (f:=(O .i64)) (l:=o11) (x:=((o12.length:Nat):Int)) rfl rfl ?_
 exact Y
 exact Y⟩
abbrev Akx (k:Nat):Prop:=∀{a0:A9},OK (Qy k a0) fun r=>Ar Tryz.prog 269 [Ev a0] (Ev r)
theorem Aut (k:Nat):Akx k:=by
 induction k with
 | zero=>exact okz
 | succ k ih=>
  refine @fun a0=>⟨fun {r} h=>?_⟩
  .unfold Qy at h
   refine pw {T:=Cf,an:=(fun _=>.ask),nl:=(fun s=>bif Nat.beq s 17 then [(0,2)] else [])} Tryz.func269 ?_
   refine ZS ?_
   refine B1 ?_
   refine ZS ?_
   refine B1 ?_
   refine ZO ?_
   refine As (As ?_)
   refine Db [.own 3 1 42 2] ?_
   refine Z ?_
   refine A3 h (fun (v15,o16)=>[(12,(O .i64 v15))]) (fun (v15,o16)=>[(2,.cells 42 [(O .i64 a0.Num),(.arr 3 o16.length 0 o16.length)]),(3,.rows 42 2 (Hr o16))]) ?_
   rintro ⟨v15,o16⟩ _ _ _ h _ _
   exact Y
instance {k:Nat}:Akx k:=(Aut k)
instance {a0:List Dk}:OK (Zp a0) fun r=>Ar Tryz.prog 147 [(Au 2 G2) a0] ((Au 2 G2) r):=⟨fun {r} h=>by
 exact At4 h⟩
instance {a0:A8}:OK (Wc a0) fun r=>Ar Tryz.prog 212 [F0 a0] (F0 r):=⟨fun {r} h=>by
 refine pw {T:=Cf,an:=(fun _=>.ask),nl:=(fun s=>bif Nat.beq s 44 then [(0,3)] else bif Nat.beq s 17 then [(0,3)] else [])} Tryz.func212 ?_
 refine ZS ?_
 refine B1 ?_
 refine ZS ?_
 refine B1 ?_
 refine ZO ?_
 refine As (As ?_)
 refine Db [.own 3 0 85 3,.own 3 1 91 3] ?_
 refine Z ?_
 refine A3 h (fun (v16,o17)=>[(12,(O .i64 v16))]) (fun (v16,o17)=>[(2,.cells 59 [(.arr 3 o17.length 0 o17.length),(.arr 4 0 0 0)]),(3,.rows 85 3 (List.map De o17))]) ?_
 rintro ⟨v16,o17⟩ _ _ _ h _ _
 refine Z ?_
 refine Am h (fun _ h=>?_) (fun _ h=>?_)
 exact Y
 replace h:=Cj h
 refine Z ?_
 refine A3 h (fun (v35,o36)=>[(31,(O .i64 v35))]) (fun (v35,o36)=>[(2,.cells 59 [(.arr 3 o17.length 0 o17.length),(.arr 4 o36.length 0 o36.length)]),(4,.rows 91 3 (List.map Dc o36))]) ?_
 rintro ⟨v35,o36⟩ _ _ _ h _ _
 exact Y⟩
instance {a0:List Aj}:OK (Vz a0) fun r=>Ar Tryz.prog 134 [(Au 5 Bv) a0] ((Au 5 Bv) r):=⟨fun {r} h=>by
 refine pw {T:=Cf,an:=(fun s=>bif Nat.beq s 3 then .own else .ask),nl:=(fun s=>bif Nat.beq s 3 then [(0,5)] else bif Nat.beq s 2 then [(0,5)] else [])} Tryz.func134 ?_
 refine Z ?_
 refine A3 h (fun (v14,o15)=>[(3,(.arr 0 o15.length 0 o15.length)),(8,(O .i64 v14))]) (fun (v14,o15)=>[(0,.rows 61 5 (List.map Bv o15))]) ?_
 rintro ⟨v14,o15⟩ _ _ _ h _ _
 exact Y⟩
instance {a0:Int}:OK (Zw a0) fun r=>Ar Tryz.prog 268 [(O .u64) a0] ((O .i64) r):=⟨fun {r} h=>by
 refine pw C0 Tryz.func268 ?_
 refine ZS ?_
 refine B1 ?_
 refine ZS ?_
 refine B1 ?_
 refine ZO ?_
 refine Bx h (fun (v2,v3)=>[(0,(O .u64 v2)),(2,(O .i64 v3))]) (fun (v2,v3)=>[]) ?_ ?_
 intro _ h _ _ _
 exact Y
 rintro ⟨v2,v3⟩ _ h
 refine ZS ?_
 refine B1 ?_
 refine ZO ?_
 refine Bx h (fun (v5,v6)=>[(0,(O .u64 v5)),(2,(O .i64 v6))]) (fun (v5,v6)=>[]) ?_ ?_
 intro _ h _ _ _
 exact Y
 rintro ⟨v5,v6⟩ _ h
 refine ZS ?_
 refine B1 ?_
 refine ZO ?_
 refine Bx h (fun (v8,v9)=>[(0,(O .u64 v8)),(2,(O .i64 v9))]) (fun (v8,v9)=>[]) ?_ ?_
 intro _ h _ _ _
 exact Y
 rintro ⟨v8,v9⟩ _ h
 exact Y⟩
instance {a0:Int}:OK (Wb a0) fun r=>Ar Tryz.prog 211 [(O .u64) a0] ((O .i64) r):=⟨fun {r} h=>by
 refine pw C0 Tryz.func211 ?_
 exact Y⟩
instance {a0 a1:Aj}:OK (M5 a0 a1) fun r=>Ar Tryz.prog 133 [Bv a0,Bv a1] ((O .i64) r):=⟨fun {r} h=>by
 refine pw C0 Tryz.func133 ?_
 exact Y⟩
instance {a0 a1:Int} {b0:List Aj}:OK (Ws a0 a1 b0) fun r=>Bw Tryz.prog 259 [(.arr 0 b0.length 0 b0.length),(O .i64) a0,(O .i64) a1,(.fn 133 [])] [.rows 61 5 (List.map Bv b0)] (.tup []) [.rows 61 5 (List.map Bv r)]:=⟨fun {r} h=>by
 refine aw C0 true Tryz.func259 ?_
 refine Z ?_
 refine Ff h (fun (v21,o22)=>[(8,(O .i64 v21))]) (fun (v21,o22)=>[(0,.rows 61 5 (List.map Bv o22))]) (fun (v21,o22)=>b0.length=o22.length) ?_
 rintro ⟨v21,o22⟩ _ _ _ h _ _ q22
 refine Z ?_
 refine Am h (fun _ h=>?_) (fun _ h=>?_)
 refine Z ?_
 refine Ff h (fun (v31,o32)=>[(9,(O .i64 v31))]) (fun (v31,o32)=>[(0,.rows 61 5 (List.map Bv o32))]) (fun (v31,o32)=>b0.length=o32.length) ?_
 rintro ⟨v31,o32⟩ _ _ _ h _ _ q32
 refine As (As ?_)
 refine Bx h (fun v36=>[(34,(Ao v36))]) (fun v36=>[]) ?_ ?_
 intro _ h _ _ _
 exact Y
 rintro v36 _ h
 exact Y
 exact Y⟩
instance {a0 a1 a2:Int} {b0:List Aj}:OK (Wa a0 a1 a2 b0) fun r=>Bw Tryz.prog 210 [(.arr 0 b0.length 0 b0.length),(O .i64) a0,(O .i64) a1,(O .i64) a2,(.fn 133 [])] [.rows 61 5 (List.map Bv b0)] (.tup []) [.rows 61 5 (List.map Bv r)]:=⟨fun {r} h=>by
 refine aw C0 true Tryz.func210 ?_
 refine Z ?_
 refine A3 h (fun _=>[(1,(O .i64 a0)),(2,(O .i64 a1)),(3,(O .i64 a2)),(10,(Ao true)),(11,(Ao true))]) (fun _=>[]) ?_
 rintro _ _ _ _ h _ _
 refine Z ?_
 refine Am h (fun _ h=>?_) (fun _ h=>?_)
 refine Z ?_
 refine Bb [0] h (fun _ h=>?_)
 refine C9 h (fun v2 hgv2 h=>?_)
 exact Y
 exact Y⟩
theorem Auu {b0:List Aj} {r:(List Aj)} (h:Aek b0=some r):Bw Tryz.prog 132 [(.arr 0 b0.length 0 b0.length),(.fn 133 [])] [.rows 61 5 (List.map Bv b0)] (.tup []) [.rows 61 5 (List.map Bv r)]:=by
 refine aw C0 true Tryz.func132 ?_
 refine Z ?_
 refine Be h (fun _ h=>?_)
 refine Z ?_
 refine Bb [0] h (fun _ h=>?_)
 refine C9 h (fun v3 hgv3 h=>?_)
 exact Y
instance {b0:List Aj}:OK (M4 b0) fun r=>Bw Tryz.prog 132 [(.arr 0 b0.length 0 b0.length),(.fn 133 [])] [.rows 61 5 (List.map Bv b0)] (.tup []) [.rows 61 5 (List.map Bv r)]:=⟨fun {r} h=>by
 unfold M4 at h
 cases hb:Nat.ble b0.length 12 with
 | true=>rw [hb] at h; exact Auu h
 | false=>rw [hb] at h; exact Aue (eA:=Bv) (cmp:=M5) (g:=133) (enters_of Tryz.func133 (by kernel_rfl) rfl) (fun x y n h=>(OK.ok h :)) (fun x=>⟨_,rfl⟩) h (by rintro rfl; cases hb)⟩
instance {b1:List (ByteArray×Int)} {b2:List Aj}:OK (N8 b1 b2) fun r=>Bw Tryz.prog 77 [(.loc 0 0)] [.cells 172 [(.mp 1),(.arr 2 b2.length 0 b2.length)],.map (Bk (O .i64) b1),.rows 61 5 (List.map Bv b2)] (.tup [(Au 5 Bv) r.1,(O .i64) r.2]) [.cells 172 [(.mp 1),(.arr 2 b2.length 0 b2.length)],.map (Bk (O .i64) b1),.rows 61 5 (List.map Bv b2)]:=⟨fun {r} h=>by
 refine aw {T:=Cf,an:=(fun s=>bif Nat.beq s 4 then .own else .ask),nl:=(fun s=>bif Nat.beq s 4 then [(0,5)] else bif Nat.beq s 2 then [(0,5)] else [])} true Tryz.func77 ?_
 refine Z ?_
 refine A3 h (fun (v12,o13)=>[(4,(.arr 3 o13.length 0 o13.length)),(12,(O .i64 v12))]) (fun (v12,o13)=>[(3,.rows 61 5 (List.map Bv o13))]) ?_
 rintro ⟨v12,o13⟩ _ _ _ h _ _
 refine Z ?_
 refine Am h (fun _ h=>?_) (fun _ h=>?_)
 exact Y
 replace h:=Cj h
 refine Z ?_
 refine Am h (fun _ h=>?_) (fun _ h=>?_)
 exact Y
 refine Z ?_
 refine Bb [3] h (fun _ h=>?_)
 refine C9 h (fun v20 hgv20 h=>?_)
 refine ZO ?_
 refine As ?_
 refine Db [.fz 4] ?_
 exact Y⟩
instance {a0:A8} {b1:List (ByteArray×Int)} {b2:List (ByteArray×(List Co))} {b0_0:List Az} {b0_1:List Ah} {b0_2 b0_3:Int} {b0_4:List Ah}:OK (P6 a0 b1 b2 b0_0 b0_1 b0_2 b0_3 b0_4) fun r=>Bw Tryz.prog 51 [(.loc 0 0),F0 a0] [.cells 143 [(.sl 3 (List.map Cn b0_0)),(.sl 3 (Bl b0_1)),(O .i64 b0_2),(O .i64 b0_3),(.sl 3 (Bl b0_4)),(.mp 1),(.mp 2)],.map (Bk (O .i64) b1),.map (Bk (Au 5 Df) b2)] (.tup [(Au 5 Bv) r.1,(O .i64) r.2.1]) [.cells 143 [(.sl 3 (List.map Cn b0_0)),(.sl 3 (Bl b0_1)),(O .i64 b0_2),(O .i64 b0_3),(.sl 3 (Bl b0_4)),(.mp 1),(.mp 2)],.map (Bk (O .i64) r.2.2.1),.map (Bk (Au 5 Df) r.2.2.2)]:=⟨fun {r} h=>by
 refine aw {T:=Cf,an:=(fun _=>.ask),nl:=(fun s=>bif Nat.beq s 4 then [(0,5)] else [])} true Tryz.func51 ?_
 refine Z ?_
 refine Be h (fun _ h=>?_)
 refine Z ?_
 refine Bb [0,1,2] h (fun _ h=>?_)
 refine Z ?_
 refine Am h (fun _ h=>?_) (fun _ h=>?_)
 exact Y
 refine Z ?_
 refine Bb [] h (fun _ h=>?_)
 refine Z ?_
 refine Bb [5,4,6] h (fun _ h=>?_)
 refine Z ?_
 refine Bb [5,4,6] h (fun _ h=>?_)
 exact Y⟩
instance {a0:Int} {a1:A9}:OK (Aen a0 a1) fun r=>Ar Tryz.prog 50 [(.val (.pointer none)),(O .i64) a0,Ev a1] ((O .i64) r):=⟨fun {r} h=>by
 refine pw C0 Tryz.func50 ?_
 exact Y⟩
instance {a0:Int} {a1:A9}:OK (Ajt a0 a1) fun r=>Ar Tryz.prog 176 [(.val (.pointer none)),(O .i64) a0,Ev a1] ((Au 3 De) r):=⟨fun {r} h=>by
 refine pw {T:=Cf,an:=(fun _=>.ask),nl:=(fun s=>bif Nat.beq s 6 then [(0,3)] else [])} Tryz.func176 ?_
 exact Y⟩
instance {a0:List Bh}:OK (Aju a0) fun r=>Ar Tryz.prog 174 [(.val (.pointer none)),(Au 3 De) a0] (.tup [(Au 5 Df) r.1,(O .i64) r.2]):=⟨fun {r} h=>by
 refine pw {T:=Cf,an:=(fun _=>.ask),nl:=(fun s=>bif Nat.beq s 4 then [(0,5)] else [])} Tryz.func174 ?_
 refine ZS ?_
 refine B1 ?_
 refine ZS ?_
 refine B1 ?_
 refine ZO ?_
 refine As (As ?_)
 refine Db [.own 6 1 5 1] ?_
 refine Z ?_
 refine Sw ?_
 refine Z ?_
 refine Am h (fun _ h=>?_) (fun _ h=>?_)
 refine Z ?_
 refine Bt h (fun _ _ _ _ h=>?_)
 refine Z ?_
 refine Be h (fun _ h=>?_)
 refine Z ?_
 refine Bb [0,1] h (fun _ h=>?_)
 refine Z ?_
 refine A3 h (fun (v17,o18)=>[(18,(O .i64 v17))]) (fun (v17,o18)=>[(0,.cells 199 [(.loc 0 0),(.arr 1 o18.length 0 o18.length)]),(1,.rows 5 1 (List.map (O .u8) o18))]) ?_
 rintro ⟨v17,o18⟩ _ _ _ h _ _
 refine Z ?_
 refine Am h (fun _ h=>?_) (fun _ h=>?_)
 refine Z ?_
 refine Bt h (fun _ _ _ _ h=>?_)
 refine Z ?_
 refine Be h (fun _ h=>?_)
 refine Z ?_
 refine Bb [0,1] h (fun _ h=>?_)
 exact Y
 exact Y
 exact Y⟩
instance {a0:Aq} {a1:A8}:OK (Ajv a0 a1) fun r=>Ar Tryz.prog 103 [(.val (.pointer none)),B9 a0,F0 a1] (.tup [(Au 5 Bv) r.1,(O .i64) r.2]):=⟨fun {r} h=>by
 refine pw {T:=Cf,an:=(fun s=>bif Nat.beq s 22 then .own else bif Nat.beq s 14 then .own else .ask),nl:=(fun s=>bif Nat.beq s 155 then [(0,3)] else bif Nat.beq s 92 then [(1,3)] else bif Nat.beq s 31 then [(3,3),(4,3)] else bif Nat.beq s 22 then [(0,5)] else bif Nat.beq s 14 then [(0,5)] else bif Nat.beq s 6 then [(0,5)] else [])} Tryz.func103 ?_
 refine Z ?_
 refine Be h (fun _ h=>?_)
 refine Z ?_
 refine Am h (fun _ h=>?_) (fun _ h=>?_)
 exact Y
 refine Z ?_
 refine Bb [] h (fun _ h=>?_)
 refine Z ?_
 refine Bb [3] h (fun _ h=>?_)
 refine C9 h (fun v8 hgv8 h=>?_)
 refine ZO ?_
 refine As (Iw ?_)
 refine Db [.fz 9] ?_
 refine Z ?_
 refine A3 h (fun (v93,v94)=>[(6,(.sl 5 (List.map Bv []))),(7,(O .i64 0)),(8,(.sl 5 (List.map Bv v93))),(9,(.sl 3 (List.map De v94)))]) (fun (v93,v94)=>[]) ?_
 rintro ⟨v93,v94⟩ _ _ _ h _ _
 refine Z ?_
 refine Am h (fun _ h=>?_) (fun _ h=>?_)
 refine Z ?_
 refine Bt h (fun _ _ _ _ h=>?_)
 refine Z ?_
 refine A3 h (fun v97=>[(11,(O .i64 v97))]) (fun v97=>[]) ?_
 rintro v97 _ _ _ h _ _
 refine Z ?_
 refine Fh h (fun _ h=>?_) (fun _ h=>?_)
 refine Z ?_
 refine Bt h (fun _ _ _ _ h=>?_)
 refine Z ?_
 refine Am h (fun _ h=>?_) (fun _ h=>?_)
 exact Y
 replace h:=Cj h
 refine Z ?_
 refine Lq h (fun _ h=>?_)
 refine Z ?_
 refine Be h (fun _ h=>?_)
 refine Z ?_
 refine Am h (fun _ h=>?_) (fun _ h=>?_)
 exact Y
 refine Z ?_
 refine A3 h (fun (v151,o152)=>[(14,(.arr 4 o152.length 0 o152.length)),(73,(O .i64 v151))]) (fun (v151,o152)=>[(4,.rows 61 5 (List.map Bv o152))]) ?_
 rintro ⟨v151,o152⟩ _ _ _ h _ _
 refine Z ?_
 refine Am h (fun _ h=>?_) (fun _ h=>?_)
 refine Z ?_
 refine Bt h (fun _ _ _ _ h=>?_)
 refine Z ?_
 refine A3 h (fun (v167,o168)=>[(14,(.arr 4 o168.length 0 o168.length)),(79,(O .i64 v167))]) (fun (v167,o168)=>[(4,.rows 61 5 (List.map Bv o168))]) ?_
 rintro ⟨v167,o168⟩ _ _ _ h _ _
 exact Y
 replace h:=Cj h
 refine E8 (E6 rfl ?_)
 refine Db [.fz 14] ?_
 exact Y
 replace h:=Cj h
 refine Z ?_
 refine Lq h (fun _ h=>?_)
 refine Z ?_
 refine Be h (fun _ h=>?_)
 refine Z ?_
 refine Am h (fun _ h=>?_) (fun _ h=>?_)
 exact Y
 refine Z ?_
 refine A3 h (fun (v151,o152)=>[(14,(.arr 4 o152.length 0 o152.length)),(73,(O .i64 v151))]) (fun (v151,o152)=>[(4,.rows 61 5 (List.map Bv o152))]) ?_
 rintro ⟨v151,o152⟩ _ _ _ h _ _
 refine Z ?_
 refine Am h (fun _ h=>?_) (fun _ h=>?_)
 refine Z ?_
 refine Bt h (fun _ _ _ _ h=>?_)
 refine Z ?_
 refine A3 h (fun (v167,o168)=>[(14,(.arr 4 o168.length 0 o168.length)),(79,(O .i64 v167))]) (fun (v167,o168)=>[(4,.rows 61 5 (List.map Bv o168))]) ?_
 rintro ⟨v167,o168⟩ _ _ _ h _ _
 exact Y
 replace h:=Cj h
 refine E8 (E6 rfl ?_)
 refine Db [.fz 14] ?_
 exact Y
 replace h:=Cj h
 refine Z ?_
 refine Bb [] h (fun _ h=>?_)
 refine Z ?_
 refine Bb [5] h (fun _ h=>?_)
 refine C9 h (fun v186 hgv186 h=>?_)
 refine ZO ?_
 refine As (Iw ?_)
 refine Db [.fz 19] ?_
 refine Z ?_
 refine A3 h (fun (v277,v278)=>[(8,(.sl 5 (List.map Bv v277))),(19,(.sl 3 (List.map Dc v278)))]) (fun (v277,v278)=>[]) ?_
 rintro ⟨v277,v278⟩ _ _ _ h _ _
 refine Z ?_
 refine Am h (fun _ h=>?_) (fun _ h=>?_)
 refine Z ?_
 refine Bt h (fun _ _ _ _ h=>?_)
 refine Z ?_
 refine A3 h (fun v283=>[(21,(O .i64 v283))]) (fun v283=>[]) ?_
 rintro v283 _ _ _ h _ _
 refine Z ?_
 refine Fh h (fun _ h=>?_) (fun _ h=>?_)
 refine Z ?_
 refine Bt h (fun _ _ _ _ h=>?_)
 refine Z ?_
 refine Be h (fun _ h=>?_)
 refine Z ?_
 refine Am h (fun _ h=>?_) (fun _ h=>?_)
 exact Y
 replace h:=Cj h
 refine Z ?_
 refine Lq h (fun _ h=>?_)
 refine Z ?_
 refine Be h (fun _ h=>?_)
 refine Z ?_
 refine A3 h (fun (v340,o341)=>[(22,(.arr 7 o341.length 0 o341.length)),(135,(O .i64 v340))]) (fun (v340,o341)=>[(7,.rows 61 5 (List.map Bv o341))]) ?_
 rintro ⟨v340,o341⟩ _ _ _ h _ _
 refine Z ?_
 refine Am h (fun _ h=>?_) (fun _ h=>?_)
 refine Z ?_
 refine Bt h (fun _ _ _ _ h=>?_)
 refine Z ?_
 refine Be h (fun _ h=>?_)
 refine Z ?_
 refine Am h (fun _ h=>?_) (fun _ h=>?_)
 exact Y
 refine Z ?_
 refine A3 h (fun (v357,o358)=>[(22,(.arr 7 o358.length 0 o358.length)),(145,(O .i64 v357))]) (fun (v357,o358)=>[(7,.rows 61 5 (List.map Bv o358))]) ?_
 rintro ⟨v357,o358⟩ _ _ _ h _ _
 exact Y
 replace h:=Cj h
 refine E8 (E6 rfl ?_)
 refine Db [.fz 22] ?_
 exact Y
 replace h:=Cj h
 refine Z ?_
 refine Lq h (fun _ h=>?_)
 refine Z ?_
 refine Be h (fun _ h=>?_)
 refine Z ?_
 refine A3 h (fun (v340,o341)=>[(22,(.arr 7 o341.length 0 o341.length)),(135,(O .i64 v340))]) (fun (v340,o341)=>[(7,.rows 61 5 (List.map Bv o341))]) ?_
 rintro ⟨v340,o341⟩ _ _ _ h _ _
 refine Z ?_
 refine Am h (fun _ h=>?_) (fun _ h=>?_)
 refine Z ?_
 refine Bt h (fun _ _ _ _ h=>?_)
 refine Z ?_
 refine Be h (fun _ h=>?_)
 refine Z ?_
 refine Am h (fun _ h=>?_) (fun _ h=>?_)
 exact Y
 refine Z ?_
 refine A3 h (fun (v357,o358)=>[(22,(.arr 7 o358.length 0 o358.length)),(145,(O .i64 v357))]) (fun (v357,o358)=>[(7,.rows 61 5 (List.map Bv o358))]) ?_
 rintro ⟨v357,o358⟩ _ _ _ h _ _
 exact Y
 replace h:=Cj h
 refine E8 (E6 rfl ?_)
 refine Db [.fz 22] ?_
 exact Y
 exact Y⟩
instance {a0:A8}:OK (Aeo a0) fun r=>Ar Tryz.prog 51 [(.val (.pointer none)),F0 a0] (.tup [(Au 5 Bv) r.1,(O .i64) r.2]):=⟨fun {r} h=>by
 refine pw {T:=Cf,an:=(fun _=>.ask),nl:=(fun s=>bif Nat.beq s 4 then [(0,5)] else [])} Tryz.func51 ?_
 refine Z ?_
 refine Be h (fun _ h=>?_)
 refine Z ?_
 refine Be h (fun _ h=>?_)
 refine Z ?_
 refine Am h (fun _ h=>?_) (fun _ h=>?_)
 exact Y
 refine Z ?_
 refine Bb [] h (fun _ h=>?_)
 refine Z ?_
 refine Bb [2,1,3] h (fun _ h=>?_)
 refine Z ?_
 refine Bb [2,1,3] h (fun _ h=>?_)
 exact Y⟩
instance {a0:Ce} {a1:Ca} {a2:Int}:OK (I9 a0 a1 a2) fun r=>Ar Tryz.prog 20 [Ij a0,Gk a1,(O .i64) a2] (.tup [(Au 5 Bv) r.1,(O .i64) r.2]):=⟨fun {r} h=>by
 refine pw {T:=Cf,an:=(fun _=>.ask),nl:=(fun s=>bif Nat.beq s 37 then [(0,3)] else bif Nat.beq s 6 then [(0,5)] else [])} Tryz.func20 ?_
 refine Z ?_
 refine C9 h (fun v3 hcv3 h=>?_)
 rcases v3 with v4 | v9
 refine F6.act [] _ _ _ _ (Bw.sub (args:=[_,.val (.slice none 0 0)]) (Aes (a0:=a0) (a1:=[]) hcv3) ⟨Sub.refl _,Sub.nil _,trivial⟩) rfl rfl trivial ?_
 refine Z ?_
 refine Am h (fun _ h=>?_) (fun _ h=>?_)
 exact Y
 refine J0 (As (As ?_))
 refine Bx h (fun v11=>[(27,(Ao v11))]) (fun v11=>[]) ?_ ?_
 intro _ h _ _ _
 exact Y
 rintro v11 _ h
 refine Am h (fun _ h=>?_) (fun _ h=>?_)
 exact Y
 refine Z ?_
 refine Bb [5,3,4] h (fun _ h=>?_)
 refine Z ?_
 refine Am h (fun _ h=>?_) (fun _ h=>?_)
 exact Y
 refine Z ?_
 refine Bb [5,3,4] h (fun _ h=>?_)
 exact Y
 refine F6.act [] _ _ _ _ (Bw.sub (args:=[_,.val (.slice none 0 0)]) (Aet (a0:=a0) (a1:=[]) hcv3) ⟨Sub.refl _,Sub.nil _,trivial⟩) rfl rfl trivial ?_
 refine Z ?_
 refine Am h (fun _ h=>?_) (fun _ h=>?_)
 exact Y
 refine J0 (As (As ?_))
 refine Bx h (fun v15=>[(27,(Ao v15))]) (fun v15=>[]) ?_ ?_
 intro _ h _ _ _
 exact Y
 rintro v15 _ h
 exact Y⟩
instance {a0:Ce} {a1:List Aj}:OK (Ad5 a0 a1) fun r=>Ar Tryz.prog 33 [Ij a0,(Au 5 Bv) a1] (Ao r):=⟨fun {r} h=>by
 refine pw C0 Tryz.func33 ?_
 refine Z ?_
 refine C9 h (fun v2 hcv2 h=>?_)
 rcases v2 with v3 | v8
 refine F6.act [] _ _ _ _ (Aes (a0:=a0) (a1:=[a1]) hcv2) rfl rfl trivial ?_
 exact Y
 refine F6.act [] _ _ _ _ (Aet (a0:=a0) (a1:=[a1]) hcv2) rfl rfl trivial ?_
 exact Y⟩
instance {a0:List Int}:OK (Je a0) fun r=>Ar Tryz.prog 202 [(Au 1 (O .u32)) a0] ((Au 1 (O .u32)) r):=⟨fun {r} h=>by
 refine pw {T:=Cf,an:=(fun _=>.ask),nl:=(fun s=>bif Nat.beq s 2 then [(0,1)] else [])} Tryz.func202 ?_
 refine Z ?_
 refine A3 h (fun v2=>[(3,(O .i64 v2))]) (fun v2=>[]) ?_
 rintro v2 _ _ _ h _ _
 exact Y⟩
instance {a0:List Int}:OK (Tb a0) fun r=>Ar Tryz.prog 121 [(Au 1 (O .u32)) a0] ((Au 1 (O .u32)) r):=⟨fun {r} h=>by
 refine pw {T:=Cf,an:=(fun s=>bif Nat.beq s 3 then .own else .ask),nl:=(fun s=>bif Nat.beq s 3 then [(0,1)] else bif Nat.beq s 2 then [(0,1)] else [])} Tryz.func121 ?_
 refine Z ?_
 refine A3 h (fun (v13,v14,o15)=>[(3,(.arr 0 o15.length 0 o15.length)),(4,(O .u64 v13)),(5,(O .i64 v14))]) (fun (v13,v14,o15)=>[(0,.rows 106 1 (List.map (O .u32) o15))]) ?_
 rintro ⟨v13,v14,o15⟩ _ _ _ h _ _
 refine Z ?_
 refine Am h (fun _ h=>?_) (fun _ h=>?_)
 exact Y
 replace h:=Cj h
 refine Z ?_
 refine Am h (fun _ h=>?_) (fun _ h=>?_)
 refine Z ?_
 refine J4 h (fun _ h=>?_)
 refine ZO ?_
 refine As ?_
 refine Db [.fz 3] ?_
 exact Y
 refine J0 (As ?_)
 refine Db [.fz 3] ?_
 exact Y⟩
instance {a0 a1:List Int}:OK (V9 a0 a1) fun r=>Ar Tryz.prog 204 [(Au 1 (O .u32)) a0,(Au 1 (O .u32)) a1] ((O .u64) r):=⟨fun {r} h=>by
 refine pw C0 Tryz.func204 ?_
 exact Y⟩
instance {a0:Int}:OK (Lj a0) fun r=>Ar Tryz.prog 66 [(O .u64) a0] ((Au 1 (O .u32)) r):=⟨fun {r} h=>by
 refine pw {T:=Cf,an:=(fun s=>bif Nat.beq s 3 then .own else .ask),nl:=(fun s=>bif Nat.beq s 3 then [(0,1)] else bif Nat.beq s 2 then [(0,1)] else [])} Tryz.func66 ?_
 refine Z ?_
 refine A3 h (fun (v10,o11)=>[(0,(O .u64 v10)),(3,(.arr 0 o11.length 0 o11.length))]) (fun (v10,o11)=>[(0,.rows 106 1 (List.map (O .u32) o11))]) ?_
 rintro ⟨v10,o11⟩ _ _ _ h _ _
 exact Y⟩
instance {a0 a1:List Int}:OK (On a0 a1) fun r=>Ar Tryz.prog 200 [(Au 1 (O .u32)) a0,(Au 1 (O .u32)) a1] ((O .i64) r):=⟨fun {r} h=>by
 refine pw C0 Tryz.func200 ?_
 refine Z ?_
 refine Am h (fun _ h=>?_) (fun _ h=>?_)
 exact Y
 refine Z ?_
 refine A3 h (fun v5=>[(4,(O .i64 0)),(5,(O .i64 v5))]) (fun v5=>[]) ?_
 rintro v5 _ _ _ h _ _
 exact Y⟩
instance {a0 a1:List Int}:OK (Jd a0 a1) fun r=>Ar Tryz.prog 192 [(Au 1 (O .u32)) a0,(Au 1 (O .u32)) a1] ((Au 1 (O .u32)) r):=⟨fun {r} h=>by
 refine pw {T:=Cf,an:=(fun _=>.ask),nl:=(fun s=>bif Nat.beq s 4 then [(0,1)] else [])} Tryz.func192 ?_
 refine Z ?_
 refine G3 h (fun o1 h=>?_)
 refine Z ?_
 refine Ff h (fun (v25,o26)=>[(6,(O .i64 v25))]) (fun (v25,o26)=>[(0,.rows 106 1 (List.map (O .u32) o26))]) (fun (v25,o26)=>o1.length=o26.length) ?_
 rintro ⟨v25,o26⟩ _ _ _ h _ _ q26
 refine Z ?_
 refine Am h (fun _ h=>?_) (fun _ h=>?_)
 refine Z ?_
 refine Ff h (fun (v35,v36,o37)=>[(7,(O .u64 v35)),(8,(O .i64 v36))]) (fun (v35,v36,o37)=>[(0,.rows 106 1 (List.map (O .u32) o37))]) (fun (v35,v36,o37)=>o1.length=o37.length) ?_
 rintro ⟨v35,v36,o37⟩ _ _ _ h _ _ q37
 refine As (As ?_)
 refine Bx h (fun v38=>[(29,(Ao v38))]) (fun v38=>[]) ?_ ?_
 intro _ h _ _ _
 exact Y
 rintro v38 _ h
 refine Am h (fun _ h=>?_) (fun _ h=>?_)
 refine Z ?_
 refine Hs h (fun _ _ _ _ h=>?_)
 refine ZS ?_
 refine B1 ?_
 refine ZO ?_
 refine Bx h (fun v42=>[(7,(O .u64 v42))]) (fun v42=>[]) ?_ ?_
 intro _ h _ _ _
 exact Y
 rintro v42 _ h
 exact Y
 exact Y
 replace h:=Cj h
 refine E8 (E6 rfl (As ?_))
 refine Db [.fz 5] ?_
 exact Y⟩
instance {a0:List Int} {a1:Int}:OK (V8 a0 a1) fun r=>Ar Tryz.prog 203 [(Au 1 (O .u32)) a0,(O .u64) a1] (.tup [(Au 1 (O .u32)) r.1,(O .u64) r.2]):=⟨fun {r} h=>by
 refine pw {T:=Cf,an:=(fun _=>.ask),nl:=(fun s=>bif Nat.beq s 4 then [(0,1)] else [])} Tryz.func203 ?_
 refine Z ?_
 refine G3 h (fun o1 h=>?_)
 refine Z ?_
 refine Ff h (fun (v7,v8,o9)=>[(7,(O .u64 v7)),(8,(O .i64 v8))]) (fun (v7,v8,o9)=>[(0,.rows 106 1 (List.map (O .u32) o9))]) (fun (v7,v8,o9)=>o1.length=o9.length) ?_
 rintro ⟨v7,v8,o9⟩ _ _ _ h _ _ q9
 refine Z ?_
 refine Am h (fun _ h=>?_) (fun _ h=>?_)
 exact Y
 replace h:=Cj h
 refine E8 (E6 rfl (As ?_))
 refine Db [.fz 6] ?_
 exact Y⟩
instance {a0 a1:List Int}:OK (Oo a0 a1) fun r=>Ar Tryz.prog 201 [(Au 1 (O .u32)) a0,(Au 1 (O .u32)) a1] ((Au 1 (O .u32)) r):=⟨fun {r} h=>by
 refine pw {T:=Cf,an:=(fun _=>.ask),nl:=(fun s=>bif Nat.beq s 4 then [(0,1)] else [])} Tryz.func201 ?_
 refine Z ?_
 refine G3 h (fun o1 h=>?_)
 refine Z ?_
 refine Ff h (fun (v10,v11,o12)=>[(6,(O .u32 v10)),(7,(O .i64 v11))]) (fun (v10,v11,o12)=>[(0,.rows 106 1 (List.map (O .u32) o12))]) (fun (v10,v11,o12)=>o1.length=o12.length) ?_
 rintro ⟨v10,v11,o12⟩ _ _ _ h _ _ q12
 refine Z ?_
 refine Am h (fun _ h=>?_) (fun _ h=>?_)
 refine ZS ?_
 refine B1 ?_
 refine ZS ?_
 refine B1 ?_
 refine ZO ?_
 refine Bx h (fun v14=>[(8,(O .u32 v14))]) (fun v14=>[]) ?_ ?_
 intro _ h _ _ _
 exact Y
 rintro v14 _ h
 exact Y
 replace h:=Cj h
 refine E8 (E6 rfl (As ?_))
 refine Db [.fz 5] ?_
 exact Y⟩
instance {a0 a1:List Int}:OK (Qg a0 a1) fun r=>Ar Tryz.prog 123 [(Au 1 (O .u32)) a0,(Au 1 (O .u32)) a1] (.tup [(Au 1 (O .u32)) r.1,(Au 1 (O .u32)) r.2]):=⟨fun {r} h=>by
 refine pw {T:=Cf,an:=(fun s=>bif Nat.beq s 50 then .frz 0 else bif Nat.beq s 47 then .own else .ask),nl:=(fun s=>bif Nat.beq s 9 then [(0,1)] else bif Nat.beq s 5 then [(0,1)] else bif Nat.beq s 4 then [(0,1)] else [])} Tryz.func123 ?_
 refine Z ?_
 refine Be h (fun _ h=>?_)
 refine Z ?_
 refine Am h (fun _ h=>?_) (fun _ h=>?_)
 exact Y
 refine Z ?_
 refine Am h (fun _ h=>?_) (fun _ h=>?_)
 exact Y
 refine Z ?_
 refine G3 h (fun o6 h=>?_)
 refine Z ?_
 refine Ff h (fun (v33,v34,o35)=>[(9,(.sl 1 (List.map (O .u32) v33))),(10,(O .i64 v34))]) (fun (v33,v34,o35)=>[(0,.rows 106 1 (List.map (O .u32) o35))]) (fun (v33,v34,o35)=>o6.length=o35.length) ?_
 rintro ⟨v33,v34,o35⟩ _ _ _ h _ _ q35
 refine Z ?_
 refine Am h (fun _ h=>?_) (fun _ h=>?_)
 refine Z ?_
 refine Bt h (fun _ _ _ _ h=>?_)
 refine Z ?_
 refine J4 h (fun o38 h=>?_)
 refine Z ?_
 refine C9 h (fun v39 hcv39 h=>?_)
 refine Aia.mk _ (OK.ok hcv39 :) rfl ?_
 refine Z ?_
 refine Be h (fun _ h=>?_)
 refine Z ?_
 refine A3 h (fun v44=>[(11,(O .u64 v44))]) (fun v44=>[]) ?_
 rintro v44 _ _ _ h _ _
 refine Z ?_
 refine Fh h (fun _ h=>?_) (fun _ h=>?_)
 refine Z ?_
 refine Be h (fun _ h=>?_)
 refine Z ?_
 refine Be h (fun _ h=>?_)
 refine Z ?_
 refine Be h (fun _ h=>?_)
 refine Z ?_
 refine Am h (fun _ h=>?_) (fun _ h=>?_)
 exact Y
 replace h:=Cj h
 refine Z ?_
 refine Be h (fun _ h=>?_)
 refine Z ?_
 refine Be h (fun _ h=>?_)
 refine Z ?_
 refine Be h (fun _ h=>?_)
 refine Z ?_
 refine A3 h (fun (v54,v55)=>[(9,(.sl 1 (List.map (O .u32) v54))),(11,(O .u64 v55))]) (fun (v54,v55)=>[]) ?_
 rintro ⟨v54,v55⟩ _ _ _ h _ _
 exact Y
 replace h:=Cj h
 refine Z ?_
 refine Be h (fun _ h=>?_)
 refine Z ?_
 refine Be h (fun _ h=>?_)
 refine Z ?_
 refine Be h (fun _ h=>?_)
 refine Z ?_
 refine A3 h (fun (v54,v55)=>[(9,(.sl 1 (List.map (O .u32) v54))),(11,(O .u64 v55))]) (fun (v54,v55)=>[]) ?_
 rintro ⟨v54,v55⟩ _ _ _ h _ _
 exact Y
 replace h:=Cj h
 refine E8 (E6 rfl (As ?_))
 refine Db [.fz 8] ?_
 exact Y⟩
instance {a0 a1:List Int}:OK (Vx a0 a1) fun r=>Ar Tryz.prog 122 [(Au 1 (O .u32)) a0,(Au 1 (O .u32)) a1] ((Au 1 (O .u32)) r):=⟨fun {r} h=>by
 refine pw {T:=Cf,an:=(fun _=>.ask),nl:=(fun s=>bif Nat.beq s 4 then [(0,1)] else [])} Tryz.func122 ?_
 refine Z ?_
 refine A3 h (fun (v2,v3)=>[(0,(.sl 1 (List.map (O .u32) v2))),(1,(.sl 1 (List.map (O .u32) v3)))]) (fun (v2,v3)=>[]) ?_
 rintro ⟨v2,v3⟩ _ _ _ h _ _
 exact Y⟩
instance {a0:Bool} {a1 a2:List Int}:OK (Ii a0 a1 a2) fun r=>Ar Tryz.prog 65 [Ao a0,(Au 1 (O .u32)) a1,(Au 1 (O .u32)) a2] (B9 r):=⟨fun {r} h=>by
 refine pw {T:=Cf,an:=(fun _=>.ask),nl:=(fun s=>bif Nat.beq s 21 then [(1,1)] else [])} Tryz.func65 ?_
 refine Z ?_
 refine Be h (fun _ h=>?_)
 refine Z ?_
 refine Be h (fun _ h=>?_)
 refine ZO ?_
 refine As (As ?_)
 refine Bx h (fun v4=>[(19,(Ao v4))]) (fun v4=>[]) ?_ ?_
 intro _ h _ _ _
 exact Y
 rintro v4 _ h
 refine Am h (fun _ h=>?_) (fun _ h=>?_)
 exact Y
 refine Z ?_
 refine Be h (fun _ h=>?_)
 refine ZO ?_
 refine As (As ?_)
 refine Bx h (fun v7=>[(33,(Ao v7))]) (fun v7=>[]) ?_ ?_
 intro _ h _ _ _
 exact Y
 rintro v7 _ h
 exact Y⟩
instance {a0:Int}:OK (Hn a0) fun r=>Ar Tryz.prog 27 [(O .i64) a0] (B9 r):=⟨fun {r} h=>by
 refine pw C0 Tryz.func27 ?_
 exact Y⟩
instance  : OK (Zl) fun r=>Ar Tryz.prog 25 [] (Ao r):=⟨fun {r} h=>by
 refine pw {T:=Cf,an:=(fun _=>.ask),nl:=(fun s=>bif Nat.beq s 28 then [(0,3),(1,3),(4,3)] else bif Nat.beq s 8 then [(1,2)] else bif Nat.beq s 7 then [(0,3),(1,3),(4,3)] else [])} Tryz.func25 ?_
 exact Y⟩
abbrev Aky (k:Nat):Prop:=∀{a0:Ah} {b0:Int},OK (Og k a0 b0) fun r=>Bw Tryz.prog 154 [Dw a0,(.loc 0 0)] [.cells 3 [(O .i64 b0)]] (Ao r.1) [.cells 3 [(O .i64 r.2)]]
theorem Auv (k:Nat):Aky k:=by
 induction k with
 | zero=>exact okz
 | succ k ih=>
  refine @fun a0 b0=>⟨fun {r} h=>?_⟩
  .unfold Og at h
   refine aw C0 true Tryz.func154 ?_
   refine Z ?_
   refine Am h (fun _ h=>?_) (fun _ h=>?_)
   exact Y
   refine Z ?_
   refine A3 h (fun (v4,v5)=>[(4,(Ao false)),(5,(O .i64 v4))]) (fun (v4,v5)=>[(0,.cells 3 [(O .i64 v5)])]) ?_
   rintro ⟨v4,v5⟩ _ _ _ h _ _
   refine Z ?_
   refine Am h (fun _ h=>?_) (fun _ h=>?_)
   refine Z ?_
   refine Bt h (fun _ _ _ _ h=>?_)
   refine Z ?_
   refine Bb [0] h (fun _ h=>?_)
   exact Y
   exact Y
instance {k:Nat}:Aky k:=(Auv k)
instance {a0:List Az}:OK (Vp a0) fun r=>Ar Tryz.prog 94 [(Au 3 Cn) a0] (Ao r):=⟨fun {r} h=>by
 refine pw C0 Tryz.func94 ?_
 refine Z ?_
 refine Am h (fun _ h=>?_) (fun _ h=>?_)
 exact Y
 refine Z ?_
 refine A3 h (fun v37=>[(2,(Ao false)),(15,(O .i64 v37))]) (fun v37=>[]) ?_
 rintro v37 _ _ _ h _ _
 refine Z ?_
 refine Am h (fun _ h=>?_) (fun _ h=>?_)
 refine Z ?_
 refine Bt h (fun _ _ _ _ h=>?_)
 refine ZO ?_
 refine As (As ?_)
 refine Bx h (fun v40=>[(28,(Ao v40))]) (fun v40=>[]) ?_ ?_
 intro _ h _ _ _
 exact Y
 rintro v40 _ h
 refine Am h (fun _ h=>?_) (fun _ h=>?_)
 exact Y
 refine Z ?_
 refine A3 h (fun v56=>[(2,(Ao false)),(32,(O .i64 v56))]) (fun v56=>[]) ?_
 rintro v56 _ _ _ h _ _
 refine Z ?_
 refine Am h (fun _ h=>?_) (fun _ h=>?_)
 refine Z ?_
 refine Bt h (fun _ _ _ _ h=>?_)
 refine ZO ?_
 refine As (As ?_)
 refine Bx h (fun v59=>[(45,(Ao v59))]) (fun v59=>[]) ?_ ?_
 intro _ h _ _ _
 exact Y
 rintro v59 _ h
 refine Am h (fun _ h=>?_) (fun _ h=>?_)
 exact Y
 refine Z ?_
 refine A3 h (fun (v64,v65)=>[(2,(Ao false)),(49,(O .i64 v64))]) (fun (v64,v65)=>[(2,.cells 3 [(O .i64 v65)])]) ?_
 rintro ⟨v64,v65⟩ _ _ _ h _ _
 refine Z ?_
 refine Am h (fun _ h=>?_) (fun _ h=>?_)
 refine Z ?_
 refine Bt h (fun _ _ _ _ h=>?_)
 refine Z ?_
 refine Bb [2] h (fun _ h=>?_)
 exact Y
 exact Y
 exact Y
 exact Y⟩
instance {a0:Ah}:OK (S5 a0) fun r=>Ar Tryz.prog 96 [Dw a0] (Ao r):=⟨fun {r} h=>by
 refine pw C0 Tryz.func96 ?_
 refine Z ?_
 refine Bb [1] h (fun _ h=>?_)
 exact Y⟩
instance {a0:List Ah} {a1:Int}:OK (Vq a0 a1) fun r=>Ar Tryz.prog 95 [(Gj 3 Bl) a0,(O .i64) a1] (Ao r):=⟨fun {r} h=>by
 refine pw C0 Tryz.func95 ?_
 refine Z ?_
 refine A3 h (fun v4=>[(4,(Ao false)),(5,(O .i64 v4))]) (fun v4=>[]) ?_
 rintro v4 _ _ _ h _ _
 refine As (As ?_)
 refine Bx h (fun v5=>[(14,(Ao v5))]) (fun v5=>[]) ?_ ?_
 intro _ h _ _ _
 exact Y
 rintro v5 _ h
 exact Y⟩
instance {a0:Ce}:OK (Vi a0) fun r=>Ar Tryz.prog 46 [Ij a0] (Ao r):=⟨fun {r} h=>by
 refine pw C0 Tryz.func46 ?_
 exact Y⟩
end Go.Ab
namespace Go.Ab
open Go Go.Proofs
set_option maxRecDepth 10000
set_option maxHeartbeats 4000000
set_option linter.unusedVariables false
instance {a0:A8}:OK (Vo a0) fun r=>Ar Tryz.prog 93 [F0 a0] (Ao r):=⟨fun {r} h=>by
 refine pw C0 Tryz.func93 ?_
 refine ZS ?_
 refine B1 ?_
 refine ZO ?_
 refine As (As ?_)
 refine Bx h (fun v2=>[(16,(Ao v2))]) (fun v2=>[]) ?_ ?_
 intro _ h _ _ _
 exact Y
 rintro v2 _ h
 refine Am h (fun _ h=>?_) (fun _ h=>?_)
 exact Y
 refine Z ?_
 refine A3 h (fun v6=>[(2,(Ao false)),(20,(O .i64 v6))]) (fun v6=>[]) ?_
 rintro v6 _ _ _ h _ _
 refine Z ?_
 refine Am h (fun _ h=>?_) (fun _ h=>?_)
 exact Y
 replace h:=Cj h
 refine Z ?_
 refine A3 h (fun v14=>[(2,(Ao false)),(32,(O .i64 v14))]) (fun v14=>[]) ?_
 rintro v14 _ _ _ h _ _
 exact Y⟩
instance {a0:List Aj} {a1:Int}:OK (Vh a0 a1) fun r=>Ar Tryz.prog 45 [(Au 5 Bv) a0,(O .i64) a1] (Ao r):=⟨fun {r} h=>by
 refine pw C0 Tryz.func45 ?_
 refine Z ?_
 refine A3 h (fun v6=>[(4,(Ao false)),(5,(O .i64 v6))]) (fun v6=>[]) ?_
 rintro v6 _ _ _ h _ _
 refine As (As ?_)
 refine Bx h (fun v7=>[(14,(Ao v7))]) (fun v7=>[]) ?_ ?_
 intro _ h _ _ _
 exact Y
 rintro v7 _ h
 exact Y⟩
instance {a0:Ce} {a1:List (List Aj)}:OK (Vg a0 a1) fun r=>Ar Tryz.prog 14 [Ij a0,(Au 1 (Au 5 Bv)) a1] (Ao r):=⟨fun {r} h=>by
 refine pw C0 Tryz.func14 ?_
 refine Z ?_
 refine A3 h (fun v4=>[(4,(Ao false)),(9,(O .i64 v4))]) (fun v4=>[]) ?_
 rintro v4 _ _ _ h _ _
 exact Y⟩
instance {a0:Aq}:OK (P4 a0) fun r=>Ar Tryz.prog 23 [B9 a0] ((Au 5 Bv) r):=⟨fun {r} h=>by
 refine pw {T:=Cf,an:=(fun _=>.ask),nl:=(fun s=>bif Nat.beq s 8 then [(3,3),(4,3)] else bif Nat.beq s 2 then [(0,5)] else [])} Tryz.func23 ?_
 exact Y⟩
instance {a0:Ce} {a1:Int} {a2:A9}:OK (L5 a0 a1 a2) fun r=>Ar Tryz.prog 18 [Ij a0,(O .i64) a1,Ev a2] (.tup [(Au 5 Bv) r.1,(O .i64) r.2]):=⟨fun {r} h=>by
 refine pw {T:=Cf,an:=(fun _=>.ask),nl:=(fun s=>bif Nat.beq s 31 then [(1,3)] else bif Nat.beq s 6 then [(0,5)] else [])} Tryz.func18 ?_
 refine Z ?_
 refine C9 h (fun v3 hcv3 h=>?_)
 rcases v3 with v4 | v9
 refine F6.act [] _ _ _ _ (Bw.sub (args:=[_,.val (.slice none 0 0)]) (Aes (a0:=a0) (a1:=[]) hcv3) ⟨Sub.refl _,Sub.nil _,trivial⟩) rfl rfl trivial ?_
 refine Z ?_
 refine Am h (fun _ h=>?_) (fun _ h=>?_)
 exact Y
 refine Z ?_
 refine Bb [5,3,4] h (fun _ h=>?_)
 refine Z ?_
 refine Am h (fun _ h=>?_) (fun _ h=>?_)
 exact Y
 refine Z ?_
 refine Bb [5,3,4] h (fun _ h=>?_)
 refine Z ?_
 refine Am h (fun _ h=>?_) (fun _ h=>?_)
 exact Y
 refine Z ?_
 refine Bb [5,3,4] h (fun _ h=>?_)
 exact Y
 refine F6.act [] _ _ _ _ (Bw.sub (args:=[_,.val (.slice none 0 0)]) (Aet (a0:=a0) (a1:=[]) hcv3) ⟨Sub.refl _,Sub.nil _,trivial⟩) rfl rfl trivial ?_
 exact Y⟩
instance {a0:Ca}:OK (Vj a0) fun r=>Ar Tryz.prog 58 [Gk a0] (Ao r):=⟨fun {r} h=>by
 refine pw C0 Tryz.func58 ?_
 refine ZS ?_
 refine B1 ?_
 refine ZO ?_
 refine As (As ?_)
 refine Bx h (fun v2=>[(18,(Ao v2))]) (fun v2=>[]) ?_ ?_
 intro _ h _ _ _
 exact Y
 rintro v2 _ h
 refine Am h (fun _ h=>?_) (fun _ h=>?_)
 exact Y
 refine Z ?_
 refine A3 h (fun v5=>[(2,(Ao false)),(22,(O .i64 v5))]) (fun v5=>[]) ?_
 rintro v5 _ _ _ h _ _
 exact Y⟩
instance {a0:Aq}:OK (Jb a0) fun r=>Ar Tryz.prog 83 [B9 a0] (B9 r):=⟨fun {r} h=>by
 refine pw C0 Tryz.func83 ?_
 exact Y⟩
instance {a0:Aq}:OK (Mu a0) fun r=>Ar Tryz.prog 38 [B9 a0] ((O .i64) r):=⟨fun {r} h=>by
 refine pw C0 Tryz.func38 ?_
 exact Y⟩
abbrev Akz (k:Nat):Prop:=∀{a0:A9},OK (Om k a0) fun r=>Ar Tryz.prog 190 [Ev a0] (Ev r)
theorem Auw (k:Nat):Akz k:=by
 induction k with
 | zero=>exact okz
 | succ k ih=>
  refine @fun a0=>⟨fun {r} h=>?_⟩
  .unfold Om at h
   refine pw {T:=Cf,an:=(fun _=>.ask),nl:=(fun s=>bif Nat.beq s 17 then [(0,2)] else [])} Tryz.func190 ?_
   refine ZS ?_
   refine B1 ?_
   refine ZS ?_
   refine B1 ?_
   refine ZO ?_
   refine As (As ?_)
   refine Db [.own 3 1 42 2] ?_
   refine Z ?_
   refine A3 h (fun (v15,o16)=>[(12,(O .i64 v15))]) (fun (v15,o16)=>[(2,.cells 42 [(O .i64 a0.Num),(.arr 3 o16.length 0 o16.length)]),(3,.rows 42 2 (Hr o16))]) ?_
   rintro ⟨v15,o16⟩ _ _ _ h _ _
   exact Y
instance {k:Nat}:Akz k:=(Auw k)
instance {a0:Ca}:OK (Tk a0) fun r=>Ar Tryz.prog 191 [Gk a0] (Gk r):=⟨fun {r} h=>by
 refine pw C0 Tryz.func191 ?_
 exact Y⟩
instance {a0:A8}:OK (S6 a0) fun r=>Ar Tryz.prog 108 [F0 a0] (F0 r):=⟨fun {r} h=>by
 refine pw {T:=Cf,an:=(fun _=>.ask),nl:=(fun s=>bif Nat.beq s 35 then [(0,3)] else bif Nat.beq s 16 then [(0,3)] else [])} Tryz.func108 ?_
 refine ZS ?_
 refine B1 ?_
 refine ZS ?_
 refine B1 ?_
 refine ZO ?_
 refine As (As ?_)
 refine Db [.own 3 0 85 3,.own 3 1 91 3] ?_
 refine Z ?_
 refine A3 h (fun (v16,o17)=>[(11,(O .i64 v16))]) (fun (v16,o17)=>[(2,.cells 59 [(.arr 3 o17.length 0 o17.length),(.arr 4 0 0 0)]),(3,.rows 85 3 (List.map De o17))]) ?_
 rintro ⟨v16,o17⟩ _ _ _ h _ _
 refine Z ?_
 refine Am h (fun _ h=>?_) (fun _ h=>?_)
 exact Y
 replace h:=Cj h
 refine Z ?_
 refine A3 h (fun (v33,o34)=>[(30,(O .i64 v33))]) (fun (v33,o34)=>[(2,.cells 59 [(.arr 3 o17.length 0 o17.length),(.arr 4 o34.length 0 o34.length)]),(4,.rows 91 3 (List.map Dc o34))]) ?_
 rintro ⟨v33,o34⟩ _ _ _ h _ _
 exact Y⟩
instance {a0:A8} {a1:Aq}:OK (Aep a0 a1) fun r=>Ar Tryz.prog 64 [(.val (.slice none 0 0)),F0 a0,B9 a1] ((Au 5 Bv) r):=⟨fun {r} h=>by
 refine pw {T:=Cf,an:=(fun _=>.ask),nl:=(fun s=>bif Nat.beq s 76 then [(1,1),(2,1),(3,3),(4,3)] else bif Nat.beq s 6 then [(0,5)] else [])} Tryz.func64 ?_
 refine Z ?_
 refine A3 h (fun _=>[(7,(O .i64 0)),(8,(O .i64 0))]) (fun _=>[]) ?_
 rintro _ _ _ _ h _ _
 replace h:=Cj h
 refine Z ?_
 refine Be h (fun _ h=>?_)
 refine Z ?_
 refine Am h (fun _ h=>?_) (fun _ h=>?_)
 exact Y
 refine Z ?_
 refine Adv (f:=Bv) (ys:=[(Aj.mk (Aq.mk false [] []) (A8.mk [] []))]) rfl h (fun o4 h=>?_)
 refine ZO ?_
 refine As ?_
 refine N1 h (fun o2_ h hj2=>?_)
 refine Lh (fun (o11:(List Aj))=>o11=o2_/\o4.length=o11.length) (fun o11=>[]) (fun o11=>[(2,.rows 61 5 (List.map Bv o11))]) (fun _=>rfl) ?_ ?_
 intro K2 hK2
 refine Z ?_
 refine P0 (f:=Bv) (l:=o4) rfl rfl h (fun v7 h=>?_) (fun h=>?_)
 refine Z ?_
 refine Jz (f:=Bv) (l:=o4) rfl rfl h (fun v8 h=>?_)
 refine Z ?_
 refine Sr (f:=Bv) (l:=o4) rfl rfl rfl h (fun o9 hco9 h=>?_)
 refine Z ?_
 exact hK2 o9 _ _ _ ⟨(Option.some.inj h),(Ss rfl hco9)⟩ trivial ⟨⟨rfl,rfl⟩,⟨rfl,rfl⟩,⟨rfl,rfl⟩,trivial⟩
 refine Z ?_
 refine Jz (f:=Bv) (l:=o4) rfl rfl h (fun v10 h=>?_)
 refine Z ?_
 exact hK2 o4 _ _ _ ⟨(Option.some.inj h),rfl⟩ trivial ⟨⟨rfl,rfl⟩,⟨rfl,rfl⟩,⟨rfl,rfl⟩,trivial⟩
 rintro o11 u2 ⟨hJ2,q11⟩
 have h:=hj2 _ hJ2
 refine Z ?_
 refine Be h (fun v12 h=>?_)
 refine Z ?_
 refine Be h (fun v13 h=>?_)
 refine Z ?_
 refine Hs h (fun _ _ hiv14 _ h=>?_)
 refine Z ?_
 refine H6 (f:=Bv) (x:=(Aj.mk v12 v13)) (j:=0) rfl rfl (Nat.zero_add _) hiv14 ?_
 exact Y⟩
instance {a0:Aq}:OK (N5 a0) fun r=>Ar Tryz.prog 24 [B9 a0] ((Au 5 Bv) r):=⟨fun {r} h=>by
 refine pw {T:=Cf,an:=(fun _=>.ask),nl:=(fun s=>bif Nat.beq s 3 then [(0,3),(1,3)] else bif Nat.beq s 2 then [(0,5)] else [])} Tryz.func24 ?_
 exact Y⟩
abbrev Ak0 (k:Nat):Prop:=∀{a0:Ah},OK (M6 k a0) fun r=>Ar Tryz.prog 185 [Dw a0] ((O .i64) r)
theorem Aux (k:Nat):Ak0 k:=by
 induction k with
 | zero=>exact okz
 | succ k ih=>
  refine @fun a0=>⟨fun {r} h=>?_⟩
  .unfold M6 at h
   refine pw C0 Tryz.func185 ?_
   refine Z ?_
   refine A3 h (fun (v4,v5)=>[(3,(O .i64 v4)),(4,(O .i64 v5))]) (fun (v4,v5)=>[]) ?_
   rintro ⟨v4,v5⟩ _ _ _ h _ _
   exact Y
instance {k:Nat}:Ak0 k:=(Aux k)
abbrev Ak1 (k:Nat):Prop:=∀{a0:List Az} {a1:Ah} {a2:Int},OK (Ok k a0 a1 a2) fun r=>Ar Tryz.prog 186 [(Au 3 Cn) a0,Dw a1,(O .i64) a2] (Ao r)
theorem Auy (k:Nat):Ak1 k:=by
 induction k with
 | zero=>exact okz
 | succ k ih=>
  refine @fun a0 a1 a2=>⟨fun {r} h=>?_⟩
  .unfold Ok at h
   refine pw C0 Tryz.func186 ?_
   refine ZS ?_
   refine B1 ?_
   refine ZS ?_
   refine B1 ?_
   refine ZS ?_
   refine B1 ?_
   refine ZO ?_
   refine Aaf (fun (x:Unit)=>(.inr x)) h (fun _=>[(6,(Ao false))]) (fun _=>[]) ?_ ?_
   intro _ h _ _ _
   refine ZS ?_
   refine B1 ?_
   refine ZO ?_
   refine Bx h (fun v2=>[(14,(Ao v2))]) (fun v2=>[]) ?_ ?_
   intro _ h _ _ _
   exact Y
   rintro v2 _ h
   refine Am h (fun _ h=>?_) (fun _ h=>?_)
   exact Y
   refine Z ?_
   refine Am h (fun _ h=>?_) (fun _ h=>?_)
   exact Y
   refine Z ?_
   refine Am h (fun _ h=>?_) (fun _ h=>?_)
   exact Y
   refine Z ?_
   refine Am h (fun _ h=>?_) (fun _ h=>?_)
   exact Y
   refine ZS ?_
   refine B1 ?_
   refine ZO ?_
   refine Bx h (fun v4=>[(75,(Ao v4))]) (fun v4=>[]) ?_ ?_
   intro _ h _ _ _
   exact Y
   rintro v4 _ h
   exact Y
   rintro _ _ h
   refine Z ?_
   refine A3 h (fun v8=>[(6,(Ao false)),(8,(O .i64 v8))]) (fun v8=>[]) ?_
   rintro v8 _ _ _ h _ _
   exact Y
instance {k:Nat}:Ak1 k:=(Auy k)
instance {a0:List Az} {a1:Ah} {a2:Int}:OK (M1 a0 a1 a2) fun r=>Ar Tryz.prog 105 [(Au 3 Cn) a0,Dw a1,(O .i64) a2] (Ao r):=⟨fun {r} h=>by
 refine pw C0 Tryz.func105 ?_
 exact Y⟩
instance {a0:Ah} {a1 a2:Int}:OK (Oj a0 a1 a2) fun r=>Ar Tryz.prog 183 [Dw a0,(O .i64) a1,(O .i64) a2] (Ao r):=⟨fun {r} h=>by
 refine pw C0 Tryz.func183 ?_
 refine ZS ?_
 refine B1 ?_
 refine ZO ?_
 refine As (As ?_)
 refine Bx h (fun v2=>[(23,(Ao v2))]) (fun v2=>[]) ?_ ?_
 intro _ h _ _ _
 exact Y
 rintro v2 _ h
 refine Am h (fun _ h=>?_) (fun _ h=>?_)
 exact Y
 refine Z ?_
 refine A3 h (fun v6=>[(6,(Ao false)),(7,(O .i64 v6))]) (fun v6=>[]) ?_
 rintro v6 _ _ _ h _ _
 exact Y⟩
instance {a0:List ByteArray}:OK (Ti a0) fun r=>Ar Tryz.prog 184 [(Au 1 Dl) a0] (Ao r):=⟨fun {r} h=>by
 refine pw C0 Tryz.func184 ?_
 refine Z ?_
 refine A3 h (fun v1=>[(2,(Ao false)),(3,(O .i64 v1))]) (fun v1=>[]) ?_
 rintro v1 _ _ _ h _ _
 refine Z ?_
 refine Am h (fun _ h=>?_) (fun _ h=>?_)
 refine Z ?_
 refine A3 h (fun v4=>[(2,(Ao false)),(4,(O .i64 v4))]) (fun v4=>[]) ?_
 rintro v4 _ _ _ h _ _
 exact Y
 exact Y⟩
instance {a0:ByteArray}:OK (Z3 a0) fun r=>Ar Tryz.prog 310 [Dl a0] (Ao r):=⟨fun {r} h=>by
 refine pw C0 Tryz.func310 ?_
 refine Z ?_
 refine A3 h (fun v2=>[(2,(Ao false)),(4,(O .i64 v2))]) (fun v2=>[]) ?_
 rintro v2 _ _ _ h _ _
 refine Z ?_
 refine Ai9 (f:=Dl) (l:=[(ByteArray.mk #[97,114,114,97,121]),(ByteArray.mk #[98,111,111,108]),(ByteArray.mk #[99,97,116,99,104]),(ByteArray.mk #[100,97,116,97]),(ByteArray.mk #[101,108,115,101]),(ByteArray.mk #[101,110,100]),(ByteArray.mk #[102,97,108,115,101]),(ByteArray.mk #[102,110]),(ByteArray.mk #[102,117,110]),(ByteArray.mk #[103,101,116]),(ByteArray.mk #[105,102]),(ByteArray.mk #[105,110]),(ByteArray.mk #[105,110,116]),(ByteArray.mk #[108,101,110]),(ByteArray.mk #[108,101,116]),(ByteArray.mk #[109,97,116,99,104]),(ByteArray.mk #[110,101,119]),(ByteArray.mk #[114,97,105,115,101]),(ByteArray.mk #[114,101,97,100]),(ByteArray.mk #[114,101,102]),(ByteArray.mk #[115,101,116]),(ByteArray.mk #[116,104,101,110]),(ByteArray.mk #[116,105,99,107]),(ByteArray.mk #[116,114,117,101]),(ByteArray.mk #[116,114,121]),(ByteArray.mk #[117,110,105,116]),(ByteArray.mk #[119,105,116,104]),(ByteArray.mk #[119,114,105,116,101])]) rfl ?_
 refine Z ?_
 refine Am h (fun _ h=>?_) (fun _ h=>?_)
 refine Z ?_
 refine Ai3 (f:=Dl) rfl h (fun nv3 v3 hiv3 hxv3 h=>?_)
 exact Y
 exact Y⟩
instance {a0:ByteArray}:OK (Wv a0) fun r=>Ar Tryz.prog 311 [Dl a0] (.tup [(O .i64) r.1,Ao r.2]):=⟨fun {r} h=>by
 refine pw C0 Tryz.func311 ?_
 refine Z ?_
 refine A3 h (fun (v2,v3)=>[(2,(O .i64 0)),(3,(Ao false)),(4,(O .i64 v2)),(5,(O .i64 v3))]) (fun (v2,v3)=>[]) ?_
 rintro ⟨v2,v3⟩ _ _ _ h _ _
 exact Y⟩
instance {a0:Int}:OK (Tv a0) fun r=>Ar Tryz.prog 309 [(O .u8) a0] (Ao r):=⟨fun {r} h=>by
 refine pw C0 Tryz.func309 ?_
 exact Y⟩
instance {a0:Int}:OK (Wu a0) fun r=>Ar Tryz.prog 307 [(O .u8) a0] (Ao r):=⟨fun {r} h=>by
 refine pw C0 Tryz.func307 ?_
 exact Y⟩
instance {a0:ByteArray}:OK (Ww a0) fun r=>Ar Tryz.prog 312 [Dl a0] ((O .i64) r):=⟨fun {r} h=>by
 refine pw C0 Tryz.func312 ?_
 refine ZS ?_
 refine B1 ?_
 refine ZO ?_
 refine As (As ?_)
 refine Bx h (fun v4=>[(22,(Ao v4))]) (fun v4=>[]) ?_ ?_
 intro _ h _ _ _
 exact Y
 rintro v4 _ h
 refine Am h (fun _ h=>?_) (fun _ h=>?_)
 exact Y
 refine Z ?_
 refine A3 h (fun v7=>[(2,(O .i64 0)),(4,(O .i64 v7))]) (fun v7=>[]) ?_
 rintro v7 _ _ _ h _ _
 exact Y⟩
instance {a0:Int}:OK (Tu a0) fun r=>Ar Tryz.prog 308 [(O .u8) a0] (Ao r):=⟨fun {r} h=>by
 refine pw C0 Tryz.func308 ?_
 exact Y⟩
instance {a0:ByteArray}:OK (Zv a0) fun r=>Ar Tryz.prog 244 [Dl a0] (.tup [(Au 3 Aei) r.1,(O .i64) r.2.1,(O .i64) r.2.2]):=⟨fun {r} h=>by
 refine pw {T:=Cf,an:=(fun s=>bif Nat.beq s 5 then .own else .ask),nl:=(fun s=>bif Nat.beq s 5 then [(0,3)] else bif Nat.beq s 2 then [(0,3)] else [])} Tryz.func244 ?_
 refine Z ?_
 refine Am h (fun _ h=>?_) (fun _ h=>?_)
 exact Y
 refine Z ?_
 refine A3 h (fun (v49,o50)=>[(2,(.sl 3 (List.map Aei []))),(3,(O .i64 0)),(4,(O .i64 0)),(5,(.arr 0 o50.length 0 o50.length)),(6,(O .i64 v49))]) (fun (v49,o50)=>[(0,.rows 284 3 (List.map Aei o50))]) ?_
 rintro ⟨v49,o50⟩ _ _ _ h _ _
 refine Z ?_
 refine Am h (fun _ h=>?_) (fun _ h=>?_)
 refine Z ?_
 refine Lg h (fun _ h=>?_)
 refine ZO ?_
 refine As (As ?_)
 refine Bx h (fun v52=>[(35,(Ao v52))]) (fun v52=>[]) ?_ ?_
 intro _ h _ _ _
 exact Y
 rintro v52 _ h
 refine Am h (fun _ h=>?_) (fun _ h=>?_)
 exact Y
 refine Z ?_
 refine Am h (fun _ h=>?_) (fun _ h=>?_)
 refine Z ?_
 refine A3 h (fun v54=>[(6,(O .i64 v54))]) (fun v54=>[]) ?_
 rintro v54 _ _ _ h _ _
 exact Y
 refine ZS ?_
 refine B1 ?_
 refine ZO ?_
 refine As (Iw (As ?_))
 refine Bx h (fun v59=>[(70,(Ao v59))]) (fun v59=>[]) ?_ ?_
 intro _ h _ _ _
 exact Y
 rintro v59 _ h
 refine Am h (fun _ h=>?_) (fun _ h=>?_)
 refine Z ?_
 refine A3 h (fun v67=>[(8,(O .i64 v67))]) (fun v67=>[]) ?_
 rintro v67 _ _ _ h _ _
 refine Z ?_
 refine Fh h (fun _ h=>?_) (fun _ h=>?_)
 refine Z ?_
 refine Lg h (fun _ h=>?_)
 refine Z ?_
 refine Be h (fun _ h=>?_)
 refine Z ?_
 refine Fh h (fun _ h=>?_) (fun _ h=>?_)
 exact Y
 refine Z ?_
 refine Lg h (fun _ h=>?_)
 refine Z ?_
 refine Be h (fun _ h=>?_)
 refine Z ?_
 refine Fh h (fun _ h=>?_) (fun _ h=>?_)
 exact Y
 refine Z ?_
 refine Lg h (fun _ h=>?_)
 refine Z ?_
 refine Be h (fun _ h=>?_)
 refine Z ?_
 refine Fh h (fun _ h=>?_) (fun _ h=>?_)
 exact Y
 refine Z ?_
 refine Lg h (fun _ h=>?_)
 refine Z ?_
 refine Am h (fun _ h=>?_) (fun _ h=>?_)
 exact Y
 replace h:=Cj h
 refine Z ?_
 refine Am h (fun _ h=>?_) (fun _ h=>?_)
 exact Y
 refine Z ?_
 refine Be h (fun _ h=>?_)
 refine ZO ?_
 refine Bx h (fun v79=>[(9,(O .i64 v79))]) (fun v79=>[]) ?_ ?_
 intro _ h _ _ _
 exact Y
 rintro v79 _ h
 exact Y
 replace h:=Cj h
 refine Z ?_
 refine Am h (fun _ h=>?_) (fun _ h=>?_)
 exact Y
 refine Z ?_
 refine Be h (fun _ h=>?_)
 refine ZO ?_
 refine Bx h (fun v79=>[(9,(O .i64 v79))]) (fun v79=>[]) ?_ ?_
 intro _ h _ _ _
 exact Y
 rintro v79 _ h
 exact Y
 refine Z ?_
 refine Be h (fun _ h=>?_)
 refine Z ?_
 refine Am h (fun _ h=>?_) (fun _ h=>?_)
 refine Z ?_
 refine A3 h (fun v85=>[(8,(O .i64 v85))]) (fun v85=>[]) ?_
 rintro v85 _ _ _ h _ _
 refine Z ?_
 refine Fh h (fun _ h=>?_) (fun _ h=>?_)
 refine Z ?_
 refine Lg h (fun _ h=>?_)
 refine Z ?_
 refine Be h (fun _ h=>?_)
 refine Z ?_
 refine Am h (fun _ h=>?_) (fun _ h=>?_)
 exact Y
 replace h:=Cj h
 refine E8 (E6 rfl (As (As ?_)))
 refine Bx h (fun v89=>[(165,(Ao v89))]) (fun v89=>[]) ?_ ?_
 intro _ h _ _ _
 exact Y
 rintro v89 _ h
 exact Y
 replace h:=Cj h
 refine ZO ?_
 refine P2 (E8 (E6 rfl (As (As ?_))))
 refine Bx h (fun v89=>[(165,(Ao v89))]) (fun v89=>[]) ?_ ?_
 intro _ h _ _ _
 exact Y
 rintro v89 _ h
 exact Y
 exact Y
 exact Y⟩
instance {a0:ByteArray}:OK (Qq a0) fun r=>Ar Tryz.prog 182 [Dl a0] (Ao r):=⟨fun {r} h=>by
 refine pw C0 Tryz.func182 ?_
 exact Y⟩
instance {a0:List Az}:OK (Vt a0) fun r=>Ar Tryz.prog 104 [(Au 3 Cn) a0] (Ao r):=⟨fun {r} h=>by
 refine pw {T:=Cf,an:=(fun s=>bif Nat.beq s 4 then .own else bif Nat.beq s 3 then .own else .ask),nl:=(fun s=>bif Nat.beq s 4 then [(0,1)] else bif Nat.beq s 3 then [(0,1)] else [])} Tryz.func104 ?_
 refine Z ?_
 refine Am h (fun _ h=>?_) (fun _ h=>?_)
 exact Y
 refine Z ?_
 refine A3 h (fun (v150,o151,o152)=>[(2,(Ao false)),(3,(.arr 0 o151.length 0 o151.length)),(4,(.arr 1 o152.length 0 o152.length)),(5,(O .i64 v150))]) (fun (v150,o151,o152)=>[(0,.rows 9 1 (List.map Dl o151)),(1,.rows 9 1 (List.map Dl o152))]) ?_
 rintro ⟨v150,o151,o152⟩ _ _ _ h _ _
 refine Z ?_
 refine Am h (fun _ h=>?_) (fun _ h=>?_)
 refine Z ?_
 refine Bt h (fun _ _ _ _ h=>?_)
 refine ZO ?_
 refine As (As ?_)
 refine Bx h (fun v156=>[(48,(Ao v156))]) (fun v156=>[]) ?_ ?_
 intro _ h _ _ _
 exact Y
 rintro v156 _ h
 refine Am h (fun _ h=>?_) (fun _ h=>?_)
 exact Y
 refine Z ?_
 refine J4 h (fun _ h=>?_)
 refine Z ?_
 refine A3 h (fun (v200,o201)=>[(2,(Ao false)),(4,(.arr 1 o201.length 0 o201.length)),(7,(O .i64 v200))]) (fun (v200,o201)=>[(1,.rows 9 1 (List.map Dl o201))]) ?_
 rintro ⟨v200,o201⟩ _ _ _ h _ _
 refine Z ?_
 refine Am h (fun _ h=>?_) (fun _ h=>?_)
 refine J0 (As (Iw (As (As ?_))))
 refine Bx h (fun v205=>[(78,(Ao v205))]) (fun v205=>[]) ?_ ?_
 intro _ h _ _ _
 exact Y
 rintro v205 _ h
 refine Am h (fun _ h=>?_) (fun _ h=>?_)
 exact Y
 refine Z ?_
 refine Bt h (fun _ _ _ _ h=>?_)
 refine Z ?_
 refine J4 h (fun _ h=>?_)
 refine Z ?_
 refine Bt h (fun _ _ _ _ h=>?_)
 refine Z ?_
 refine A3 h (fun v214=>[(2,(Ao false)),(95,(O .i64 v214))]) (fun v214=>[]) ?_
 rintro v214 _ _ _ h _ _
 exact Y
 exact Y
 replace h:=Cj h
 refine E8 (E6 rfl (As ?_))
 refine Db [.fz 3,.fz 4] ?_
 exact Y⟩
instance {a0:Ce}:OK (S0 a0) fun r=>Ar Tryz.prog 52 [Ij a0] (Ao r):=⟨fun {r} h=>by
 refine pw C0 Tryz.func52 ?_
 refine ZS ?_
 refine B1 ?_
 refine ZO ?_
 refine As (As ?_)
 refine Bx h (fun v4=>[(22,(Ao v4))]) (fun v4=>[]) ?_ ?_
 intro _ h _ _ _
 exact Y
 rintro v4 _ h
 refine Am h (fun _ h=>?_) (fun _ h=>?_)
 exact Y
 refine Z ?_
 refine A3 h (fun v8=>[(2,(Ao false)),(26,(O .i64 v8))]) (fun v8=>[]) ?_
 rintro v8 _ _ _ h _ _
 exact Y⟩
instance {a0:Ce} {a1:Int}:OK (P7 a0 a1) fun r=>Ar Tryz.prog 53 [Ij a0,(O .i64) a1] (.tup [Dw r.1,Ao r.2]):=⟨fun {r} h=>by
 refine pw {T:=Cf,an:=(fun _=>.ask),nl:=(fun s=>bif Nat.beq s 19 then [(2,3)] else [])} Tryz.func53 ?_
 refine Z ?_
 refine Am h (fun _ h=>?_) (fun _ h=>?_)
 exact Y
 refine J0 (As (As ?_))
 refine Bx h (fun v3=>[(18,(Ao v3))]) (fun v3=>[]) ?_ ?_
 intro _ h _ _ _
 exact Y
 rintro v3 _ h
 exact Y⟩
instance {a0:Ce} {a1:Ca}:OK (Vk a0 a1) fun r=>Ar Tryz.prog 59 [Ij a0,Gk a1] (Ao r):=⟨fun {r} h=>by
 refine pw C0 Tryz.func59 ?_
 refine Z ?_
 refine A3 h (fun v7=>[(4,(Ao false)),(12,(O .i64 v7))]) (fun v7=>[]) ?_
 rintro v7 _ _ _ h _ _
 exact Y⟩
instance {a0:Bool}:OK (Qi a0) fun r=>Ar Tryz.prog 153 [Ao a0] ((O .i64) r):=⟨fun {r} h=>by
 refine pw C0 Tryz.func153 ?_
 exact Y⟩
instance {a0 a1:Ca}:OK (M0 a0 a1) fun r=>Ar Tryz.prog 92 [Gk a0,Gk a1] ((O .i64) r):=⟨fun {r} h=>by
 refine pw C0 Tryz.func92 ?_
 refine Z ?_
 refine Am h (fun _ h=>?_) (fun _ h=>?_)
 exact Y
 refine Z ?_
 refine A3 h (fun v14=>[(4,(O .i64 0)),(24,(O .i64 v14))]) (fun v14=>[]) ?_
 rintro v14 _ _ _ h _ _
 exact Y⟩
instance {a0 a1:Aq}:OK (Kh a0 a1) fun r=>Ar Tryz.prog 109 [B9 a0,B9 a1] (B9 r):=⟨fun {r} h=>by
 refine pw C0 Tryz.func109 ?_
 exact Y⟩
instance {a0:A8}:OK (T5 a0) fun r=>Bw Tryz.prog 108 [F0 a0] [] (.agg [.arr 3 r.2.1.length 0 r.2.1.length,.arr 4 r.2.2.length 0 r.2.2.length]) [.cells 59 [(.sl 3 (List.map De r.1.Factors)),(.sl 3 (List.map Dc r.1.Atoms))],.cells 59 [(.arr 3 r.2.1.length 0 r.2.1.length),(.arr 4 r.2.2.length 0 r.2.2.length)],.cells 59 [(.arr 3 r.2.1.length 0 r.2.1.length),(.arr 4 r.2.2.length 0 r.2.2.length)],.rows 85 3 (List.map De r.2.1),.rows 91 3 (List.map Dc r.2.2)]:=⟨fun {r} h=>by
 refine aw {T:=Cf,an:=(fun _=>.ask),nl:=(fun s=>bif Nat.beq s 35 then [(0,3)] else bif Nat.beq s 16 then [(0,3)] else [])} false Tryz.func108 ?_
 refine ZS ?_
 refine B1 ?_
 refine ZS ?_
 refine B1 ?_
 refine ZO ?_
 refine As (As ?_)
 refine Db [.own 3 0 85 3,.own 3 1 91 3] ?_
 refine Z ?_
 refine A3 h (fun (v16,o17)=>[(11,(O .i64 v16))]) (fun (v16,o17)=>[(2,.cells 59 [(.arr 3 o17.length 0 o17.length),(.arr 4 0 0 0)]),(3,.rows 85 3 (List.map De o17))]) ?_
 rintro ⟨v16,o17⟩ _ _ _ h _ _
 refine Z ?_
 refine Am h (fun _ h=>?_) (fun _ h=>?_)
 exact Y
 replace h:=Cj h
 refine Z ?_
 refine A3 h (fun (v33,o34)=>[(30,(O .i64 v33))]) (fun (v33,o34)=>[(2,.cells 59 [(.arr 3 o17.length 0 o17.length),(.arr 4 o34.length 0 o34.length)]),(4,.rows 91 3 (List.map Dc o34))]) ?_
 rintro ⟨v33,o34⟩ _ _ _ h _ _
 exact Y⟩
instance {a0 a1:List Int}:OK (V7 a0 a1) fun r=>Ar Tryz.prog 199 [(Au 1 (O .u32)) a0,(Au 1 (O .u32)) a1] ((Au 1 (O .u32)) r):=⟨fun {r} h=>by
 refine pw {T:=Cf,an:=(fun s=>bif Nat.beq s 5 then .own else .ask),nl:=(fun s=>bif Nat.beq s 5 then [(0,1)] else bif Nat.beq s 4 then [(0,1)] else [])} Tryz.func199 ?_
 refine Z ?_
 refine A3 h (fun (v21,v22,o23)=>[(5,(.arr 0 o23.length 0 o23.length)),(6,(O .u32 v21)),(7,(O .i64 v22))]) (fun (v21,v22,o23)=>[(0,.rows 106 1 (List.map (O .u32) o23))]) ?_
 rintro ⟨v21,v22,o23⟩ _ _ _ h _ _
 refine As (As ?_)
 refine Bx h (fun v24=>[(22,(Ao v24))]) (fun v24=>[]) ?_ ?_
 intro _ h _ _ _
 exact Y
 rintro v24 _ h
 refine Am h (fun _ h=>?_) (fun _ h=>?_)
 refine ZS ?_
 refine B1 ?_
 refine ZS ?_
 refine B1 ?_
 refine ZO ?_
 refine Bx h (fun v26=>[(8,(O .u32 v26))]) (fun v26=>[]) ?_ ?_
 intro _ h _ _ _
 exact Y
 rintro v26 _ h
 refine ZS ?_
 refine B1 ?_
 refine ZO ?_
 refine Bx h (fun v28=>[(8,(O .u32 v28))]) (fun v28=>[]) ?_ ?_
 intro _ h _ _ _
 exact Y
 rintro v28 _ h
 exact Y
 exact Y⟩
instance {a0 a1:Aq}:OK (Oe a0 a1) fun r=>Ar Tryz.prog 120 [B9 a0,B9 a1] (B9 r):=⟨fun {r} h=>by
 refine pw C0 Tryz.func120 ?_
 exact Y⟩
instance {a0:Bool}:OK (Te a0) fun r=>Ar Tryz.prog 151 [Ao a0] ((O .i64) r):=⟨fun {r} h=>by
 refine pw C0 Tryz.func151 ?_
 exact Y⟩
abbrev Ak2 (k:Nat):Prop:=∀{a0 a1:A9},OK (Oa k a0 a1) fun r=>Ar Tryz.prog 91 [Ev a0,Ev a1] ((O .i64) r)
abbrev Ak3 (k:Nat):Prop:=∀{a0 a1:List A9},OK (V3 k a0 a1) fun r=>Ar Tryz.prog 152 [(Gj 2 Hr) a0,(Gj 2 Hr) a1] ((O .i64) r)
theorem Ak4 (k:Nat):Ak2 k/\Ak3 k:=by
 induction k with
 | zero=>exact ⟨okz,okz⟩
 | succ k ih=>
  obtain ⟨i0_,i1_⟩:=ih
  refine ⟨@fun a0 a1=>⟨fun {r} h=>?_⟩,@fun a0 a1=>⟨fun {r} h=>?_⟩⟩
  .unfold Oa at h
   refine pw C0 Tryz.func91 ?_
   exact Y
  .unfold V3 at h
   refine pw C0 Tryz.func152 ?_
   refine Z ?_
   refine Am h (fun _ h=>?_) (fun _ h=>?_)
   exact Y
   refine Z ?_
   refine A3 h (fun v5=>[(4,(O .i64 0)),(20,(O .i64 v5))]) (fun v5=>[]) ?_
   rintro v5 _ _ _ h _ _
   exact Y
instance {k:Nat}:Ak2 k:=(Ak4 k).1
instance {k:Nat}:Ak3 k:=(Ak4 k).2
instance {a0:Bool}:OK (Qc a0) fun r=>Ar Tryz.prog 90 [Ao a0] ((O .i64) r):=⟨fun {r} h=>by
 refine pw C0 Tryz.func90 ?_
 exact Y⟩
instance {a0 a1:A8}:OK (Mv a0 a1) fun r=>Ar Tryz.prog 44 [F0 a0,F0 a1] ((O .i64) r):=⟨fun {r} h=>by
 refine pw C0 Tryz.func44 ?_
 refine Z ?_
 refine Am h (fun _ h=>?_) (fun _ h=>?_)
 exact Y
 refine Z ?_
 refine A3 h (fun v12=>[(4,(O .i64 0)),(27,(O .i64 v12))]) (fun v12=>[]) ?_
 rintro v12 _ _ _ h _ _
 refine Z ?_
 refine Am h (fun _ h=>?_) (fun _ h=>?_)
 exact Y
 replace h:=Cj h
 refine Z ?_
 refine Am h (fun _ h=>?_) (fun _ h=>?_)
 exact Y
 refine Z ?_
 refine A3 h (fun v31=>[(4,(O .i64 0)),(92,(O .i64 v31))]) (fun v31=>[]) ?_
 rintro v31 _ _ _ h _ _
 exact Y⟩
instance {a0:Nat} {a1:A8} {a2:Aq} {b0:List Aj}:OK (My a0 a1 a2 b0) fun r=>Bw Tryz.prog 64 [(.arr 0 b0.length 0 a0),F0 a1,B9 a2] [.rows 61 5 (List.map Bv b0)] (.arr 0 r.2.length 0 r.1) [.rows 61 5 (List.map Bv r.2)]:=⟨fun {r} h=>by
 refine aw {T:=Cf,an:=(fun _=>.ask),nl:=(fun s=>bif Nat.beq s 76 then [(1,1),(2,1),(3,3),(4,3)] else bif Nat.beq s 6 then [(0,5)] else [])} false Tryz.func64 ?_
 refine Z ?_
 refine A3 h (fun (v6,v7)=>[(7,(O .i64 v6)),(8,(O .i64 v7))]) (fun (v6,v7)=>[]) ?_
 rintro ⟨v6,v7⟩ _ _ _ h _ _
 refine Z ?_
 refine Am h (fun _ h=>?_) (fun _ h=>?_)
 exact Y
 replace h:=Cj h
 refine E8 (E6 rfl (As (As ?_)))
 refine Bx h (fun v14=>[(43,(Ao v14))]) (fun v14=>[]) ?_ ?_
 intro _ h _ _ _
 exact Y
 rintro v14 _ h
 refine Am h (fun _ h=>?_) (fun _ h=>?_)
 refine Z ?_
 refine Mc h (fun _ _ _ _ h=>?_)
 refine Z ?_
 refine Be h (fun v16 h=>?_)
 refine Z ?_
 refine Mc h (fun _ v17 hiv17 _ h=>?_)
 refine Z ?_
 refine H6 (f:=Bv) (x:=(Aj.mk v16 v17.Mono)) (j:=(((0:Nat):Int)+v6)) rfl rfl rfl (Ads _ hiv17) ?_
 refine Z ?_
 refine Mc h (fun _ _ _ _ h=>?_)
 refine Z ?_
 refine Be h (fun _ h=>?_)
 refine Z ?_
 refine Am h (fun _ h=>?_) (fun _ h=>?_)
 refine Z ?_
 refine Atf (f:=Bv) (l:=(Ci b0 (((0:Nat):Int)+v6) (Aj.mk v16 v17.Mono))) rfl (Fy (l:=b0) rfl (((0:Nat):Int)+v6) (Aj.mk v16 v17.Mono)) h (fun v20 h=>?_)
 refine Z ?_
 refine P0 (f:=Bv) (l:=(Ci b0 (((0:Nat):Int)+v6) (Aj.mk v16 v17.Mono))) rfl (Fy (l:=b0) rfl (((0:Nat):Int)+v6) (Aj.mk v16 v17.Mono)) h (fun v22 h=>?_) (fun h=>?_)
 refine Z ?_
 refine Ate (f:=Bv) (l:=(Ci b0 (((0:Nat):Int)+v6) (Aj.mk v16 v17.Mono))) rfl (Fy (l:=b0) rfl (((0:Nat):Int)+v6) (Aj.mk v16 v17.Mono)) (Fy (l:=b0) rfl (((0:Nat):Int)+v6) (Aj.mk v16 v17.Mono)) h (fun v23 h=>?_)
 exact Y
 refine Z ?_
 refine Ai4 (f:=Bv) (l:=(Ci b0 (((0:Nat):Int)+v6) (Aj.mk v16 v17.Mono))) (ys:=[]) rfl rfl (Fy (l:=b0) rfl (((0:Nat):Int)+v6) (Aj.mk v16 v17.Mono)) h (fun v24 h=>?_)
 exact Y
 refine Z ?_
 cases h
 exact ⟨congrArg (fun q_=>AV.arr 0 q_ 0 _) (Fy (l:=b0) rfl (((0:Nat):Int)+v6) (Aj.mk v16 v17.Mono)),rfl,trivial⟩
 refine Z ?_
 refine Be h (fun _ h=>?_)
 refine Z ?_
 refine Am h (fun _ h=>?_) (fun _ h=>?_)
 exact Y
 refine Z ?_
 refine Ai4 (f:=Bv) (l:=b0) (ys:=[(Aj.mk (Aq.mk false [] []) (A8.mk [] []))]) rfl rfl rfl h (fun v26 h=>?_)
 refine ZO ?_
 refine As ?_
 refine N1 h (fun o3_ h hj3=>?_)
 refine Lh (fun (o32:(List Aj))=>o32=o3_/\v26.1.length=o32.length) (fun o32=>[]) (fun o32=>[(0,.rows 61 5 (List.map Bv o32))]) (fun _=>rfl) ?_ ?_
 intro K3 hK3
 refine Z ?_
 refine P0 (f:=Bv) (l:=v26.1) rfl rfl h (fun v28 h=>?_) (fun h=>?_)
 refine Z ?_
 refine Jz (f:=Bv) (l:=v26.1) rfl rfl h (fun v29 h=>?_)
 refine Z ?_
 refine Sr (f:=Bv) (l:=v26.1) rfl rfl rfl h (fun o30 hco30 h=>?_)
 refine Z ?_
 exact hK3 o30 _ _ _ ⟨(Option.some.inj h),(Ss rfl hco30)⟩ trivial ⟨⟨rfl,rfl⟩,⟨rfl,rfl⟩,⟨rfl,rfl⟩,trivial⟩
 refine Z ?_
 refine Jz (f:=Bv) (l:=v26.1) rfl rfl h (fun v31 h=>?_)
 refine Z ?_
 exact hK3 v26.1 _ _ _ ⟨(Option.some.inj h),rfl⟩ trivial ⟨⟨rfl,rfl⟩,⟨rfl,rfl⟩,⟨rfl,rfl⟩,trivial⟩
 rintro o32 u3 ⟨hJ3,q32⟩
 have h:=hj3 _ hJ3
 refine Z ?_
 refine Be h (fun v33 h=>?_)
 refine Z ?_
 refine Be h (fun v34 h=>?_)
 refine Z ?_
 refine Mc h (fun _ _ hiv35 _ h=>?_)
 refine Z ?_
 refine H6 (f:=Bv) (x:=(Aj.mk v33 v34)) (j:=(((0:Nat):Int)+v6)) rfl rfl rfl (Ads _ hiv35) ?_
 refine Z ?_
 cases h
 exact ⟨congrArg (fun q_=>AV.arr 0 q_ 0 _) (Fy (l:=o32) q32 (((0:Nat):Int)+v6) (Aj.mk v33 v34)),rfl,trivial⟩⟩
instance {a0 a1:Aq}:OK (Tm a0 a1) fun r=>Ar Tryz.prog 196 [B9 a0,B9 a1] (.tup [B9 r.1,Ao r.2]):=⟨fun {r} h=>by
 refine pw C0 Tryz.func196 ?_
 exact Y⟩
instance {a0:Int}:OK (W9 a0) fun r=>Ar Tryz.prog 27 [(O .i64) a0] (B9 r):=⟨fun {r} h=>by
 refine pw C0 Tryz.func27 ?_
 exact Y⟩
instance {a0:Aq}:OK (Tc a0) fun r=>Ar Tryz.prog 127 [B9 a0] (B9 r):=⟨fun {r} h=>by
 refine pw C0 Tryz.func127 ?_
 exact Y⟩
instance {a0 a1:Aq}:OK (Vm a0 a1) fun r=>Ar Tryz.prog 71 [B9 a0,B9 a1] (B9 r):=⟨fun {r} h=>by
 refine pw C0 Tryz.func71 ?_
 exact Y⟩
instance {a0:Aq} {a1:Int}:OK (Qs a0 a1) fun r=>Ar Tryz.prog 194 [B9 a0,(O .i64) a1] (B9 r):=⟨fun {r} h=>by
 refine pw C0 Tryz.func194 ?_
 refine Z ?_
 refine Be h (fun _ h=>?_)
 refine Z ?_
 refine A3 h (fun (v10,v11,v12,v13)=>[(6,(O .i64 v10))]) (fun (v10,v11,v12,v13)=>[(2,.cells 39 [(Ao v11),(.sl 1 (List.map (O .u32) v12)),(.sl 1 (List.map (O .u32) v13))])]) ?_
 rintro ⟨v10,v11,v12,v13⟩ _ _ _ h _ _
 exact Y⟩
instance {a0:Aq} {a1:Int}:OK (S9 a0 a1) fun r=>Ar Tryz.prog 114 [B9 a0,(O .i64) a1] (B9 r):=⟨fun {r} h=>by
 refine pw C0 Tryz.func114 ?_
 exact Y⟩
instance {a0:Int}:OK (Tl a0) fun r=>Ar Tryz.prog 195 [(O .i64) a0] (B9 r):=⟨fun {r} h=>by
 refine pw C0 Tryz.func195 ?_
 refine Z ?_
 refine Be h (fun _ h=>?_)
 refine Z ?_
 refine A3 h (fun (v6,v7,v8,v9)=>[(4,(O .i64 v6))]) (fun (v6,v7,v8,v9)=>[(1,.cells 39 [(Ao v7),(.sl 1 (List.map (O .u32) v8)),(.sl 1 (List.map (O .u32) v9))])]) ?_
 rintro ⟨v6,v7,v8,v9⟩ _ _ _ h _ _
 exact Y⟩
instance {a0 a1:Int}:OK (Ad6 a0 a1) fun r=>Ar Tryz.prog 115 [(O .i64) a0,(O .i64) a1] (.tup [(Au 3 B9) r.1,Ao r.2]):=⟨fun {r} h=>by
 refine pw {T:=Cf,an:=(fun s=>bif Nat.beq s 6 then .own else .ask),nl:=(fun s=>bif Nat.beq s 6 then [(0,3)] else bif Nat.beq s 4 then [(0,3)] else [])} Tryz.func115 ?_
 refine ZS ?_
 refine B1 ?_
 refine ZO ?_
 refine As (As ?_)
 refine Bx h (fun v1=>[(23,(Ao v1))]) (fun v1=>[]) ?_ ?_
 intro _ h _ _ _
 exact Y
 rintro v1 _ h
 refine Am h (fun _ h=>?_) (fun _ h=>?_)
 exact Y
 refine Z ?_
 refine A3 h (fun (v15,o16)=>[(6,(.arr 0 o16.length 0 o16.length)),(7,(O .i64 v15))]) (fun (v15,o16)=>[(0,.rows 39 3 (List.map B9 o16))]) ?_
 rintro ⟨v15,o16⟩ _ _ _ h _ _
 exact Y⟩
end Go.Ab
namespace Go.Ab
open Go Go.Proofs
set_option maxRecDepth 10000
set_option maxHeartbeats 4000000
set_option linter.unusedVariables false
instance {a0:List Aj} {a1:Ca} {a2:Int}:OK (N6 a0 a1 a2) fun r=>Ar Tryz.prog 60 [(Au 5 Bv) a0,Gk a1,(O .i64) a2] ((Au 5 Bv) r):=⟨fun {r} h=>by
 refine pw {T:=Cf,an:=(fun s=>bif Nat.beq s 7 then .own else .ask),nl:=(fun s=>bif Nat.beq s 121 then [(1,2)] else bif Nat.beq s 7 then [(0,5)] else bif Nat.beq s 6 then [(0,5)] else [])} Tryz.func60 ?_
 refine Z ?_
 refine Am h (fun _ h=>?_) (fun _ h=>?_)
 exact Y
 refine Z ?_
 refine A3 h (fun (v78,v79,o80)=>[(7,(.arr 1 o80.length 0 v78)),(21,(O .i64 v79))]) (fun (v78,v79,o80)=>[(1,.rows 61 5 (List.map Bv o80))]) ?_
 rintro ⟨v78,v79,o80⟩ _ _ _ h _ _
 refine Z ?_
 refine Am h (fun _ h=>?_) (fun _ h=>?_)
 refine Z ?_
 refine Bt h (fun _ _ _ _ h=>?_)
 refine Z ?_
 refine Am h (fun _ h=>?_) (fun _ h=>?_)
 refine Z ?_
 refine Be h (fun _ h=>?_)
 refine Z ?_
 refine Be h (fun _ h=>?_)
 refine Z ?_
 refine Be h (fun _ h=>?_)
 refine Z ?_
 refine Bb [1] h (fun _ h=>?_)
 exact Y
 refine Z ?_
 refine A3 h (fun v89=>[(10,(O .i64 v89))]) (fun v89=>[]) ?_
 rintro v89 _ _ _ h _ _
 refine Z ?_
 refine Fh h (fun _ h=>?_) (fun _ h=>?_)
 refine Z ?_
 refine Bt h (fun _ _ _ _ h=>?_)
 refine Z ?_
 refine Be h (fun _ h=>?_)
 refine Z ?_
 refine Am h (fun _ h=>?_) (fun _ h=>?_)
 exact Y
 replace h:=Cj h
 refine E8 (E6 rfl (As (As ?_)))
 refine Bx h (fun v95=>[(78,(Ao v95))]) (fun v95=>[]) ?_ ?_
 intro _ h _ _ _
 exact Y
 rintro v95 _ h
 refine Am h (fun _ h=>?_) (fun _ h=>?_)
 refine Z ?_
 refine Bt h (fun _ _ _ _ h=>?_)
 refine Z ?_
 refine Be h (fun _ h=>?_)
 refine Z ?_
 refine A3 h (fun (v123,v124,o125)=>[(7,(.arr 1 o125.length 0 v123)),(13,(O .i64 v124))]) (fun (v123,v124,o125)=>[(1,.rows 61 5 (List.map Bv o125))]) ?_
 rintro ⟨v123,v124,o125⟩ _ _ _ h _ _
 refine Z ?_
 refine Am h (fun _ h=>?_) (fun _ h=>?_)
 refine Z ?_
 refine Bb [] h (fun _ h=>?_)
 refine Z ?_
 refine Hs h (fun _ v133 hiv133 _ h=>?_)
 refine Z ?_
 refine H6 (f:=Dc) (x:=(Ba.mk v133.Lin v124)) (j:=v89) rfl rfl (Nat.zero_add _) hiv133 ?_
 refine ZO ?_
 refine Db [.fzc 14 0,.fzc 14 1] ?_
 refine Z ?_
 refine Bt h (fun _ _ _ _ h=>?_)
 refine Z ?_
 refine Be h (fun _ h=>?_)
 refine Z ?_
 refine Bb [1] h (fun _ h=>?_)
 exact Y
 exact Y
 refine Z ?_
 refine Bb [] h (fun _ h=>?_)
 refine Z ?_
 refine J4 h (fun o147 h=>?_)
 refine ZO ?_
 refine As ?_
 refine N1 h (fun o5_ h hj5=>?_)
 refine Lh (fun (o153:(List Ba))=>o153=o5_/\o147.length=o153.length) (fun o153=>[]) (fun o153=>[(7,.rows 91 3 (List.map Dc o153))]) (fun _=>rfl) ?_ ?_
 intro K5 hK5
 refine Z ?_
 refine P0 (f:=Dc) (l:=o147) rfl rfl h (fun v149 h=>?_) (fun h=>?_)
 refine Z ?_
 refine Jz (f:=Dc) (l:=o147) rfl rfl h (fun v150 h=>?_)
 refine Z ?_
 refine Sr (f:=Dc) (l:=o147) rfl rfl rfl h (fun o151 hco151 h=>?_)
 refine Z ?_
 exact hK5 o151 _ _ _ ⟨(Option.some.inj h),(Ss rfl hco151)⟩ trivial ⟨⟨rfl,rfl⟩,⟨rfl,rfl⟩,⟨rfl,rfl⟩,⟨rfl,rfl⟩,⟨rfl,rfl⟩,⟨rfl,rfl⟩,⟨rfl,rfl⟩,⟨rfl,rfl⟩,⟨rfl,rfl⟩,trivial⟩
 refine Z ?_
 refine Jz (f:=Dc) (l:=o147) rfl rfl h (fun v152 h=>?_)
 refine Z ?_
 exact hK5 o147 _ _ _ ⟨(Option.some.inj h),rfl⟩ trivial ⟨⟨rfl,rfl⟩,⟨rfl,rfl⟩,⟨rfl,rfl⟩,⟨rfl,rfl⟩,⟨rfl,rfl⟩,⟨rfl,rfl⟩,⟨rfl,rfl⟩,⟨rfl,rfl⟩,⟨rfl,rfl⟩,trivial⟩
 rintro o153 u5 ⟨hJ5,q153⟩
 have h:=hj5 _ hJ5
 refine Z ?_
 refine Hs h (fun _ _ hiv154 _ h=>?_)
 refine Z ?_
 refine H6 (f:=Dc) (x:=(Ba.mk a1 a2)) (j:=v89) rfl rfl (Nat.zero_add _) hiv154 ?_
 refine ZO ?_
 refine Db [.fzc 15 0,.fzc 15 1] ?_
 refine Z ?_
 refine Bb [1] h (fun _ h=>?_)
 exact Y
 replace h:=Cj h
 refine ZO ?_
 refine P2 (E8 (E6 rfl (As (As ?_))))
 refine Bx h (fun v95=>[(78,(Ao v95))]) (fun v95=>[]) ?_ ?_
 intro _ h _ _ _
 exact Y
 rintro v95 _ h
 refine Am h (fun _ h=>?_) (fun _ h=>?_)
 refine Z ?_
 refine Bt h (fun _ _ _ _ h=>?_)
 refine Z ?_
 refine Be h (fun _ h=>?_)
 refine Z ?_
 refine A3 h (fun (v123,v124,o125)=>[(7,(.arr 1 o125.length 0 v123)),(13,(O .i64 v124))]) (fun (v123,v124,o125)=>[(1,.rows 61 5 (List.map Bv o125))]) ?_
 rintro ⟨v123,v124,o125⟩ _ _ _ h _ _
 refine Z ?_
 refine Am h (fun _ h=>?_) (fun _ h=>?_)
 refine Z ?_
 refine Bb [] h (fun _ h=>?_)
 refine Z ?_
 refine Hs h (fun _ v133 hiv133 _ h=>?_)
 refine Z ?_
 refine H6 (f:=Dc) (x:=(Ba.mk v133.Lin v124)) (j:=v89) rfl rfl (Nat.zero_add _) hiv133 ?_
 refine ZO ?_
 refine Db [.fzc 14 0,.fzc 14 1] ?_
 refine Z ?_
 refine Bt h (fun _ _ _ _ h=>?_)
 refine Z ?_
 refine Be h (fun _ h=>?_)
 refine Z ?_
 refine Bb [1] h (fun _ h=>?_)
 exact Y
 exact Y
 refine Z ?_
 refine Bb [] h (fun _ h=>?_)
 refine Z ?_
 refine J4 h (fun o147 h=>?_)
 refine ZO ?_
 refine As ?_
 refine N1 h (fun o8_ h hj8=>?_)
 refine Lh (fun (o153:(List Ba))=>o153=o8_/\o147.length=o153.length) (fun o153=>[]) (fun o153=>[(7,.rows 91 3 (List.map Dc o153))]) (fun _=>rfl) ?_ ?_
 intro K8 hK8
 refine Z ?_
 refine P0 (f:=Dc) (l:=o147) rfl rfl h (fun v149 h=>?_) (fun h=>?_)
 refine Z ?_
 refine Jz (f:=Dc) (l:=o147) rfl rfl h (fun v150 h=>?_)
 refine Z ?_
 refine Sr (f:=Dc) (l:=o147) rfl rfl rfl h (fun o151 hco151 h=>?_)
 refine Z ?_
 exact hK8 o151 _ _ _ ⟨(Option.some.inj h),(Ss rfl hco151)⟩ trivial ⟨⟨rfl,rfl⟩,⟨rfl,rfl⟩,⟨rfl,rfl⟩,⟨rfl,rfl⟩,⟨rfl,rfl⟩,⟨rfl,rfl⟩,⟨rfl,rfl⟩,⟨rfl,rfl⟩,⟨rfl,rfl⟩,trivial⟩
 refine Z ?_
 refine Jz (f:=Dc) (l:=o147) rfl rfl h (fun v152 h=>?_)
 refine Z ?_
 exact hK8 o147 _ _ _ ⟨(Option.some.inj h),rfl⟩ trivial ⟨⟨rfl,rfl⟩,⟨rfl,rfl⟩,⟨rfl,rfl⟩,⟨rfl,rfl⟩,⟨rfl,rfl⟩,⟨rfl,rfl⟩,⟨rfl,rfl⟩,⟨rfl,rfl⟩,⟨rfl,rfl⟩,trivial⟩
 rintro o153 u8 ⟨hJ8,q153⟩
 have h:=hj8 _ hJ8
 refine Z ?_
 refine Hs h (fun _ _ hiv154 _ h=>?_)
 refine Z ?_
 refine H6 (f:=Dc) (x:=(Ba.mk a1 a2)) (j:=v89) rfl rfl (Nat.zero_add _) hiv154 ?_
 refine ZO ?_
 refine Db [.fzc 15 0,.fzc 15 1] ?_
 refine Z ?_
 refine Bb [1] h (fun _ h=>?_)
 exact Y
 replace h:=Cj h
 refine ZS ?_
 refine B1 ?_
 refine ZO ?_
 refine Db [.fzp 6] ?_
 refine Ai5 (f:=Bv) (l:=o80) rfl rfl h (fun o158 h=>?_)
 exact Y⟩
instance {a0:Ce} {a1:Ca} {a2:Int}:OK (Kg a0 a1 a2) fun r=>Ar Tryz.prog 21 [Ij a0,Gk a1,(O .i64) a2] (.tup [(Au 5 Bv) r.1,(O .i64) r.2]):=⟨fun {r} h=>by
 refine pw {T:=Cf,an:=(fun _=>.ask),nl:=(fun s=>bif Nat.beq s 6 then [(0,5)] else [])} Tryz.func21 ?_
 refine Z ?_
 refine Be h (fun _ h=>?_)
 refine Z ?_
 refine Am h (fun _ h=>?_) (fun _ h=>?_)
 exact Y
 refine J0 (As (As ?_))
 refine Bx h (fun v5=>[(21,(Ao v5))]) (fun v5=>[]) ?_ ?_
 intro _ h _ _ _
 exact Y
 rintro v5 _ h
 exact Y⟩
instance {a0:List Az} {a1 a2:Int}:OK (Tw a0 a1 a2) fun r=>Ar Tryz.prog 314 [(Au 3 Cn) a0,(O .i64) a1,(O .i64) a2] ((Au 1 Ao) r):=⟨fun {r} h=>by
 refine pw {T:=Cf,an:=(fun s=>bif Nat.beq s 7 then .own else .ask),nl:=(fun s=>bif Nat.beq s 7 then [(0,1)] else bif Nat.beq s 6 then [(0,1)] else [])} Tryz.func314 ?_
 refine ZS ?_
 refine B1 ?_
 refine ZO ?_
 refine As (As ?_)
 refine Bx h (fun v2=>[(31,(Ao v2))]) (fun v2=>[]) ?_ ?_
 intro _ h _ _ _
 exact Y
 rintro v2 _ h
 refine Am h (fun _ h=>?_) (fun _ h=>?_)
 exact Y
 refine Z ?_
 refine Bt h (fun _ _ _ _ h=>?_)
 refine Z ?_
 refine Bt h (fun _ _ _ _ h=>?_)
 refine Z ?_
 refine A3 h (fun (v18,o19)=>[(7,(.arr 0 o19.length 0 o19.length)),(42,(O .i64 v18))]) (fun (v18,o19)=>[(0,.rows 4 1 (List.map Ao o19))]) ?_
 rintro ⟨v18,o19⟩ _ _ _ h _ _
 exact Y⟩
abbrev Ak5 (k:Nat):Prop:=∀{a0:Ah},OK (Q7 k a0) fun r=>Ar Tryz.prog 353 [Dw a0] (Dw r)
theorem Auz (k:Nat):Ak5 k:=by
 induction k with
 | zero=>exact okz
 | succ k ih=>
  refine @fun a0=>⟨fun {r} h=>?_⟩
  .unfold Q7 at h
   refine pw {T:=Cf,an:=(fun _=>.ask),nl:=(fun s=>bif Nat.beq s 18 then [(0,3)] else [])} Tryz.func353 ?_
   refine ZS ?_
   refine B1 ?_
   refine ZS ?_
   refine B1 ?_
   refine ZO ?_
   refine As (As ?_)
   refine Db [.own 3 2 25 3] ?_
   refine Z ?_
   refine A3 h (fun (v13,o14)=>[(4,(O .i64 v13))]) (fun (v13,o14)=>[(2,.cells 25 [(O .i64 a0.Kind),(O .i64 a0.Num),(.arr 3 o14.length 0 o14.length)]),(3,.rows 25 3 (Bl o14))]) ?_
   rintro ⟨v13,o14⟩ _ _ _ h _ _
   exact Y
instance {k:Nat}:Ak5 k:=(Auz k)
abbrev Ak6 (k:Nat):Prop:=∀{a0:Ah} {a1:List Ah},OK (Ou k a0 a1) fun r=>Ar Tryz.prog 313 [Dw a0,(Gj 3 Bl) a1] (Dw r)
theorem Au0 (k:Nat):Ak6 k:=by
 induction k with
 | zero=>exact okz
 | succ k ih=>
  refine @fun a0 a1=>⟨fun {r} h=>?_⟩
  .unfold Ou at h
   refine pw {T:=Cf,an:=(fun _=>.ask),nl:=(fun s=>bif Nat.beq s 41 then [(0,3)] else [])} Tryz.func313 ?_
   refine ZS ?_
   refine B1 ?_
   refine ZO ?_
   refine As (As ?_)
   refine Bx h (fun v3=>[(21,(Ao v3))]) (fun v3=>[]) ?_ ?_
   intro _ h _ _ _
   exact Y
   rintro v3 _ h
   refine Am h (fun _ h=>?_) (fun _ h=>?_)
   exact Y
   refine ZS ?_
   refine B1 ?_
   refine ZO ?_
   refine As (As ?_)
   refine Db [.own 5 2 25 3] ?_
   refine Z ?_
   refine A3 h (fun (v16,o17)=>[(6,(O .i64 v16))]) (fun (v16,o17)=>[(2,.cells 25 [(O .i64 a0.Kind),(O .i64 a0.Num),(.arr 3 o17.length 0 o17.length)]),(3,.rows 25 3 (Bl o17))]) ?_
   rintro ⟨v16,o17⟩ _ _ _ h _ _
   exact Y
instance {k:Nat}:Ak6 k:=(Au0 k)
instance {a0:List Az} {a1:Ah} {a2:Int}:OK (Qu a0 a1 a2) fun r=>Ar Tryz.prog 245 [(Au 3 Cn) a0,Dw a1,(O .i64) a2] (.tup [(Gj 3 Bl) r.1,Ao r.2]):=⟨fun {r} h=>by
 refine pw {T:=Cf,an:=(fun s=>bif Nat.beq s 8 then .own else .ask),nl:=(fun s=>bif Nat.beq s 8 then [(0,3)] else bif Nat.beq s 6 then [(0,3)] else [])} Tryz.func245 ?_
 refine ZS ?_
 refine B1 ?_
 refine ZO ?_
 refine As (As ?_)
 refine Bx h (fun v4=>[(53,(Ao v4))]) (fun v4=>[]) ?_ ?_
 intro _ h _ _ _
 exact Y
 rintro v4 _ h
 refine Am h (fun _ h=>?_) (fun _ h=>?_)
 exact Y
 refine Z ?_
 refine Bt h (fun _ _ _ _ h=>?_)
 refine Z ?_
 refine Bt h (fun _ _ _ _ h=>?_)
 refine Z ?_
 refine A3 h (fun (v22,o23)=>[(6,(.sl 3 (Bl []))),(7,(Ao false)),(8,(.arr 1 o23.length 0 o23.length)),(65,(O .i64 v22))]) (fun (v22,o23)=>[(1,.rows 25 3 (Bl o23))]) ?_
 rintro ⟨v22,o23⟩ _ _ _ h _ _
 exact Y⟩
instance {a0:List Az} {a1:Ah} {a2:Int}:OK (Wp a0 a1 a2) fun r=>Ar Tryz.prog 246 [(Au 3 Cn) a0,Dw a1,(O .i64) a2] (.tup [(Au 1 (O .i64)) r.1,(Au 1 (O .i64)) r.2.1,Ao r.2.2]):=⟨fun {r} h=>by
 refine pw {T:=Cf,an:=(fun s=>bif Nat.beq s 12 then .own else bif Nat.beq s 11 then .own else .ask),nl:=(fun s=>bif Nat.beq s 12 then [(0,1)] else bif Nat.beq s 11 then [(0,1)] else bif Nat.beq s 7 then [(0,1)] else bif Nat.beq s 6 then [(0,1)] else [])} Tryz.func246 ?_
 refine Z ?_
 refine Be h (fun _ h=>?_)
 refine Z ?_
 refine Am h (fun _ h=>?_) (fun _ h=>?_)
 exact Y
 refine Z ?_
 refine Be h (fun _ h=>?_)
 refine Z ?_
 refine A3 h (fun (v15,o16,o17)=>[(11,(.arr 1 o16.length 0 o16.length)),(12,(.arr 2 o17.length 0 o17.length)),(30,(O .i64 v15))]) (fun (v15,o16,o17)=>[(1,.rows 3 1 (List.map (O .i64) o16)),(2,.rows 3 1 (List.map (O .i64) o17))]) ?_
 rintro ⟨v15,o16,o17⟩ _ _ _ h _ _
 exact Y⟩
instance {a0:List Az} {a1:Ah} {a2:Int}:OK (Tj a0 a1 a2) fun r=>Ar Tryz.prog 188 [(Au 3 Cn) a0,Dw a1,(O .i64) a2] (.tup [(Gj 3 Bl) r.1,Ao r.2]):=⟨fun {r} h=>by
 refine pw {T:=Cf,an:=(fun s=>bif Nat.beq s 13 then .own else .ask),nl:=(fun s=>bif Nat.beq s 13 then [(0,3)] else bif Nat.beq s 6 then [(0,3)] else [])} Tryz.func188 ?_
 refine Z ?_
 refine Be h (fun _ h=>?_)
 refine Z ?_
 refine Am h (fun _ h=>?_) (fun _ h=>?_)
 exact Y
 refine Z ?_
 refine Be h (fun _ h=>?_)
 refine Z ?_
 refine A3 h (fun (v13,o14)=>[(13,(.arr 1 o14.length 0 o14.length)),(35,(O .i64 v13))]) (fun (v13,o14)=>[(1,.rows 25 3 (Bl o14))]) ?_
 rintro ⟨v13,o14⟩ _ _ _ h _ _
 exact Y⟩
abbrev Ak7 (k:Nat):Prop:=∀{a0:List Az} {a1:Ah} {a2:A9},OK (Od k a0 a1 a2) fun r=>Ar Tryz.prog 106 [(Au 3 Cn) a0,Dw a1,Ev a2] ((O .i64) r)
abbrev Ak8 (k:Nat):Prop:=∀{a0:List Az} {a1:List Ah} {a2:List A9},OK (Ol k a0 a1 a2) fun r=>Ar Tryz.prog 187 [(Au 3 Cn) a0,(Gj 3 Bl) a1,(Gj 2 Hr) a2] ((O .i64) r)
theorem Ak9 (k:Nat):Ak7 k/\Ak8 k:=by
 induction k with
 | zero=>exact ⟨okz,okz⟩
 | succ k ih=>
  obtain ⟨i0_,i1_⟩:=ih
  refine ⟨@fun a0 a1 a2=>⟨fun {r} h=>?_⟩,@fun a0 a1 a2=>⟨fun {r} h=>?_⟩⟩
  .unfold Od at h
   refine pw C0 Tryz.func106 ?_
   refine Z ?_
   refine Am h (fun _ h=>?_) (fun _ h=>?_)
   exact Y
   refine Z ?_
   refine Am h (fun _ h=>?_) (fun _ h=>?_)
   exact Y
   refine Z ?_
   refine Am h (fun _ h=>?_) (fun _ h=>?_)
   refine As (As ?_)
   refine Bx h (fun v4=>[(54,(Ao v4))]) (fun v4=>[]) ?_ ?_
   intro _ h _ _ _
   exact Y
   rintro v4 _ h
   refine Am h (fun _ h=>?_) (fun _ h=>?_)
   exact Y
   refine Z ?_
   refine A3 h (fun (v10,v11)=>[(6,(O .i64 0)),(7,(O .i64 v10)),(58,(O .i64 v11))]) (fun (v10,v11)=>[]) ?_
   rintro ⟨v10,v11⟩ _ _ _ h _ _
   refine Z ?_
   refine Am h (fun _ h=>?_) (fun _ h=>?_)
   refine Z ?_
   refine Bt h (fun _ _ _ _ h=>?_)
   refine ZO ?_
   refine As (As ?_)
   refine Bx h (fun v14=>[(69,(Ao v14))]) (fun v14=>[]) ?_ ?_
   intro _ h _ _ _
   exact Y
   rintro v14 _ h
   exact Y
   exact Y
   exact Y
  .unfold Ol at h
   refine pw C0 Tryz.func187 ?_
   refine Z ?_
   refine Am h (fun _ h=>?_) (fun _ h=>?_)
   exact Y
   refine Z ?_
   refine A3 h (fun (v4,v5)=>[(6,(O .i64 0)),(7,(O .i64 v4)),(17,(O .i64 v5))]) (fun (v4,v5)=>[]) ?_
   rintro ⟨v4,v5⟩ _ _ _ h _ _
   exact Y
instance {k:Nat}:Ak7 k:=(Ak9 k).1
instance {k:Nat}:Ak8 k:=(Ak9 k).2
instance {a0:List Az} {a1:Ah} {a2:A9}:OK (P8 a0 a1 a2) fun r=>Ar Tryz.prog 54 [(Au 3 Cn) a0,Dw a1,Ev a2] ((O .i64) r):=⟨fun {r} h=>by
 refine pw C0 Tryz.func54 ?_
 exact Y⟩
instance {a0:Ce} {a1:List Aj} {a2:Int} {a3:A9}:OK (P9 a0 a1 a2 a3) fun r=>Ar Tryz.prog 55 [Ij a0,(Au 5 Bv) a1,(O .i64) a2,Ev a3] ((Au 5 Bv) r):=⟨fun {r} h=>by
 refine pw {T:=Cf,an:=(fun s=>bif Nat.beq s 11 then .own else .ask),nl:=(fun s=>bif Nat.beq s 115 then [(2,2)] else bif Nat.beq s 11 then [(0,5)] else bif Nat.beq s 8 then [(0,5)] else [])} Tryz.func55 ?_
 refine Z ?_
 refine Be h (fun _ h=>?_)
 refine Z ?_
 refine Be h (fun _ h=>?_)
 refine Z ?_
 refine Am h (fun _ h=>?_) (fun _ h=>?_)
 exact Y
 refine Z ?_
 refine A3 h (fun (v60,v61,o62)=>[(11,(.arr 3 o62.length 0 v60)),(34,(O .i64 v61))]) (fun (v60,v61,o62)=>[(3,.rows 61 5 (List.map Bv o62))]) ?_
 rintro ⟨v60,v61,o62⟩ _ _ _ h _ _
 refine Z ?_
 refine Am h (fun _ h=>?_) (fun _ h=>?_)
 refine Z ?_
 refine Bt h (fun _ _ _ _ h=>?_)
 refine Z ?_
 refine A3 h (fun v66=>[(14,(O .i64 v66))]) (fun v66=>[]) ?_
 rintro v66 _ _ _ h _ _
 refine Z ?_
 refine Fh h (fun _ h=>?_) (fun _ h=>?_)
 refine Z ?_
 refine Bt h (fun _ _ _ _ h=>?_)
 refine Z ?_
 refine Am h (fun _ h=>?_) (fun _ h=>?_)
 exact Y
 replace h:=Cj h
 refine E8 (E6 rfl (As (As ?_)))
 refine Bx h (fun v70=>[(73,(Ao v70))]) (fun v70=>[]) ?_ ?_
 intro _ h _ _ _
 exact Y
 rintro v70 _ h
 refine Am h (fun _ h=>?_) (fun _ h=>?_)
 exact Y
 refine Z ?_
 refine Bb [] h (fun _ h=>?_)
 refine Z ?_
 refine J4 h (fun o79 h=>?_)
 refine ZO ?_
 refine As ?_
 refine N1 h (fun o4_ h hj4=>?_)
 refine Lh (fun (o85:(List Bh))=>o85=o4_/\o79.length=o85.length) (fun o85=>[]) (fun o85=>[(8,.rows 85 3 (List.map De o85))]) (fun _=>rfl) ?_ ?_
 intro K4 hK4
 refine Z ?_
 refine P0 (f:=De) (l:=o79) rfl rfl h (fun v81 h=>?_) (fun h=>?_)
 refine Z ?_
 refine Jz (f:=De) (l:=o79) rfl rfl h (fun v82 h=>?_)
 refine Z ?_
 refine Sr (f:=De) (l:=o79) rfl rfl rfl h (fun o83 hco83 h=>?_)
 refine Z ?_
 exact hK4 o83 _ _ _ ⟨(Option.some.inj h),(Ss rfl hco83)⟩ trivial ⟨⟨rfl,rfl⟩,⟨rfl,rfl⟩,⟨rfl,rfl⟩,⟨rfl,rfl⟩,⟨rfl,rfl⟩,⟨rfl,rfl⟩,⟨rfl,rfl⟩,⟨rfl,rfl⟩,⟨rfl,rfl⟩,⟨rfl,rfl⟩,⟨rfl,rfl⟩,trivial⟩
 refine Z ?_
 refine Jz (f:=De) (l:=o79) rfl rfl h (fun v84 h=>?_)
 refine Z ?_
 exact hK4 o79 _ _ _ ⟨(Option.some.inj h),rfl⟩ trivial ⟨⟨rfl,rfl⟩,⟨rfl,rfl⟩,⟨rfl,rfl⟩,⟨rfl,rfl⟩,⟨rfl,rfl⟩,⟨rfl,rfl⟩,⟨rfl,rfl⟩,⟨rfl,rfl⟩,⟨rfl,rfl⟩,⟨rfl,rfl⟩,⟨rfl,rfl⟩,trivial⟩
 rintro o85 u4 ⟨hJ4,q85⟩
 have h:=hj4 _ hJ4
 refine Z ?_
 refine Hs h (fun _ _ hiv86 _ h=>?_)
 refine Z ?_
 refine H6 (f:=De) (x:=(Bh.mk a2 a3)) (j:=v66) rfl rfl (Nat.zero_add _) hiv86 ?_
 refine ZO ?_
 refine Db [.fzc 18 0,.fzc 18 1] ?_
 refine Z ?_
 refine Bb [3] h (fun _ h=>?_)
 exact Y
 replace h:=Cj h
 refine ZO ?_
 refine P2 (E8 (E6 rfl (As (As ?_))))
 refine Bx h (fun v70=>[(73,(Ao v70))]) (fun v70=>[]) ?_ ?_
 intro _ h _ _ _
 exact Y
 rintro v70 _ h
 refine Am h (fun _ h=>?_) (fun _ h=>?_)
 exact Y
 refine Z ?_
 refine Bb [] h (fun _ h=>?_)
 refine Z ?_
 refine J4 h (fun o79 h=>?_)
 refine ZO ?_
 refine As ?_
 refine N1 h (fun o6_ h hj6=>?_)
 refine Lh (fun (o85:(List Bh))=>o85=o6_/\o79.length=o85.length) (fun o85=>[]) (fun o85=>[(8,.rows 85 3 (List.map De o85))]) (fun _=>rfl) ?_ ?_
 intro K6 hK6
 refine Z ?_
 refine P0 (f:=De) (l:=o79) rfl rfl h (fun v81 h=>?_) (fun h=>?_)
 refine Z ?_
 refine Jz (f:=De) (l:=o79) rfl rfl h (fun v82 h=>?_)
 refine Z ?_
 refine Sr (f:=De) (l:=o79) rfl rfl rfl h (fun o83 hco83 h=>?_)
 refine Z ?_
 exact hK6 o83 _ _ _ ⟨(Option.some.inj h),(Ss rfl hco83)⟩ trivial ⟨⟨rfl,rfl⟩,⟨rfl,rfl⟩,⟨rfl,rfl⟩,⟨rfl,rfl⟩,⟨rfl,rfl⟩,⟨rfl,rfl⟩,⟨rfl,rfl⟩,⟨rfl,rfl⟩,⟨rfl,rfl⟩,⟨rfl,rfl⟩,⟨rfl,rfl⟩,trivial⟩
 refine Z ?_
 refine Jz (f:=De) (l:=o79) rfl rfl h (fun v84 h=>?_)
 refine Z ?_
 exact hK6 o79 _ _ _ ⟨(Option.some.inj h),rfl⟩ trivial ⟨⟨rfl,rfl⟩,⟨rfl,rfl⟩,⟨rfl,rfl⟩,⟨rfl,rfl⟩,⟨rfl,rfl⟩,⟨rfl,rfl⟩,⟨rfl,rfl⟩,⟨rfl,rfl⟩,⟨rfl,rfl⟩,⟨rfl,rfl⟩,⟨rfl,rfl⟩,trivial⟩
 rintro o85 u6 ⟨hJ6,q85⟩
 have h:=hj6 _ hJ6
 refine Z ?_
 refine Hs h (fun _ _ hiv86 _ h=>?_)
 refine Z ?_
 refine H6 (f:=De) (x:=(Bh.mk a2 a3)) (j:=v66) rfl rfl (Nat.zero_add _) hiv86 ?_
 refine ZO ?_
 refine Db [.fzc 18 0,.fzc 18 1] ?_
 refine Z ?_
 refine Bb [3] h (fun _ h=>?_)
 exact Y
 replace h:=Cj h
 refine ZS ?_
 refine B1 ?_
 refine ZO ?_
 refine Db [.fzp 8] ?_
 refine Ai5 (f:=Bv) (l:=o62) rfl rfl h (fun o90 h=>?_)
 exact Y⟩
instance {a0:Ce} {a1:Int} {a2:A9}:OK (L6 a0 a1 a2) fun r=>Ar Tryz.prog 19 [Ij a0,(O .i64) a1,Ev a2] (.tup [(Au 5 Bv) r.1,(O .i64) r.2]):=⟨fun {r} h=>by
 refine pw {T:=Cf,an:=(fun _=>.ask),nl:=(fun s=>bif Nat.beq s 6 then [(0,5)] else [])} Tryz.func19 ?_
 exact Y⟩
instance {a0:Ce} {a1:Aq} {a2:Int} {a3:A9} {a4:Ca} {a5:Int}:OK (Zk a0 a1 a2 a3 a4 a5) fun r=>Ar Tryz.prog 4 [Ij a0,B9 a1,(O .i64) a2,Ev a3,Gk a4,(O .i64) a5] (Ao r):=⟨fun {r} h=>by
 refine pw C0 Tryz.func4 ?_
 refine ZS ?_
 refine B1 ?_
 refine ZO ?_
 refine As (As ?_)
 refine Bx h (fun v9=>[(38,(Ao v9))]) (fun v9=>[]) ?_ ?_
 intro _ h _ _ _
 exact Y
 rintro v9 _ h
 exact Y⟩
end Go.Ab
