/- The contracts of the functions, each by its walk (made by a program). -/
import Derived.Test.YtbobikfnkmhgnaaGreatDoorBpV0
namespace Go.Ab
open Go Go.Proofs
set_option maxRecDepth 10000
set_option maxHeartbeats 4000000
set_option linter.unusedVariables false
instance {a0 a1:A8}:OK (H8 a0 a1) fun r=>As Tryz.prog 44 [F5 a0,F5 a1] ((O .i64) r):=⟨fun {r} h=>by
 refine pw C0 Tryz.func44 ?_
 refine Z ?_
 refine Ao h (fun _ h=>?_) (fun _ h=>?_)
 exact Y
 refine Z ?_
 refine A6 h (fun v12=>[(4,(O .i64 0)),(27,(O .i64 v12))]) (fun v12=>[]) ?_
 rintro v12 _ _ _ h _ _
 refine Z ?_
 refine Ao h (fun _ h=>?_) (fun _ h=>?_)
 exact Y
 replace h:=Ck h
 refine Z ?_
 refine Ao h (fun _ h=>?_) (fun _ h=>?_)
 exact Y
 refine Z ?_
 refine A6 h (fun v31=>[(4,(O .i64 0)),(92,(O .i64 v31))]) (fun v31=>[]) ?_
 rintro v31 _ _ _ h _ _
 exact Y⟩
instance {a0 a1:List Ag}:OK (P4 a0 a1) fun r=>As Tryz.prog 13 [(Aw 5 Bc) a0,(Aw 5 Bc) a1] (An r):=⟨fun {r} h=>by
 refine pw C0 Tryz.func13 ?_
 refine Z ?_
 refine Ao h (fun _ h=>?_) (fun _ h=>?_)
 exact Y
 refine Z ?_
 refine A6 h (fun v7=>[(4,(An false)),(13,(O .i64 v7))]) (fun v7=>[]) ?_
 rintro v7 _ _ _ h _ _
 exact Y⟩
abbrev Ajw (k:Nat):Prop:=∀{a0:Ai},OK (M1 k a0) fun r=>As Tryz.prog 185 [Dm a0] ((O .i64) r)
theorem Asv (k:Nat):Ajw k:=by
 induction k with
 | zero=>exact okz
 | succ k ih=>
  refine @fun a0=>⟨fun {r} h=>?_⟩
  .unfold M1 at h
   refine pw C0 Tryz.func185 ?_
   refine Z ?_
   refine A6 h (fun (v4,v5)=>[(3,(O .i64 v4)),(4,(O .i64 v5))]) (fun (v4,v5)=>[]) ?_
   rintro ⟨v4,v5⟩ _ _ _ h _ _
   exact Y
instance {k:Nat}:Ajw k:=(Asv k)
abbrev Ajx (k:Nat):Prop:=∀{a0:List Az} {a1:Ai} {a2:Int},OK (Og k a0 a1 a2) fun r=>As Tryz.prog 186 [(Aw 3 Cn) a0,Dm a1,(O .i64) a2] (An r)
theorem Asw (k:Nat):Ajx k:=by
 induction k with
 | zero=>exact okz
 | succ k ih=>
  refine @fun a0 a1 a2=>⟨fun {r} h=>?_⟩
  .unfold Og at h
   refine pw C0 Tryz.func186 ?_
   refine ZS ?_
   refine Bt ?_
   refine ZS ?_
   refine Bt ?_
   refine ZS ?_
   refine Bt ?_
   refine ZO ?_
   refine Wd (fun (x:Unit)=>(.inr x)) h (fun _=>[(6,(An false))]) (fun _=>[]) ?_ ?_
   intro _ h _ _ _
   refine ZS ?_
   refine Bt ?_
   refine ZO ?_
   refine Bu h (fun v2=>[(14,(An v2))]) (fun v2=>[]) ?_ ?_
   intro _ h _ _ _
   exact Y
   rintro v2 _ h
   refine Ao h (fun _ h=>?_) (fun _ h=>?_)
   exact Y
   refine Z ?_
   refine Ao h (fun _ h=>?_) (fun _ h=>?_)
   exact Y
   refine Z ?_
   refine Ao h (fun _ h=>?_) (fun _ h=>?_)
   exact Y
   refine Z ?_
   refine Ao h (fun _ h=>?_) (fun _ h=>?_)
   exact Y
   refine ZS ?_
   refine Bt ?_
   refine ZO ?_
   refine Bu h (fun v4=>[(75,(An v4))]) (fun v4=>[]) ?_ ?_
   intro _ h _ _ _
   exact Y
   rintro v4 _ h
   exact Y
   rintro _ _ h
   refine Z ?_
   refine A6 h (fun v8=>[(6,(An false)),(8,(O .i64 v8))]) (fun v8=>[]) ?_
   rintro v8 _ _ _ h _ _
   exact Y
instance {k:Nat}:Ajx k:=(Asw k)
instance {a0:List Az} {a1:Ai} {a2:Int}:OK (Mw a0 a1 a2) fun r=>As Tryz.prog 105 [(Aw 3 Cn) a0,Dm a1,(O .i64) a2] (An r):=⟨fun {r} h=>by
 refine pw C0 Tryz.func105 ?_
 exact Y⟩
instance {a0:Ai} {a1 a2:Int}:OK (Of a0 a1 a2) fun r=>As Tryz.prog 183 [Dm a0,(O .i64) a1,(O .i64) a2] (An r):=⟨fun {r} h=>by
 refine pw C0 Tryz.func183 ?_
 refine ZS ?_
 refine Bt ?_
 refine ZO ?_
 refine Ar (Ar ?_)
 refine Bu h (fun v2=>[(23,(An v2))]) (fun v2=>[]) ?_ ?_
 intro _ h _ _ _
 exact Y
 rintro v2 _ h
 refine Ao h (fun _ h=>?_) (fun _ h=>?_)
 exact Y
 refine Z ?_
 refine A6 h (fun v6=>[(6,(An false)),(7,(O .i64 v6))]) (fun v6=>[]) ?_
 rintro v6 _ _ _ h _ _
 exact Y⟩
instance {a0:List ByteArray}:OK (Sq a0) fun r=>As Tryz.prog 184 [(Aw 1 Du) a0] (An r):=⟨fun {r} h=>by
 refine pw C0 Tryz.func184 ?_
 refine Z ?_
 refine A6 h (fun v1=>[(2,(An false)),(3,(O .i64 v1))]) (fun v1=>[]) ?_
 rintro v1 _ _ _ h _ _
 refine Z ?_
 refine Ao h (fun _ h=>?_) (fun _ h=>?_)
 refine Z ?_
 refine A6 h (fun v4=>[(2,(An false)),(4,(O .i64 v4))]) (fun v4=>[]) ?_
 rintro v4 _ _ _ h _ _
 exact Y
 exact Y⟩
instance {a0:ByteArray}:OK (Y3 a0) fun r=>As Tryz.prog 310 [Du a0] (An r):=⟨fun {r} h=>by
 refine pw C0 Tryz.func310 ?_
 refine Z ?_
 refine A6 h (fun v2=>[(2,(An false)),(4,(O .i64 v2))]) (fun v2=>[]) ?_
 rintro v2 _ _ _ h _ _
 refine Z ?_
 refine Aib (f:=Du) (l:=[(ByteArray.mk #[97,114,114,97,121]),(ByteArray.mk #[98,111,111,108]),(ByteArray.mk #[99,97,116,99,104]),(ByteArray.mk #[100,97,116,97]),(ByteArray.mk #[101,108,115,101]),(ByteArray.mk #[101,110,100]),(ByteArray.mk #[102,97,108,115,101]),(ByteArray.mk #[102,110]),(ByteArray.mk #[102,117,110]),(ByteArray.mk #[103,101,116]),(ByteArray.mk #[105,102]),(ByteArray.mk #[105,110]),(ByteArray.mk #[105,110,116]),(ByteArray.mk #[108,101,110]),(ByteArray.mk #[108,101,116]),(ByteArray.mk #[109,97,116,99,104]),(ByteArray.mk #[110,101,119]),(ByteArray.mk #[114,97,105,115,101]),(ByteArray.mk #[114,101,97,100]),(ByteArray.mk #[114,101,102]),(ByteArray.mk #[115,101,116]),(ByteArray.mk #[116,104,101,110]),(ByteArray.mk #[116,105,99,107]),(ByteArray.mk #[116,114,117,101]),(ByteArray.mk #[116,114,121]),(ByteArray.mk #[117,110,105,116]),(ByteArray.mk #[119,105,116,104]),(ByteArray.mk #[119,114,105,116,101])]) rfl ?_
 refine Z ?_
 refine Ao h (fun _ h=>?_) (fun _ h=>?_)
 refine Z ?_
 refine Ah6 (f:=Du) rfl h (fun nv3 v3 hiv3 hxv3 h=>?_)
 exact Y
 exact Y⟩
instance {a0:ByteArray}:OK (Vz a0) fun r=>As Tryz.prog 311 [Du a0] (.tup [(O .i64) r.1,An r.2]):=⟨fun {r} h=>by
 refine pw C0 Tryz.func311 ?_
 refine Z ?_
 refine A6 h (fun (v2,v3)=>[(2,(O .i64 0)),(3,(An false)),(4,(O .i64 v2)),(5,(O .i64 v3))]) (fun (v2,v3)=>[]) ?_
 rintro ⟨v2,v3⟩ _ _ _ h _ _
 exact Y⟩
instance {a0:Int}:OK (S0 a0) fun r=>As Tryz.prog 309 [(O .u8) a0] (An r):=⟨fun {r} h=>by
 refine pw C0 Tryz.func309 ?_
 exact Y⟩
instance {a0:Int}:OK (Vy a0) fun r=>As Tryz.prog 307 [(O .u8) a0] (An r):=⟨fun {r} h=>by
 refine pw C0 Tryz.func307 ?_
 exact Y⟩
instance {a0:ByteArray}:OK (V1 a0) fun r=>As Tryz.prog 312 [Du a0] ((O .i64) r):=⟨fun {r} h=>by
 refine pw C0 Tryz.func312 ?_
 refine ZS ?_
 refine Bt ?_
 refine ZO ?_
 refine Ar (Ar ?_)
 refine Bu h (fun v4=>[(22,(An v4))]) (fun v4=>[]) ?_ ?_
 intro _ h _ _ _
 exact Y
 rintro v4 _ h
 refine Ao h (fun _ h=>?_) (fun _ h=>?_)
 exact Y
 refine Z ?_
 refine A6 h (fun v7=>[(2,(O .i64 0)),(4,(O .i64 v7))]) (fun v7=>[]) ?_
 rintro v7 _ _ _ h _ _
 exact Y⟩
instance {a0:Int}:OK (Sz a0) fun r=>As Tryz.prog 308 [(O .u8) a0] (An r):=⟨fun {r} h=>by
 refine pw C0 Tryz.func308 ?_
 exact Y⟩
instance {a0:ByteArray}:OK (Yz a0) fun r=>As Tryz.prog 244 [Du a0] (.tup [(Aw 3 Adr) r.1,(O .i64) r.2.1,(O .i64) r.2.2]):=⟨fun {r} h=>by
 refine pw {T:=B8,an:=(fun s=>bif Nat.beq s 5 then .own else .ask),nl:=(fun s=>bif Nat.beq s 5 then [(0,3)] else bif Nat.beq s 2 then [(0,3)] else [])} Tryz.func244 ?_
 refine Z ?_
 refine Ao h (fun _ h=>?_) (fun _ h=>?_)
 exact Y
 refine Z ?_
 refine A6 h (fun (v49,o50)=>[(2,(.sl 3 (List.map Adr []))),(3,(O .i64 0)),(4,(O .i64 0)),(5,(.arr 0 o50.length 0 o50.length)),(6,(O .i64 v49))]) (fun (v49,o50)=>[(0,.rows 284 3 (List.map Adr o50))]) ?_
 rintro ⟨v49,o50⟩ _ _ _ h _ _
 refine Z ?_
 refine Ao h (fun _ h=>?_) (fun _ h=>?_)
 refine Z ?_
 refine K7 h (fun _ h=>?_)
 refine ZO ?_
 refine Ar (Ar ?_)
 refine Bu h (fun v52=>[(35,(An v52))]) (fun v52=>[]) ?_ ?_
 intro _ h _ _ _
 exact Y
 rintro v52 _ h
 refine Ao h (fun _ h=>?_) (fun _ h=>?_)
 exact Y
 refine Z ?_
 refine Ao h (fun _ h=>?_) (fun _ h=>?_)
 refine Z ?_
 refine A6 h (fun v54=>[(6,(O .i64 v54))]) (fun v54=>[]) ?_
 rintro v54 _ _ _ h _ _
 exact Y
 refine ZS ?_
 refine Bt ?_
 refine ZO ?_
 refine Ar (Ju (Ar ?_))
 refine Bu h (fun v59=>[(70,(An v59))]) (fun v59=>[]) ?_ ?_
 intro _ h _ _ _
 exact Y
 rintro v59 _ h
 refine Ao h (fun _ h=>?_) (fun _ h=>?_)
 refine Z ?_
 refine A6 h (fun v67=>[(8,(O .i64 v67))]) (fun v67=>[]) ?_
 rintro v67 _ _ _ h _ _
 refine Z ?_
 refine Fx h (fun _ h=>?_) (fun _ h=>?_)
 refine Z ?_
 refine K7 h (fun _ h=>?_)
 refine Z ?_
 refine Bl h (fun _ h=>?_)
 refine Z ?_
 refine Fx h (fun _ h=>?_) (fun _ h=>?_)
 exact Y
 refine Z ?_
 refine K7 h (fun _ h=>?_)
 refine Z ?_
 refine Bl h (fun _ h=>?_)
 refine Z ?_
 refine Fx h (fun _ h=>?_) (fun _ h=>?_)
 exact Y
 refine Z ?_
 refine K7 h (fun _ h=>?_)
 refine Z ?_
 refine Bl h (fun _ h=>?_)
 refine Z ?_
 refine Fx h (fun _ h=>?_) (fun _ h=>?_)
 exact Y
 refine Z ?_
 refine K7 h (fun _ h=>?_)
 refine Z ?_
 refine Ao h (fun _ h=>?_) (fun _ h=>?_)
 exact Y
 replace h:=Ck h
 refine Z ?_
 refine Ao h (fun _ h=>?_) (fun _ h=>?_)
 exact Y
 refine Z ?_
 refine Bl h (fun _ h=>?_)
 refine ZO ?_
 refine Bu h (fun v79=>[(9,(O .i64 v79))]) (fun v79=>[]) ?_ ?_
 intro _ h _ _ _
 exact Y
 rintro v79 _ h
 exact Y
 replace h:=Ck h
 refine Z ?_
 refine Ao h (fun _ h=>?_) (fun _ h=>?_)
 exact Y
 refine Z ?_
 refine Bl h (fun _ h=>?_)
 refine ZO ?_
 refine Bu h (fun v79=>[(9,(O .i64 v79))]) (fun v79=>[]) ?_ ?_
 intro _ h _ _ _
 exact Y
 rintro v79 _ h
 exact Y
 refine Z ?_
 refine Bl h (fun _ h=>?_)
 refine Z ?_
 refine Ao h (fun _ h=>?_) (fun _ h=>?_)
 refine Z ?_
 refine A6 h (fun v85=>[(8,(O .i64 v85))]) (fun v85=>[]) ?_
 rintro v85 _ _ _ h _ _
 refine Z ?_
 refine Fx h (fun _ h=>?_) (fun _ h=>?_)
 refine Z ?_
 refine K7 h (fun _ h=>?_)
 refine Z ?_
 refine Bl h (fun _ h=>?_)
 refine Z ?_
 refine Ao h (fun _ h=>?_) (fun _ h=>?_)
 exact Y
 replace h:=Ck h
 refine Fc (Fa rfl (Ar (Ar ?_)))
 refine Bu h (fun v89=>[(165,(An v89))]) (fun v89=>[]) ?_ ?_
 intro _ h _ _ _
 exact Y
 rintro v89 _ h
 exact Y
 replace h:=Ck h
 refine ZO ?_
 refine Nx (Fc (Fa rfl (Ar (Ar ?_))))
 refine Bu h (fun v89=>[(165,(An v89))]) (fun v89=>[]) ?_ ?_
 intro _ h _ _ _
 exact Y
 rintro v89 _ h
 exact Y
 exact Y
 exact Y⟩
instance {a0:ByteArray}:OK (Ql a0) fun r=>As Tryz.prog 182 [Du a0] (An r):=⟨fun {r} h=>by
 refine pw C0 Tryz.func182 ?_
 exact Y⟩
instance {a0:List Az}:OK (Uu a0) fun r=>As Tryz.prog 104 [(Aw 3 Cn) a0] (An r):=⟨fun {r} h=>by
 refine pw {T:=B8,an:=(fun s=>bif Nat.beq s 4 then .own else bif Nat.beq s 3 then .own else .ask),nl:=(fun s=>bif Nat.beq s 4 then [(0,1)] else bif Nat.beq s 3 then [(0,1)] else [])} Tryz.func104 ?_
 refine Z ?_
 refine Ao h (fun _ h=>?_) (fun _ h=>?_)
 exact Y
 refine Z ?_
 refine A6 h (fun (v150,o151,o152)=>[(2,(An false)),(3,(.arr 0 o151.length 0 o151.length)),(4,(.arr 1 o152.length 0 o152.length)),(5,(O .i64 v150))]) (fun (v150,o151,o152)=>[(0,.rows 9 1 (List.map Du o151)),(1,.rows 9 1 (List.map Du o152))]) ?_
 rintro ⟨v150,o151,o152⟩ _ _ _ h _ _
 refine Z ?_
 refine Ao h (fun _ h=>?_) (fun _ h=>?_)
 refine Z ?_
 refine Cg h (fun _ _ _ _ h=>?_)
 refine ZO ?_
 refine Ar (Ar ?_)
 refine Bu h (fun v156=>[(48,(An v156))]) (fun v156=>[]) ?_ ?_
 intro _ h _ _ _
 exact Y
 rintro v156 _ h
 refine Ao h (fun _ h=>?_) (fun _ h=>?_)
 exact Y
 refine Z ?_
 refine Kh h (fun _ h=>?_)
 refine Z ?_
 refine A6 h (fun (v200,o201)=>[(2,(An false)),(4,(.arr 1 o201.length 0 o201.length)),(7,(O .i64 v200))]) (fun (v200,o201)=>[(1,.rows 9 1 (List.map Du o201))]) ?_
 rintro ⟨v200,o201⟩ _ _ _ h _ _
 refine Z ?_
 refine Ao h (fun _ h=>?_) (fun _ h=>?_)
 refine K9 (Ar (Ju (Ar (Ar ?_))))
 refine Bu h (fun v205=>[(78,(An v205))]) (fun v205=>[]) ?_ ?_
 intro _ h _ _ _
 exact Y
 rintro v205 _ h
 refine Ao h (fun _ h=>?_) (fun _ h=>?_)
 exact Y
 refine Z ?_
 refine Cg h (fun _ _ _ _ h=>?_)
 refine Z ?_
 refine Kh h (fun _ h=>?_)
 refine Z ?_
 refine Cg h (fun _ _ _ _ h=>?_)
 refine Z ?_
 refine A6 h (fun v214=>[(2,(An false)),(95,(O .i64 v214))]) (fun v214=>[]) ?_
 rintro v214 _ _ _ h _ _
 exact Y
 exact Y
 replace h:=Ck h
 refine Fc (Fa rfl (Ar ?_))
 refine Dh [.fz 3,.fz 4] ?_
 exact Y⟩
instance {a0:Bh}:OK (Sd a0) fun r=>As Tryz.prog 52 [Ev a0] (An r):=⟨fun {r} h=>by
 refine pw C0 Tryz.func52 ?_
 refine ZS ?_
 refine Bt ?_
 refine ZO ?_
 refine Ar (Ar ?_)
 refine Bu h (fun v4=>[(22,(An v4))]) (fun v4=>[]) ?_ ?_
 intro _ h _ _ _
 exact Y
 rintro v4 _ h
 refine Ao h (fun _ h=>?_) (fun _ h=>?_)
 exact Y
 refine Z ?_
 refine A6 h (fun v8=>[(2,(An false)),(26,(O .i64 v8))]) (fun v8=>[]) ?_
 rintro v8 _ _ _ h _ _
 exact Y⟩
instance {a0 a1:Aq}:OK (U6 a0 a1) fun r=>As Tryz.prog 137 [Cr a0,Cr a1] (An r):=⟨fun {r} h=>by
 refine pw C0 Tryz.func137 ?_
 refine ZS ?_
 refine Bt ?_
 refine ZO ?_
 refine Ar (Ar ?_)
 refine Bu h (fun v3=>[(29,(An v3))]) (fun v3=>[]) ?_ ?_
 intro _ h _ _ _
 exact Y
 rintro v3 _ h
 refine Ao h (fun _ h=>?_) (fun _ h=>?_)
 exact Y
 refine Z ?_
 refine A6 h (fun v6=>[(4,(An false)),(5,(O .i64 v6))]) (fun v6=>[]) ?_
 rintro v6 _ _ _ h _ _
 refine Z ?_
 refine Ao h (fun _ h=>?_) (fun _ h=>?_)
 exact Y
 replace h:=Ck h
 refine Z ?_
 refine A6 h (fun v12=>[(4,(An false)),(6,(O .i64 v12))]) (fun v12=>[]) ?_
 rintro v12 _ _ _ h _ _
 exact Y⟩
instance {a0:List Az} {a1 a2:Int}:OK (S3 a0 a1 a2) fun r=>As Tryz.prog 314 [(Aw 3 Cn) a0,(O .i64) a1,(O .i64) a2] ((Aw 1 An) r):=⟨fun {r} h=>by
 refine pw {T:=B8,an:=(fun s=>bif Nat.beq s 7 then .own else .ask),nl:=(fun s=>bif Nat.beq s 7 then [(0,1)] else bif Nat.beq s 6 then [(0,1)] else [])} Tryz.func314 ?_
 refine ZS ?_
 refine Bt ?_
 refine ZO ?_
 refine Ar (Ar ?_)
 refine Bu h (fun v2=>[(31,(An v2))]) (fun v2=>[]) ?_ ?_
 intro _ h _ _ _
 exact Y
 rintro v2 _ h
 refine Ao h (fun _ h=>?_) (fun _ h=>?_)
 exact Y
 refine Z ?_
 refine Cg h (fun _ _ _ _ h=>?_)
 refine Z ?_
 refine Cg h (fun _ _ _ _ h=>?_)
 refine Z ?_
 refine A6 h (fun (v18,o19)=>[(7,(.arr 0 o19.length 0 o19.length)),(42,(O .i64 v18))]) (fun (v18,o19)=>[(0,.rows 4 1 (List.map An o19))]) ?_
 rintro ⟨v18,o19⟩ _ _ _ h _ _
 exact Y⟩
abbrev Ajy (k:Nat):Prop:=∀{a0:Ai},OK (Qz k a0) fun r=>As Tryz.prog 353 [Dm a0] (Dm r)
theorem Asx (k:Nat):Ajy k:=by
 induction k with
 | zero=>exact okz
 | succ k ih=>
  refine @fun a0=>⟨fun {r} h=>?_⟩
  .unfold Qz at h
   refine pw {T:=B8,an:=(fun _=>.ask),nl:=(fun s=>bif Nat.beq s 18 then [(0,3)] else [])} Tryz.func353 ?_
   refine ZS ?_
   refine Bt ?_
   refine ZS ?_
   refine Bt ?_
   refine ZO ?_
   refine Ar (Ar ?_)
   refine Dh [.own 3 2 25 3] ?_
   refine Z ?_
   refine A6 h (fun (v13,o14)=>[(4,(O .i64 v13))]) (fun (v13,o14)=>[(2,.cells 25 [(O .i64 a0.Kind),(O .i64 a0.Num),(.arr 3 o14.length 0 o14.length)]),(3,.rows 25 3 (Bv o14))]) ?_
   rintro ⟨v13,o14⟩ _ _ _ h _ _
   exact Y
instance {k:Nat}:Ajy k:=(Asx k)
abbrev Ajz (k:Nat):Prop:=∀{a0:Ai} {a1:List Ai},OK (On k a0 a1) fun r=>As Tryz.prog 313 [Dm a0,(Gd 3 Bv) a1] (Dm r)
theorem Asy (k:Nat):Ajz k:=by
 induction k with
 | zero=>exact okz
 | succ k ih=>
  refine @fun a0 a1=>⟨fun {r} h=>?_⟩
  .unfold On at h
   refine pw {T:=B8,an:=(fun _=>.ask),nl:=(fun s=>bif Nat.beq s 41 then [(0,3)] else [])} Tryz.func313 ?_
   refine ZS ?_
   refine Bt ?_
   refine ZO ?_
   refine Ar (Ar ?_)
   refine Bu h (fun v3=>[(21,(An v3))]) (fun v3=>[]) ?_ ?_
   intro _ h _ _ _
   exact Y
   rintro v3 _ h
   refine Ao h (fun _ h=>?_) (fun _ h=>?_)
   exact Y
   refine ZS ?_
   refine Bt ?_
   refine ZO ?_
   refine Ar (Ar ?_)
   refine Dh [.own 5 2 25 3] ?_
   refine Z ?_
   refine A6 h (fun (v16,o17)=>[(6,(O .i64 v16))]) (fun (v16,o17)=>[(2,.cells 25 [(O .i64 a0.Kind),(O .i64 a0.Num),(.arr 3 o17.length 0 o17.length)]),(3,.rows 25 3 (Bv o17))]) ?_
   rintro ⟨v16,o17⟩ _ _ _ h _ _
   exact Y
instance {k:Nat}:Ajz k:=(Asy k)
instance {a0:List Az} {a1:Ai} {a2:Int}:OK (Qp a0 a1 a2) fun r=>As Tryz.prog 245 [(Aw 3 Cn) a0,Dm a1,(O .i64) a2] (.tup [(Gd 3 Bv) r.1,An r.2]):=⟨fun {r} h=>by
 refine pw {T:=B8,an:=(fun s=>bif Nat.beq s 8 then .own else .ask),nl:=(fun s=>bif Nat.beq s 8 then [(0,3)] else bif Nat.beq s 6 then [(0,3)] else [])} Tryz.func245 ?_
 refine ZS ?_
 refine Bt ?_
 refine ZO ?_
 refine Ar (Ar ?_)
 refine Bu h (fun v4=>[(53,(An v4))]) (fun v4=>[]) ?_ ?_
 intro _ h _ _ _
 exact Y
 rintro v4 _ h
 refine Ao h (fun _ h=>?_) (fun _ h=>?_)
 exact Y
 refine Z ?_
 refine Cg h (fun _ _ _ _ h=>?_)
 refine Z ?_
 refine Cg h (fun _ _ _ _ h=>?_)
 refine Z ?_
 refine A6 h (fun (v22,o23)=>[(6,(.sl 3 (Bv []))),(7,(An false)),(8,(.arr 1 o23.length 0 o23.length)),(65,(O .i64 v22))]) (fun (v22,o23)=>[(1,.rows 25 3 (Bv o23))]) ?_
 rintro ⟨v22,o23⟩ _ _ _ h _ _
 exact Y⟩
instance {a0:List Az} {a1:Ai} {a2:Int}:OK (Vs a0 a1 a2) fun r=>As Tryz.prog 246 [(Aw 3 Cn) a0,Dm a1,(O .i64) a2] (.tup [(Aw 1 (O .i64)) r.1,(Aw 1 (O .i64)) r.2.1,An r.2.2]):=⟨fun {r} h=>by
 refine pw {T:=B8,an:=(fun s=>bif Nat.beq s 12 then .own else bif Nat.beq s 11 then .own else .ask),nl:=(fun s=>bif Nat.beq s 12 then [(0,1)] else bif Nat.beq s 11 then [(0,1)] else bif Nat.beq s 7 then [(0,1)] else bif Nat.beq s 6 then [(0,1)] else [])} Tryz.func246 ?_
 refine Z ?_
 refine Bl h (fun _ h=>?_)
 refine Z ?_
 refine Ao h (fun _ h=>?_) (fun _ h=>?_)
 exact Y
 refine Z ?_
 refine Bl h (fun _ h=>?_)
 refine Z ?_
 refine A6 h (fun (v15,o16,o17)=>[(11,(.arr 1 o16.length 0 o16.length)),(12,(.arr 2 o17.length 0 o17.length)),(30,(O .i64 v15))]) (fun (v15,o16,o17)=>[(1,.rows 3 1 (List.map (O .i64) o16)),(2,.rows 3 1 (List.map (O .i64) o17))]) ?_
 rintro ⟨v15,o16,o17⟩ _ _ _ h _ _
 exact Y⟩
instance {a0:List Az} {a1:Ai} {a2:Int}:OK (Sr a0 a1 a2) fun r=>As Tryz.prog 188 [(Aw 3 Cn) a0,Dm a1,(O .i64) a2] (.tup [(Gd 3 Bv) r.1,An r.2]):=⟨fun {r} h=>by
 refine pw {T:=B8,an:=(fun s=>bif Nat.beq s 13 then .own else .ask),nl:=(fun s=>bif Nat.beq s 13 then [(0,3)] else bif Nat.beq s 6 then [(0,3)] else [])} Tryz.func188 ?_
 refine Z ?_
 refine Bl h (fun _ h=>?_)
 refine Z ?_
 refine Ao h (fun _ h=>?_) (fun _ h=>?_)
 exact Y
 refine Z ?_
 refine Bl h (fun _ h=>?_)
 refine Z ?_
 refine A6 h (fun (v13,o14)=>[(13,(.arr 1 o14.length 0 o14.length)),(35,(O .i64 v13))]) (fun (v13,o14)=>[(1,.rows 25 3 (Bv o14))]) ?_
 rintro ⟨v13,o14⟩ _ _ _ h _ _
 exact Y⟩
abbrev Aj0 (k:Nat):Prop:=∀{a0:List Az} {a1:Ai} {a2:A9},OK (Oa k a0 a1 a2) fun r=>As Tryz.prog 106 [(Aw 3 Cn) a0,Dm a1,Ez a2] ((O .i64) r)
abbrev Aj1 (k:Nat):Prop:=∀{a0:List Az} {a1:List Ai} {a2:List A9},OK (Oh k a0 a1 a2) fun r=>As Tryz.prog 187 [(Aw 3 Cn) a0,(Gd 3 Bv) a1,(Gd 2 G5) a2] ((O .i64) r)
theorem Aj2 (k:Nat):Aj0 k/\Aj1 k:=by
 induction k with
 | zero=>exact ⟨okz,okz⟩
 | succ k ih=>
  obtain ⟨i0_,i1_⟩:=ih
  refine ⟨@fun a0 a1 a2=>⟨fun {r} h=>?_⟩,@fun a0 a1 a2=>⟨fun {r} h=>?_⟩⟩
  .unfold Oa at h
   refine pw C0 Tryz.func106 ?_
   refine Z ?_
   refine Ao h (fun _ h=>?_) (fun _ h=>?_)
   exact Y
   refine Z ?_
   refine Ao h (fun _ h=>?_) (fun _ h=>?_)
   exact Y
   refine Z ?_
   refine Ao h (fun _ h=>?_) (fun _ h=>?_)
   refine Ar (Ar ?_)
   refine Bu h (fun v4=>[(54,(An v4))]) (fun v4=>[]) ?_ ?_
   intro _ h _ _ _
   exact Y
   rintro v4 _ h
   refine Ao h (fun _ h=>?_) (fun _ h=>?_)
   exact Y
   refine Z ?_
   refine A6 h (fun (v10,v11)=>[(6,(O .i64 0)),(7,(O .i64 v10)),(58,(O .i64 v11))]) (fun (v10,v11)=>[]) ?_
   rintro ⟨v10,v11⟩ _ _ _ h _ _
   refine Z ?_
   refine Ao h (fun _ h=>?_) (fun _ h=>?_)
   refine Z ?_
   refine Cg h (fun _ _ _ _ h=>?_)
   refine ZO ?_
   refine Ar (Ar ?_)
   refine Bu h (fun v14=>[(69,(An v14))]) (fun v14=>[]) ?_ ?_
   intro _ h _ _ _
   exact Y
   rintro v14 _ h
   exact Y
   exact Y
   exact Y
  .unfold Oh at h
   refine pw C0 Tryz.func187 ?_
   refine Z ?_
   refine Ao h (fun _ h=>?_) (fun _ h=>?_)
   exact Y
   refine Z ?_
   refine A6 h (fun (v4,v5)=>[(6,(O .i64 0)),(7,(O .i64 v4)),(17,(O .i64 v5))]) (fun (v4,v5)=>[]) ?_
   rintro ⟨v4,v5⟩ _ _ _ h _ _
   exact Y
instance {k:Nat}:Aj0 k:=(Aj2 k).1
instance {k:Nat}:Aj1 k:=(Aj2 k).2
instance {a0:List Az} {a1:Ai} {a2:A9}:OK (Lb a0 a1 a2) fun r=>As Tryz.prog 54 [(Aw 3 Cn) a0,Dm a1,Ez a2] ((O .i64) r):=⟨fun {r} h=>by
 refine pw C0 Tryz.func54 ?_
 exact Y⟩
instance {a0:Ce}:OK (N1 a0) fun r=>As Tryz.prog 58 [G6 a0] (An r):=⟨fun {r} h=>by
 refine pw C0 Tryz.func58 ?_
 refine ZS ?_
 refine Bt ?_
 refine ZO ?_
 refine Ar (Ar ?_)
 refine Bu h (fun v2=>[(18,(An v2))]) (fun v2=>[]) ?_ ?_
 intro _ h _ _ _
 exact Y
 rintro v2 _ h
 refine Ao h (fun _ h=>?_) (fun _ h=>?_)
 exact Y
 refine Z ?_
 refine A6 h (fun v5=>[(2,(An false)),(22,(O .i64 v5))]) (fun v5=>[]) ?_
 rintro v5 _ _ _ h _ _
 exact Y⟩
instance {a0:Bh} {a1:Int}:OK (Kb a0 a1) fun r=>As Tryz.prog 53 [Ev a0,(O .i64) a1] (.tup [Dm r.1,An r.2]):=⟨fun {r} h=>by
 refine pw {T:=B8,an:=(fun _=>.ask),nl:=(fun s=>bif Nat.beq s 19 then [(2,3)] else [])} Tryz.func53 ?_
 refine Z ?_
 refine Ao h (fun _ h=>?_) (fun _ h=>?_)
 exact Y
 refine K9 (Ar (Ar ?_))
 refine Bu h (fun v3=>[(18,(An v3))]) (fun v3=>[]) ?_ ?_
 intro _ h _ _ _
 exact Y
 rintro v3 _ h
 exact Y⟩
instance {a0:Bh} {a1:Ce}:OK (N2 a0 a1) fun r=>As Tryz.prog 59 [Ev a0,G6 a1] (An r):=⟨fun {r} h=>by
 refine pw C0 Tryz.func59 ?_
 refine Z ?_
 refine A6 h (fun v7=>[(4,(An false)),(12,(O .i64 v7))]) (fun v7=>[]) ?_
 rintro v7 _ _ _ h _ _
 exact Y⟩
instance {a0:Bh} {a1:A8}:OK (U5 a0 a1) fun r=>As Tryz.prog 136 [Ev a0,F5 a1] ((O .i64) r):=⟨fun {r} h=>by
 refine pw C0 Tryz.func136 ?_
 refine Z ?_
 refine A6 h (fun (v9,v10)=>[(4,(O .i64 0)),(5,(O .i64 v9)),(16,(O .i64 v10))]) (fun (v9,v10)=>[]) ?_
 rintro ⟨v9,v10⟩ _ _ _ h _ _
 refine Z ?_
 refine Ao h (fun _ h=>?_) (fun _ h=>?_)
 refine Z ?_
 refine Cg h (fun _ _ _ _ h=>?_)
 refine Z ?_
 refine Bl h (fun _ h=>?_)
 refine ZO ?_
 refine Ar (Ar ?_)
 refine Bu h (fun v16=>[(45,(An v16))]) (fun v16=>[]) ?_ ?_
 intro _ h _ _ _
 exact Y
 rintro v16 _ h
 exact Y
 replace h:=Ck h
 refine Z ?_
 refine A6 h (fun (v24,v25)=>[(4,(O .i64 0)),(5,(O .i64 v24)),(61,(O .i64 v25))]) (fun (v24,v25)=>[]) ?_
 rintro ⟨v24,v25⟩ _ _ _ h _ _
 exact Y⟩
instance {a0:Bh} {a1:List Ag}:OK (Ur a0 a1) fun r=>As Tryz.prog 80 [Ev a0,(Aw 5 Bc) a1] (An r):=⟨fun {r} h=>by
 refine pw C0 Tryz.func80 ?_
 refine Z ?_
 refine Ao h (fun _ h=>?_) (fun _ h=>?_)
 exact Y
 refine Z ?_
 refine A6 h (fun v8=>[(4,(An false)),(12,(O .i64 v8))]) (fun v8=>[]) ?_
 rintro v8 _ _ _ h _ _
 exact Y⟩
instance {a0:Bh} {a1:List Ag}:OK (La a0 a1) fun r=>As Tryz.prog 36 [Ev a0,(Aw 5 Bc) a1] (An r):=⟨fun {r} h=>by
 refine pw C0 Tryz.func36 ?_
 exact Y⟩
instance {a0 a1:Aq}:OK (Ia a0 a1) fun r=>As Tryz.prog 109 [Cr a0,Cr a1] (Cr r):=⟨fun {r} h=>by
 refine pw C0 Tryz.func109 ?_
 exact Y⟩
abbrev Aj3 (k:Nat):Prop:=∀{a0:A9},OK (Oi k a0) fun r=>As Tryz.prog 190 [Ez a0] (Ez r)
theorem Asz (k:Nat):Aj3 k:=by
 induction k with
 | zero=>exact okz
 | succ k ih=>
  refine @fun a0=>⟨fun {r} h=>?_⟩
  .unfold Oi at h
   refine pw {T:=B8,an:=(fun _=>.ask),nl:=(fun s=>bif Nat.beq s 17 then [(0,2)] else [])} Tryz.func190 ?_
   refine ZS ?_
   refine Bt ?_
   refine ZS ?_
   refine Bt ?_
   refine ZO ?_
   refine Ar (Ar ?_)
   refine Dh [.own 3 1 42 2] ?_
   refine Z ?_
   refine A6 h (fun (v15,o16)=>[(12,(O .i64 v15))]) (fun (v15,o16)=>[(2,.cells 42 [(O .i64 a0.Num),(.arr 3 o16.length 0 o16.length)]),(3,.rows 42 2 (G5 o16))]) ?_
   rintro ⟨v15,o16⟩ _ _ _ h _ _
   exact Y
instance {k:Nat}:Aj3 k:=(Asz k)
instance {a0:Ce}:OK (Ss a0) fun r=>As Tryz.prog 191 [G6 a0] (G6 r):=⟨fun {r} h=>by
 refine pw C0 Tryz.func191 ?_
 exact Y⟩
instance {a0:A8}:OK (Uv a0) fun r=>As Tryz.prog 108 [F5 a0] (F5 r):=⟨fun {r} h=>by
 refine pw {T:=B8,an:=(fun _=>.ask),nl:=(fun s=>bif Nat.beq s 35 then [(0,3)] else bif Nat.beq s 16 then [(0,3)] else [])} Tryz.func108 ?_
 refine ZS ?_
 refine Bt ?_
 refine ZS ?_
 refine Bt ?_
 refine ZO ?_
 refine Ar (Ar ?_)
 refine Dh [.own 3 0 85 3,.own 3 1 91 3] ?_
 refine Z ?_
 refine A6 h (fun (v16,o17)=>[(11,(O .i64 v16))]) (fun (v16,o17)=>[(2,.cells 59 [(.arr 3 o17.length 0 o17.length),(.arr 4 0 0 0)]),(3,.rows 85 3 (List.map E2 o17))]) ?_
 rintro ⟨v16,o17⟩ _ _ _ h _ _
 refine Z ?_
 refine Ao h (fun _ h=>?_) (fun _ h=>?_)
 exact Y
 replace h:=Ck h
 refine Z ?_
 refine A6 h (fun (v33,o34)=>[(30,(O .i64 v33))]) (fun (v33,o34)=>[(2,.cells 59 [(.arr 3 o17.length 0 o17.length),(.arr 4 o34.length 0 o34.length)]),(4,.rows 91 3 (List.map Ew o34))]) ?_
 rintro ⟨v33,o34⟩ _ _ _ h _ _
 exact Y⟩
instance {a0:Nat} {a1:A8} {a2:Aq} {b0:List Ag}:OK (Ja a0 a1 a2 b0) fun r=>Ct Tryz.prog 64 [(.arr 0 b0.length 0 a0),F5 a1,Cr a2] [.rows 61 5 (List.map Bc b0)] (.arr 0 r.2.length 0 r.1) [.rows 61 5 (List.map Bc r.2)]:=⟨fun {r} h=>by
 refine aw {T:=B8,an:=(fun _=>.ask),nl:=(fun s=>bif Nat.beq s 76 then [(1,1),(2,1),(3,3),(4,3)] else bif Nat.beq s 6 then [(0,5)] else [])} false Tryz.func64 ?_
 refine Z ?_
 refine A6 h (fun (v6,v7)=>[(7,(O .i64 v6)),(8,(O .i64 v7))]) (fun (v6,v7)=>[]) ?_
 rintro ⟨v6,v7⟩ _ _ _ h _ _
 refine Z ?_
 refine Ao h (fun _ h=>?_) (fun _ h=>?_)
 exact Y
 replace h:=Ck h
 refine Fc (Fa rfl (Ar (Ar ?_)))
 refine Bu h (fun v14=>[(43,(An v14))]) (fun v14=>[]) ?_ ?_
 intro _ h _ _ _
 exact Y
 rintro v14 _ h
 refine Ao h (fun _ h=>?_) (fun _ h=>?_)
 refine Z ?_
 refine G7 h (fun _ _ _ _ h=>?_)
 refine Z ?_
 refine Bl h (fun v16 h=>?_)
 refine Z ?_
 refine G7 h (fun _ v17 hiv17 _ h=>?_)
 refine Z ?_
 refine Gw (f:=Bc) (x:=(Ag.mk v16 v17.Mono)) (j:=(((0:Nat):Int)+v6)) rfl rfl rfl (Px _ hiv17) ?_
 refine Z ?_
 refine G7 h (fun _ _ _ _ h=>?_)
 refine Z ?_
 refine Bl h (fun _ h=>?_)
 refine Z ?_
 refine Ao h (fun _ h=>?_) (fun _ h=>?_)
 refine Z ?_
 refine Acv (f:=Bc) (l:=(Cd b0 (((0:Nat):Int)+v6) (Ag.mk v16 v17.Mono))) rfl (Dz (l:=b0) rfl (((0:Nat):Int)+v6) (Ag.mk v16 v17.Mono)) h (fun v20 h=>?_)
 refine Z ?_
 refine Lw (f:=Bc) (l:=(Cd b0 (((0:Nat):Int)+v6) (Ag.mk v16 v17.Mono))) rfl (Dz (l:=b0) rfl (((0:Nat):Int)+v6) (Ag.mk v16 v17.Mono)) h (fun v22 h=>?_) (fun h=>?_)
 refine Z ?_
 refine Acu (f:=Bc) (l:=(Cd b0 (((0:Nat):Int)+v6) (Ag.mk v16 v17.Mono))) rfl (Dz (l:=b0) rfl (((0:Nat):Int)+v6) (Ag.mk v16 v17.Mono)) (Dz (l:=b0) rfl (((0:Nat):Int)+v6) (Ag.mk v16 v17.Mono)) h (fun v23 h=>?_)
 exact Y
 refine Z ?_
 refine R7 (f:=Bc) (l:=(Cd b0 (((0:Nat):Int)+v6) (Ag.mk v16 v17.Mono))) (ys:=[]) rfl rfl (Dz (l:=b0) rfl (((0:Nat):Int)+v6) (Ag.mk v16 v17.Mono)) h (fun v24 h=>?_)
 exact Y
 refine Z ?_
 cases h
 exact ⟨congrArg (fun q_=>AV.arr 0 q_ 0 _) (Dz (l:=b0) rfl (((0:Nat):Int)+v6) (Ag.mk v16 v17.Mono)),rfl,trivial⟩
 refine Z ?_
 refine Bl h (fun _ h=>?_)
 refine Z ?_
 refine Ao h (fun _ h=>?_) (fun _ h=>?_)
 exact Y
 refine Z ?_
 refine R7 (f:=Bc) (l:=b0) (ys:=[(Ag.mk (Aq.mk false [] []) (A8.mk [] []))]) rfl rfl rfl h (fun v26 h=>?_)
 refine ZO ?_
 refine Ar ?_
 refine Mr h (fun o3_ h hj3=>?_)
 refine Lx (fun (o32:(List Ag))=>o32=o3_/\v26.1.length=o32.length) (fun o32=>[]) (fun o32=>[(0,.rows 61 5 (List.map Bc o32))]) (fun _=>rfl) ?_ ?_
 intro K3 hK3
 refine Z ?_
 refine Lw (f:=Bc) (l:=v26.1) rfl rfl h (fun v28 h=>?_) (fun h=>?_)
 refine Z ?_
 refine Iq (f:=Bc) (l:=v26.1) rfl rfl h (fun v29 h=>?_)
 refine Z ?_
 refine Py (f:=Bc) (l:=v26.1) rfl rfl rfl h (fun o30 hco30 h=>?_)
 refine Z ?_
 exact hK3 o30 _ _ _ ⟨(Option.some.inj h),(Pz rfl hco30)⟩ trivial ⟨⟨rfl,rfl⟩,⟨rfl,rfl⟩,⟨rfl,rfl⟩,trivial⟩
 refine Z ?_
 refine Iq (f:=Bc) (l:=v26.1) rfl rfl h (fun v31 h=>?_)
 refine Z ?_
 exact hK3 v26.1 _ _ _ ⟨(Option.some.inj h),rfl⟩ trivial ⟨⟨rfl,rfl⟩,⟨rfl,rfl⟩,⟨rfl,rfl⟩,trivial⟩
 rintro o32 u3 ⟨hJ3,q32⟩
 have h:=hj3 _ hJ3
 refine Z ?_
 refine Bl h (fun v33 h=>?_)
 refine Z ?_
 refine Bl h (fun v34 h=>?_)
 refine Z ?_
 refine G7 h (fun _ _ hiv35 _ h=>?_)
 refine Z ?_
 refine Gw (f:=Bc) (x:=(Ag.mk v33 v34)) (j:=(((0:Nat):Int)+v6)) rfl rfl rfl (Px _ hiv35) ?_
 refine Z ?_
 cases h
 exact ⟨congrArg (fun q_=>AV.arr 0 q_ 0 _) (Dz (l:=o32) q32 (((0:Nat):Int)+v6) (Ag.mk v33 v34)),rfl,trivial⟩⟩
instance {a0 a1:List Ag} {a2:Aq}:OK (Sg a0 a1 a2) fun r=>As Tryz.prog 82 [(Aw 5 Bc) a0,(Aw 5 Bc) a1,Cr a2] ((Aw 5 Bc) r):=⟨fun {r} h=>by
 refine pw {T:=B8,an:=(fun s=>bif Nat.beq s 7 then .own else .ask),nl:=(fun s=>bif Nat.beq s 7 then [(0,5)] else bif Nat.beq s 6 then [(0,5)] else [])} Tryz.func82 ?_
 refine Z ?_
 refine A6 h (fun (v12,v13,o14)=>[(7,(.arr 1 o14.length 0 v12)),(14,(O .i64 v13))]) (fun (v12,v13,o14)=>[(1,.rows 61 5 (List.map Bc o14))]) ?_
 rintro ⟨v12,v13,o14⟩ _ _ _ h _ _
 refine Z ?_
 refine Ao h (fun _ h=>?_) (fun _ h=>?_)
 refine Z ?_
 refine Cg h (fun _ _ _ _ h=>?_)
 refine Z ?_
 refine Bm [1] h (fun _ h=>?_)
 exact Y
 replace h:=Ck h
 refine Z ?_
 refine A6 h (fun (v31,v32,o33)=>[(7,(.arr 1 o33.length 0 v31)),(27,(O .i64 v32))]) (fun (v31,v32,o33)=>[(1,.rows 61 5 (List.map Bc o33))]) ?_
 rintro ⟨v31,v32,o33⟩ _ _ _ h _ _
 refine Z ?_
 refine Ao h (fun _ h=>?_) (fun _ h=>?_)
 refine Z ?_
 refine Cg h (fun _ _ _ _ h=>?_)
 refine Z ?_
 refine Bl h (fun _ h=>?_)
 refine Z ?_
 refine Bm [1] h (fun _ h=>?_)
 exact Y
 replace h:=Ck h
 refine ZS ?_
 refine Bt ?_
 refine ZO ?_
 refine Dh [.fzp 6] ?_
 refine Ug (f:=Bc) (l:=o33) rfl rfl h (fun o40 h=>?_)
 exact Y⟩
instance {a0:List Ag}:OK (Qb a0) fun r=>As Tryz.prog 81 [(Aw 5 Bc) a0] (.tup [(Aw 5 Bc) r.1,(O .i64) r.2]):=⟨fun {r} h=>by
 refine pw {T:=B8,an:=(fun _=>.ask),nl:=(fun s=>bif Nat.beq s 2 then [(0,5)] else [])} Tryz.func81 ?_
 exact Y⟩
instance {a0:Bh} {a1 a2:List Ag}:OK (Um a0 a1 a2) fun r=>As Tryz.prog 37 [Ev a0,(Aw 5 Bc) a1,(Aw 5 Bc) a2] (.tup [(Aw 5 Bc) r.1,(O .i64) r.2]):=⟨fun {r} h=>by
 refine pw {T:=B8,an:=(fun _=>.ask),nl:=(fun s=>bif Nat.beq s 6 then [(0,5)] else [])} Tryz.func37 ?_
 refine ZS ?_
 refine Bt ?_
 refine ZO ?_
 refine Ar (Ar ?_)
 refine Bu h (fun v4=>[(17,(An v4))]) (fun v4=>[]) ?_ ?_
 intro _ h _ _ _
 exact Y
 rintro v4 _ h
 exact Y⟩
end Go.Ab
namespace Go.Ab
open Go Go.Proofs
set_option maxRecDepth 10000
set_option maxHeartbeats 4000000
set_option linter.unusedVariables false
instance {a0:Bh} {a1 a2:List Ag}:OK (P3 a0 a1 a2) fun r=>As Tryz.prog 8 [Ev a0,(Aw 5 Bc) a1,(Aw 5 Bc) a2] (.tup [(O .i64) r.1,(O .i64) r.2]):=⟨fun {r} h=>by
 refine pw C0 Tryz.func8 ?_
 refine ZS ?_
 refine Bt ?_
 refine ZO ?_
 refine Ar (Ar ?_)
 refine Bu h (fun v4=>[(23,(An v4))]) (fun v4=>[]) ?_ ?_
 intro _ h _ _ _
 exact Y
 rintro v4 _ h
 refine Ao h (fun _ h=>?_) (fun _ h=>?_)
 exact Y
 refine Z ?_
 refine Bl h (fun _ h=>?_)
 refine Z ?_
 refine Ao h (fun _ h=>?_) (fun _ h=>?_)
 exact Y
 refine Z ?_
 refine A6 h (fun (v10,v11,v12)=>[(10,(An v10)),(11,(An v11)),(36,(O .i64 v12))]) (fun (v10,v11,v12)=>[]) ?_
 rintro ⟨v10,v11,v12⟩ _ _ _ h _ _
 refine Z ?_
 refine Ao h (fun _ h=>?_) (fun _ h=>?_)
 exact Y
 replace h:=Ck h
 refine Fc (Fa rfl (Ar (Ju (Ar ?_))))
 refine Bu h (fun v20=>[(55,(An v20))]) (fun v20=>[]) ?_ ?_
 intro _ h _ _ _
 exact Y
 rintro v20 _ h
 exact Y⟩
instance {a0:Ce}:OK (Vn a0) fun r=>As Tryz.prog 219 [G6 a0] (.tup [G6 r.1,(O .i64) r.2]):=⟨fun {r} h=>by
 refine pw {T:=B8,an:=(fun _=>.ask),nl:=(fun s=>bif Nat.beq s 7 then [(1,2)] else [])} Tryz.func219 ?_
 exact Y⟩
instance {a0:Nat} {a1 a2:Int} {b0:List Bw}:OK (Sv a0 a1 a2 b0) fun r=>Ct Tryz.prog 218 [(.arr 0 b0.length 0 a0),(O .i64) a1,(O .i64) a2] [.rows 156 2 (List.map Dn b0)] (.arr 0 r.2.length 0 r.1) [.rows 156 2 (List.map Dn r.2)]:=⟨fun {r} h=>by
 refine aw {T:=B8,an:=(fun _=>.ask),nl:=(fun s=>bif Nat.beq s 6 then [(0,2)] else [])} false Tryz.func218 ?_
 refine Z ?_
 refine A6 h (fun v2=>[(7,(O .i64 v2))]) (fun v2=>[]) ?_
 rintro v2 _ _ _ h _ _
 refine Z ?_
 refine Fx h (fun _ h=>?_) (fun _ h=>?_)
 refine Z ?_
 refine G7 h (fun _ _ _ _ h=>?_)
 refine Z ?_
 refine Ao h (fun _ h=>?_) (fun _ h=>?_)
 exact Y
 replace h:=Ck h
 refine Fc (Fa rfl (Ar (Ar ?_)))
 refine Bu h (fun v6=>[(35,(An v6))]) (fun v6=>[]) ?_ ?_
 intro _ h _ _ _
 exact Y
 rintro v6 _ h
 refine Ao h (fun _ h=>?_) (fun _ h=>?_)
 refine Z ?_
 refine G7 h (fun _ v7 _ _ h=>?_)
 refine Z ?_
 refine G7 h (fun _ v8 hiv8 _ h=>?_)
 refine Z ?_
 refine Gw (f:=Dn) (x:=(Bw.mk v8.Var (Ac (v7.Coef+a2)))) (j:=(((0:Nat):Int)+v2)) rfl rfl rfl (Px _ hiv8) ?_
 refine Z ?_
 refine G7 h (fun _ _ _ _ h=>?_)
 refine Z ?_
 refine Ao h (fun _ h=>?_) (fun _ h=>?_)
 refine Z ?_
 refine Acv (f:=Dn) (l:=(Cd b0 (((0:Nat):Int)+v2) (Bw.mk v8.Var (Ac (v7.Coef+a2))))) rfl (Dz (l:=b0) rfl (((0:Nat):Int)+v2) (Bw.mk v8.Var (Ac (v7.Coef+a2)))) h (fun v10 h=>?_)
 refine Z ?_
 refine Lw (f:=Dn) (l:=(Cd b0 (((0:Nat):Int)+v2) (Bw.mk v8.Var (Ac (v7.Coef+a2))))) rfl (Dz (l:=b0) rfl (((0:Nat):Int)+v2) (Bw.mk v8.Var (Ac (v7.Coef+a2)))) h (fun v12 h=>?_) (fun h=>?_)
 refine Z ?_
 refine Acu (f:=Dn) (l:=(Cd b0 (((0:Nat):Int)+v2) (Bw.mk v8.Var (Ac (v7.Coef+a2))))) rfl (Dz (l:=b0) rfl (((0:Nat):Int)+v2) (Bw.mk v8.Var (Ac (v7.Coef+a2)))) (Dz (l:=b0) rfl (((0:Nat):Int)+v2) (Bw.mk v8.Var (Ac (v7.Coef+a2)))) h (fun v13 h=>?_)
 exact Y
 refine Z ?_
 refine R7 (f:=Dn) (l:=(Cd b0 (((0:Nat):Int)+v2) (Bw.mk v8.Var (Ac (v7.Coef+a2))))) (ys:=[]) rfl rfl (Dz (l:=b0) rfl (((0:Nat):Int)+v2) (Bw.mk v8.Var (Ac (v7.Coef+a2)))) h (fun v14 h=>?_)
 exact Y
 refine Z ?_
 cases h
 exact ⟨congrArg (fun q_=>AV.arr 0 q_ 0 _) (Dz (l:=b0) rfl (((0:Nat):Int)+v2) (Bw.mk v8.Var (Ac (v7.Coef+a2)))),rfl,trivial⟩
 refine Z ?_
 refine Ao h (fun _ h=>?_) (fun _ h=>?_)
 exact Y
 refine Z ?_
 refine R7 (f:=Dn) (l:=b0) (ys:=[(Bw.mk 0 0)]) rfl rfl rfl h (fun v15 h=>?_)
 refine ZO ?_
 refine Ar ?_
 refine Mr h (fun o3_ h hj3=>?_)
 refine Lx (fun (o21:(List Bw))=>o21=o3_/\v15.1.length=o21.length) (fun o21=>[]) (fun o21=>[(0,.rows 156 2 (List.map Dn o21))]) (fun _=>rfl) ?_ ?_
 intro K3 hK3
 refine Z ?_
 refine Lw (f:=Dn) (l:=v15.1) rfl rfl h (fun v17 h=>?_) (fun h=>?_)
 refine Z ?_
 refine Iq (f:=Dn) (l:=v15.1) rfl rfl h (fun v18 h=>?_)
 refine Z ?_
 refine Py (f:=Dn) (l:=v15.1) rfl rfl rfl h (fun o19 hco19 h=>?_)
 refine Z ?_
 exact hK3 o19 _ _ _ ⟨(Option.some.inj h),(Pz rfl hco19)⟩ trivial ⟨⟨rfl,rfl⟩,trivial⟩
 refine Z ?_
 refine Iq (f:=Dn) (l:=v15.1) rfl rfl h (fun v20 h=>?_)
 refine Z ?_
 exact hK3 v15.1 _ _ _ ⟨(Option.some.inj h),rfl⟩ trivial ⟨⟨rfl,rfl⟩,trivial⟩
 rintro o21 u3 ⟨hJ3,q21⟩
 have h:=hj3 _ hJ3
 refine Z ?_
 refine G7 h (fun _ _ hiv22 _ h=>?_)
 refine Z ?_
 refine Gw (f:=Dn) (x:=(Bw.mk a1 a2)) (j:=(((0:Nat):Int)+v2)) rfl rfl rfl (Px _ hiv22) ?_
 refine Z ?_
 cases h
 exact ⟨congrArg (fun q_=>AV.arr 0 q_ 0 _) (Dz (l:=o21) q21 (((0:Nat):Int)+v2) (Bw.mk a1 a2)),rfl,trivial⟩
 replace h:=Ck h
 refine ZO ?_
 refine Nx (Fc (Fa rfl (Ar (Ar ?_))))
 refine Bu h (fun v6=>[(35,(An v6))]) (fun v6=>[]) ?_ ?_
 intro _ h _ _ _
 exact Y
 rintro v6 _ h
 refine Ao h (fun _ h=>?_) (fun _ h=>?_)
 refine Z ?_
 refine G7 h (fun _ v7 _ _ h=>?_)
 refine Z ?_
 refine G7 h (fun _ v8 hiv8 _ h=>?_)
 refine Z ?_
 refine Gw (f:=Dn) (x:=(Bw.mk v8.Var (Ac (v7.Coef+a2)))) (j:=(((0:Nat):Int)+v2)) rfl rfl rfl (Px _ hiv8) ?_
 refine Z ?_
 refine G7 h (fun _ _ _ _ h=>?_)
 refine Z ?_
 refine Ao h (fun _ h=>?_) (fun _ h=>?_)
 refine Z ?_
 refine Acv (f:=Dn) (l:=(Cd b0 (((0:Nat):Int)+v2) (Bw.mk v8.Var (Ac (v7.Coef+a2))))) rfl (Dz (l:=b0) rfl (((0:Nat):Int)+v2) (Bw.mk v8.Var (Ac (v7.Coef+a2)))) h (fun v10 h=>?_)
 refine Z ?_
 refine Lw (f:=Dn) (l:=(Cd b0 (((0:Nat):Int)+v2) (Bw.mk v8.Var (Ac (v7.Coef+a2))))) rfl (Dz (l:=b0) rfl (((0:Nat):Int)+v2) (Bw.mk v8.Var (Ac (v7.Coef+a2)))) h (fun v12 h=>?_) (fun h=>?_)
 refine Z ?_
 refine Acu (f:=Dn) (l:=(Cd b0 (((0:Nat):Int)+v2) (Bw.mk v8.Var (Ac (v7.Coef+a2))))) rfl (Dz (l:=b0) rfl (((0:Nat):Int)+v2) (Bw.mk v8.Var (Ac (v7.Coef+a2)))) (Dz (l:=b0) rfl (((0:Nat):Int)+v2) (Bw.mk v8.Var (Ac (v7.Coef+a2)))) h (fun v13 h=>?_)
 exact Y
 refine Z ?_
 refine R7 (f:=Dn) (l:=(Cd b0 (((0:Nat):Int)+v2) (Bw.mk v8.Var (Ac (v7.Coef+a2))))) (ys:=[]) rfl rfl (Dz (l:=b0) rfl (((0:Nat):Int)+v2) (Bw.mk v8.Var (Ac (v7.Coef+a2)))) h (fun v14 h=>?_)
 exact Y
 refine Z ?_
 cases h
 exact ⟨congrArg (fun q_=>AV.arr 0 q_ 0 _) (Dz (l:=b0) rfl (((0:Nat):Int)+v2) (Bw.mk v8.Var (Ac (v7.Coef+a2)))),rfl,trivial⟩
 refine Z ?_
 refine Ao h (fun _ h=>?_) (fun _ h=>?_)
 exact Y
 refine Z ?_
 refine R7 (f:=Dn) (l:=b0) (ys:=[(Bw.mk 0 0)]) rfl rfl rfl h (fun v15 h=>?_)
 refine ZO ?_
 refine Ar ?_
 refine Mr h (fun o5_ h hj5=>?_)
 refine Lx (fun (o21:(List Bw))=>o21=o5_/\v15.1.length=o21.length) (fun o21=>[]) (fun o21=>[(0,.rows 156 2 (List.map Dn o21))]) (fun _=>rfl) ?_ ?_
 intro K5 hK5
 refine Z ?_
 refine Lw (f:=Dn) (l:=v15.1) rfl rfl h (fun v17 h=>?_) (fun h=>?_)
 refine Z ?_
 refine Iq (f:=Dn) (l:=v15.1) rfl rfl h (fun v18 h=>?_)
 refine Z ?_
 refine Py (f:=Dn) (l:=v15.1) rfl rfl rfl h (fun o19 hco19 h=>?_)
 refine Z ?_
 exact hK5 o19 _ _ _ ⟨(Option.some.inj h),(Pz rfl hco19)⟩ trivial ⟨⟨rfl,rfl⟩,trivial⟩
 refine Z ?_
 refine Iq (f:=Dn) (l:=v15.1) rfl rfl h (fun v20 h=>?_)
 refine Z ?_
 exact hK5 v15.1 _ _ _ ⟨(Option.some.inj h),rfl⟩ trivial ⟨⟨rfl,rfl⟩,trivial⟩
 rintro o21 u5 ⟨hJ5,q21⟩
 have h:=hj5 _ hJ5
 refine Z ?_
 refine G7 h (fun _ _ hiv22 _ h=>?_)
 refine Z ?_
 refine Gw (f:=Dn) (x:=(Bw.mk a1 a2)) (j:=(((0:Nat):Int)+v2)) rfl rfl rfl (Px _ hiv22) ?_
 refine Z ?_
 cases h
 exact ⟨congrArg (fun q_=>AV.arr 0 q_ 0 _) (Dz (l:=o21) q21 (((0:Nat):Int)+v2) (Bw.mk a1 a2)),rfl,trivial⟩⟩
instance {a0:Ce}:OK (M0 a0) fun r=>As Tryz.prog 150 [G6 a0] (.tup [G6 r.1,(O .i64) r.2]):=⟨fun {r} h=>by
 refine pw {T:=B8,an:=(fun _=>.ask),nl:=(fun s=>bif Nat.beq s 61 then [(0,2)] else bif Nat.beq s 59 then [(1,2)] else bif Nat.beq s 40 then [(1,2)] else bif Nat.beq s 24 then [(1,2)] else [])} Tryz.func150 ?_
 refine Z ?_
 refine A6 h (fun v5=>[(3,(O .i64 0)),(12,(O .i64 v5))]) (fun v5=>[]) ?_
 rintro v5 _ _ _ h _ _
 refine Z ?_
 refine Ao h (fun _ h=>?_) (fun _ h=>?_)
 exact Y
 replace h:=Ck h
 refine Fc (Fa rfl (Ar (Ar ?_)))
 refine Bu h (fun v10=>[(39,(An v10))]) (fun v10=>[]) ?_ ?_
 intro _ h _ _ _
 exact Y
 rintro v10 _ h
 refine Ao h (fun _ h=>?_) (fun _ h=>?_)
 exact Y
 refine ZS ?_
 refine Bt ?_
 refine ZO ?_
 refine Ar (Ar ?_)
 refine Dh [.own 6 1 156 2] ?_
 refine Z ?_
 refine A6 h (fun (v24,v25,o26)=>[(3,(O .i64 0)),(47,(O .i64 v24))]) (fun (v24,v25,o26)=>[(2,.cells 45 [(O .i64 a0.Const),(.arr 3 o26.length 0 v25)]),(3,.rows 156 2 (List.map Dn o26))]) ?_
 rintro ⟨v24,v25,o26⟩ _ _ _ h _ _
 refine Z ?_
 refine Ao h (fun _ h=>?_) (fun _ h=>?_)
 refine Z ?_
 refine Cg h (fun _ _ _ _ h=>?_)
 refine ZO ?_
 refine Ar (Ar ?_)
 refine Bu h (fun v29=>[(58,(An v29))]) (fun v29=>[]) ?_ ?_
 intro _ h _ _ _
 exact Y
 rintro v29 _ h
 refine Ao h (fun _ h=>?_) (fun _ h=>?_)
 exact Y
 refine Z ?_
 refine Bm [3] h (fun _ h=>?_)
 exact Y
 replace h:=Ck h
 refine Fc (Fa rfl (Ar ?_))
 refine Dh [.fzcp 6 1] ?_
 refine Ug (f:=Dn) (l:=o26) rfl rfl h (fun o35 h=>?_)
 exact Y⟩
instance {a0:Bh} {a1:Ag}:OK (U9 a0 a1) fun r=>As Tryz.prog 149 [Ev a0,Bc a1] (An r):=⟨fun {r} h=>by
 refine pw C0 Tryz.func149 ?_
 refine Z ?_
 refine A6 h (fun v8=>[(4,(An false)),(15,(O .i64 v8))]) (fun v8=>[]) ?_
 rintro v8 _ _ _ h _ _
 refine Z ?_
 refine Ao h (fun _ h=>?_) (fun _ h=>?_)
 exact Y
 replace h:=Ck h
 refine Z ?_
 refine A6 h (fun v18=>[(4,(An false)),(42,(O .i64 v18))]) (fun v18=>[]) ?_
 rintro v18 _ _ _ h _ _
 exact Y⟩
instance {a0:A8}:OK (Tb a0) fun r=>Ct Tryz.prog 108 [F5 a0] [] (.agg [.arr 3 r.2.1.length 0 r.2.1.length,.arr 4 r.2.2.length 0 r.2.2.length]) [.cells 59 [(.sl 3 (List.map E2 r.1.Factors)),(.sl 3 (List.map Ew r.1.Atoms))],.cells 59 [(.arr 3 r.2.1.length 0 r.2.1.length),(.arr 4 r.2.2.length 0 r.2.2.length)],.cells 59 [(.arr 3 r.2.1.length 0 r.2.1.length),(.arr 4 r.2.2.length 0 r.2.2.length)],.rows 85 3 (List.map E2 r.2.1),.rows 91 3 (List.map Ew r.2.2)]:=⟨fun {r} h=>by
 refine aw {T:=B8,an:=(fun _=>.ask),nl:=(fun s=>bif Nat.beq s 35 then [(0,3)] else bif Nat.beq s 16 then [(0,3)] else [])} false Tryz.func108 ?_
 refine ZS ?_
 refine Bt ?_
 refine ZS ?_
 refine Bt ?_
 refine ZO ?_
 refine Ar (Ar ?_)
 refine Dh [.own 3 0 85 3,.own 3 1 91 3] ?_
 refine Z ?_
 refine A6 h (fun (v16,o17)=>[(11,(O .i64 v16))]) (fun (v16,o17)=>[(2,.cells 59 [(.arr 3 o17.length 0 o17.length),(.arr 4 0 0 0)]),(3,.rows 85 3 (List.map E2 o17))]) ?_
 rintro ⟨v16,o17⟩ _ _ _ h _ _
 refine Z ?_
 refine Ao h (fun _ h=>?_) (fun _ h=>?_)
 exact Y
 replace h:=Ck h
 refine Z ?_
 refine A6 h (fun (v33,o34)=>[(30,(O .i64 v33))]) (fun (v33,o34)=>[(2,.cells 59 [(.arr 3 o17.length 0 o17.length),(.arr 4 o34.length 0 o34.length)]),(4,.rows 91 3 (List.map Ew o34))]) ?_
 rintro ⟨v33,o34⟩ _ _ _ h _ _
 exact Y⟩
instance {a0 a1:Aq}:OK (Yu a0 a1) fun r=>As Tryz.prog 196 [Cr a0,Cr a1] (.tup [Cr r.1,An r.2]):=⟨fun {r} h=>by
 refine pw C0 Tryz.func196 ?_
 exact Y⟩
instance {a0:Int}:OK (Za a0) fun r=>As Tryz.prog 27 [(O .i64) a0] (Cr r):=⟨fun {r} h=>by
 refine pw C0 Tryz.func27 ?_
 exact Y⟩
instance {a0:Aq} {a1:Int}:OK (Yt a0 a1) fun r=>As Tryz.prog 194 [Cr a0,(O .i64) a1] (Cr r):=⟨fun {r} h=>by
 refine pw C0 Tryz.func194 ?_
 refine Z ?_
 refine Bl h (fun _ h=>?_)
 refine Z ?_
 refine A6 h (fun (v10,v11,v12,v13)=>[(6,(O .i64 v10))]) (fun (v10,v11,v12,v13)=>[(2,.cells 39 [(An v11),(.sl 1 (List.map (O .u32) v12)),(.sl 1 (List.map (O .u32) v13))])]) ?_
 rintro ⟨v10,v11,v12,v13⟩ _ _ _ h _ _
 exact Y⟩
instance {a0:Aq} {a1:Int}:OK (Ada a0 a1) fun r=>As Tryz.prog 114 [Cr a0,(O .i64) a1] (Cr r):=⟨fun {r} h=>by
 refine pw C0 Tryz.func114 ?_
 exact Y⟩
instance {a0:Int}:OK (Su a0) fun r=>As Tryz.prog 195 [(O .i64) a0] (Cr r):=⟨fun {r} h=>by
 refine pw C0 Tryz.func195 ?_
 refine Z ?_
 refine Bl h (fun _ h=>?_)
 refine Z ?_
 refine A6 h (fun (v6,v7,v8,v9)=>[(4,(O .i64 v6))]) (fun (v6,v7,v8,v9)=>[(1,.cells 39 [(An v7),(.sl 1 (List.map (O .u32) v8)),(.sl 1 (List.map (O .u32) v9))])]) ?_
 rintro ⟨v6,v7,v8,v9⟩ _ _ _ h _ _
 exact Y⟩
instance {a0 a1:Int}:OK (Adb a0 a1) fun r=>As Tryz.prog 115 [(O .i64) a0,(O .i64) a1] (.tup [(Aw 3 Cr) r.1,An r.2]):=⟨fun {r} h=>by
 refine pw {T:=B8,an:=(fun s=>bif Nat.beq s 6 then .own else .ask),nl:=(fun s=>bif Nat.beq s 6 then [(0,3)] else bif Nat.beq s 4 then [(0,3)] else [])} Tryz.func115 ?_
 refine ZS ?_
 refine Bt ?_
 refine ZO ?_
 refine Ar (Ar ?_)
 refine Bu h (fun v1=>[(23,(An v1))]) (fun v1=>[]) ?_ ?_
 intro _ h _ _ _
 exact Y
 rintro v1 _ h
 refine Ao h (fun _ h=>?_) (fun _ h=>?_)
 exact Y
 refine Z ?_
 refine A6 h (fun (v15,o16)=>[(6,(.arr 0 o16.length 0 o16.length)),(7,(O .i64 v15))]) (fun (v15,o16)=>[(0,.rows 39 3 (List.map Cr o16))]) ?_
 rintro ⟨v15,o16⟩ _ _ _ h _ _
 exact Y⟩
instance {a0:List Ag} {a1:Ce} {a2:Int}:OK (Mu a0 a1 a2) fun r=>As Tryz.prog 60 [(Aw 5 Bc) a0,G6 a1,(O .i64) a2] ((Aw 5 Bc) r):=⟨fun {r} h=>by
 refine pw {T:=B8,an:=(fun s=>bif Nat.beq s 7 then .own else .ask),nl:=(fun s=>bif Nat.beq s 121 then [(1,2)] else bif Nat.beq s 7 then [(0,5)] else bif Nat.beq s 6 then [(0,5)] else [])} Tryz.func60 ?_
 refine Z ?_
 refine Ao h (fun _ h=>?_) (fun _ h=>?_)
 exact Y
 refine Z ?_
 refine A6 h (fun (v78,v79,o80)=>[(7,(.arr 1 o80.length 0 v78)),(21,(O .i64 v79))]) (fun (v78,v79,o80)=>[(1,.rows 61 5 (List.map Bc o80))]) ?_
 rintro ⟨v78,v79,o80⟩ _ _ _ h _ _
 refine Z ?_
 refine Ao h (fun _ h=>?_) (fun _ h=>?_)
 refine Z ?_
 refine Cg h (fun _ _ _ _ h=>?_)
 refine Z ?_
 refine Ao h (fun _ h=>?_) (fun _ h=>?_)
 refine Z ?_
 refine Bl h (fun _ h=>?_)
 refine Z ?_
 refine Bl h (fun _ h=>?_)
 refine Z ?_
 refine Bl h (fun _ h=>?_)
 refine Z ?_
 refine Bm [1] h (fun _ h=>?_)
 exact Y
 refine Z ?_
 refine A6 h (fun v89=>[(10,(O .i64 v89))]) (fun v89=>[]) ?_
 rintro v89 _ _ _ h _ _
 refine Z ?_
 refine Fx h (fun _ h=>?_) (fun _ h=>?_)
 refine Z ?_
 refine Cg h (fun _ _ _ _ h=>?_)
 refine Z ?_
 refine Bl h (fun _ h=>?_)
 refine Z ?_
 refine Ao h (fun _ h=>?_) (fun _ h=>?_)
 exact Y
 replace h:=Ck h
 refine Fc (Fa rfl (Ar (Ar ?_)))
 refine Bu h (fun v95=>[(78,(An v95))]) (fun v95=>[]) ?_ ?_
 intro _ h _ _ _
 exact Y
 rintro v95 _ h
 refine Ao h (fun _ h=>?_) (fun _ h=>?_)
 refine Z ?_
 refine Cg h (fun _ _ _ _ h=>?_)
 refine Z ?_
 refine Bl h (fun _ h=>?_)
 refine Z ?_
 refine A6 h (fun (v123,v124,o125)=>[(7,(.arr 1 o125.length 0 v123)),(13,(O .i64 v124))]) (fun (v123,v124,o125)=>[(1,.rows 61 5 (List.map Bc o125))]) ?_
 rintro ⟨v123,v124,o125⟩ _ _ _ h _ _
 refine Z ?_
 refine Ao h (fun _ h=>?_) (fun _ h=>?_)
 refine Z ?_
 refine Bm [] h (fun _ h=>?_)
 refine Z ?_
 refine Hi h (fun _ v133 hiv133 _ h=>?_)
 refine Z ?_
 refine Gw (f:=Ew) (x:=(B5.mk v133.Lin v124)) (j:=v89) rfl rfl (Nat.zero_add _) hiv133 ?_
 refine ZO ?_
 refine Dh [.fzc 14 0,.fzc 14 1] ?_
 refine Z ?_
 refine Cg h (fun _ _ _ _ h=>?_)
 refine Z ?_
 refine Bl h (fun _ h=>?_)
 refine Z ?_
 refine Bm [1] h (fun _ h=>?_)
 exact Y
 exact Y
 refine Z ?_
 refine Bm [] h (fun _ h=>?_)
 refine Z ?_
 refine Kh h (fun o147 h=>?_)
 refine ZO ?_
 refine Ar ?_
 refine Mr h (fun o5_ h hj5=>?_)
 refine Lx (fun (o153:(List B5))=>o153=o5_/\o147.length=o153.length) (fun o153=>[]) (fun o153=>[(7,.rows 91 3 (List.map Ew o153))]) (fun _=>rfl) ?_ ?_
 intro K5 hK5
 refine Z ?_
 refine Lw (f:=Ew) (l:=o147) rfl rfl h (fun v149 h=>?_) (fun h=>?_)
 refine Z ?_
 refine Iq (f:=Ew) (l:=o147) rfl rfl h (fun v150 h=>?_)
 refine Z ?_
 refine Py (f:=Ew) (l:=o147) rfl rfl rfl h (fun o151 hco151 h=>?_)
 refine Z ?_
 exact hK5 o151 _ _ _ ⟨(Option.some.inj h),(Pz rfl hco151)⟩ trivial ⟨⟨rfl,rfl⟩,⟨rfl,rfl⟩,⟨rfl,rfl⟩,⟨rfl,rfl⟩,⟨rfl,rfl⟩,⟨rfl,rfl⟩,⟨rfl,rfl⟩,⟨rfl,rfl⟩,⟨rfl,rfl⟩,trivial⟩
 refine Z ?_
 refine Iq (f:=Ew) (l:=o147) rfl rfl h (fun v152 h=>?_)
 refine Z ?_
 exact hK5 o147 _ _ _ ⟨(Option.some.inj h),rfl⟩ trivial ⟨⟨rfl,rfl⟩,⟨rfl,rfl⟩,⟨rfl,rfl⟩,⟨rfl,rfl⟩,⟨rfl,rfl⟩,⟨rfl,rfl⟩,⟨rfl,rfl⟩,⟨rfl,rfl⟩,⟨rfl,rfl⟩,trivial⟩
 rintro o153 u5 ⟨hJ5,q153⟩
 have h:=hj5 _ hJ5
 refine Z ?_
 refine Hi h (fun _ _ hiv154 _ h=>?_)
 refine Z ?_
 refine Gw (f:=Ew) (x:=(B5.mk a1 a2)) (j:=v89) rfl rfl (Nat.zero_add _) hiv154 ?_
 refine ZO ?_
 refine Dh [.fzc 15 0,.fzc 15 1] ?_
 refine Z ?_
 refine Bm [1] h (fun _ h=>?_)
 exact Y
 replace h:=Ck h
 refine ZO ?_
 refine Nx (Fc (Fa rfl (Ar (Ar ?_))))
 refine Bu h (fun v95=>[(78,(An v95))]) (fun v95=>[]) ?_ ?_
 intro _ h _ _ _
 exact Y
 rintro v95 _ h
 refine Ao h (fun _ h=>?_) (fun _ h=>?_)
 refine Z ?_
 refine Cg h (fun _ _ _ _ h=>?_)
 refine Z ?_
 refine Bl h (fun _ h=>?_)
 refine Z ?_
 refine A6 h (fun (v123,v124,o125)=>[(7,(.arr 1 o125.length 0 v123)),(13,(O .i64 v124))]) (fun (v123,v124,o125)=>[(1,.rows 61 5 (List.map Bc o125))]) ?_
 rintro ⟨v123,v124,o125⟩ _ _ _ h _ _
 refine Z ?_
 refine Ao h (fun _ h=>?_) (fun _ h=>?_)
 refine Z ?_
 refine Bm [] h (fun _ h=>?_)
 refine Z ?_
 refine Hi h (fun _ v133 hiv133 _ h=>?_)
 refine Z ?_
 refine Gw (f:=Ew) (x:=(B5.mk v133.Lin v124)) (j:=v89) rfl rfl (Nat.zero_add _) hiv133 ?_
 refine ZO ?_
 refine Dh [.fzc 14 0,.fzc 14 1] ?_
 refine Z ?_
 refine Cg h (fun _ _ _ _ h=>?_)
 refine Z ?_
 refine Bl h (fun _ h=>?_)
 refine Z ?_
 refine Bm [1] h (fun _ h=>?_)
 exact Y
 exact Y
 refine Z ?_
 refine Bm [] h (fun _ h=>?_)
 refine Z ?_
 refine Kh h (fun o147 h=>?_)
 refine ZO ?_
 refine Ar ?_
 refine Mr h (fun o8_ h hj8=>?_)
 refine Lx (fun (o153:(List B5))=>o153=o8_/\o147.length=o153.length) (fun o153=>[]) (fun o153=>[(7,.rows 91 3 (List.map Ew o153))]) (fun _=>rfl) ?_ ?_
 intro K8 hK8
 refine Z ?_
 refine Lw (f:=Ew) (l:=o147) rfl rfl h (fun v149 h=>?_) (fun h=>?_)
 refine Z ?_
 refine Iq (f:=Ew) (l:=o147) rfl rfl h (fun v150 h=>?_)
 refine Z ?_
 refine Py (f:=Ew) (l:=o147) rfl rfl rfl h (fun o151 hco151 h=>?_)
 refine Z ?_
 exact hK8 o151 _ _ _ ⟨(Option.some.inj h),(Pz rfl hco151)⟩ trivial ⟨⟨rfl,rfl⟩,⟨rfl,rfl⟩,⟨rfl,rfl⟩,⟨rfl,rfl⟩,⟨rfl,rfl⟩,⟨rfl,rfl⟩,⟨rfl,rfl⟩,⟨rfl,rfl⟩,⟨rfl,rfl⟩,trivial⟩
 refine Z ?_
 refine Iq (f:=Ew) (l:=o147) rfl rfl h (fun v152 h=>?_)
 refine Z ?_
 exact hK8 o147 _ _ _ ⟨(Option.some.inj h),rfl⟩ trivial ⟨⟨rfl,rfl⟩,⟨rfl,rfl⟩,⟨rfl,rfl⟩,⟨rfl,rfl⟩,⟨rfl,rfl⟩,⟨rfl,rfl⟩,⟨rfl,rfl⟩,⟨rfl,rfl⟩,⟨rfl,rfl⟩,trivial⟩
 rintro o153 u8 ⟨hJ8,q153⟩
 have h:=hj8 _ hJ8
 refine Z ?_
 refine Hi h (fun _ _ hiv154 _ h=>?_)
 refine Z ?_
 refine Gw (f:=Ew) (x:=(B5.mk a1 a2)) (j:=v89) rfl rfl (Nat.zero_add _) hiv154 ?_
 refine ZO ?_
 refine Dh [.fzc 15 0,.fzc 15 1] ?_
 refine Z ?_
 refine Bm [1] h (fun _ h=>?_)
 exact Y
 replace h:=Ck h
 refine ZS ?_
 refine Bt ?_
 refine ZO ?_
 refine Dh [.fzp 6] ?_
 refine Ug (f:=Bc) (l:=o80) rfl rfl h (fun o158 h=>?_)
 exact Y⟩
instance {a0:Bh} {a1:List Ag} {a2:Int} {a3:A9}:OK (Mt a0 a1 a2 a3) fun r=>As Tryz.prog 55 [Ev a0,(Aw 5 Bc) a1,(O .i64) a2,Ez a3] ((Aw 5 Bc) r):=⟨fun {r} h=>by
 refine pw {T:=B8,an:=(fun s=>bif Nat.beq s 11 then .own else .ask),nl:=(fun s=>bif Nat.beq s 115 then [(2,2)] else bif Nat.beq s 11 then [(0,5)] else bif Nat.beq s 8 then [(0,5)] else [])} Tryz.func55 ?_
 refine Z ?_
 refine Bl h (fun _ h=>?_)
 refine Z ?_
 refine Bl h (fun _ h=>?_)
 refine Z ?_
 refine Ao h (fun _ h=>?_) (fun _ h=>?_)
 exact Y
 refine Z ?_
 refine A6 h (fun (v60,v61,o62)=>[(11,(.arr 3 o62.length 0 v60)),(34,(O .i64 v61))]) (fun (v60,v61,o62)=>[(3,.rows 61 5 (List.map Bc o62))]) ?_
 rintro ⟨v60,v61,o62⟩ _ _ _ h _ _
 refine Z ?_
 refine Ao h (fun _ h=>?_) (fun _ h=>?_)
 refine Z ?_
 refine Cg h (fun _ _ _ _ h=>?_)
 refine Z ?_
 refine A6 h (fun v66=>[(14,(O .i64 v66))]) (fun v66=>[]) ?_
 rintro v66 _ _ _ h _ _
 refine Z ?_
 refine Fx h (fun _ h=>?_) (fun _ h=>?_)
 refine Z ?_
 refine Cg h (fun _ _ _ _ h=>?_)
 refine Z ?_
 refine Ao h (fun _ h=>?_) (fun _ h=>?_)
 exact Y
 replace h:=Ck h
 refine Fc (Fa rfl (Ar (Ar ?_)))
 refine Bu h (fun v70=>[(73,(An v70))]) (fun v70=>[]) ?_ ?_
 intro _ h _ _ _
 exact Y
 rintro v70 _ h
 refine Ao h (fun _ h=>?_) (fun _ h=>?_)
 exact Y
 refine Z ?_
 refine Bm [] h (fun _ h=>?_)
 refine Z ?_
 refine Kh h (fun o79 h=>?_)
 refine ZO ?_
 refine Ar ?_
 refine Mr h (fun o4_ h hj4=>?_)
 refine Lx (fun (o85:(List Cj))=>o85=o4_/\o79.length=o85.length) (fun o85=>[]) (fun o85=>[(8,.rows 85 3 (List.map E2 o85))]) (fun _=>rfl) ?_ ?_
 intro K4 hK4
 refine Z ?_
 refine Lw (f:=E2) (l:=o79) rfl rfl h (fun v81 h=>?_) (fun h=>?_)
 refine Z ?_
 refine Iq (f:=E2) (l:=o79) rfl rfl h (fun v82 h=>?_)
 refine Z ?_
 refine Py (f:=E2) (l:=o79) rfl rfl rfl h (fun o83 hco83 h=>?_)
 refine Z ?_
 exact hK4 o83 _ _ _ ⟨(Option.some.inj h),(Pz rfl hco83)⟩ trivial ⟨⟨rfl,rfl⟩,⟨rfl,rfl⟩,⟨rfl,rfl⟩,⟨rfl,rfl⟩,⟨rfl,rfl⟩,⟨rfl,rfl⟩,⟨rfl,rfl⟩,⟨rfl,rfl⟩,⟨rfl,rfl⟩,⟨rfl,rfl⟩,⟨rfl,rfl⟩,trivial⟩
 refine Z ?_
 refine Iq (f:=E2) (l:=o79) rfl rfl h (fun v84 h=>?_)
 refine Z ?_
 exact hK4 o79 _ _ _ ⟨(Option.some.inj h),rfl⟩ trivial ⟨⟨rfl,rfl⟩,⟨rfl,rfl⟩,⟨rfl,rfl⟩,⟨rfl,rfl⟩,⟨rfl,rfl⟩,⟨rfl,rfl⟩,⟨rfl,rfl⟩,⟨rfl,rfl⟩,⟨rfl,rfl⟩,⟨rfl,rfl⟩,⟨rfl,rfl⟩,trivial⟩
 rintro o85 u4 ⟨hJ4,q85⟩
 have h:=hj4 _ hJ4
 refine Z ?_
 refine Hi h (fun _ _ hiv86 _ h=>?_)
 refine Z ?_
 refine Gw (f:=E2) (x:=(Cj.mk a2 a3)) (j:=v66) rfl rfl (Nat.zero_add _) hiv86 ?_
 refine ZO ?_
 refine Dh [.fzc 18 0,.fzc 18 1] ?_
 refine Z ?_
 refine Bm [3] h (fun _ h=>?_)
 exact Y
 replace h:=Ck h
 refine ZO ?_
 refine Nx (Fc (Fa rfl (Ar (Ar ?_))))
 refine Bu h (fun v70=>[(73,(An v70))]) (fun v70=>[]) ?_ ?_
 intro _ h _ _ _
 exact Y
 rintro v70 _ h
 refine Ao h (fun _ h=>?_) (fun _ h=>?_)
 exact Y
 refine Z ?_
 refine Bm [] h (fun _ h=>?_)
 refine Z ?_
 refine Kh h (fun o79 h=>?_)
 refine ZO ?_
 refine Ar ?_
 refine Mr h (fun o6_ h hj6=>?_)
 refine Lx (fun (o85:(List Cj))=>o85=o6_/\o79.length=o85.length) (fun o85=>[]) (fun o85=>[(8,.rows 85 3 (List.map E2 o85))]) (fun _=>rfl) ?_ ?_
 intro K6 hK6
 refine Z ?_
 refine Lw (f:=E2) (l:=o79) rfl rfl h (fun v81 h=>?_) (fun h=>?_)
 refine Z ?_
 refine Iq (f:=E2) (l:=o79) rfl rfl h (fun v82 h=>?_)
 refine Z ?_
 refine Py (f:=E2) (l:=o79) rfl rfl rfl h (fun o83 hco83 h=>?_)
 refine Z ?_
 exact hK6 o83 _ _ _ ⟨(Option.some.inj h),(Pz rfl hco83)⟩ trivial ⟨⟨rfl,rfl⟩,⟨rfl,rfl⟩,⟨rfl,rfl⟩,⟨rfl,rfl⟩,⟨rfl,rfl⟩,⟨rfl,rfl⟩,⟨rfl,rfl⟩,⟨rfl,rfl⟩,⟨rfl,rfl⟩,⟨rfl,rfl⟩,⟨rfl,rfl⟩,trivial⟩
 refine Z ?_
 refine Iq (f:=E2) (l:=o79) rfl rfl h (fun v84 h=>?_)
 refine Z ?_
 exact hK6 o79 _ _ _ ⟨(Option.some.inj h),rfl⟩ trivial ⟨⟨rfl,rfl⟩,⟨rfl,rfl⟩,⟨rfl,rfl⟩,⟨rfl,rfl⟩,⟨rfl,rfl⟩,⟨rfl,rfl⟩,⟨rfl,rfl⟩,⟨rfl,rfl⟩,⟨rfl,rfl⟩,⟨rfl,rfl⟩,⟨rfl,rfl⟩,trivial⟩
 rintro o85 u6 ⟨hJ6,q85⟩
 have h:=hj6 _ hJ6
 refine Z ?_
 refine Hi h (fun _ _ hiv86 _ h=>?_)
 refine Z ?_
 refine Gw (f:=E2) (x:=(Cj.mk a2 a3)) (j:=v66) rfl rfl (Nat.zero_add _) hiv86 ?_
 refine ZO ?_
 refine Dh [.fzc 18 0,.fzc 18 1] ?_
 refine Z ?_
 refine Bm [3] h (fun _ h=>?_)
 exact Y
 replace h:=Ck h
 refine ZS ?_
 refine Bt ?_
 refine ZO ?_
 refine Dh [.fzp 8] ?_
 refine Ug (f:=Bc) (l:=o62) rfl rfl h (fun o90 h=>?_)
 exact Y⟩
instance {a0:Bh} {a1:List Ag}:OK (Us a0 a1) fun r=>As Tryz.prog 89 [Ev a0,(Aw 5 Bc) a1] (.tup [(Aw 5 Bc) r.1,(O .i64) r.2]):=⟨fun {r} h=>by
 refine pw {T:=B8,an:=(fun s=>bif Nat.beq s 17 then .own else .ask),nl:=(fun s=>bif Nat.beq s 102 then [(3,3),(4,3)] else bif Nat.beq s 17 then [(0,5)] else bif Nat.beq s 4 then [(0,5)] else [])} Tryz.func89 ?_
 refine Z ?_
 refine Bl h (fun _ h=>?_)
 refine Z ?_
 refine Ao h (fun _ h=>?_) (fun _ h=>?_)
 exact Y
 refine Z ?_
 refine A6 h (fun v6=>[(4,(.sl 5 (List.map Bc []))),(5,(O .i64 0)),(34,(O .i64 v6))]) (fun v6=>[]) ?_
 rintro v6 _ _ _ h _ _
 refine Z ?_
 refine Ao h (fun _ h=>?_) (fun _ h=>?_)
 exact Y
 replace h:=Ck h
 refine Z ?_
 refine A6 h (fun v36=>[(4,(.sl 5 (List.map Bc []))),(5,(O .i64 0)),(45,(O .i64 v36))]) (fun v36=>[]) ?_
 rintro v36 _ _ _ h _ _
 refine Z ?_
 refine Ao h (fun _ h=>?_) (fun _ h=>?_)
 refine Z ?_
 refine Cg h (fun _ _ _ _ h=>?_)
 refine Z ?_
 refine A6 h (fun (v44,v45)=>[(10,(O .i64 v44)),(53,(O .i64 v45))]) (fun (v44,v45)=>[]) ?_
 rintro ⟨v44,v45⟩ _ _ _ h _ _
 refine Z ?_
 refine Ao h (fun _ h=>?_) (fun _ h=>?_)
 exact Y
 replace h:=Ck h
 refine Z ?_
 refine A6 h (fun (v55,v56)=>[(10,(O .i64 v55)),(78,(O .i64 v56))]) (fun (v55,v56)=>[]) ?_
 rintro ⟨v55,v56⟩ _ _ _ h _ _
 exact Y
 replace h:=Ck h
 refine Z ?_
 refine Ao h (fun _ h=>?_) (fun _ h=>?_)
 exact Y
 refine Z ?_
 refine A6 h (fun (v167,v168,o169)=>[(4,(.sl 5 (List.map Bc []))),(5,(O .i64 0)),(17,(.arr 1 o169.length 0 v167)),(97,(O .i64 v168))]) (fun (v167,v168,o169)=>[(1,.rows 61 5 (List.map Bc o169))]) ?_
 rintro ⟨v167,v168,o169⟩ _ _ _ h _ _
 refine Z ?_
 refine Ao h (fun _ h=>?_) (fun _ h=>?_)
 refine Z ?_
 refine Cg h (fun _ _ _ _ h=>?_)
 refine Z ?_
 refine Bl h (fun _ h=>?_)
 refine Z ?_
 refine A6 h (fun (v176,v177)=>[(20,(.sl 5 (List.map Bc v176))),(108,(O .i64 v177))]) (fun (v176,v177)=>[]) ?_
 rintro ⟨v176,v177⟩ _ _ _ h _ _
 refine Z ?_
 refine Ao h (fun _ h=>?_) (fun _ h=>?_)
 exact Y
 replace h:=Ck h
 refine Z ?_
 refine A6 h (fun (v188,v189)=>[(4,(.sl 5 (List.map Bc []))),(5,(O .i64 0)),(20,(.sl 5 (List.map Bc v188))),(124,(O .i64 v189))]) (fun (v188,v189)=>[]) ?_
 rintro ⟨v188,v189⟩ _ _ _ h _ _
 refine Z ?_
 refine Ao h (fun _ h=>?_) (fun _ h=>?_)
 exact Y
 replace h:=Ck h
 refine Z ?_
 refine Ao h (fun _ h=>?_) (fun _ h=>?_)
 exact Y
 refine Z ?_
 refine A6 h (fun (v210,v211,o212)=>[(17,(.arr 1 o212.length 0 v210)),(147,(O .i64 v211))]) (fun (v210,v211,o212)=>[(1,.rows 61 5 (List.map Bc o212))]) ?_
 rintro ⟨v210,v211,o212⟩ _ _ _ h _ _
 refine Z ?_
 refine Ao h (fun _ h=>?_) (fun _ h=>?_)
 refine Z ?_
 refine Cg h (fun _ _ _ _ h=>?_)
 refine Z ?_
 refine Bl h (fun _ h=>?_)
 refine Z ?_
 refine Bm [1] h (fun _ h=>?_)
 exact Y
 exact Y
 replace h:=Ck h
 refine Fc (Fa rfl (Ar ?_))
 refine Dh [.fzp 17] ?_
 refine Ug (f:=Bc) (l:=o169) rfl rfl h (fun o224 h=>?_)
 exact Y⟩
instance {a0:List Ag} {a1:A8}:OK (N5 a0 a1) fun r=>As Tryz.prog 88 [(Aw 5 Bc) a0,F5 a1] (Cr r):=⟨fun {r} h=>by
 refine pw C0 Tryz.func88 ?_
 refine Z ?_
 refine Bl h (fun _ h=>?_)
 refine Z ?_
 refine A6 h (fun (v9,v10,v11,v12)=>[(11,(O .i64 v9))]) (fun (v9,v10,v11,v12)=>[(2,.cells 39 [(An v10),(.sl 1 (List.map (O .u32) v11)),(.sl 1 (List.map (O .u32) v12))])]) ?_
 rintro ⟨v9,v10,v11,v12⟩ _ _ _ h _ _
 exact Y⟩
instance {a0:A8} {b0:List Ag}:OK (Zb a0 b0) fun r=>Ct Tryz.prog 88 [(.arr 0 b0.length 0 b0.length),F5 a0] [.rows 61 5 (List.map Bc b0)] (Cr r) [.rows 61 5 (List.map Bc b0)]:=⟨fun {r} h=>by
 refine aw C0 true Tryz.func88 ?_
 refine Z ?_
 refine Bl h (fun _ h=>?_)
 refine Z ?_
 refine A6 h (fun (v9,v10,v11,v12)=>[(11,(O .i64 v9))]) (fun (v9,v10,v11,v12)=>[(3,.cells 39 [(An v10),(.sl 1 (List.map (O .u32) v11)),(.sl 1 (List.map (O .u32) v12))])]) ?_
 rintro ⟨v9,v10,v11,v12⟩ _ _ _ h _ _
 exact Y⟩
instance {a0:Bh} {a1 a2:List Ag} {a3:Int}:OK (P5 a0 a1 a2 a3) fun r=>As Tryz.prog 42 [Ev a0,(Aw 5 Bc) a1,(Aw 5 Bc) a2,(O .i64) a3] (.tup [(Aw 5 Bc) r.1,(O .i64) r.2]):=⟨fun {r} h=>by
 refine pw {T:=B8,an:=(fun s=>bif Nat.beq s 10 then .own else .ask),nl:=(fun s=>bif Nat.beq s 10 then [(0,5)] else bif Nat.beq s 8 then [(0,5)] else [])} Tryz.func42 ?_
 refine ZS ?_
 refine Bt ?_
 refine ZO ?_
 refine Ar (Ar ?_)
 refine Bu h (fun v4=>[(24,(An v4))]) (fun v4=>[]) ?_ ?_
 intro _ h _ _ _
 exact Y
 rintro v4 _ h
 refine Ao h (fun _ h=>?_) (fun _ h=>?_)
 exact Y
 refine Z ?_
 refine Adu h (fun _ h=>?_)
 refine Z ?_
 refine Kh h (fun _ h=>?_)
 refine Z ?_
 refine A6 h (fun (v41,o42)=>[(10,(.arr 1 o42.length 0 o42.length)),(30,(O .i64 v41))]) (fun (v41,o42)=>[(1,.rows 61 5 (List.map Bc o42))]) ?_
 rintro ⟨v41,o42⟩ _ _ _ h _ _
 refine Z ?_
 refine Ao h (fun _ h=>?_) (fun _ h=>?_)
 refine Z ?_
 refine Hi h (fun _ _ _ _ h=>?_)
 refine Z ?_
 refine Bl h (fun _ h=>?_)
 refine Z ?_
 refine Bl h (fun _ h=>?_)
 refine Z ?_
 refine Bl h (fun _ h=>?_)
 refine ZO ?_
 refine Bu h (fun (v50,v51,v52)=>[]) (fun (v50,v51,v52)=>[(4,.cells 39 [(An v50),(.sl 1 (List.map (O .u32) v51)),(.sl 1 (List.map (O .u32) v52))])]) ?_ ?_
 intro _ h _ _ _
 exact Y
 rintro ⟨v50,v51,v52⟩ _ h
 refine Ar ?_
 refine Bu h (fun v56=>[(59,(An v56))]) (fun v56=>[]) ?_ ?_
 intro _ h _ _ _
 refine Z ?_
 refine Bl h (fun _ h=>?_)
 refine Z ?_
 refine Fx h (fun _ h=>?_) (fun _ h=>?_)
 refine Z ?_
 refine Bm [1] h (fun _ h=>?_)
 exact Y
 exact Y
 rintro v56 _ h
 exact Y
 replace h:=Ck h
 refine Z ?_
 refine Ao h (fun _ h=>?_) (fun _ h=>?_)
 exact Y
 refine K9 (Ar ?_)
 refine Dh [.fz 10] ?_
 exact Y⟩
instance {a0:Bh} {a1 a2:List Ag}:OK (R8 a0 a1 a2) fun r=>As Tryz.prog 10 [Ev a0,(Aw 5 Bc) a1,(Aw 5 Bc) a2] (.tup [(Aw 5 Bc) r.1,(O .i64) r.2]):=⟨fun {r} h=>by
 refine pw {T:=B8,an:=(fun _=>.ask),nl:=(fun s=>bif Nat.beq s 6 then [(0,5)] else [])} Tryz.func10 ?_
 exact Y⟩
instance {a0:Bh} {a1 a2:List Ag}:OK (R9 a0 a1 a2) fun r=>As Tryz.prog 12 [Ev a0,(Aw 5 Bc) a1,(Aw 5 Bc) a2] (.tup [(Aw 5 Bc) r.1,(O .i64) r.2]):=⟨fun {r} h=>by
 refine pw {T:=B8,an:=(fun _=>.ask),nl:=(fun s=>bif Nat.beq s 6 then [(0,5)] else [])} Tryz.func12 ?_
 exact Y⟩
instance {a0:Bh} {a1 a2:List Ag}:OK (Yg a0 a1 a2) fun r=>As Tryz.prog 3 [Ev a0,(Aw 5 Bc) a1,(Aw 5 Bc) a2] (An r):=⟨fun {r} h=>by
 refine pw C0 Tryz.func3 ?_
 exact Y⟩
end Go.Ab
