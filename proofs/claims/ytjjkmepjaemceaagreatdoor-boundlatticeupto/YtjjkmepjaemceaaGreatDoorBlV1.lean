/- The contracts of the functions, each by its walk (made by a program). -/
import Derived.Test.YtjjkmepjaemceaaGreatDoorBlV0
namespace Go.Ab
open Go Go.Proofs
set_option maxRecDepth 10000
set_option maxHeartbeats 4000000
set_option linter.unusedVariables false
abbrev Afv (k:Nat):Prop:=∀{a0:Ah},OK (K8 k a0) fun r=>Ar Tryz.prog 152 [C3 a0] ((O .i64) r)
theorem Anz (k:Nat):Afv k:=by
 induction k with
 | zero=>exact okz
 | succ k ih=>
  refine @fun a0=>⟨fun {r} h=>?_⟩
  .unfold K8 at h
   refine pw C0 Tryz.func152 ?_
   refine Z ?_
   refine A7 h (fun (v4,v5)=>[(3,(O .i64 v4)),(4,(O .i64 v5))]) (fun (v4,v5)=>[]) ?_
   rintro ⟨v4,v5⟩ _ _ _ h _ _
   exact Y
instance {k:Nat}:Afv k:=(Anz k)
abbrev Afw (k:Nat):Prop:=∀{a0:List As} {a1:Ah} {a2:Int},OK (Mb k a0 a1 a2) fun r=>Ar Tryz.prog 153 [(Aw 3 B7) a0,C3 a1,(O .i64) a2] (Am r)
theorem An0 (k:Nat):Afw k:=by
 induction k with
 | zero=>exact okz
 | succ k ih=>
  refine @fun a0 a1 a2=>⟨fun {r} h=>?_⟩
  .unfold Mb at h
   refine pw C0 Tryz.func153 ?_
   refine ZS ?_
   refine Bp ?_
   refine ZS ?_
   refine Bp ?_
   refine ZS ?_
   refine Bp ?_
   refine ZO ?_
   refine Tt (fun (x:Unit)=>(.inr x)) h (fun _=>[(6,(Am false))]) (fun _=>[]) ?_ ?_
   intro _ h _ _ _
   refine ZS ?_
   refine Bp ?_
   refine ZO ?_
   refine Bq h (fun v2=>[(14,(Am v2))]) (fun v2=>[]) ?_ ?_
   intro _ h _ _ _
   exact Y
   rintro v2 _ h
   refine Ap h (fun _ h=>?_) (fun _ h=>?_)
   exact Y
   refine Z ?_
   refine Ap h (fun _ h=>?_) (fun _ h=>?_)
   exact Y
   refine Z ?_
   refine Ap h (fun _ h=>?_) (fun _ h=>?_)
   exact Y
   refine Z ?_
   refine Ap h (fun _ h=>?_) (fun _ h=>?_)
   exact Y
   refine ZS ?_
   refine Bp ?_
   refine ZO ?_
   refine Bq h (fun v4=>[(75,(Am v4))]) (fun v4=>[]) ?_ ?_
   intro _ h _ _ _
   exact Y
   rintro v4 _ h
   exact Y
   rintro _ _ h
   refine Z ?_
   refine A7 h (fun v8=>[(6,(Am false)),(8,(O .i64 v8))]) (fun v8=>[]) ?_
   rintro v8 _ _ _ h _ _
   exact Y
instance {k:Nat}:Afw k:=(An0 k)
instance {a0:List As} {a1:Ah} {a2:Int}:OK (K4 a0 a1 a2) fun r=>Ar Tryz.prog 88 [(Aw 3 B7) a0,C3 a1,(O .i64) a2] (Am r):=⟨fun {r} h=>by
 refine pw C0 Tryz.func88 ?_
 exact Y⟩
instance {a0:Ah} {a1 a2:Int}:OK (K7 a0 a1 a2) fun r=>Ar Tryz.prog 150 [C3 a0,(O .i64) a1,(O .i64) a2] (Am r):=⟨fun {r} h=>by
 refine pw C0 Tryz.func150 ?_
 refine ZS ?_
 refine Bp ?_
 refine ZO ?_
 refine Ay (Ay ?_)
 refine Bq h (fun v2=>[(23,(Am v2))]) (fun v2=>[]) ?_ ?_
 intro _ h _ _ _
 exact Y
 rintro v2 _ h
 refine Ap h (fun _ h=>?_) (fun _ h=>?_)
 exact Y
 refine Z ?_
 refine A7 h (fun v6=>[(6,(Am false)),(7,(O .i64 v6))]) (fun v6=>[]) ?_
 rintro v6 _ _ _ h _ _
 exact Y⟩
instance {a0:List ByteArray}:OK (P0 a0) fun r=>Ar Tryz.prog 151 [(Aw 1 C8) a0] (Am r):=⟨fun {r} h=>by
 refine pw C0 Tryz.func151 ?_
 refine Z ?_
 refine A7 h (fun v1=>[(2,(Am false)),(3,(O .i64 v1))]) (fun v1=>[]) ?_
 rintro v1 _ _ _ h _ _
 refine Z ?_
 refine Ap h (fun _ h=>?_) (fun _ h=>?_)
 refine Z ?_
 refine A7 h (fun v4=>[(2,(Am false)),(4,(O .i64 v4))]) (fun v4=>[]) ?_
 rintro v4 _ _ _ h _ _
 exact Y
 exact Y⟩
instance {a0:ByteArray}:OK (V3 a0) fun r=>Ar Tryz.prog 285 [C8 a0] (Am r):=⟨fun {r} h=>by
 refine pw C0 Tryz.func285 ?_
 refine Z ?_
 refine A7 h (fun v2=>[(2,(Am false)),(4,(O .i64 v2))]) (fun v2=>[]) ?_
 rintro v2 _ _ _ h _ _
 refine Z ?_
 refine Aeg (f:=C8) (l:=[(ByteArray.mk #[97,114,114,97,121]),(ByteArray.mk #[98,111,111,108]),(ByteArray.mk #[99,97,116,99,104]),(ByteArray.mk #[100,97,116,97]),(ByteArray.mk #[101,108,115,101]),(ByteArray.mk #[101,110,100]),(ByteArray.mk #[102,97,108,115,101]),(ByteArray.mk #[102,110]),(ByteArray.mk #[102,117,110]),(ByteArray.mk #[103,101,116]),(ByteArray.mk #[105,102]),(ByteArray.mk #[105,110]),(ByteArray.mk #[105,110,116]),(ByteArray.mk #[108,101,110]),(ByteArray.mk #[108,101,116]),(ByteArray.mk #[109,97,116,99,104]),(ByteArray.mk #[110,101,119]),(ByteArray.mk #[114,97,105,115,101]),(ByteArray.mk #[114,101,97,100]),(ByteArray.mk #[114,101,102]),(ByteArray.mk #[115,101,116]),(ByteArray.mk #[116,104,101,110]),(ByteArray.mk #[116,105,99,107]),(ByteArray.mk #[116,114,117,101]),(ByteArray.mk #[116,114,121]),(ByteArray.mk #[117,110,105,116]),(ByteArray.mk #[119,105,116,104]),(ByteArray.mk #[119,114,105,116,101])]) rfl ?_
 refine Z ?_
 refine Ap h (fun _ h=>?_) (fun _ h=>?_)
 refine Z ?_
 refine Aeb (f:=C8) rfl h (fun nv3 v3 hiv3 hxv3 h=>?_)
 exact Y
 exact Y⟩
instance {a0:ByteArray}:OK (Tc a0) fun r=>Ar Tryz.prog 286 [C8 a0] (.tup [(O .i64) r.1,Am r.2]):=⟨fun {r} h=>by
 refine pw C0 Tryz.func286 ?_
 refine Z ?_
 refine A7 h (fun (v2,v3)=>[(2,(O .i64 0)),(3,(Am false)),(4,(O .i64 v2)),(5,(O .i64 v3))]) (fun (v2,v3)=>[]) ?_
 rintro ⟨v2,v3⟩ _ _ _ h _ _
 exact Y⟩
instance {a0:Int}:OK (P9 a0) fun r=>Ar Tryz.prog 284 [(O .u8) a0] (Am r):=⟨fun {r} h=>by
 refine pw C0 Tryz.func284 ?_
 exact Y⟩
instance {a0:Int}:OK (Tb a0) fun r=>Ar Tryz.prog 282 [(O .u8) a0] (Am r):=⟨fun {r} h=>by
 refine pw C0 Tryz.func282 ?_
 exact Y⟩
instance {a0:ByteArray}:OK (Td a0) fun r=>Ar Tryz.prog 287 [C8 a0] ((O .i64) r):=⟨fun {r} h=>by
 refine pw C0 Tryz.func287 ?_
 refine ZS ?_
 refine Bp ?_
 refine ZO ?_
 refine Ay (Ay ?_)
 refine Bq h (fun v4=>[(22,(Am v4))]) (fun v4=>[]) ?_ ?_
 intro _ h _ _ _
 exact Y
 rintro v4 _ h
 refine Ap h (fun _ h=>?_) (fun _ h=>?_)
 exact Y
 refine Z ?_
 refine A7 h (fun v7=>[(2,(O .i64 0)),(4,(O .i64 v7))]) (fun v7=>[]) ?_
 rintro v7 _ _ _ h _ _
 exact Y⟩
instance {a0:Int}:OK (P8 a0) fun r=>Ar Tryz.prog 283 [(O .u8) a0] (Am r):=⟨fun {r} h=>by
 refine pw C0 Tryz.func283 ?_
 exact Y⟩
instance {a0:ByteArray}:OK (V1 a0) fun r=>Ar Tryz.prog 227 [C8 a0] (.tup [(Aw 3 Aab) r.1,(O .i64) r.2.1,(O .i64) r.2.2]):=⟨fun {r} h=>by
 refine pw {T:=Ca,an:=(fun s=>bif Nat.beq s 5 then .own else .ask),nl:=(fun s=>bif Nat.beq s 5 then [(0,3)] else bif Nat.beq s 2 then [(0,3)] else [])} Tryz.func227 ?_
 refine Z ?_
 refine Ap h (fun _ h=>?_) (fun _ h=>?_)
 exact Y
 refine Z ?_
 refine A7 h (fun (v49,o50)=>[(2,(.sl 3 (List.map Aab []))),(3,(O .i64 0)),(4,(O .i64 0)),(5,(.arr 0 o50.length 0 o50.length)),(6,(O .i64 v49))]) (fun (v49,o50)=>[(0,.rows 273 3 (List.map Aab o50))]) ?_
 rintro ⟨v49,o50⟩ _ _ _ h _ _
 refine Z ?_
 refine Ap h (fun _ h=>?_) (fun _ h=>?_)
 refine Z ?_
 refine Jm h (fun _ h=>?_)
 refine ZO ?_
 refine Ay (Ay ?_)
 refine Bq h (fun v52=>[(35,(Am v52))]) (fun v52=>[]) ?_ ?_
 intro _ h _ _ _
 exact Y
 rintro v52 _ h
 refine Ap h (fun _ h=>?_) (fun _ h=>?_)
 exact Y
 refine Z ?_
 refine Ap h (fun _ h=>?_) (fun _ h=>?_)
 refine Z ?_
 refine A7 h (fun v54=>[(6,(O .i64 v54))]) (fun v54=>[]) ?_
 rintro v54 _ _ _ h _ _
 exact Y
 refine ZS ?_
 refine Bp ?_
 refine ZO ?_
 refine Ay (Jo (Ay ?_))
 refine Bq h (fun v59=>[(70,(Am v59))]) (fun v59=>[]) ?_ ?_
 intro _ h _ _ _
 exact Y
 rintro v59 _ h
 refine Ap h (fun _ h=>?_) (fun _ h=>?_)
 refine Z ?_
 refine A7 h (fun v67=>[(8,(O .i64 v67))]) (fun v67=>[]) ?_
 rintro v67 _ _ _ h _ _
 refine Z ?_
 refine Fs h (fun _ h=>?_) (fun _ h=>?_)
 refine Z ?_
 refine Jm h (fun _ h=>?_)
 refine Z ?_
 refine Bo h (fun _ h=>?_)
 refine Z ?_
 refine Fs h (fun _ h=>?_) (fun _ h=>?_)
 exact Y
 refine Z ?_
 refine Jm h (fun _ h=>?_)
 refine Z ?_
 refine Bo h (fun _ h=>?_)
 refine Z ?_
 refine Fs h (fun _ h=>?_) (fun _ h=>?_)
 exact Y
 refine Z ?_
 refine Jm h (fun _ h=>?_)
 refine Z ?_
 refine Bo h (fun _ h=>?_)
 refine Z ?_
 refine Fs h (fun _ h=>?_) (fun _ h=>?_)
 exact Y
 refine Z ?_
 refine Jm h (fun _ h=>?_)
 refine Z ?_
 refine Ap h (fun _ h=>?_) (fun _ h=>?_)
 exact Y
 replace h:=C1 h
 refine Z ?_
 refine Ap h (fun _ h=>?_) (fun _ h=>?_)
 exact Y
 refine Z ?_
 refine Bo h (fun _ h=>?_)
 refine ZO ?_
 refine Bq h (fun v79=>[(9,(O .i64 v79))]) (fun v79=>[]) ?_ ?_
 intro _ h _ _ _
 exact Y
 rintro v79 _ h
 exact Y
 replace h:=C1 h
 refine Z ?_
 refine Ap h (fun _ h=>?_) (fun _ h=>?_)
 exact Y
 refine Z ?_
 refine Bo h (fun _ h=>?_)
 refine ZO ?_
 refine Bq h (fun v79=>[(9,(O .i64 v79))]) (fun v79=>[]) ?_ ?_
 intro _ h _ _ _
 exact Y
 rintro v79 _ h
 exact Y
 refine Z ?_
 refine Bo h (fun _ h=>?_)
 refine Z ?_
 refine Ap h (fun _ h=>?_) (fun _ h=>?_)
 refine Z ?_
 refine A7 h (fun v85=>[(8,(O .i64 v85))]) (fun v85=>[]) ?_
 rintro v85 _ _ _ h _ _
 refine Z ?_
 refine Fs h (fun _ h=>?_) (fun _ h=>?_)
 refine Z ?_
 refine Jm h (fun _ h=>?_)
 refine Z ?_
 refine Bo h (fun _ h=>?_)
 refine Z ?_
 refine Ap h (fun _ h=>?_) (fun _ h=>?_)
 exact Y
 replace h:=C1 h
 refine Gf (Gd rfl (Ay (Ay ?_)))
 refine Bq h (fun v89=>[(165,(Am v89))]) (fun v89=>[]) ?_ ?_
 intro _ h _ _ _
 exact Y
 rintro v89 _ h
 exact Y
 replace h:=C1 h
 refine ZO ?_
 refine Rz (Gf (Gd rfl (Ay (Ay ?_))))
 refine Bq h (fun v89=>[(165,(Am v89))]) (fun v89=>[]) ?_ ?_
 intro _ h _ _ _
 exact Y
 rintro v89 _ h
 exact Y
 exact Y
 exact Y⟩
instance {a0:ByteArray}:OK (Nz a0) fun r=>Ar Tryz.prog 149 [C8 a0] (Am r):=⟨fun {r} h=>by
 refine pw C0 Tryz.func149 ?_
 exact Y⟩
instance {a0:List As}:OK (Sb a0) fun r=>Ar Tryz.prog 87 [(Aw 3 B7) a0] (Am r):=⟨fun {r} h=>by
 refine pw {T:=Ca,an:=(fun s=>bif Nat.beq s 4 then .own else bif Nat.beq s 3 then .own else .ask),nl:=(fun s=>bif Nat.beq s 4 then [(0,1)] else bif Nat.beq s 3 then [(0,1)] else [])} Tryz.func87 ?_
 refine Z ?_
 refine Ap h (fun _ h=>?_) (fun _ h=>?_)
 exact Y
 refine Z ?_
 refine A7 h (fun (v150,o151,o152)=>[(2,(Am false)),(3,(.arr 0 o151.length 0 o151.length)),(4,(.arr 1 o152.length 0 o152.length)),(5,(O .i64 v150))]) (fun (v150,o151,o152)=>[(0,.rows 9 1 (List.map C8 o151)),(1,.rows 9 1 (List.map C8 o152))]) ?_
 rintro ⟨v150,o151,o152⟩ _ _ _ h _ _
 refine Z ?_
 refine Ap h (fun _ h=>?_) (fun _ h=>?_)
 refine Z ?_
 refine Ce h (fun _ _ _ _ h=>?_)
 refine ZO ?_
 refine Ay (Ay ?_)
 refine Bq h (fun v156=>[(48,(Am v156))]) (fun v156=>[]) ?_ ?_
 intro _ h _ _ _
 exact Y
 rintro v156 _ h
 refine Ap h (fun _ h=>?_) (fun _ h=>?_)
 exact Y
 refine Z ?_
 refine Oo h (fun _ h=>?_)
 refine Z ?_
 refine A7 h (fun (v200,o201)=>[(2,(Am false)),(4,(.arr 1 o201.length 0 o201.length)),(7,(O .i64 v200))]) (fun (v200,o201)=>[(1,.rows 9 1 (List.map C8 o201))]) ?_
 rintro ⟨v200,o201⟩ _ _ _ h _ _
 refine Z ?_
 refine Ap h (fun _ h=>?_) (fun _ h=>?_)
 refine Jn (Ay (Jo (Ay (Ay ?_))))
 refine Bq h (fun v205=>[(78,(Am v205))]) (fun v205=>[]) ?_ ?_
 intro _ h _ _ _
 exact Y
 rintro v205 _ h
 refine Ap h (fun _ h=>?_) (fun _ h=>?_)
 exact Y
 refine Z ?_
 refine Ce h (fun _ _ _ _ h=>?_)
 refine Z ?_
 refine Oo h (fun _ h=>?_)
 refine Z ?_
 refine Ce h (fun _ _ _ _ h=>?_)
 refine Z ?_
 refine A7 h (fun v214=>[(2,(Am false)),(95,(O .i64 v214))]) (fun v214=>[]) ?_
 rintro v214 _ _ _ h _ _
 exact Y
 exact Y
 replace h:=C1 h
 refine Gf (Gd rfl (Ay ?_))
 refine D7 [.fz 3,.fz 4] ?_
 exact Y⟩
instance {a0:B0}:OK (R4 a0) fun r=>Ar Tryz.prog 53 [E3 a0] (Am r):=⟨fun {r} h=>by
 refine pw C0 Tryz.func53 ?_
 refine ZS ?_
 refine Bp ?_
 refine ZO ?_
 refine Ay (Ay ?_)
 refine Bq h (fun v4=>[(22,(Am v4))]) (fun v4=>[]) ?_ ?_
 intro _ h _ _ _
 exact Y
 rintro v4 _ h
 refine Ap h (fun _ h=>?_) (fun _ h=>?_)
 exact Y
 refine Z ?_
 refine A7 h (fun v8=>[(2,(Am false)),(26,(O .i64 v8))]) (fun v8=>[]) ?_
 rintro v8 _ _ _ h _ _
 exact Y⟩
instance {a0 a1:A3}:OK (Sg a0 a1) fun r=>Ar Tryz.prog 109 [Cy a0,Cy a1] (Am r):=⟨fun {r} h=>by
 refine pw C0 Tryz.func109 ?_
 refine ZS ?_
 refine Bp ?_
 refine ZO ?_
 refine Ay (Ay ?_)
 refine Bq h (fun v3=>[(29,(Am v3))]) (fun v3=>[]) ?_ ?_
 intro _ h _ _ _
 exact Y
 rintro v3 _ h
 refine Ap h (fun _ h=>?_) (fun _ h=>?_)
 exact Y
 refine Z ?_
 refine A7 h (fun v6=>[(4,(Am false)),(5,(O .i64 v6))]) (fun v6=>[]) ?_
 rintro v6 _ _ _ h _ _
 refine Z ?_
 refine Ap h (fun _ h=>?_) (fun _ h=>?_)
 exact Y
 replace h:=C1 h
 refine Z ?_
 refine A7 h (fun v12=>[(4,(Am false)),(6,(O .i64 v12))]) (fun v12=>[]) ?_
 rintro v12 _ _ _ h _ _
 exact Y⟩
instance {a0:Bool}:OK (P6 a0) fun r=>Ar Tryz.prog 199 [Am a0] ((O .i64) r):=⟨fun {r} h=>by
 refine pw C0 Tryz.func199 ?_
 exact Y⟩
abbrev Afx (k:Nat):Prop:=∀{a0 a1:A6},OK (Ma k a0 a1) fun r=>Ar Tryz.prog 124 [Ek a0,Ek a1] ((O .i64) r)
abbrev Afy (k:Nat):Prop:=∀{a0 a1:List A6},OK (Sv k a0 a1) fun r=>Ar Tryz.prog 200 [(Fj 2 Gg) a0,(Fj 2 Gg) a1] ((O .i64) r)
theorem Afz (k:Nat):Afx k/\Afy k:=by
 induction k with
 | zero=>exact ⟨okz,okz⟩
 | succ k ih=>
  obtain ⟨i0_,i1_⟩:=ih
  refine ⟨@fun a0 a1=>⟨fun {r} h=>?_⟩,@fun a0 a1=>⟨fun {r} h=>?_⟩⟩
  .unfold Ma at h
   refine pw C0 Tryz.func124 ?_
   exact Y
  .unfold Sv at h
   refine pw C0 Tryz.func200 ?_
   refine Z ?_
   refine Ap h (fun _ h=>?_) (fun _ h=>?_)
   exact Y
   refine Z ?_
   refine A7 h (fun v5=>[(4,(O .i64 0)),(20,(O .i64 v5))]) (fun v5=>[]) ?_
   rintro v5 _ _ _ h _ _
   exact Y
instance {k:Nat}:Afx k:=(Afz k).1
instance {k:Nat}:Afy k:=(Afz k).2
instance {a0:Bool}:OK (N4 a0) fun r=>Ar Tryz.prog 201 [Am a0] ((O .i64) r):=⟨fun {r} h=>by
 refine pw C0 Tryz.func201 ?_
 exact Y⟩
instance {a0 a1:Di}:OK (K6 a0 a1) fun r=>Ar Tryz.prog 125 [I0 a0,I0 a1] ((O .i64) r):=⟨fun {r} h=>by
 refine pw C0 Tryz.func125 ?_
 refine Z ?_
 refine Ap h (fun _ h=>?_) (fun _ h=>?_)
 exact Y
 refine Z ?_
 refine A7 h (fun v14=>[(4,(O .i64 0)),(24,(O .i64 v14))]) (fun v14=>[]) ?_
 rintro v14 _ _ _ h _ _
 exact Y⟩
instance {a0:Bool}:OK (Nv a0) fun r=>Ar Tryz.prog 123 [Am a0] ((O .i64) r):=⟨fun {r} h=>by
 refine pw C0 Tryz.func123 ?_
 exact Y⟩
instance {a0 a1:Bi}:OK (Nt a0 a1) fun r=>Ar Tryz.prog 65 [Gi a0,Gi a1] ((O .i64) r):=⟨fun {r} h=>by
 refine pw C0 Tryz.func65 ?_
 refine Z ?_
 refine Ap h (fun _ h=>?_) (fun _ h=>?_)
 exact Y
 refine Z ?_
 refine A7 h (fun v12=>[(4,(O .i64 0)),(27,(O .i64 v12))]) (fun v12=>[]) ?_
 rintro v12 _ _ _ h _ _
 refine Z ?_
 refine Ap h (fun _ h=>?_) (fun _ h=>?_)
 exact Y
 replace h:=C1 h
 refine Z ?_
 refine Ap h (fun _ h=>?_) (fun _ h=>?_)
 exact Y
 refine Z ?_
 refine A7 h (fun v31=>[(4,(O .i64 0)),(92,(O .i64 v31))]) (fun v31=>[]) ?_
 rintro v31 _ _ _ h _ _
 exact Y⟩
instance {a0:List As} {a1 a2:Int}:OK (Aae a0 a1 a2) fun r=>Ar Tryz.prog 229 [(Aw 3 B7) a0,(O .i64) a1,(O .i64) a2] ((Aw 1 Am) r):=⟨fun {r} h=>by
 refine pw {T:=Ca,an:=(fun s=>bif Nat.beq s 7 then .own else .ask),nl:=(fun s=>bif Nat.beq s 7 then [(0,1)] else bif Nat.beq s 6 then [(0,1)] else [])} Tryz.func229 ?_
 refine ZS ?_
 refine Bp ?_
 refine ZO ?_
 refine Ay (Ay ?_)
 refine Bq h (fun v2=>[(31,(Am v2))]) (fun v2=>[]) ?_ ?_
 intro _ h _ _ _
 exact Y
 rintro v2 _ h
 refine Ap h (fun _ h=>?_) (fun _ h=>?_)
 exact Y
 refine Z ?_
 refine Ce h (fun _ _ _ _ h=>?_)
 refine Z ?_
 refine Ce h (fun _ _ _ _ h=>?_)
 refine Z ?_
 refine A7 h (fun (v18,o19)=>[(7,(.arr 0 o19.length 0 o19.length)),(42,(O .i64 v18))]) (fun (v18,o19)=>[(0,.rows 4 1 (List.map Am o19))]) ?_
 rintro ⟨v18,o19⟩ _ _ _ h _ _
 exact Y⟩
abbrev Af0 (k:Nat):Prop:=∀{a0:Ah},OK (Oe k a0) fun r=>Ar Tryz.prog 288 [C3 a0] (C3 r)
theorem An1 (k:Nat):Af0 k:=by
 induction k with
 | zero=>exact okz
 | succ k ih=>
  refine @fun a0=>⟨fun {r} h=>?_⟩
  .unfold Oe at h
   refine pw {T:=Ca,an:=(fun _=>.ask),nl:=(fun s=>bif Nat.beq s 18 then [(0,3)] else [])} Tryz.func288 ?_
   refine ZS ?_
   refine Bp ?_
   refine ZS ?_
   refine Bp ?_
   refine ZO ?_
   refine Ay (Ay ?_)
   refine D7 [.own 3 2 25 3] ?_
   refine Z ?_
   refine A7 h (fun (v13,o14)=>[(4,(O .i64 v13))]) (fun (v13,o14)=>[(2,.cells 25 [(O .i64 a0.Kind),(O .i64 a0.Num),(.arr 3 o14.length 0 o14.length)]),(3,.rows 25 3 (Bh o14))]) ?_
   rintro ⟨v13,o14⟩ _ _ _ h _ _
   exact Y
instance {k:Nat}:Af0 k:=(An1 k)
abbrev Af1 (k:Nat):Prop:=∀{a0:Ah} {a1:List Ah},OK (Mi k a0 a1) fun r=>Ar Tryz.prog 228 [C3 a0,(Fj 3 Bh) a1] (C3 r)
theorem An2 (k:Nat):Af1 k:=by
 induction k with
 | zero=>exact okz
 | succ k ih=>
  refine @fun a0 a1=>⟨fun {r} h=>?_⟩
  .unfold Mi at h
   refine pw {T:=Ca,an:=(fun _=>.ask),nl:=(fun s=>bif Nat.beq s 41 then [(0,3)] else [])} Tryz.func228 ?_
   refine ZS ?_
   refine Bp ?_
   refine ZO ?_
   refine Ay (Ay ?_)
   refine Bq h (fun v3=>[(21,(Am v3))]) (fun v3=>[]) ?_ ?_
   intro _ h _ _ _
   exact Y
   rintro v3 _ h
   refine Ap h (fun _ h=>?_) (fun _ h=>?_)
   exact Y
   refine ZS ?_
   refine Bp ?_
   refine ZO ?_
   refine Ay (Ay ?_)
   refine D7 [.own 5 2 25 3] ?_
   refine Z ?_
   refine A7 h (fun (v16,o17)=>[(6,(O .i64 v16))]) (fun (v16,o17)=>[(2,.cells 25 [(O .i64 a0.Kind),(O .i64 a0.Num),(.arr 3 o17.length 0 o17.length)]),(3,.rows 25 3 (Bh o17))]) ?_
   rintro ⟨v16,o17⟩ _ _ _ h _ _
   exact Y
instance {k:Nat}:Af1 k:=(An2 k)
instance {a0:List As} {a1:Ah} {a2:Int}:OK (Qp a0 a1 a2) fun r=>Ar Tryz.prog 155 [(Aw 3 B7) a0,C3 a1,(O .i64) a2] (.tup [(Fj 3 Bh) r.1,Am r.2]):=⟨fun {r} h=>by
 refine pw {T:=Ca,an:=(fun s=>bif Nat.beq s 8 then .own else .ask),nl:=(fun s=>bif Nat.beq s 8 then [(0,3)] else bif Nat.beq s 6 then [(0,3)] else [])} Tryz.func155 ?_
 refine ZS ?_
 refine Bp ?_
 refine ZO ?_
 refine Ay (Ay ?_)
 refine Bq h (fun v4=>[(53,(Am v4))]) (fun v4=>[]) ?_ ?_
 intro _ h _ _ _
 exact Y
 rintro v4 _ h
 refine Ap h (fun _ h=>?_) (fun _ h=>?_)
 exact Y
 refine Z ?_
 refine Ce h (fun _ _ _ _ h=>?_)
 refine Z ?_
 refine Ce h (fun _ _ _ _ h=>?_)
 refine Z ?_
 refine A7 h (fun (v22,o23)=>[(6,(.sl 3 (Bh []))),(7,(Am false)),(8,(.arr 1 o23.length 0 o23.length)),(65,(O .i64 v22))]) (fun (v22,o23)=>[(1,.rows 25 3 (Bh o23))]) ?_
 rintro ⟨v22,o23⟩ _ _ _ h _ _
 exact Y⟩
instance {a0:List As} {a1:Ah} {a2:Int}:OK (Tf a0 a1 a2) fun r=>Ar Tryz.prog 293 [(Aw 3 B7) a0,C3 a1,(O .i64) a2] (.tup [(Aw 1 (O .i64)) r.1,(Aw 1 (O .i64)) r.2.1,Am r.2.2]):=⟨fun {r} h=>by
 refine pw {T:=Ca,an:=(fun s=>bif Nat.beq s 12 then .own else bif Nat.beq s 11 then .own else .ask),nl:=(fun s=>bif Nat.beq s 12 then [(0,1)] else bif Nat.beq s 11 then [(0,1)] else bif Nat.beq s 7 then [(0,1)] else bif Nat.beq s 6 then [(0,1)] else [])} Tryz.func293 ?_
 refine Z ?_
 refine Bo h (fun _ h=>?_)
 refine Z ?_
 refine Ap h (fun _ h=>?_) (fun _ h=>?_)
 exact Y
 refine Z ?_
 refine Bo h (fun _ h=>?_)
 refine Z ?_
 refine A7 h (fun (v15,o16,o17)=>[(11,(.arr 1 o16.length 0 o16.length)),(12,(.arr 2 o17.length 0 o17.length)),(30,(O .i64 v15))]) (fun (v15,o16,o17)=>[(1,.rows 3 1 (List.map (O .i64) o16)),(2,.rows 3 1 (List.map (O .i64) o17))]) ?_
 rintro ⟨v15,o16,o17⟩ _ _ _ h _ _
 exact Y⟩
instance {a0:List As} {a1:Ah} {a2:Int}:OK (P7 a0 a1 a2) fun r=>Ar Tryz.prog 236 [(Aw 3 B7) a0,C3 a1,(O .i64) a2] (.tup [(Fj 3 Bh) r.1,Am r.2]):=⟨fun {r} h=>by
 refine pw {T:=Ca,an:=(fun s=>bif Nat.beq s 13 then .own else .ask),nl:=(fun s=>bif Nat.beq s 13 then [(0,3)] else bif Nat.beq s 6 then [(0,3)] else [])} Tryz.func236 ?_
 refine Z ?_
 refine Bo h (fun _ h=>?_)
 refine Z ?_
 refine Ap h (fun _ h=>?_) (fun _ h=>?_)
 exact Y
 refine Z ?_
 refine Bo h (fun _ h=>?_)
 refine Z ?_
 refine A7 h (fun (v13,o14)=>[(13,(.arr 1 o14.length 0 o14.length)),(35,(O .i64 v13))]) (fun (v13,o14)=>[(1,.rows 25 3 (Bh o14))]) ?_
 rintro ⟨v13,o14⟩ _ _ _ h _ _
 exact Y⟩
abbrev Af2 (k:Nat):Prop:=∀{a0:List As} {a1:Ah} {a2:A6},OK (Mc k a0 a1 a2) fun r=>Ar Tryz.prog 164 [(Aw 3 B7) a0,C3 a1,Ek a2] ((O .i64) r)
abbrev Af3 (k:Nat):Prop:=∀{a0:List As} {a1:List Ah} {a2:List A6},OK (Mj k a0 a1 a2) fun r=>Ar Tryz.prog 235 [(Aw 3 B7) a0,(Fj 3 Bh) a1,(Fj 2 Gg) a2] ((O .i64) r)
theorem Af4 (k:Nat):Af2 k/\Af3 k:=by
 induction k with
 | zero=>exact ⟨okz,okz⟩
 | succ k ih=>
  obtain ⟨i0_,i1_⟩:=ih
  refine ⟨@fun a0 a1 a2=>⟨fun {r} h=>?_⟩,@fun a0 a1 a2=>⟨fun {r} h=>?_⟩⟩
  .unfold Mc at h
   refine pw C0 Tryz.func164 ?_
   refine Z ?_
   refine Ap h (fun _ h=>?_) (fun _ h=>?_)
   exact Y
   refine Z ?_
   refine Ap h (fun _ h=>?_) (fun _ h=>?_)
   exact Y
   refine Z ?_
   refine Ap h (fun _ h=>?_) (fun _ h=>?_)
   refine Ay (Ay ?_)
   refine Bq h (fun v4=>[(54,(Am v4))]) (fun v4=>[]) ?_ ?_
   intro _ h _ _ _
   exact Y
   rintro v4 _ h
   refine Ap h (fun _ h=>?_) (fun _ h=>?_)
   exact Y
   refine Z ?_
   refine A7 h (fun (v10,v11)=>[(6,(O .i64 0)),(7,(O .i64 v10)),(58,(O .i64 v11))]) (fun (v10,v11)=>[]) ?_
   rintro ⟨v10,v11⟩ _ _ _ h _ _
   refine Z ?_
   refine Ap h (fun _ h=>?_) (fun _ h=>?_)
   refine Z ?_
   refine Ce h (fun _ _ _ _ h=>?_)
   refine ZO ?_
   refine Ay (Ay ?_)
   refine Bq h (fun v14=>[(69,(Am v14))]) (fun v14=>[]) ?_ ?_
   intro _ h _ _ _
   exact Y
   rintro v14 _ h
   exact Y
   exact Y
   exact Y
  .unfold Mj at h
   refine pw C0 Tryz.func235 ?_
   refine Z ?_
   refine Ap h (fun _ h=>?_) (fun _ h=>?_)
   exact Y
   refine Z ?_
   refine A7 h (fun (v4,v5)=>[(6,(O .i64 0)),(7,(O .i64 v4)),(17,(O .i64 v5))]) (fun (v4,v5)=>[]) ?_
   rintro ⟨v4,v5⟩ _ _ _ h _ _
   exact Y
instance {k:Nat}:Af2 k:=(Af4 k).1
instance {k:Nat}:Af3 k:=(Af4 k).2
instance {a0:List As} {a1:Ah} {a2:A6}:OK (P3 a0 a1 a2) fun r=>Ar Tryz.prog 168 [(Aw 3 B7) a0,C3 a1,Ek a2] ((O .i64) r):=⟨fun {r} h=>by
 refine pw C0 Tryz.func168 ?_
 exact Y⟩
instance {a0:Di}:OK (N1 a0) fun r=>Ar Tryz.prog 169 [I0 a0] (Am r):=⟨fun {r} h=>by
 refine pw C0 Tryz.func169 ?_
 refine ZS ?_
 refine Bp ?_
 refine ZO ?_
 refine Ay (Ay ?_)
 refine Bq h (fun v2=>[(18,(Am v2))]) (fun v2=>[]) ?_ ?_
 intro _ h _ _ _
 exact Y
 rintro v2 _ h
 refine Ap h (fun _ h=>?_) (fun _ h=>?_)
 exact Y
 refine Z ?_
 refine A7 h (fun v5=>[(2,(Am false)),(22,(O .i64 v5))]) (fun v5=>[]) ?_
 rintro v5 _ _ _ h _ _
 exact Y⟩
instance {a0:B0} {a1:Int}:OK (N0 a0 a1) fun r=>Ar Tryz.prog 167 [E3 a0,(O .i64) a1] (.tup [C3 r.1,Am r.2]):=⟨fun {r} h=>by
 refine pw {T:=Ca,an:=(fun _=>.ask),nl:=(fun s=>bif Nat.beq s 19 then [(2,3)] else [])} Tryz.func167 ?_
 refine Z ?_
 refine Ap h (fun _ h=>?_) (fun _ h=>?_)
 exact Y
 refine Jn (Ay (Ay ?_))
 refine Bq h (fun v3=>[(18,(Am v3))]) (fun v3=>[]) ?_ ?_
 intro _ h _ _ _
 exact Y
 rintro v3 _ h
 exact Y⟩
instance {a0:B0} {a1:Di}:OK (N2 a0 a1) fun r=>Ar Tryz.prog 170 [E3 a0,I0 a1] (Am r):=⟨fun {r} h=>by
 refine pw C0 Tryz.func170 ?_
 refine Z ?_
 refine A7 h (fun v7=>[(4,(Am false)),(12,(O .i64 v7))]) (fun v7=>[]) ?_
 rintro v7 _ _ _ h _ _
 exact Y⟩
instance {a0:B0} {a1:Bi}:OK (Sf a0 a1) fun r=>Ar Tryz.prog 108 [E3 a0,Gi a1] ((O .i64) r):=⟨fun {r} h=>by
 refine pw C0 Tryz.func108 ?_
 refine Z ?_
 refine A7 h (fun (v9,v10)=>[(4,(O .i64 0)),(5,(O .i64 v9)),(16,(O .i64 v10))]) (fun (v9,v10)=>[]) ?_
 rintro ⟨v9,v10⟩ _ _ _ h _ _
 refine Z ?_
 refine Ap h (fun _ h=>?_) (fun _ h=>?_)
 refine Z ?_
 refine Ce h (fun _ _ _ _ h=>?_)
 refine Z ?_
 refine Bo h (fun _ h=>?_)
 refine ZO ?_
 refine Ay (Ay ?_)
 refine Bq h (fun v16=>[(45,(Am v16))]) (fun v16=>[]) ?_ ?_
 intro _ h _ _ _
 exact Y
 rintro v16 _ h
 exact Y
 replace h:=C1 h
 refine Z ?_
 refine A7 h (fun (v24,v25)=>[(4,(O .i64 0)),(5,(O .i64 v24)),(61,(O .i64 v25))]) (fun (v24,v25)=>[]) ?_
 rintro ⟨v24,v25⟩ _ _ _ h _ _
 exact Y⟩
instance {a0:B0} {a1:List Aj}:OK (R5 a0 a1) fun r=>Ar Tryz.prog 54 [E3 a0,(Aw 5 B1) a1] (Am r):=⟨fun {r} h=>by
 refine pw C0 Tryz.func54 ?_
 refine Z ?_
 refine Ap h (fun _ h=>?_) (fun _ h=>?_)
 exact Y
 refine Z ?_
 refine A7 h (fun v8=>[(4,(Am false)),(12,(O .i64 v8))]) (fun v8=>[]) ?_
 rintro v8 _ _ _ h _ _
 exact Y⟩
instance {a0:B0} {a1:List Aj}:OK (Po a0 a1) fun r=>Ar Tryz.prog 17 [E3 a0,(Aw 5 B1) a1] (Am r):=⟨fun {r} h=>by
 refine pw C0 Tryz.func17 ?_
 exact Y⟩
instance {a0 a1:List Aj}:OK (Pr a0 a1) fun r=>Ar Tryz.prog 22 [(Aw 5 B1) a0,(Aw 5 B1) a1] (Am r):=⟨fun {r} h=>by
 refine pw C0 Tryz.func22 ?_
 refine Z ?_
 refine Ap h (fun _ h=>?_) (fun _ h=>?_)
 exact Y
 refine Z ?_
 refine A7 h (fun v7=>[(4,(Am false)),(13,(O .i64 v7))]) (fun v7=>[]) ?_
 rintro v7 _ _ _ h _ _
 exact Y⟩
instance {a0:B0} {a1 a2:List Aj}:OK (Vm a0 a1 a2) fun r=>Ar Tryz.prog 4 [E3 a0,(Aw 5 B1) a1,(Aw 5 B1) a2] (Am r):=⟨fun {r} h=>by
 refine pw C0 Tryz.func4 ?_
 refine Z ?_
 refine Bo h (fun _ h=>?_)
 refine Z ?_
 refine Ap h (fun _ h=>?_) (fun _ h=>?_)
 exact Y
 refine Jn (Ay (Ay ?_))
 refine Bq h (fun v6=>[(35,(Am v6))]) (fun v6=>[]) ?_ ?_
 intro _ h _ _ _
 exact Y
 rintro v6 _ h
 refine Ap h (fun _ h=>?_) (fun _ h=>?_)
 exact Y
 refine Z ?_
 refine Bo h (fun _ h=>?_)
 refine Z ?_
 refine Bo h (fun _ h=>?_)
 refine Z ?_
 refine Bo h (fun _ h=>?_)
 refine Z ?_
 refine Bo h (fun _ h=>?_)
 refine Z ?_
 refine Bo h (fun _ h=>?_)
 refine ZO ?_
 refine Ay (Ay ?_)
 refine Bq h (fun v12=>[(88,(Am v12))]) (fun v12=>[]) ?_ ?_
 intro _ h _ _ _
 exact Y
 rintro v12 _ h
 exact Y⟩
end Go.Ab
