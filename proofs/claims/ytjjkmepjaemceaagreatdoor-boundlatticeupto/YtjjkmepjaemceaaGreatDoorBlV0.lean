/- The contracts of the functions, each by its walk (made by a program). -/
import Derived.Test.YtjjkmepjaemceaaGreatDoorBlHand
import Derived.Test.YtjjkmepjaemceaaGreatDoorBlDef
namespace Go.Ab
open Go Go.Proofs
set_option maxRecDepth 10000
set_option maxHeartbeats 4000000
set_option linter.unusedVariables false
instance {a0 a1:List Int}:OK (L9 a0 a1) fun r=>Ar Tryz.prog 113 [(Aw 1 (O .u32)) a0,(Aw 1 (O .u32)) a1] ((O .i64) r):=⟨fun {r} h=>by
 refine pw C0 Tryz.func113 ?_
 refine Z ?_
 refine Ap h (fun _ h=>?_) (fun _ h=>?_)
 exact Y
 refine Z ?_
 refine A7 h (fun v5=>[(4,(O .i64 0)),(5,(O .i64 v5))]) (fun v5=>[]) ?_
 rintro v5 _ _ _ h _ _
 exact Y⟩
instance {a0:Fk}:OK (Nu a0) fun r=>Ar Tryz.prog 112 [Mn a0] ((O .i64) r):=⟨fun {r} h=>by
 refine pw C0 Tryz.func112 ?_
 exact Y⟩
instance {a0:List Int}:OK (Hx a0) fun r=>Ar Tryz.prog 161 [(Aw 1 (O .u32)) a0] ((Aw 1 (O .u32)) r):=⟨fun {r} h=>by
 refine pw {T:=Ca,an:=(fun _=>.ask),nl:=(fun s=>bif Nat.beq s 2 then [(0,1)] else [])} Tryz.func161 ?_
 refine Z ?_
 refine A7 h (fun v2=>[(3,(O .i64 v2))]) (fun v2=>[]) ?_
 rintro v2 _ _ _ h _ _
 exact Y⟩
instance {a0:List Int}:OK (P1 a0) fun r=>Ar Tryz.prog 160 [(Aw 1 (O .u32)) a0] ((Aw 1 (O .u32)) r):=⟨fun {r} h=>by
 refine pw {T:=Ca,an:=(fun _=>.ask),nl:=(fun s=>bif Nat.beq s 2 then [(0,1)] else [])} Tryz.func160 ?_
 refine Z ?_
 refine Fx h (fun _ h=>?_)
 refine Z ?_
 refine A7 h (fun (v14,v15,o16)=>[(3,(.arr 0 o16.length 0 o16.length)),(4,(O .u64 v14)),(13,(O .i64 v15))]) (fun (v14,v15,o16)=>[(0,.rows 129 1 (List.map (O .u32) o16))]) ?_
 rintro ⟨v14,v15,o16⟩ _ _ _ h _ _
 refine Z ?_
 refine Ap h (fun _ h=>?_) (fun _ h=>?_)
 exact Y
 replace h:=C1 h
 refine Z ?_
 refine Ap h (fun _ h=>?_) (fun _ h=>?_)
 refine Z ?_
 refine Oo h (fun _ h=>?_)
 refine ZO ?_
 refine Ay ?_
 refine D7 [.fz 3] ?_
 exact Y
 refine Jn (Ay ?_)
 refine D7 [.fz 3] ?_
 exact Y⟩
instance {a0:A3}:OK (Iv a0) fun r=>Ar Tryz.prog 97 [Cy a0] (Mn r):=⟨fun {r} h=>by
 refine pw {T:=Ca,an:=(fun _=>.ask),nl:=(fun s=>bif Nat.beq s 20 then [(1,1)] else [])} Tryz.func97 ?_
 refine Z ?_
 refine Bo h (fun _ h=>?_)
 refine Z ?_
 refine Bo h (fun _ h=>?_)
 refine ZO ?_
 refine Ay (Ay ?_)
 refine Bq h (fun v5=>[(18,(Am v5))]) (fun v5=>[]) ?_ ?_
 intro _ h _ _ _
 exact Y
 rintro v5 _ h
 exact Y⟩
instance {a0 a1:List Int}:OK (Jp a0 a1) fun r=>Ar Tryz.prog 98 [(Aw 1 (O .u32)) a0,(Aw 1 (O .u32)) a1] ((Aw 1 (O .u32)) r):=⟨fun {r} h=>by
 refine pw {T:=Ca,an:=(fun _=>.ask),nl:=(fun s=>bif Nat.beq s 4 then [(0,1)] else [])} Tryz.func98 ?_
 refine ZS ?_
 refine Bp ?_
 refine ZO ?_
 refine Ay (Ay ?_)
 refine Bq h (fun v1=>[(17,(Am v1))]) (fun v1=>[]) ?_ ?_
 intro _ h _ _ _
 exact Y
 rintro v1 _ h
 refine Ap h (fun _ h=>?_) (fun _ h=>?_)
 exact Y
 refine Z ?_
 refine Fx h (fun o2 h=>?_)
 refine Z ?_
 refine Gj h (fun (v23,o24)=>[(26,(O .i64 v23))]) (fun (v23,o24)=>[(0,.rows 129 1 (List.map (O .u32) o24))]) (fun (v23,o24)=>o2.length=o24.length) ?_
 rintro ⟨v23,o24⟩ _ _ _ h _ _ q24
 refine Z ?_
 refine Ap h (fun _ h=>?_) (fun _ h=>?_)
 refine Z ?_
 refine Gj h (fun (v31,v32,o33)=>[(7,(O .u64 v31)),(31,(O .i64 v32))]) (fun (v31,v32,o33)=>[(0,.rows 129 1 (List.map (O .u32) o33))]) (fun (v31,v32,o33)=>o2.length=o33.length) ?_
 rintro ⟨v31,v32,o33⟩ _ _ _ h _ _ q33
 exact Y
 replace h:=C1 h
 refine Gf (Gd rfl (Ay ?_))
 refine D7 [.fz 5] ?_
 exact Y⟩
instance {a0 a1:A3}:OK (Pt a0 a1) fun r=>Ar Tryz.prog 57 [Cy a0,Cy a1] ((O .i64) r):=⟨fun {r} h=>by
 refine pw C0 Tryz.func57 ?_
 exact Y⟩
instance {a0 a1:A3}:OK (Ps a0 a1) fun r=>Ar Tryz.prog 56 [Cy a0,Cy a1] (Cy r):=⟨fun {r} h=>by
 refine pw C0 Tryz.func56 ?_
 exact Y⟩
abbrev Ae5 (k:Nat):Prop:=∀{a0:A6},OK (N3 k a0) fun r=>Ar Tryz.prog 179 [Ek a0] (Ek r)
theorem Anr (k:Nat):Ae5 k:=by
 induction k with
 | zero=>exact okz
 | succ k ih=>
  refine @fun a0=>⟨fun {r} h=>?_⟩
  .unfold N3 at h
   refine pw {T:=Ca,an:=(fun _=>.ask),nl:=(fun s=>bif Nat.beq s 17 then [(0,2)] else [])} Tryz.func179 ?_
   refine ZS ?_
   refine Bp ?_
   refine ZS ?_
   refine Bp ?_
   refine ZO ?_
   refine Ay (Ay ?_)
   refine D7 [.own 3 1 86 2] ?_
   refine Z ?_
   refine A7 h (fun (v15,o16)=>[(12,(O .i64 v15))]) (fun (v15,o16)=>[(2,.cells 86 [(O .i64 a0.Num),(.arr 3 o16.length 0 o16.length)]),(3,.rows 86 2 (Gg o16))]) ?_
   rintro ⟨v15,o16⟩ _ _ _ h _ _
   exact Y
instance {k:Nat}:Ae5 k:=(Anr k)
instance {a0:List Ds}:OK (P4 a0) fun r=>Ar Tryz.prog 180 [(Aw 2 Gx) a0] ((Aw 2 Gx) r):=⟨fun {r} h=>by
 exact Anq h⟩
instance {a0:Bi}:OK (L8 a0) fun r=>Ar Tryz.prog 111 [Gi a0] (Gi r):=⟨fun {r} h=>by
 refine pw {T:=Ca,an:=(fun _=>.ask),nl:=(fun s=>bif Nat.beq s 44 then [(0,3)] else bif Nat.beq s 17 then [(0,3)] else [])} Tryz.func111 ?_
 refine ZS ?_
 refine Bp ?_
 refine ZS ?_
 refine Bp ?_
 refine ZO ?_
 refine Ay (Ay ?_)
 refine D7 [.own 3 0 88 3,.own 3 1 118 3] ?_
 refine Z ?_
 refine A7 h (fun (v16,o17)=>[(12,(O .i64 v16))]) (fun (v16,o17)=>[(2,.cells 63 [(.arr 3 o17.length 0 o17.length),(.arr 4 0 0 0)]),(3,.rows 88 3 (List.map G4 o17))]) ?_
 rintro ⟨v16,o17⟩ _ _ _ h _ _
 refine Z ?_
 refine Ap h (fun _ h=>?_) (fun _ h=>?_)
 exact Y
 replace h:=C1 h
 refine Z ?_
 refine A7 h (fun (v35,o36)=>[(31,(O .i64 v35))]) (fun (v35,o36)=>[(2,.cells 63 [(.arr 3 o17.length 0 o17.length),(.arr 4 o36.length 0 o36.length)]),(4,.rows 118 3 (List.map Hj o36))]) ?_
 rintro ⟨v35,o36⟩ _ _ _ h _ _
 exact Y⟩
instance {a0:Int}:OK (S0 a0) fun r=>Ar Tryz.prog 238 [(O .i64) a0] (Am r):=⟨fun {r} h=>by
 refine pw C0 Tryz.func238 ?_
 exact Y⟩
instance {a0 a1:Int}:OK (Ix a0 a1) fun r=>Ar Tryz.prog 171 [(O .i64) a0,(O .i64) a1] ((O .i64) r):=⟨fun {r} h=>by
 refine pw C0 Tryz.func171 ?_
 exact Y⟩
instance {a0:List Int}:OK (Kh a0) fun r=>Ar Tryz.prog 174 [(Aw 1 (O .i64)) a0] ((O .i64) r):=⟨fun {r} h=>by
 refine pw C0 Tryz.func174 ?_
 refine Z ?_
 refine A7 h (fun v2=>[(2,(O .i64 0)),(8,(O .i64 v2))]) (fun v2=>[]) ?_
 rintro v2 _ _ _ h _ _
 exact Y⟩
instance {a0:Int}:OK (V4 a0) fun r=>Ar Tryz.prog 294 [(O .i64) a0] (Am r):=⟨fun {r} h=>by
 refine pw C0 Tryz.func294 ?_
 exact Y⟩
instance {a0 a1:Int}:OK (S5 a0 a1) fun r=>Ar Tryz.prog 242 [(O .i64) a0,(O .i64) a1] ((O .i64) r):=⟨fun {r} h=>by
 refine pw C0 Tryz.func242 ?_
 exact Y⟩
instance {a0 a1:Ds}:OK (S4 a0 a1) fun r=>Ar Tryz.prog 241 [Gx a0,Gx a1] ((O .i64) r):=⟨fun {r} h=>by
 refine pw C0 Tryz.func241 ?_
 exact Y⟩
instance {a0 a1:List Ds}:OK (V2 a0 a1) fun r=>Ar Tryz.prog 240 [(Aw 2 Gx) a0,(Aw 2 Gx) a1,(.fn 241 [])] ((O .i64) r):=⟨fun {r} h=>by
 refine pw C0 Tryz.func240 ?_
 refine Z ?_
 refine A7 h (fun v6=>[(6,(O .i64 0)),(13,(O .i64 v6))]) (fun v6=>[]) ?_
 rintro v6 _ _ _ h _ _
 exact Y⟩
instance {a0 a1:Di}:OK (Me a0 a1) fun r=>Ar Tryz.prog 178 [I0 a0,I0 a1] ((O .i64) r):=⟨fun {r} h=>by
 refine pw C0 Tryz.func178 ?_
 exact Y⟩
instance {a0 a1:C4}:OK (Sq a0 a1) fun r=>Ar Tryz.prog 177 [Hj a0,Hj a1] ((O .i64) r):=⟨fun {r} h=>by
 refine pw C0 Tryz.func177 ?_
 exact Y⟩
instance {a0 a1:List C4}:OK (Vx a0 a1) fun r=>Ar Tryz.prog 176 [(Aw 3 Hj) a0,(Aw 3 Hj) a1,(.fn 177 [])] ((O .i64) r):=⟨fun {r} h=>by
 refine pw C0 Tryz.func176 ?_
 refine Z ?_
 refine A7 h (fun v6=>[(6,(O .i64 0)),(13,(O .i64 v6))]) (fun v6=>[]) ?_
 rintro v6 _ _ _ h _ _
 exact Y⟩
abbrev Ae6 (k:Nat):Prop:=∀{a0 a1:A6},OK (Md k a0 a1) fun r=>Ar Tryz.prog 175 [Ek a0,Ek a1] ((O .i64) r)
abbrev Ae7 (k:Nat):Prop:=∀{a0 a1:List A6},OK (S3 k a0 a1) fun r=>Ar Tryz.prog 239 [(Fj 2 Gg) a0,(Fj 2 Gg) a1,(.fn 175 [])] ((O .i64) r)
theorem Ae8 (k:Nat):Ae6 k/\Ae7 k:=by
 induction k with
 | zero=>exact ⟨okz,okz⟩
 | succ k ih=>
  obtain ⟨i0_,i1_⟩:=ih
  refine ⟨@fun a0 a1=>⟨fun {r} h=>?_⟩,@fun a0 a1=>⟨fun {r} h=>?_⟩⟩
  .unfold Md at h
   refine pw C0 Tryz.func175 ?_
   exact Y
  .unfold S3 at h
   refine pw C0 Tryz.func239 ?_
   refine Z ?_
   refine A7 h (fun v6=>[(6,(O .i64 0)),(13,(O .i64 v6))]) (fun v6=>[]) ?_
   rintro v6 _ _ _ h _ _
   exact Y
instance {k:Nat}:Ae6 k:=(Ae8 k).1
instance {k:Nat}:Ae7 k:=(Ae8 k).2
instance {a0 a1:Cw}:OK (Sp a0 a1) fun r=>Ar Tryz.prog 173 [G4 a0,G4 a1] ((O .i64) r):=⟨fun {r} h=>by
 refine pw C0 Tryz.func173 ?_
 exact Y⟩
instance {a0 a1:List Cw}:OK (Vv a0 a1) fun r=>Ar Tryz.prog 172 [(Aw 3 G4) a0,(Aw 3 G4) a1,(.fn 173 [])] ((O .i64) r):=⟨fun {r} h=>by
 refine pw C0 Tryz.func172 ?_
 refine Z ?_
 refine A7 h (fun v6=>[(6,(O .i64 0)),(13,(O .i64 v6))]) (fun v6=>[]) ?_
 rintro v6 _ _ _ h _ _
 exact Y⟩
instance {a0 a1:Bi}:OK (Jq a0 a1) fun r=>Ar Tryz.prog 110 [Gi a0,Gi a1] ((O .i64) r):=⟨fun {r} h=>by
 refine pw C0 Tryz.func110 ?_
 exact Y⟩
instance {a0:List As}:OK (Z0 a0) fun r=>Ar Tryz.prog 185 [On (Hk.mk a0 [] [] [])] (Am r):=⟨fun {r} h=>by
 refine pw C0 Tryz.func185 ?_
 refine Z ?_
 refine Fx h (fun _ h=>?_)
 refine Z ?_
 refine A7 h (fun _=>[(2,(Am false)),(20,(O .i64 0))]) (fun _=>[]) ?_
 rintro _ _ _ _ h _ _
 replace h:=C1 h
 refine Z ?_
 refine A7 h (fun _=>[(2,(Am false)),(40,(O .i64 0))]) (fun _=>[]) ?_
 rintro _ _ _ _ h _ _
 exact Y⟩
instance {a0:List As}:OK (Zy a0) fun r=>Ar Tryz.prog 183 [On (Hk.mk a0 [] [] [])] (Am r):=⟨fun {r} h=>by
 refine pw C0 Tryz.func183 ?_
 refine Z ?_
 refine A7 h (fun _=>[(2,(Am false)),(4,(Am false)),(21,(O .i64 0))]) (fun _=>[]) ?_
 rintro _ _ _ _ h _ _
 exact Y⟩
instance {a0:Int}:OK (Th a0) fun r=>Ar Tryz.prog 324 [(O .u8) a0] (Am r):=⟨fun {r} h=>by
 refine pw C0 Tryz.func324 ?_
 exact Y⟩
instance {a0:ByteArray}:OK (Tl a0) fun r=>Ar Tryz.prog 346 [C8 a0] (Am r):=⟨fun {r} h=>by
 refine pw C0 Tryz.func346 ?_
 exact Y⟩
instance {a0:Int}:OK (Mm a0) fun r=>Ar Tryz.prog 347 [(O .u8) a0] (Am r):=⟨fun {r} h=>by
 refine pw C0 Tryz.func347 ?_
 exact Y⟩
instance {a0:Int}:OK (Qh a0) fun r=>Ar Tryz.prog 342 [(O .u8) a0] (Am r):=⟨fun {r} h=>by
 refine pw C0 Tryz.func342 ?_
 exact Y⟩
instance {a0:Int}:OK (Ok a0) fun r=>Ar Tryz.prog 343 [(O .u8) a0] (Am r):=⟨fun {r} h=>by
 refine pw C0 Tryz.func343 ?_
 exact Y⟩
instance {a0:Int}:OK (Qi a0) fun r=>Ar Tryz.prog 345 [(O .u8) a0] (Am r):=⟨fun {r} h=>by
 refine pw C0 Tryz.func345 ?_
 exact Y⟩
instance {a0:ByteArray}:OK (Tk a0) fun r=>Ar Tryz.prog 344 [C8 a0,(.fn 345 [])] (C8 r):=⟨fun {r} h=>by
 refine pw C0 Tryz.func344 ?_
 refine Z ?_
 refine A7 h (fun v3=>[(5,(O .i64 v3))]) (fun v3=>[]) ?_
 rintro v3 _ _ _ h _ _
 exact Y⟩
instance {a0:ByteArray}:OK (Wb a0) fun r=>Ar Tryz.prog 344 [C8 a0,(.fn 347 [])] (C8 r):=⟨fun {r} h=>by
 refine pw C0 Tryz.func344 ?_
 refine Z ?_
 refine A7 h (fun v3=>[(5,(O .i64 v3))]) (fun v3=>[]) ?_
 rintro v3 _ _ _ h _ _
 exact Y⟩
instance {a0:ByteArray}:OK (Tn a0) fun r=>Ar Tryz.prog 349 [C8 a0] (C8 r):=⟨fun {r} h=>by
 refine pw C0 Tryz.func349 ?_
 refine ZS ?_
 refine Bp ?_
 refine ZS ?_
 refine Bp ?_
 refine ZO ?_
 refine Tt (fun (x:Unit)=>(.inr x)) h (fun _=>[(2,(C8 (ByteArray.mk #[])))]) (fun _=>[]) ?_ ?_
 intro _ h _ _ _
 exact Y
 rintro _ _ h
 exact Y⟩
instance {a0:ByteArray}:OK (Tm a0) fun r=>Ar Tryz.prog 348 [C8 a0] (Am r):=⟨fun {r} h=>by
 refine pw C0 Tryz.func348 ?_
 refine Z ?_
 refine A7 h (fun (v2,v3)=>[(2,(Am false)),(3,(O .i64 v2)),(7,(O .i64 v3))]) (fun (v2,v3)=>[]) ?_
 rintro ⟨v2,v3⟩ _ _ _ h _ _
 exact Y⟩
instance {a0:ByteArray} {a1:Int}:OK (Ti a0 a1) fun r=>Ar Tryz.prog 325 [C8 a0,(O .i64) a1] (.tup [Wa r.1,(O .i64) r.2]):=⟨fun {r} h=>by
 refine pw C0 Tryz.func325 ?_
 refine Z ?_
 refine Jm h (fun _ h=>?_)
 refine ZO ?_
 refine Jo (Ay ?_)
 refine Bq h (fun v6=>[(23,(Am v6))]) (fun v6=>[]) ?_ ?_
 intro _ h _ _ _
 exact Y
 rintro v6 _ h
 refine Ap h (fun _ h=>?_) (fun _ h=>?_)
 exact Y
 refine Z ?_
 refine Bo h (fun _ h=>?_)
 refine Z ?_
 refine Ap h (fun _ h=>?_) (fun _ h=>?_)
 refine Z ?_
 refine Zi h (fun _ _ _ _ h=>?_)
 refine Z ?_
 refine Bo h (fun _ h=>?_)
 refine ZO ?_
 refine Ay (Ay ?_)
 refine Bq h (fun v14=>[(67,(Am v14))]) (fun v14=>[]) ?_ ?_
 intro _ h _ _ _
 exact Y
 rintro v14 _ h
 exact Y
 exact Y⟩
instance {a0:ByteArray}:OK (V5 a0) fun r=>Ar Tryz.prog 295 [C8 a0] (.tup [(Aw 3 Wa) r.1,(O .i64) r.2.1,(O .i64) r.2.2]):=⟨fun {r} h=>by
 refine pw {T:=Ca,an:=(fun s=>bif Nat.beq s 5 then .own else .ask),nl:=(fun s=>bif Nat.beq s 5 then [(0,3)] else bif Nat.beq s 2 then [(0,3)] else [])} Tryz.func295 ?_
 refine Z ?_
 refine Ap h (fun _ h=>?_) (fun _ h=>?_)
 exact Y
 refine Z ?_
 refine A7 h (fun (v26,o27)=>[(2,(.sl 3 (List.map Wa []))),(3,(O .i64 0)),(4,(O .i64 0)),(5,(.arr 0 o27.length 0 o27.length)),(6,(O .i64 v26))]) (fun (v26,o27)=>[(0,.rows 341 3 (List.map Wa o27))]) ?_
 rintro ⟨v26,o27⟩ _ _ _ h _ _
 refine Z ?_
 refine Ap h (fun _ h=>?_) (fun _ h=>?_)
 refine Z ?_
 refine Jm h (fun _ h=>?_)
 refine Z ?_
 refine Bo h (fun _ h=>?_)
 refine Z ?_
 refine Ap h (fun _ h=>?_) (fun _ h=>?_)
 exact Y
 refine Z ?_
 refine Jm h (fun _ h=>?_)
 refine Z ?_
 refine Ap h (fun _ h=>?_) (fun _ h=>?_)
 refine Z ?_
 refine A7 h (fun v32=>[(6,(O .i64 v32))]) (fun v32=>[]) ?_
 rintro v32 _ _ _ h _ _
 exact Y
 exact Y
 exact Y⟩
instance {a0:ByteArray}:OK (N9 a0) fun r=>Ar Tryz.prog 243 [C8 a0] (Am r):=⟨fun {r} h=>by
 refine pw C0 Tryz.func243 ?_
 exact Y⟩
abbrev Ae9 (k:Nat):Prop:=∀{a0:Ah} {a1:Int},OK (Og k a0 a1) fun r=>Ar Tryz.prog 296 [C3 a0,(O .i64) a1] (Am r)
abbrev Afa (k:Nat):Prop:=∀{a0:Ah} {b0:Int},OK (Tj k a0 b0) fun r=>Cn Tryz.prog 326 [C3 a0,(.loc 0 0)] [.cells 3 [(O .i64 b0)]] (Am r) [.cells 3 [(O .i64 b0)]]
abbrev Afb (k:Nat):Prop:=∀{a0:List Ah} {b0:Int},OK (Ql k a0 b0) fun r=>Cn Tryz.prog 245 [(Fj 3 Bh) a0,(.fn 326 [(.loc 0 0)])] [.cells 3 [(O .i64 b0)]] (Am r) [.cells 3 [(O .i64 b0)]]
abbrev Afc (k:Nat):Prop:=∀{a0:List Ah} {b0:Int},OK (Wc k a0 b0) fun r=>Cn Tryz.prog 297 [(Fj 3 Bh) a0,(.fn 326 [(.loc 0 0)])] [.cells 3 [(O .i64 b0)]] ((O .i64) r) [.cells 3 [(O .i64 b0)]]
theorem Wf (k:Nat):Ae9 k/\Afa k/\Afb k/\Afc k:=by
 induction k with
 | zero=>exact ⟨okz,okz,okz,okz⟩
 | succ k ih=>
  obtain ⟨i0_,i1_,i2_,i3_⟩:=ih
  refine ⟨@fun a0 a1=>⟨fun {r} h=>?_⟩,@fun a0 b0=>⟨fun {r} h=>?_⟩,@fun a0 b0=>⟨fun {r} h=>?_⟩,@fun a0 b0=>⟨fun {r} h=>?_⟩⟩
  .unfold Og at h
   refine pw C0 Tryz.func296 ?_
   refine Z ?_
   refine Fs h (fun _ h=>?_) (fun _ h=>?_)
   refine Z ?_
   refine Fs h (fun _ h=>?_) (fun _ h=>?_)
   exact Y
   refine Z ?_
   refine Bl [1] h (fun _ h=>?_)
   exact Y
   refine Z ?_
   refine Bl [1] h (fun _ h=>?_)
   exact Y
  .unfold Tj at h
   refine aw C0 true Tryz.func326 ?_
   exact Y
  .unfold Ql at h
   refine aw C0 true Tryz.func245 ?_
   refine Z ?_
   refine Bl [0] h (fun _ h=>?_)
   exact Y
  .unfold Wc at h
   refine aw C0 true Tryz.func297 ?_
   refine Z ?_
   refine A7 h (fun v3=>[(4,(O .i64 0)),(8,(O .i64 v3))]) (fun v3=>[]) ?_
   rintro v3 _ _ _ h _ _
   refine Z ?_
   refine Ap h (fun _ h=>?_) (fun _ h=>?_)
   refine Z ?_
   refine Ce h (fun _ _ _ _ h=>?_)
   refine Z ?_
   refine Bl [0] h (fun _ h=>?_)
   exact Y
   exact Y
instance {k:Nat}:Ae9 k:=(Wf k).1
instance {k:Nat}:Afa k:=(Wf k).2.1
instance {k:Nat}:Afb k:=(Wf k).2.2.1
instance {k:Nat}:Afc k:=(Wf k).2.2.2
instance {a0:List As} {a1 a2:Int}:OK (Ny a0 a1 a2) fun r=>Ar Tryz.prog 147 [(Aw 3 B7) a0,(O .i64) a1,(O .i64) a2] ((Aw 1 Am) r):=⟨fun {r} h=>by
 refine pw {T:=Ca,an:=(fun _=>.ask),nl:=(fun s=>bif Nat.beq s 6 then [(0,1)] else [])} Tryz.func147 ?_
 refine ZS ?_
 refine Bp ?_
 refine ZO ?_
 refine Ay (Ay ?_)
 refine Bq h (fun v2=>[(34,(Am v2))]) (fun v2=>[]) ?_ ?_
 intro _ h _ _ _
 exact Y
 rintro v2 _ h
 refine Ap h (fun _ h=>?_) (fun _ h=>?_)
 exact Y
 refine Z ?_
 refine Ce h (fun _ _ _ _ h=>?_)
 refine Z ?_
 refine Ce h (fun _ _ _ _ h=>?_)
 refine Z ?_
 refine Fx h (fun o5 h=>?_)
 refine Z ?_
 refine Gj h (fun (v28,o29)=>[(49,(O .i64 v28))]) (fun (v28,o29)=>[(0,.rows 4 1 (List.map Am o29))]) (fun (v28,o29)=>o5.length=o29.length) ?_
 rintro ⟨v28,o29⟩ _ _ _ h _ _ q29
 refine Z ?_
 refine Ap h (fun _ h=>?_) (fun _ h=>?_)
 refine Z ?_
 refine Ce h (fun _ v30 _ _ h=>?_)
 refine ZO ?_
 refine Ay ?_
 refine Aea h (fun o3_ h hj3=>?_)
 refine Zn (fun (o36:(List Bool))=>o36=o3_/\o5.length=o36.length) (fun o36=>[]) (fun o36=>[(0,.rows 4 1 (List.map Am o36))]) (fun _=>rfl) ?_ ?_
 intro K3 hK3
 refine Z ?_
 refine Fs h (fun _ h=>?_) (fun _ h=>?_)
 refine Z ?_
 refine Fs h (fun _ h=>?_) (fun _ h=>?_)
 refine Z ?_
 refine Ce h (fun _ v32 _ _ h=>?_)
 refine Z ?_
 refine Ju h (fun _ _ hiv33 _ h=>?_)
 refine Z ?_
 refine Lz (f:=Am) (x:=((v30.Args.length:Int)==v32.Vars)) (j:=v28) rfl rfl (Nat.zero_add _) hiv33 ?_
 refine Z ?_
 exact hK3 (Cx o29 v28 ((v30.Args.length:Int)==v32.Vars)) _ _ _ ⟨(Option.some.inj h),Fw (l:=o29) q29 v28 ((v30.Args.length:Int)==v32.Vars)⟩ trivial ⟨⟨rfl,rfl⟩,⟨rfl,rfl⟩,trivial⟩
 refine Z ?_
 refine Ju h (fun _ _ hiv34 _ h=>?_)
 refine Z ?_
 refine Lz (f:=Am) (x:=false) (j:=v28) rfl rfl (Nat.zero_add _) hiv34 ?_
 refine Z ?_
 exact hK3 (Cx o29 v28 false) _ _ _ ⟨(Option.some.inj h),Fw (l:=o29) q29 v28 false⟩ trivial ⟨⟨rfl,rfl⟩,⟨rfl,rfl⟩,trivial⟩
 refine Z ?_
 refine Ju h (fun _ _ hiv35 _ h=>?_)
 refine Z ?_
 refine Lz (f:=Am) (x:=false) (j:=v28) rfl rfl (Nat.zero_add _) hiv35 ?_
 refine Z ?_
 exact hK3 (Cx o29 v28 false) _ _ _ ⟨(Option.some.inj h),Fw (l:=o29) q29 v28 false⟩ trivial ⟨⟨rfl,rfl⟩,⟨rfl,rfl⟩,trivial⟩
 rintro o36 u3 ⟨hJ3,q36⟩
 have h:=hj3 _ hJ3
 refine Z ?_
 refine Gj h (fun (v42,o43)=>[(80,(O .i64 v42))]) (fun (v42,o43)=>[(0,.rows 4 1 (List.map Am o43))]) (fun (v42,o43)=>o5.length=o43.length) ?_
 rintro ⟨v42,o43⟩ _ _ _ h _ _ q43
 exact Y
 exact Y⟩
abbrev Afd (k:Nat):Prop:=∀{a0:List Ah} {b1:Et},OK (Qm k a0 b1) fun r=>Cn Tryz.prog 245 [(Fj 3 Bh) a0,(.fn 253 [(.loc 0 0)])] [.cells 224 [(.loc 1 0)],.cells 226 [(.sl 3 (List.map B7 b1.data)),(O .i64 b1.vars),(O .i64 b1.left)]] (Am r.1) [.cells 224 [(.loc 1 0)],.cells 226 [(.sl 3 (List.map B7 r.2.data)),(O .i64 r.2.vars),(O .i64 r.2.left)]]
abbrev Afe (k:Nat):Prop:=∀{a0:List Ah} {b1:Et},OK (Tp k a0 b1) fun r=>Cn Tryz.prog 297 [(Fj 3 Bh) a0,(.fn 253 [(.loc 0 0)])] [.cells 224 [(.loc 1 0)],.cells 226 [(.sl 3 (List.map B7 b1.data)),(O .i64 b1.vars),(O .i64 b1.left)]] ((O .i64) r.1) [.cells 224 [(.loc 1 0)],.cells 226 [(.sl 3 (List.map B7 r.2.data)),(O .i64 r.2.vars),(O .i64 r.2.left)]]
abbrev Aff (k:Nat):Prop:=∀{a0:Ah} {b0:Et},OK (Jr k a0 b0) fun r=>Cn Tryz.prog 188 [(.loc 0 0),C3 a0] [.cells 226 [(.sl 3 (List.map B7 b0.data)),(O .i64 b0.vars),(O .i64 b0.left)]] (Am r.1) [.cells 226 [(.sl 3 (List.map B7 r.2.data)),(O .i64 r.2.vars),(O .i64 r.2.left)]]
abbrev Afg (k:Nat):Prop:=∀{a0:Ah} {b1:Et},OK (S6 k a0 b1) fun r=>Cn Tryz.prog 253 [C3 a0,(.loc 0 0)] [.cells 224 [(.loc 1 0)],.cells 226 [(.sl 3 (List.map B7 b1.data)),(O .i64 b1.vars),(O .i64 b1.left)]] (Am r.1) [.cells 224 [(.loc 1 0)],.cells 226 [(.sl 3 (List.map B7 r.2.data)),(O .i64 r.2.vars),(O .i64 r.2.left)]]
theorem Wg (k:Nat):Afd k/\Afe k/\Aff k/\Afg k:=by
 induction k with
 | zero=>exact ⟨okz,okz,okz,okz⟩
 | succ k ih=>
  obtain ⟨i0_,i1_,i2_,i3_⟩:=ih
  refine ⟨@fun a0 b1=>⟨fun {r} h=>?_⟩,@fun a0 b1=>⟨fun {r} h=>?_⟩,@fun a0 b0=>⟨fun {r} h=>?_⟩,@fun a0 b1=>⟨fun {r} h=>?_⟩⟩
  .unfold Qm at h
   refine aw C0 true Tryz.func245 ?_
   refine Z ?_
   refine Bl [0,1] h (fun _ h=>?_)
   exact Y
  .unfold Tp at h
   refine aw C0 true Tryz.func297 ?_
   refine Z ?_
   refine A7 h (fun (v3,v4,v5,v6)=>[(4,(O .i64 0)),(8,(O .i64 v3))]) (fun (v3,v4,v5,v6)=>[(1,.cells 226 [(.sl 3 (List.map B7 v4)),(O .i64 v5),(O .i64 v6)])]) ?_
   rintro ⟨v3,v4,v5,v6⟩ _ _ _ h _ _
   refine Z ?_
   refine Ap h (fun _ h=>?_) (fun _ h=>?_)
   refine Z ?_
   refine Ce h (fun _ _ _ _ h=>?_)
   refine Z ?_
   refine Bl [0,1] h (fun _ h=>?_)
   exact Y
   exact Y
  .unfold Jr at h
   refine aw C0 true Tryz.func188 ?_
   refine Z ?_
   refine Ap h (fun _ h=>?_) (fun _ h=>?_)
   exact Y
   refine ZS ?_
   refine Bp ?_
   refine ZS ?_
   refine Bp ?_
   refine ZO ?_
   refine Tt (fun (x:(Int×Int))=>(.inl x)) h (fun (v8,v9)=>[(4,(Am false)),(5,(O .i64 v8)),(6,(O .i64 v9))]) (fun (v8,v9)=>[]) ?_ ?_
   intro _ h _ _ _
   refine ZS ?_
   refine Bp ?_
   refine ZO ?_
   refine Bq h (fun v3=>[(21,(Am v3))]) (fun v3=>[]) ?_ ?_
   intro _ h _ _ _
   exact Y
   rintro v3 _ h
   refine Ap h (fun _ h=>?_) (fun _ h=>?_)
   exact Y
   refine Z ?_
   refine Ap h (fun _ h=>?_) (fun _ h=>?_)
   exact Y
   refine Z ?_
   refine Ap h (fun _ h=>?_) (fun _ h=>?_)
   refine Ay (Ay ?_)
   refine Bq h (fun v4=>[(53,(Am v4))]) (fun v4=>[]) ?_ ?_
   intro _ h _ _ _
   exact Y
   rintro v4 _ h
   exact Y
   refine Z ?_
   refine Ap h (fun _ h=>?_) (fun _ h=>?_)
   exact Y
   refine ZS ?_
   refine Bp ?_
   refine ZO ?_
   refine Bq h (fun v7=>[(74,(Am v7))]) (fun v7=>[]) ?_ ?_
   intro _ h _ _ _
   exact Y
   rintro v7 _ h
   exact Y
   rintro ⟨v8,v9⟩ _ h
   refine Ay (Ay ?_)
   refine Bq h (fun v10=>[(91,(Am v10))]) (fun v10=>[]) ?_ ?_
   intro _ h _ _ _
   exact Y
   rintro v10 _ h
   refine Ap h (fun _ h=>?_) (fun _ h=>?_)
   exact Y
   refine Jn (Ay (Ay ?_))
   refine Bq h (fun v11=>[(103,(Am v11))]) (fun v11=>[]) ?_ ?_
   intro _ h _ _ _
   exact Y
   rintro v11 _ h
   refine Ap h (fun _ h=>?_) (fun _ h=>?_)
   exact Y
   refine Z ?_
   refine Bl [1,0] h (fun _ h=>?_)
   exact Y
  .unfold S6 at h
   refine aw C0 true Tryz.func253 ?_
   refine Z ?_
   refine Bl [1] h (fun _ h=>?_)
   exact Y
instance {k:Nat}:Afd k:=(Wg k).1
instance {k:Nat}:Afe k:=(Wg k).2.1
instance {k:Nat}:Aff k:=(Wg k).2.2.1
instance {k:Nat}:Afg k:=(Wg k).2.2.2
instance {a0:List As} {a1:Ah} {a2:Int}:OK (K5 a0 a1 a2) fun r=>Ar Tryz.prog 115 [(Aw 3 B7) a0,C3 a1,(O .i64) a2] (Am r):=⟨fun {r} h=>by
 refine pw C0 Tryz.func115 ?_
 refine Z ?_
 refine Bl [1] h (fun _ h=>?_)
 exact Y⟩
instance {a0:List As} {a1 a2:Int}:OK (Mk a0 a1 a2) fun r=>Ar Tryz.prog 244 [(Aw 3 B7) a0,(O .i64) a1,(O .i64) a2] (Am r):=⟨fun {r} h=>by
 refine pw C0 Tryz.func244 ?_
 refine Z ?_
 refine Ce h (fun _ _ _ _ h=>?_)
 refine Z ?_
 refine Ce h (fun _ _ _ _ h=>?_)
 refine Z ?_
 refine Ap h (fun _ h=>?_) (fun _ h=>?_)
 exact Y
 refine Z ?_
 refine Bo h (fun _ h=>?_)
 refine Z ?_
 refine A7 h (fun v11=>[(6,(Am false)),(29,(O .i64 v11))]) (fun v11=>[]) ?_
 rintro v11 _ _ _ h _ _
 exact Y⟩
instance {a0:List As}:OK (Sr a0) fun r=>Ar Tryz.prog 181 [(Aw 3 B7) a0] (Am r):=⟨fun {r} h=>by
 refine pw C0 Tryz.func181 ?_
 refine Z ?_
 refine Ap h (fun _ h=>?_) (fun _ h=>?_)
 exact Y
 refine Z ?_
 refine A7 h (fun (v31,o32,o33)=>[(2,(Am false)),(15,(O .i64 v31))]) (fun (v31,o32,o33)=>[(0,.map (Bk Am o32)),(1,.map (Bk Am o33))]) ?_
 rintro ⟨v31,o32,o33⟩ _ _ _ h _ _
 refine Z ?_
 refine Ap h (fun _ h=>?_) (fun _ h=>?_)
 refine ZS ?_
 refine Bp ?_
 refine ZO ?_
 refine Ay (Ay ?_)
 refine Bq h (fun v41=>[(49,(Am v41))]) (fun v41=>[]) ?_ ?_
 intro _ h _ _ _
 refine Z ?_
 refine Ce h (fun _ _ _ _ h=>?_)
 refine Z ?_
 refine Bo h (fun _ h=>?_)
 refine Z ?_
 refine Fs h (fun _ h=>?_) (fun _ h=>?_)
 exact Y
 refine Z ?_
 refine Ce h (fun _ _ _ _ h=>?_)
 refine Z ?_
 refine Vh (f:=Am) (l:=o32) rfl (false:Bool) h (fun j_ hb h=>?_) (fun hb h=>?_)
 exact Y
 exact Y
 rintro v41 _ h
 refine Ap h (fun _ h=>?_) (fun _ h=>?_)
 exact Y
 refine Z ?_
 refine Ce h (fun _ _ _ _ h=>?_)
 refine Z ?_
 refine Rx (f:=Am) (l:=o32) (x:=true) rfl rfl ?_
 refine ZO ?_
 refine Ay (Ay ?_)
 refine Bq h (fun v45=>[(71,(Am v45))]) (fun v45=>[]) ?_ ?_
 intro _ h _ _ _
 exact Y
 rintro v45 _ h
 refine Ap h (fun _ h=>?_) (fun _ h=>?_)
 exact Y
 refine Z ?_
 refine Ce h (fun _ _ _ _ h=>?_)
 refine Z ?_
 refine A7 h (fun (v52,o53)=>[(2,(Am false)),(78,(O .i64 v52))]) (fun (v52,o53)=>[(1,.map (Bk Am o53))]) ?_
 rintro ⟨v52,o53⟩ _ _ _ h _ _
 refine Z ?_
 refine Ap h (fun _ h=>?_) (fun _ h=>?_)
 refine Z ?_
 refine Ce h (fun _ _ _ _ h=>?_)
 refine Z ?_
 refine Bo h (fun _ h=>?_)
 refine Z ?_
 refine Fs h (fun _ h=>?_) (fun _ h=>?_)
 exact Y
 refine Z ?_
 refine Vh (f:=Am) (l:=o53) rfl (false:Bool) h (fun j_ hb h=>?_) (fun hb h=>?_)
 refine Z ?_
 refine Fs h (fun _ h=>?_) (fun _ h=>?_)
 exact Y
 refine Z ?_
 refine Bo h (fun _ h=>?_)
 refine Z ?_
 refine Ap h (fun _ h=>?_) (fun _ h=>?_)
 exact Y
 refine Z ?_
 refine Rx (f:=Am) (l:=o53) (x:=true) rfl rfl ?_
 exact Y
 refine Z ?_
 refine Bo h (fun _ h=>?_)
 refine Z ?_
 refine Ap h (fun _ h=>?_) (fun _ h=>?_)
 exact Y
 refine Z ?_
 refine Rx (f:=Am) (l:=o53) (x:=true) rfl rfl ?_
 exact Y
 exact Y
 exact Y⟩
instance {a0:List As}:OK (Z2 a0) fun r=>Ar Tryz.prog 187 [On (Hk.mk a0 [] [] [])] (Am r):=⟨fun {r} h=>by
 refine pw C0 Tryz.func187 ?_
 refine Z ?_
 refine Fx h (fun _ h=>?_)
 refine Z ?_
 refine A7 h (fun _=>[(2,(Am false)),(18,(O .i64 0))]) (fun _=>[]) ?_
 rintro _ _ _ _ h _ _
 replace h:=C1 h
 refine Z ?_
 refine A7 h (fun _=>[(2,(Am false)),(30,(O .i64 0))]) (fun _=>[]) ?_
 rintro _ _ _ _ h _ _
 exact Y⟩
instance {a0:List As}:OK (Z1 a0) fun r=>Ar Tryz.prog 186 [On (Hk.mk a0 [] [] [])] (Am r):=⟨fun {r} h=>by
 refine pw C0 Tryz.func186 ?_
 refine Z ?_
 refine Fx h (fun _ h=>?_)
 refine Z ?_
 refine A7 h (fun _=>[(2,(Am false)),(17,(O .i64 0))]) (fun _=>[]) ?_
 rintro _ _ _ _ h _ _
 exact Y⟩
instance {a0:List As}:OK (Zz a0) fun r=>Ar Tryz.prog 184 [On (Hk.mk a0 [] [] [])] (Am r):=⟨fun {r} h=>by
 refine pw C0 Tryz.func184 ?_
 refine Z ?_
 refine Fx h (fun _ h=>?_)
 refine Z ?_
 refine A7 h (fun _=>[(2,(Am false)),(20,(O .i64 0))]) (fun _=>[]) ?_
 rintro _ _ _ _ h _ _
 replace h:=C1 h
 refine Z ?_
 refine A7 h (fun _=>[(2,(Am false)),(33,(O .i64 0))]) (fun _=>[]) ?_
 rintro _ _ _ _ h _ _
 exact Y⟩
instance {a0:Ah} {b0:Hk}:OK (Z6 a0 b0) fun r=>Cn Tryz.prog 246 [C3 a0,(.loc 0 0)] [.cells 165 [(.sl 3 (List.map B7 b0.Data)),(.sl 7 (List.map Ol b0.Codes)),(.sl 3 (Bh b0.Vars)),(.sl 8 (List.map Om b0.Exprs))]] (Am r) [.cells 165 [(.sl 3 (List.map B7 b0.Data)),(.sl 7 (List.map Ol b0.Codes)),(.sl 3 (Bh b0.Vars)),(.sl 8 (List.map Om b0.Exprs))]]:=⟨fun {r} h=>by
 refine aw C0 true Tryz.func246 ?_
 exact Y⟩
instance {a0:List Ah} {b0:Hk}:OK (Z7 a0 b0) fun r=>Cn Tryz.prog 297 [(Fj 3 Bh) a0,(.fn 246 [(.loc 0 0)])] [.cells 165 [(.sl 3 (List.map B7 b0.Data)),(.sl 7 (List.map Ol b0.Codes)),(.sl 3 (Bh b0.Vars)),(.sl 8 (List.map Om b0.Exprs))]] ((O .i64) r) [.cells 165 [(.sl 3 (List.map B7 b0.Data)),(.sl 7 (List.map Ol b0.Codes)),(.sl 3 (Bh b0.Vars)),(.sl 8 (List.map Om b0.Exprs))]]:=⟨fun {r} h=>by
 refine aw C0 true Tryz.func297 ?_
 refine Z ?_
 refine A7 h (fun v3=>[(4,(O .i64 0)),(8,(O .i64 v3))]) (fun v3=>[]) ?_
 rintro v3 _ _ _ h _ _
 refine Z ?_
 refine Ap h (fun _ h=>?_) (fun _ h=>?_)
 refine Z ?_
 refine Ce h (fun _ _ _ _ h=>?_)
 refine Z ?_
 refine Bl [0] h (fun _ h=>?_)
 exact Y
 exact Y⟩
instance {a0:List Ah} {b0:Hk}:OK (Z5 a0 b0) fun r=>Cn Tryz.prog 245 [(Fj 3 Bh) a0,(.fn 246 [(.loc 0 0)])] [.cells 165 [(.sl 3 (List.map B7 b0.Data)),(.sl 7 (List.map Ol b0.Codes)),(.sl 3 (Bh b0.Vars)),(.sl 8 (List.map Om b0.Exprs))]] (Am r) [.cells 165 [(.sl 3 (List.map B7 b0.Data)),(.sl 7 (List.map Ol b0.Codes)),(.sl 3 (Bh b0.Vars)),(.sl 8 (List.map Om b0.Exprs))]]:=⟨fun {r} h=>by
 refine aw C0 true Tryz.func245 ?_
 refine Z ?_
 refine Bl [0] h (fun _ h=>?_)
 exact Y⟩
instance {a0:List As}:OK (Zx a0) fun r=>Ar Tryz.prog 182 [On (Hk.mk a0 [] [] [])] (Am r):=⟨fun {r} h=>by
 refine pw C0 Tryz.func182 ?_
 refine Z ?_
 refine Bl [0] h (fun _ h=>?_)
 exact Y⟩
instance {a0:List As}:OK (Pw a0) fun r=>Ar Tryz.prog 114 [On (Hk.mk a0 [] [] [])] (Am r):=⟨fun {r} h=>by
 refine pw C0 Tryz.func114 ?_
 exact Y⟩
instance {a0:Int}:OK (Qd a0) fun r=>Ar Tryz.prog 311 [(O .i64) a0] (Am r):=⟨fun {r} h=>by
 refine pw C0 Tryz.func311 ?_
 exact Y⟩
instance {a0:Int}:OK (Tg a0) fun r=>Ar Tryz.prog 312 [(O .i64) a0] (Am r):=⟨fun {r} h=>by
 refine pw C0 Tryz.func312 ?_
 exact Y⟩
end Go.Ab
namespace Go.Ab
open Go Go.Proofs
set_option maxRecDepth 10000
set_option maxHeartbeats 4000000
set_option linter.unusedVariables false
instance {a0:Di}:OK (Oa a0) fun r=>Ar Tryz.prog 257 [I0 a0] (Am r):=⟨fun {r} h=>by
 refine pw C0 Tryz.func257 ?_
 refine ZS ?_
 refine Bp ?_
 refine ZO ?_
 refine Ay (Ay ?_)
 refine Bq h (fun v3=>[(14,(Am v3))]) (fun v3=>[]) ?_ ?_
 intro _ h _ _ _
 exact Y
 rintro v3 _ h
 refine Ap h (fun _ h=>?_) (fun _ h=>?_)
 exact Y
 refine Z ?_
 refine A7 h (fun v8=>[(2,(Am false)),(18,(O .i64 v8))]) (fun v8=>[]) ?_
 rintro v8 _ _ _ h _ _
 exact Y⟩
instance {a0:Int}:OK (F4 a0) fun r=>Ar Tryz.prog 193 [(O .i64) a0] (C8 r):=⟨fun {r} h=>by
 exact Anh h⟩
instance {b1:List Int}:OK (Qo b1) fun r=>Cn Tryz.prog 258 [(.loc 0 0)] [.cells 232 [(.loc 0 0),(.arr 1 b1.length 0 b1.length)],.rows 5 1 (List.map (O .u8) b1)] (.tup []) [.cells 232 [(.loc 0 0),(.arr 1 b1.length 0 b1.length)],.rows 5 1 (List.map (O .u8) b1)]:=⟨fun {r} h=>by
 cases h
 exact Anl _ _⟩
instance {a0:Int} {b1:List Int}:OK (Qf a0 b1) fun r=>Cn Tryz.prog 314 [(.loc 0 0),(O .u8) a0] [.cells 232 [(.loc 0 0),(.arr 1 b1.length 0 b1.length)],.rows 5 1 (List.map (O .u8) b1)] (.val .nilIface) [.cells 232 [(.loc 0 0),(.arr 1 r.length 0 r.length)],.rows 5 1 (List.map (O .u8) r)]:=⟨fun {r} h=>by
 refine aw C0 true Tryz.func314 ?_
 refine Z ?_
 refine Bl [0,1] h (fun _ h=>?_)
 exact Y⟩
instance {a0:ByteArray} {b1:List Int}:OK (E4 a0 b1) fun r=>Cn Tryz.prog 191 [(.loc 0 0),C8 a0] [.cells 232 [(.loc 0 0),(.arr 1 b1.length 0 b1.length)],.rows 5 1 (List.map (O .u8) b1)] (.tup [(O .i64) r.1,.val .nilIface]) [.cells 232 [(.loc 0 0),(.arr 1 r.2.length 0 r.2.length)],.rows 5 1 (List.map (O .u8) r.2)]:=⟨fun {r} h=>by
 refine aw C0 true Tryz.func191 ?_
 refine Z ?_
 refine Bl [0,1] h (fun _ h=>?_)
 exact Y⟩
abbrev Afh (k:Nat):Prop:=∀{a0:A6} {b1:List Int},OK (Ob k a0 b1) fun r=>Cn Tryz.prog 259 [(.loc 0 0),Ek a0] [.cells 232 [(.loc 0 0),(.arr 1 b1.length 0 b1.length)],.rows 5 1 (List.map (O .u8) b1)] (.tup []) [.cells 232 [(.loc 0 0),(.arr 1 r.length 0 r.length)],.rows 5 1 (List.map (O .u8) r)]
theorem Ans (k:Nat):Afh k:=by
 induction k with
 | zero=>exact okz
 | succ k ih=>
  refine @fun a0 b1=>⟨fun {r} h=>?_⟩
  .unfold Ob at h
   refine aw C0 true Tryz.func259 ?_
   refine Z ?_
   refine Bo h (fun _ h=>?_)
   refine Z ?_
   refine Bl [0,1] h (fun _ h=>?_)
   refine Z ?_
   refine Ap h (fun _ h=>?_) (fun _ h=>?_)
   refine Z ?_
   refine Bl [0,1] h (fun _ h=>?_)
   refine Z ?_
   refine A7 h (fun (v15,o16)=>[(20,(O .i64 v15))]) (fun (v15,o16)=>[(0,.cells 232 [(.loc 0 0),(.arr 1 o16.length 0 o16.length)]),(1,.rows 5 1 (List.map (O .u8) o16))]) ?_
   rintro ⟨v15,o16⟩ _ _ _ h _ _
   refine Z ?_
   refine Ap h (fun _ h=>?_) (fun _ h=>?_)
   refine Z ?_
   refine Ce h (fun _ _ _ _ h=>?_)
   refine Z ?_
   refine Bl [0,1] h (fun _ h=>?_)
   refine Z ?_
   refine Bl [0,1] h (fun _ h=>?_)
   exact Y
   replace h:=C1 h
   refine Z ?_
   refine Bl [0,1] h (fun _ h=>?_)
   exact Y
   exact Y
instance {k:Nat}:Afh k:=(Ans k)
instance {b1:List Int}:OK (Iy b1) fun r=>Cn Tryz.prog 195 [(.loc 0 0)] [.cells 232 [(.loc 0 0),(.arr 1 b1.length 0 b1.length)],.rows 5 1 (List.map (O .u8) b1)] (C8 r) [.cells 232 [(.loc 0 0),(.arr 1 b1.length 0 b1.length)],.dead]:=⟨fun {r} h=>by
 exact Aex h⟩
instance {b1:List Int}:OK (S9 b1) fun r=>Cn Tryz.prog 258 [(.loc 0 0)] [.cells 232 [(.val (.pointer none)),(.arr 1 b1.length 0 b1.length)],.rows 5 1 (List.map (O .u8) b1)] (.tup []) [.cells 232 [(.loc 0 0),(.arr 1 b1.length 0 b1.length)],.rows 5 1 (List.map (O .u8) b1)]:=⟨fun {r} h=>by
 cases h
 exact Anm _ _⟩
instance {a0:ByteArray} {b1:List Int}:OK (Hi a0 b1) fun r=>Cn Tryz.prog 191 [(.loc 0 0),C8 a0] [.cells 232 [(.val (.pointer none)),(.arr 1 b1.length 0 b1.length)],.rows 5 1 (List.map (O .u8) b1)] (.tup [(O .i64) r.1,(.val .nilIface)]) [.cells 232 [(.loc 0 0),(.arr 1 r.2.length 0 r.2.length)],.rows 5 1 (List.map (O .u8) r.2)]:=⟨fun {r} h=>by
 refine aw C0 true Tryz.func191 ?_
 refine Z ?_
 refine Bl [0,1] h (fun _ h=>?_)
 exact Y⟩
instance {a0:Int} {a1:A6}:OK (Mf a0 a1) fun r=>Ar Tryz.prog 192 [(O .i64) a0,Ek a1] (C8 r):=⟨fun {r} h=>by
 refine pw C0 Tryz.func192 ?_
 refine ZS ?_
 refine Bp ?_
 refine ZS ?_
 refine Bp ?_
 refine ZO ?_
 refine Ay ?_
 refine D7 [.own 5 1 5 1] ?_
 refine Z ?_
 refine Bo h (fun _ h=>?_)
 refine Z ?_
 refine Fe h (fun h=>?_)
 refine Z ?_
 refine Fe h (fun h=>?_)
 refine Z ?_
 refine Bl [1,2] h (fun _ h=>?_)
 refine Z ?_
 refine Bl [1,2] h (fun _ h=>?_)
 refine Z ?_
 refine Bl [1,2] h (fun _ h=>?_)
 exact Y⟩
abbrev Afi (k:Nat):Prop:=∀{a0:Ah},OK (N5 k a0) fun r=>Ar Tryz.prog 224 [C3 a0] ((O .i64) r)
theorem Ant (k:Nat):Afi k:=by
 induction k with
 | zero=>exact okz
 | succ k ih=>
  refine @fun a0=>⟨fun {r} h=>?_⟩
  .unfold N5 at h
   refine pw C0 Tryz.func224 ?_
   refine Z ?_
   refine A7 h (fun (v5,v6)=>[(3,(O .i64 v5)),(9,(O .i64 v6))]) (fun (v5,v6)=>[]) ?_
   rintro ⟨v5,v6⟩ _ _ _ h _ _
   exact Y
instance {k:Nat}:Afi k:=(Ant k)
abbrev Afj (k:Nat):Prop:=∀{a0:Ah} {a1:List Ah},OK (Mh k a0 a1) fun r=>Ar Tryz.prog 226 [C3 a0,(Fj 3 Bh) a1] (C3 r)
theorem Anu (k:Nat):Afj k:=by
 induction k with
 | zero=>exact okz
 | succ k ih=>
  refine @fun a0 a1=>⟨fun {r} h=>?_⟩
  .unfold Mh at h
   refine pw {T:=Ca,an:=(fun _=>.ask),nl:=(fun s=>bif Nat.beq s 42 then [(0,3)] else [])} Tryz.func226 ?_
   refine ZS ?_
   refine Bp ?_
   refine ZO ?_
   refine Ay (Ay ?_)
   refine Bq h (fun v3=>[(22,(Am v3))]) (fun v3=>[]) ?_ ?_
   intro _ h _ _ _
   exact Y
   rintro v3 _ h
   refine Ap h (fun _ h=>?_) (fun _ h=>?_)
   exact Y
   refine ZS ?_
   refine Bp ?_
   refine ZO ?_
   refine Ay (Ay ?_)
   refine D7 [.own 5 2 25 3] ?_
   refine Z ?_
   refine A7 h (fun (v18,o19)=>[(37,(O .i64 v18))]) (fun (v18,o19)=>[(2,.cells 25 [(O .i64 a0.Kind),(O .i64 a0.Num),(.arr 3 o19.length 0 o19.length)]),(3,.rows 25 3 (Bh o19))]) ?_
   rintro ⟨v18,o19⟩ _ _ _ h _ _
   exact Y
instance {k:Nat}:Afj k:=(Anu k)
abbrev Afk (k:Nat):Prop:=∀{a0:Ah} {a1:List Int},OK (N6 k a0 a1) fun r=>Ar Tryz.prog 225 [C3 a0,(Aw 1 (O .i64)) a1] ((O .i64) r)
theorem Anv (k:Nat):Afk k:=by
 induction k with
 | zero=>exact okz
 | succ k ih=>
  refine @fun a0 a1=>⟨fun {r} h=>?_⟩
  .unfold N6 at h
   refine pw C0 Tryz.func225 ?_
   refine ZS ?_
   refine Bp ?_
   refine ZO ?_
   refine Ay (Ay ?_)
   refine Bq h (fun v2=>[(22,(Am v2))]) (fun v2=>[]) ?_ ?_
   intro _ h _ _ _
   exact Y
   rintro v2 _ h
   refine Ap h (fun _ h=>?_) (fun _ h=>?_)
   exact Y
   refine Z ?_
   refine A7 h (fun (v7,v8)=>[(5,(O .i64 v7)),(31,(O .i64 v8))]) (fun (v7,v8)=>[]) ?_
   rintro ⟨v7,v8⟩ _ _ _ h _ _
   exact Y
instance {k:Nat}:Afk k:=(Anv k)
instance {a0:List As} {a1:Ah} {a2:Int}:OK (To a0 a1 a2) fun r=>Ar Tryz.prog 143 [(Aw 3 B7) a0,C3 a1,(O .i64) a2] (.tup [(Fj 3 Bh) r.1,Am r.2]):=⟨fun {r} h=>by
 refine pw {T:=Ca,an:=(fun s=>bif Nat.beq s 14 then .own else .ask),nl:=(fun s=>bif Nat.beq s 14 then [(0,3)] else bif Nat.beq s 6 then [(0,3)] else [])} Tryz.func143 ?_
 refine ZS ?_
 refine Bp ?_
 refine ZO ?_
 refine Ay (Ay ?_)
 refine Bq h (fun v2=>[(31,(Am v2))]) (fun v2=>[]) ?_ ?_
 intro _ h _ _ _
 exact Y
 rintro v2 _ h
 refine Ap h (fun _ h=>?_) (fun _ h=>?_)
 exact Y
 refine Z ?_
 refine Ce h (fun _ _ _ _ h=>?_)
 refine ZO ?_
 refine Ay (Ay ?_)
 refine Bq h (fun v5=>[(53,(Am v5))]) (fun v5=>[]) ?_ ?_
 intro _ h _ _ _
 exact Y
 rintro v5 _ h
 refine Ap h (fun _ h=>?_) (fun _ h=>?_)
 exact Y
 refine Z ?_
 refine Fx h (fun o6 h=>?_)
 refine Z ?_
 refine Gj h (fun (v12,o13)=>[(61,(O .i64 v12))]) (fun (v12,o13)=>[(2,.rows 3 1 (List.map (O .i64) o13))]) (fun (v12,o13)=>o6.length=o13.length) ?_
 rintro ⟨v12,o13⟩ _ _ _ h _ _ q13
 refine Z ?_
 refine Ap h (fun _ h=>?_) (fun _ h=>?_)
 exact Y
 replace h:=C1 h
 refine Z ?_
 refine Ce h (fun _ _ _ _ h=>?_)
 refine ZO ?_
 refine Jo ?_
 refine D7 [.fz 9] ?_
 refine Z ?_
 refine A7 h (fun v23=>[(6,(.sl 3 (Bh []))),(7,(Am false)),(79,(O .i64 v23))]) (fun v23=>[]) ?_
 rintro v23 _ _ _ h _ _
 refine Z ?_
 refine Ap h (fun _ h=>?_) (fun _ h=>?_)
 exact Y
 replace h:=C1 h
 refine Z ?_
 refine Ce h (fun _ _ _ _ h=>?_)
 refine Z ?_
 refine A7 h (fun (v41,o42)=>[(14,(.arr 3 o42.length 0 o42.length)),(95,(O .i64 v41))]) (fun (v41,o42)=>[(3,.rows 25 3 (Bh o42))]) ?_
 rintro ⟨v41,o42⟩ _ _ _ h _ _
 exact Y⟩
abbrev Afl (k:Nat):Prop:=∀{a0:Ah} {a1:A6} {b1:List (ByteArray×Int)} {b2:List (ByteArray×(List Dv))} {b0_0:List As} {b0_1:List Ah} {b0_2 b0_3:Int} {b0_4:List Ah},OK (Oj k a0 a1 b1 b2 b0_0 b0_1 b0_2 b0_3 b0_4) fun r=>Cn Tryz.prog 333 [(.loc 0 0),C3 a0,Ek a1] [.cells 168 [(.sl 3 (List.map B7 b0_0)),(.sl 3 (Bh b0_1)),(O .i64 b0_2),(O .i64 b0_3),(.sl 3 (Bh b0_4)),(.mp 1),(.mp 2)],.map (Bk (O .i64) b1),.map (Bk (Aw 5 El) b2)] ((O .i64) r) [.cells 168 [(.sl 3 (List.map B7 b0_0)),(.sl 3 (Bh b0_1)),(O .i64 b0_2),(O .i64 b0_3),(.sl 3 (Bh b0_4)),(.mp 1),(.mp 2)],.map (Bk (O .i64) b1),.map (Bk (Aw 5 El) b2)]
abbrev Afm (k:Nat):Prop:=∀{a0:Ah} {a1:A6} {b1:List (ByteArray×Int)} {b2:List (ByteArray×(List Dv))} {b0_0:List As} {b0_1:List Ah} {b0_2 b0_3:Int} {b0_4:List Ah},OK (Ml k a0 a1 b1 b2 b0_0 b0_1 b0_2 b0_3 b0_4) fun r=>Cn Tryz.prog 310 [(.loc 0 0),C3 a0,Ek a1] [.cells 168 [(.sl 3 (List.map B7 b0_0)),(.sl 3 (Bh b0_1)),(O .i64 b0_2),(O .i64 b0_3),(.sl 3 (Bh b0_4)),(.mp 1),(.mp 2)],.map (Bk (O .i64) b1),.map (Bk (Aw 5 El) b2)] ((O .i64) r) [.cells 168 [(.sl 3 (List.map B7 b0_0)),(.sl 3 (Bh b0_1)),(O .i64 b0_2),(O .i64 b0_3),(.sl 3 (Bh b0_4)),(.mp 1),(.mp 2)],.map (Bk (O .i64) b1),.map (Bk (Aw 5 El) b2)]
abbrev Afn (k:Nat):Prop:=∀{a0:List Ah} {a1:List A6} {b1:List (ByteArray×Int)} {b2:List (ByteArray×(List Dv))} {b0_0:List As} {b0_1:List Ah} {b0_2 b0_3:Int} {b0_4:List Ah},OK (Oi k a0 a1 b1 b2 b0_0 b0_1 b0_2 b0_3 b0_4) fun r=>Cn Tryz.prog 332 [(.loc 0 0),(Fj 3 Bh) a0,(Fj 2 Gg) a1] [.cells 168 [(.sl 3 (List.map B7 b0_0)),(.sl 3 (Bh b0_1)),(O .i64 b0_2),(O .i64 b0_3),(.sl 3 (Bh b0_4)),(.mp 1),(.mp 2)],.map (Bk (O .i64) b1),.map (Bk (Aw 5 El) b2)] ((O .i64) r) [.cells 168 [(.sl 3 (List.map B7 b0_0)),(.sl 3 (Bh b0_1)),(O .i64 b0_2),(O .i64 b0_3),(.sl 3 (Bh b0_4)),(.mp 1),(.mp 2)],.map (Bk (O .i64) b1),.map (Bk (Aw 5 El) b2)]
theorem Aag (k:Nat):Afl k/\Afm k/\Afn k:=by
 induction k with
 | zero=>exact ⟨okz,okz,okz⟩
 | succ k ih=>
  obtain ⟨i0_,i1_,i2_⟩:=ih
  refine ⟨@fun a0 a1 b1 b2 b0_0 b0_1 b0_2 b0_3 b0_4=>⟨fun {r} h=>?_⟩,@fun a0 a1 b1 b2 b0_0 b0_1 b0_2 b0_3 b0_4=>⟨fun {r} h=>?_⟩,@fun a0 a1 b1 b2 b0_0 b0_1 b0_2 b0_3 b0_4=>⟨fun {r} h=>?_⟩⟩
  .unfold Oj at h
   refine aw {T:=Ca,an:=(fun s=>bif Nat.beq s 9 then .own else .ask),nl:=(fun s=>bif Nat.beq s 9 then [(0,3)] else [])} true Tryz.func333 ?_
   refine Z ?_
   refine Bo h (fun _ h=>?_)
   refine Z ?_
   refine Ap h (fun _ h=>?_) (fun _ h=>?_)
   exact Y
   refine Z ?_
   refine Bo h (fun _ h=>?_)
   refine Z ?_
   refine A7 h (fun (v14,o15)=>[(9,(.arr 5 o15.length 0 o15.length)),(38,(O .i64 v14))]) (fun (v14,o15)=>[(5,.rows 25 3 (Bh o15))]) ?_
   rintro ⟨v14,o15⟩ _ _ _ h _ _
   refine Z ?_
   refine Ap h (fun _ h=>?_) (fun _ h=>?_)
   exact Y
   replace h:=C1 h
   refine Gf (Gd rfl (Ay ?_))
   refine D7 [.fz 9] ?_
   refine Z ?_
   refine Bl [0,1,2] h (fun _ h=>?_)
   exact Y
  .unfold Ml at h
   refine aw C0 true Tryz.func310 ?_
   refine Z ?_
   refine Ap h (fun _ h=>?_) (fun _ h=>?_)
   refine Z ?_
   refine Ap h (fun _ h=>?_) (fun _ h=>?_)
   refine Z ?_
   refine Bl [0,1,2] h (fun _ h=>?_)
   exact Y
   exact Y
   refine Z ?_
   refine Ap h (fun _ h=>?_) (fun _ h=>?_)
   exact Y
   refine Z ?_
   refine Ap h (fun _ h=>?_) (fun _ h=>?_)
   refine Z ?_
   refine Ap h (fun _ h=>?_) (fun _ h=>?_)
   exact Y
   refine Z ?_
   refine A7 h (fun (v7,v8)=>[(6,(O .i64 0)),(7,(O .i64 v7)),(50,(O .i64 v8))]) (fun (v7,v8)=>[]) ?_
   rintro ⟨v7,v8⟩ _ _ _ h _ _
   refine Z ?_
   refine Ap h (fun _ h=>?_) (fun _ h=>?_)
   refine Z ?_
   refine Ce h (fun _ _ _ _ h=>?_)
   refine Z ?_
   refine Bl [0,1,2] h (fun _ h=>?_)
   exact Y
   exact Y
   exact Y
  .unfold Oi at h
   refine aw C0 true Tryz.func332 ?_
   refine Z ?_
   refine Ap h (fun _ h=>?_) (fun _ h=>?_)
   exact Y
   refine Z ?_
   refine A7 h (fun (v5,v6)=>[(6,(O .i64 0)),(7,(O .i64 v5)),(18,(O .i64 v6))]) (fun (v5,v6)=>[]) ?_
   rintro ⟨v5,v6⟩ _ _ _ h _ _
   refine Z ?_
   refine Ap h (fun _ h=>?_) (fun _ h=>?_)
   refine Z ?_
   refine Ce h (fun _ _ _ _ h=>?_)
   refine Z ?_
   refine Ce h (fun _ _ _ _ h=>?_)
   refine Z ?_
   refine Bl [0,1,2] h (fun _ h=>?_)
   exact Y
   exact Y
instance {k:Nat}:Afl k:=(Aag k).1
instance {k:Nat}:Afm k:=(Aag k).2.1
instance {k:Nat}:Afn k:=(Aag k).2.2
instance {a0:Int} {b1:List (ByteArray×Int)} {b2:List (ByteArray×(List Dv))} {b0_0:List As} {b0_1:List Ah} {b0_2 b0_3:Int} {b0_4:List Ah}:OK (L3 a0 b1 b2 b0_0 b0_1 b0_2 b0_3 b0_4) fun r=>Cn Tryz.prog 71 [(.loc 0 0),(O .i64) a0] [.cells 168 [(.sl 3 (List.map B7 b0_0)),(.sl 3 (Bh b0_1)),(O .i64 b0_2),(O .i64 b0_3),(.sl 3 (Bh b0_4)),(.mp 1),(.mp 2)],.map (Bk (O .i64) b1),.map (Bk (Aw 5 El) b2)] (C3 r) [.cells 168 [(.sl 3 (List.map B7 b0_0)),(.sl 3 (Bh b0_1)),(O .i64 b0_2),(O .i64 b0_3),(.sl 3 (Bh b0_4)),(.mp 1),(.mp 2)],.map (Bk (O .i64) b1),.map (Bk (Aw 5 El) b2)]:=⟨fun {r} h=>by
 refine aw C0 true Tryz.func71 ?_
 exact Y⟩
instance {a0:Int} {a1:A6} {b1:List (ByteArray×Int)} {b2:List (ByteArray×(List Dv))} {b0_0:List As} {b0_1:List Ah} {b0_2 b0_3:Int} {b0_4:List Ah}:OK (Kj a0 a1 b1 b2 b0_0 b0_1 b0_2 b0_3 b0_4) fun r=>Cn Tryz.prog 256 [(.loc 0 0),(O .i64) a0,Ek a1] [.cells 168 [(.sl 3 (List.map B7 b0_0)),(.sl 3 (Bh b0_1)),(O .i64 b0_2),(O .i64 b0_3),(.sl 3 (Bh b0_4)),(.mp 1),(.mp 2)],.map (Bk (O .i64) b1),.map (Bk (Aw 5 El) b2)] ((O .i64) r.1) [.cells 168 [(.sl 3 (List.map B7 b0_0)),(.sl 3 (Bh b0_1)),(O .i64 b0_2),(O .i64 b0_3),(.sl 3 (Bh b0_4)),(.mp 1),(.mp 2)],.map (Bk (O .i64) r.2),.map (Bk (Aw 5 El) b2)]:=⟨fun {r} h=>by
 refine aw C0 true Tryz.func256 ?_
 refine Z ?_
 refine Bo h (fun _ h=>?_)
 refine ZO ?_
 refine Ay ?_
 refine Bq h (fun (v3,v4)=>[(8,(O .i64 v3)),(9,(Am v4))]) (fun (v3,v4)=>[]) ?_ ?_
 intro _ h _ _ _
 refine Z ?_
 refine Vh (f:=(O .i64)) (l:=b1) rfl (0:Int) h (fun j_ hb h=>?_) (fun hb h=>?_)
 exact Y
 exact Y
 rintro ⟨v3,v4⟩ _ h
 refine Z ?_
 refine Ap h (fun _ h=>?_) (fun _ h=>?_)
 refine Z ?_
 refine Bl [0,1,2] h (fun _ h=>?_)
 refine Z ?_
 refine Bl [0,1,2] h (fun _ h=>?_)
 refine ZS ?_
 refine Bp ?_
 refine ZO ?_
 refine Bq h (fun v7=>[(8,(O .i64 v7))]) (fun v7=>[]) ?_ ?_
 intro _ h _ _ _
 exact Y
 rintro v7 _ h
 refine Z ?_
 refine Rx (f:=(O .i64)) (l:=b1) (x:=v7) rfl rfl ?_
 exact Y
 exact Y⟩
instance {a0:Bi} {b1:List (ByteArray×Int)} {b2:List (ByteArray×(List Dv))} {b0_0:List As} {b0_1:List Ah} {b0_2 b0_3:Int} {b0_4:List Ah}:OK (S8 a0 b1 b2 b0_0 b0_1 b0_2 b0_3 b0_4) fun r=>Cn Tryz.prog 255 [(.loc 0 0),Gi a0] [.cells 168 [(.sl 3 (List.map B7 b0_0)),(.sl 3 (Bh b0_1)),(O .i64 b0_2),(O .i64 b0_3),(.sl 3 (Bh b0_4)),(.mp 1),(.mp 2)],.map (Bk (O .i64) b1),.map (Bk (Aw 5 El) b2)] ((O .i64) r.1) [.cells 168 [(.sl 3 (List.map B7 b0_0)),(.sl 3 (Bh b0_1)),(O .i64 b0_2),(O .i64 b0_3),(.sl 3 (Bh b0_4)),(.mp 1),(.mp 2)],.map (Bk (O .i64) r.2),.map (Bk (Aw 5 El) b2)]:=⟨fun {r} h=>by
 refine aw C0 true Tryz.func255 ?_
 refine Z ?_
 refine A7 h (fun (v5,v6,o7)=>[(5,(O .i64 v5)),(13,(O .i64 v6))]) (fun (v5,v6,o7)=>[(1,.map (Bk (O .i64) o7))]) ?_
 rintro ⟨v5,v6,o7⟩ _ _ _ h _ _
 refine Z ?_
 refine Ap h (fun _ h=>?_) (fun _ h=>?_)
 refine Z ?_
 refine Ce h (fun _ _ _ _ h=>?_)
 refine Z ?_
 refine Ap h (fun _ h=>?_) (fun _ h=>?_)
 refine Z ?_
 refine Bl [0,1,2] h (fun _ h=>?_)
 exact Y
 exact Y
 replace h:=C1 h
 refine Z ?_
 refine A7 h (fun (v15,v16)=>[(5,(O .i64 v15)),(31,(O .i64 v16))]) (fun (v15,v16)=>[]) ?_
 rintro ⟨v15,v16⟩ _ _ _ h _ _
 exact Y⟩
instance {a0:Int} {b1:List (ByteArray×Int)} {b2:List (ByteArray×(List Dv))} {b0_0:List As} {b0_1:List Ah} {b0_2 b0_3:Int} {b0_4:List Ah}:OK (Oh a0 b1 b2 b0_0 b0_1 b0_2 b0_3 b0_4) fun r=>Cn Tryz.prog 308 [(.loc 0 0),(O .i64) a0] [.cells 168 [(.sl 3 (List.map B7 b0_0)),(.sl 3 (Bh b0_1)),(O .i64 b0_2),(O .i64 b0_3),(.sl 3 (Bh b0_4)),(.mp 1),(.mp 2)],.map (Bk (O .i64) b1),.map (Bk (Aw 5 El) b2)] (Am r) [.cells 168 [(.sl 3 (List.map B7 b0_0)),(.sl 3 (Bh b0_1)),(O .i64 b0_2),(O .i64 b0_3),(.sl 3 (Bh b0_4)),(.mp 1),(.mp 2)],.map (Bk (O .i64) b1),.map (Bk (Aw 5 El) b2)]:=⟨fun {r} h=>by
 refine aw C0 true Tryz.func308 ?_
 exact Y⟩
instance {a0:Ds} {b2:List (ByteArray×Int)} {b3:List (ByteArray×(List Dv))} {b1_0:List As} {b1_1:List Ah} {b1_2 b1_3:Int} {b1_4:List Ah}:OK (Qg a0 b2 b3 b1_0 b1_1 b1_2 b1_3 b1_4) fun r=>Cn Tryz.prog 331 [Gx a0,(.loc 0 0)] [.cells 97 [(.loc 1 0)],.cells 168 [(.sl 3 (List.map B7 b1_0)),(.sl 3 (Bh b1_1)),(O .i64 b1_2),(O .i64 b1_3),(.sl 3 (Bh b1_4)),(.mp 2),(.mp 3)],.map (Bk (O .i64) b2),.map (Bk (Aw 5 El) b3)] (Am r) [.cells 97 [(.loc 1 0)],.cells 168 [(.sl 3 (List.map B7 b1_0)),(.sl 3 (Bh b1_1)),(O .i64 b1_2),(O .i64 b1_3),(.sl 3 (Bh b1_4)),(.mp 2),(.mp 3)],.map (Bk (O .i64) b2),.map (Bk (Aw 5 El) b3)]:=⟨fun {r} h=>by
 refine aw C0 true Tryz.func331 ?_
 refine Z ?_
 refine Bl [1,2,3] h (fun _ h=>?_)
 refine Z ?_
 refine Fs h (fun _ h=>?_) (fun _ h=>?_)
 exact Y
 refine Z ?_
 refine Bl [1,2,3] h (fun _ h=>?_)
 refine Z ?_
 refine Adg.mk 3 (by kernel_rfl) ?_
 exact Y⟩
instance {a0:List Ds} {b2:List (ByteArray×Int)} {b3:List (ByteArray×(List Dv))} {b1_0:List As} {b1_1:List Ah} {b1_2 b1_3:Int} {b1_4:List Ah}:OK (V7 a0 b2 b3 b1_0 b1_1 b1_2 b1_3 b1_4) fun r=>Cn Tryz.prog 352 [(Aw 2 Gx) a0,(.fn 331 [(.loc 0 0)])] [.cells 97 [(.loc 1 0)],.cells 168 [(.sl 3 (List.map B7 b1_0)),(.sl 3 (Bh b1_1)),(O .i64 b1_2),(O .i64 b1_3),(.sl 3 (Bh b1_4)),(.mp 2),(.mp 3)],.map (Bk (O .i64) b2),.map (Bk (Aw 5 El) b3)] ((O .i64) r) [.cells 97 [(.loc 1 0)],.cells 168 [(.sl 3 (List.map B7 b1_0)),(.sl 3 (Bh b1_1)),(O .i64 b1_2),(O .i64 b1_3),(.sl 3 (Bh b1_4)),(.mp 2),(.mp 3)],.map (Bk (O .i64) b2),.map (Bk (Aw 5 El) b3)]:=⟨fun {r} h=>by
 refine aw C0 true Tryz.func352 ?_
 refine Z ?_
 refine A7 h (fun v3=>[(4,(O .i64 0)),(8,(O .i64 v3))]) (fun v3=>[]) ?_
 rintro v3 _ _ _ h _ _
 refine Z ?_
 refine Ap h (fun _ h=>?_) (fun _ h=>?_)
 refine Z ?_
 refine Ce h (fun _ _ _ _ h=>?_)
 refine Z ?_
 refine Bl [0,1,2,3] h (fun _ h=>?_)
 exact Y
 exact Y⟩
instance {a0:List Ds} {b2:List (ByteArray×Int)} {b3:List (ByteArray×(List Dv))} {b1_0:List As} {b1_1:List Ah} {b1_2 b1_3:Int} {b1_4:List Ah}:OK (V6 a0 b2 b3 b1_0 b1_1 b1_2 b1_3 b1_4) fun r=>Cn Tryz.prog 330 [(Aw 2 Gx) a0,(.fn 331 [(.loc 0 0)])] [.cells 97 [(.loc 1 0)],.cells 168 [(.sl 3 (List.map B7 b1_0)),(.sl 3 (Bh b1_1)),(O .i64 b1_2),(O .i64 b1_3),(.sl 3 (Bh b1_4)),(.mp 2),(.mp 3)],.map (Bk (O .i64) b2),.map (Bk (Aw 5 El) b3)] (Am r) [.cells 97 [(.loc 1 0)],.cells 168 [(.sl 3 (List.map B7 b1_0)),(.sl 3 (Bh b1_1)),(O .i64 b1_2),(O .i64 b1_3),(.sl 3 (Bh b1_4)),(.mp 2),(.mp 3)],.map (Bk (O .i64) b2),.map (Bk (Aw 5 El) b3)]:=⟨fun {r} h=>by
 refine aw C0 true Tryz.func330 ?_
 refine Z ?_
 refine Bl [0,1,2,3] h (fun _ h=>?_)
 exact Y⟩
instance {a0:Di} {b1:List (ByteArray×Int)} {b2:List (ByteArray×(List Dv))} {b0_0:List As} {b0_1:List Ah} {b0_2 b0_3:Int} {b0_4:List Ah}:OK (Qc a0 b1 b2 b0_0 b0_1 b0_2 b0_3 b0_4) fun r=>Cn Tryz.prog 309 [(.loc 0 0),I0 a0] [.cells 168 [(.sl 3 (List.map B7 b0_0)),(.sl 3 (Bh b0_1)),(O .i64 b0_2),(O .i64 b0_3),(.sl 3 (Bh b0_4)),(.mp 1),(.mp 2)],.map (Bk (O .i64) b1),.map (Bk (Aw 5 El) b2)] (Am r) [.cells 168 [(.sl 3 (List.map B7 b0_0)),(.sl 3 (Bh b0_1)),(O .i64 b0_2),(O .i64 b0_3),(.sl 3 (Bh b0_4)),(.mp 1),(.mp 2)],.map (Bk (O .i64) b1),.map (Bk (Aw 5 El) b2)]:=⟨fun {r} h=>by
 refine aw C0 true Tryz.func309 ?_
 refine Z ?_
 refine Bl [3,0,1,2] h (fun _ h=>?_)
 exact Y⟩
instance {a0:Bi} {b1:List (ByteArray×Int)} {b2:List (ByteArray×(List Dv))} {b0_0:List As} {b0_1:List Ah} {b0_2 b0_3:Int} {b0_4:List Ah}:OK (S7 a0 b1 b2 b0_0 b0_1 b0_2 b0_3 b0_4) fun r=>Cn Tryz.prog 254 [(.loc 0 0),Gi a0] [.cells 168 [(.sl 3 (List.map B7 b0_0)),(.sl 3 (Bh b0_1)),(O .i64 b0_2),(O .i64 b0_3),(.sl 3 (Bh b0_4)),(.mp 1),(.mp 2)],.map (Bk (O .i64) b1),.map (Bk (Aw 5 El) b2)] (Am r.1) [.cells 168 [(.sl 3 (List.map B7 b0_0)),(.sl 3 (Bh b0_1)),(O .i64 b0_2),(O .i64 b0_3),(.sl 3 (Bh b0_4)),(.mp 1),(.mp 2)],.map (Bk (O .i64) r.2),.map (Bk (Aw 5 El) b2)]:=⟨fun {r} h=>by
 refine aw C0 true Tryz.func254 ?_
 refine Z ?_
 refine A7 h (fun (v6,o7)=>[(4,(Am false)),(12,(O .i64 v6))]) (fun (v6,o7)=>[(1,.map (Bk (O .i64) o7))]) ?_
 rintro ⟨v6,o7⟩ _ _ _ h _ _
 refine Z ?_
 refine Ap h (fun _ h=>?_) (fun _ h=>?_)
 refine Z ?_
 refine Ce h (fun _ _ _ _ h=>?_)
 refine Z ?_
 refine Bl [0,1,2] h (fun _ h=>?_)
 refine Z ?_
 refine Fs h (fun _ h=>?_) (fun _ h=>?_)
 exact Y
 refine Z ?_
 refine Bl [0,1,2] h (fun _ h=>?_)
 exact Y
 replace h:=C1 h
 refine Z ?_
 refine A7 h (fun v18=>[(4,(Am false)),(34,(O .i64 v18))]) (fun v18=>[]) ?_
 rintro v18 _ _ _ h _ _
 refine Z ?_
 refine Ap h (fun _ h=>?_) (fun _ h=>?_)
 refine Z ?_
 refine Ce h (fun _ _ _ _ h=>?_)
 refine Z ?_
 refine Fs h (fun _ h=>?_) (fun _ h=>?_)
 exact Y
 refine Z ?_
 refine Bl [0,1,2] h (fun _ h=>?_)
 exact Y
 exact Y⟩
instance {a0:Bi} {b1:List (ByteArray×Int)} {b2:List (ByteArray×(List Dv))} {b0_0:List As} {b0_1:List Ah} {b0_2 b0_3:Int} {b0_4:List Ah}:OK (P5 a0 b1 b2 b0_0 b0_1 b0_2 b0_3 b0_4) fun r=>Cn Tryz.prog 190 [(.loc 0 0),Gi a0] [.cells 168 [(.sl 3 (List.map B7 b0_0)),(.sl 3 (Bh b0_1)),(O .i64 b0_2),(O .i64 b0_3),(.sl 3 (Bh b0_4)),(.mp 1),(.mp 2)],.map (Bk (O .i64) b1),.map (Bk (Aw 5 El) b2)] (Am r.1) [.cells 168 [(.sl 3 (List.map B7 b0_0)),(.sl 3 (Bh b0_1)),(O .i64 b0_2),(O .i64 b0_3),(.sl 3 (Bh b0_4)),(.mp 1),(.mp 2)],.map (Bk (O .i64) r.2),.map (Bk (Aw 5 El) b2)]:=⟨fun {r} h=>by
 refine aw C0 true Tryz.func190 ?_
 refine ZS ?_
 refine Bp ?_
 refine ZO ?_
 refine Ay (Ay ?_)
 refine Bq h (fun (v4,o5)=>[(18,(Am v4))]) (fun (v4,o5)=>[(1,.map (Bk (O .i64) o5))]) ?_ ?_
 intro _ h _ _ _
 refine Z ?_
 refine Bl [0,1,2] h (fun _ h=>?_)
 refine Z ?_
 refine Fs h (fun _ h=>?_) (fun _ h=>?_)
 exact Y
 refine Z ?_
 refine Bl [0,1,2] h (fun _ h=>?_)
 exact Y
 rintro ⟨v4,o5⟩ _ h
 refine Ap h (fun _ h=>?_) (fun _ h=>?_)
 exact Y
 refine Z ?_
 refine A7 h (fun (v9,o10)=>[(4,(Am false)),(22,(O .i64 v9))]) (fun (v9,o10)=>[(1,.map (Bk (O .i64) o10))]) ?_
 rintro ⟨v9,o10⟩ _ _ _ h _ _
 refine Z ?_
 refine Ap h (fun _ h=>?_) (fun _ h=>?_)
 refine Z ?_
 refine Ce h (fun _ _ _ _ h=>?_)
 refine Z ?_
 refine Bl [0,1,2] h (fun _ h=>?_)
 exact Y
 replace h:=C1 h
 refine Z ?_
 refine A7 h (fun v22=>[(4,(Am false)),(54,(O .i64 v22))]) (fun v22=>[]) ?_
 rintro v22 _ _ _ h _ _
 refine Z ?_
 refine Ap h (fun _ h=>?_) (fun _ h=>?_)
 refine Z ?_
 refine Ce h (fun _ _ _ _ h=>?_)
 refine ZO ?_
 refine Ay (Ay ?_)
 refine Bq h (fun v26=>[(74,(Am v26))]) (fun v26=>[]) ?_ ?_
 intro _ h _ _ _
 exact Y
 rintro v26 _ h
 exact Y
 exact Y⟩
instance {a0:List Int} {a1:Int}:OK (Of a0 a1) fun r=>Ar Tryz.prog 290 [(Aw 1 (O .u32)) a0,(O .u64) a1] (.tup [(Aw 1 (O .u32)) r.1,(O .u64) r.2]):=⟨fun {r} h=>by
 refine pw {T:=Ca,an:=(fun _=>.ask),nl:=(fun s=>bif Nat.beq s 4 then [(0,1)] else [])} Tryz.func290 ?_
 refine Z ?_
 refine Fx h (fun o1 h=>?_)
 refine Z ?_
 refine Gj h (fun (v7,v8,o9)=>[(7,(O .u64 v7)),(8,(O .i64 v8))]) (fun (v7,v8,o9)=>[(0,.rows 129 1 (List.map (O .u32) o9))]) (fun (v7,v8,o9)=>o1.length=o9.length) ?_
 rintro ⟨v7,v8,o9⟩ _ _ _ h _ _ q9
 refine Z ?_
 refine Ap h (fun _ h=>?_) (fun _ h=>?_)
 exact Y
 replace h:=C1 h
 refine Gf (Gd rfl (Ay ?_))
 refine D7 [.fz 6] ?_
 exact Y⟩
instance {a0:Int}:OK (K9 a0) fun r=>Ar Tryz.prog 157 [(O .u64) a0] ((Aw 1 (O .u32)) r):=⟨fun {r} h=>by
 refine pw {T:=Ca,an:=(fun s=>bif Nat.beq s 3 then .own else .ask),nl:=(fun s=>bif Nat.beq s 3 then [(0,1)] else bif Nat.beq s 2 then [(0,1)] else [])} Tryz.func157 ?_
 refine Z ?_
 refine A7 h (fun (v10,o11)=>[(0,(O .u64 v10)),(3,(.arr 0 o11.length 0 o11.length))]) (fun (v10,o11)=>[(0,.rows 129 1 (List.map (O .u32) o11))]) ?_
 rintro ⟨v10,o11⟩ _ _ _ h _ _
 exact Y⟩
instance {a0:List Int} {a1:Int}:OK (Qb a0 a1) fun r=>Cn Tryz.prog 291 [(Aw 1 (O .u32)) a0,(O .u64) a1] [] (.arr 0 r.length 0 r.length) [.rows 129 1 (List.map (O .u32) r)]:=⟨fun {r} h=>by
 refine aw {T:=Ca,an:=(fun _=>.ask),nl:=(fun s=>bif Nat.beq s 4 then [(0,1)] else [])} false Tryz.func291 ?_
 refine Z ?_
 refine Fx h (fun o1 h=>?_)
 refine Z ?_
 refine Gj h (fun (v7,v8,o9)=>[(6,(O .u64 v7)),(15,(O .i64 v8))]) (fun (v7,v8,o9)=>[(0,.rows 129 1 (List.map (O .u32) o9))]) (fun (v7,v8,o9)=>o1.length=o9.length) ?_
 rintro ⟨v7,v8,o9⟩ _ _ _ h _ _ q9
 refine Z ?_
 refine Ap h (fun _ h=>?_) (fun _ h=>?_)
 exact Y
 replace h:=C1 h
 refine Z ?_
 refine Ju h (fun _ _ hiv16 _ h=>?_)
 refine Z ?_
 refine Lz (f:=(O .u32)) (x:=(Br v7)) (j:=(a0.length:Int)) rfl rfl (Nat.zero_add _) hiv16 ?_
 refine Z ?_
 cases h
 exact ⟨congrArg (fun q_=>AV.arr 0 q_ 0 q_) (Fw (l:=o9) q9 (a0.length:Int) (Br v7)),rfl,trivial⟩⟩
instance {a0:List Int} {a1:Int}:OK (Aac a0 a1) fun r=>Ar Tryz.prog 291 [(Aw 1 (O .u32)) a0,(O .u64) a1] ((Aw 1 (O .u32)) r):=⟨fun {r} h=>by
 refine pw {T:=Ca,an:=(fun _=>.ask),nl:=(fun s=>bif Nat.beq s 4 then [(0,1)] else [])} Tryz.func291 ?_
 refine Z ?_
 refine Fx h (fun o1 h=>?_)
 refine Z ?_
 refine Gj h (fun (v7,v8,o9)=>[(6,(O .u64 v7)),(15,(O .i64 v8))]) (fun (v7,v8,o9)=>[(0,.rows 129 1 (List.map (O .u32) o9))]) (fun (v7,v8,o9)=>o1.length=o9.length) ?_
 rintro ⟨v7,v8,o9⟩ _ _ _ h _ _ q9
 exact Y⟩
instance {a0 a1:Nat} {a2 b0:List Int}:OK (Te a0 a1 a2 b0) fun r=>Cn Tryz.prog 292 [(.arr 0 b0.length a0 a1),(Aw 1 (O .u32)) a2] [.rows 129 1 (List.map (O .u32) b0)] ((O .u32) r.1) [.rows 129 1 (List.map (O .u32) r.2)]:=⟨fun {r} h=>by
 refine aw C0 true Tryz.func292 ?_
 refine Z ?_
 refine Ce h (fun _ _ _ _ h=>?_)
 refine Z ?_
 refine Ce h (fun _ _ _ _ h=>?_)
 refine Z ?_
 refine Qq h (fun _ _ _ _ h=>?_)
 refine Z ?_
 refine Qq h (fun _ _ _ _ h=>?_)
 refine Z ?_
 refine Ry h (fun _ h=>?_)
 refine Z ?_
 refine Vi h (fun _ h=>?_)
 refine Z ?_
 refine A7 h (fun (v9,v10)=>[(9,(O .u64 v9)),(10,(O .u64 v10))]) (fun (v9,v10)=>[]) ?_
 rintro ⟨v9,v10⟩ _ _ _ h _ _
 refine Ay (Ay ?_)
 refine Bq h (fun v12=>[(71,(Am v12))]) (fun v12=>[]) ?_ ?_
 intro _ h _ _ _
 exact Y
 rintro v12 _ h
 refine Ap h (fun _ h=>?_) (fun _ h=>?_)
 exact Y
 replace h:=C1 h
 refine Z ?_
 refine Gj h (fun (v24,v25,o26)=>[(11,(O .i64 v24)),(78,(O .i64 v25))]) (fun (v24,v25,o26)=>[(0,.rows 129 1 (List.map (O .u32) o26))]) (fun (v24,v25,o26)=>b0.length=o26.length) ?_
 rintro ⟨v24,v25,o26⟩ _ _ _ h _ _ q26
 refine Z ?_
 refine Ap h (fun _ h=>?_) (fun _ h=>?_)
 refine Z ?_
 refine Qq h (fun _ _ _ _ h=>?_)
 refine Z ?_
 refine Ce h (fun _ _ _ _ h=>?_)
 refine Z ?_
 refine Vi h (fun _ h=>?_)
 refine Z ?_
 refine Ce h (fun _ _ _ _ h=>?_)
 refine Z ?_
 refine Ry h (fun _ h=>?_)
 refine Z ?_
 refine A7 h (fun (v32,v33)=>[(11,(O .i64 v32)),(13,(O .i64 v33))]) (fun (v32,v33)=>[]) ?_
 rintro ⟨v32,v33⟩ _ _ _ h _ _
 exact Y
 replace h:=C1 h
 refine Z ?_
 refine Qq h (fun _ _ _ _ h=>?_)
 refine Z ?_
 refine Ap h (fun _ h=>?_) (fun _ h=>?_)
 exact Y
 refine Z ?_
 refine Gj h (fun (v46,v47,o48)=>[(15,(O .u32 v46)),(136,(O .i64 v47))]) (fun (v46,v47,o48)=>[(0,.rows 129 1 (List.map (O .u32) o48))]) (fun (v46,v47,o48)=>b0.length=o48.length) ?_
 rintro ⟨v46,v47,o48⟩ _ _ _ h _ _ q48
 exact Y⟩
end Go.Ab
namespace Go.Ab
open Go Go.Proofs
set_option maxRecDepth 10000
set_option maxHeartbeats 4000000
set_option linter.unusedVariables false
instance {a0 a1:List Int}:OK (N8 a0 a1) fun r=>Ar Tryz.prog 232 [(Aw 1 (O .u32)) a0,(Aw 1 (O .u32)) a1] (.tup [(Aw 1 (O .u32)) r.1,(Aw 1 (O .u32)) r.2]):=⟨fun {r} h=>by
 refine pw {T:=Ca,an:=(fun _=>.ask),nl:=(fun s=>bif Nat.beq s 5 then [(0,1)] else bif Nat.beq s 4 then [(0,1)] else [])} Tryz.func232 ?_
 refine Z ?_
 refine Bo h (fun _ h=>?_)
 refine Z ?_
 refine Ap h (fun _ h=>?_) (fun _ h=>?_)
 exact Y
 refine Z ?_
 refine Ap h (fun _ h=>?_) (fun _ h=>?_)
 exact Y
 refine Z ?_
 refine Ce h (fun _ _ _ _ h=>?_)
 refine Z ?_
 refine Ry h (fun _ h=>?_)
 refine Z ?_
 refine Bl [] h (fun v9 h=>?_)
 refine Z ?_
 refine Bo h (fun _ h=>?_)
 refine Z ?_
 refine Aaf h (fun v12 h=>?_)
 refine Z ?_
 refine Fx h (fun o13 h=>?_)
 refine Z ?_
 refine Gj h (fun (v19,o20,o21)=>[(13,(O .i64 v19))]) (fun (v19,o20,o21)=>[(0,.rows 129 1 (List.map (O .u32) o20)),(1,.rows 129 1 (List.map (O .u32) o21))]) (fun (v19,o20,o21)=>v9.length=o20.length/\o13.length=o21.length) ?_ (h0:=(⟨rfl,rfl⟩))
 rintro ⟨v19,o20,o21⟩ _ _ _ h _ hn1 ⟨q20,q21⟩
 refine Z ?_
 refine Ap h (fun _ h=>?_) (fun _ h=>?_)
 refine Z ?_
 refine Amz (f:=(O .u32)) rfl q20 h (fun v22 h=>?_)
 refine Z ?_
 refine Ea h (fun v23 hcv23 h=>?_)
 have okv23:=(OK.ok hcv23 :)
 rw [<-q20] at okv23
 refine Fv.act [0] _ _ _ _ okv23 rfl rfl ⟨rfl,trivial⟩ ?_
 refine Ea h (fun v24 hgv24 h=>?_)
 refine Z ?_
 refine Ju h (fun _ _ hiv25 _ h=>?_)
 refine Z ?_
 refine Lz (f:=(O .u32)) (x:=v23.1) (j:=v19) rfl rfl (Nat.zero_add _) hiv25 ?_
 refine Z ?_
 exact hn1 _ _ _ _ (Option.some.inj h) ⟨rfl,trivial⟩ ⟨⟨rfl,rfl⟩,⟨rfl,rfl⟩,trivial⟩ (⟨Ib hgv24,Fw (l:=o21) q21 v19 v23.1⟩)
 replace h:=C1 h
 refine Gf (Gd rfl (Ay ?_))
 refine D7 [.fz 10] ?_
 refine Z ?_
 refine Bo h (fun _ h=>?_)
 refine Z ?_
 refine Bo h (fun _ h=>?_)
 refine ZO ?_
 refine Ay ?_
 refine D7 [.fz 12] ?_
 exact Y⟩
instance {a0:List Int}:OK (Qa a0) fun r=>Ar Tryz.prog 289 [(Aw 1 (O .u32)) a0] (.tup [(O .u64) r.1,Am r.2]):=⟨fun {r} h=>by
 refine pw C0 Tryz.func289 ?_
 refine Z ?_
 refine A7 h (fun (v3,v4)=>[(2,(O .u64 0)),(3,(Am false)),(4,(O .u64 v3)),(9,(O .i64 v4))]) (fun (v3,v4)=>[]) ?_
 rintro ⟨v3,v4⟩ _ _ _ h _ _
 exact Y⟩
instance {a0 a1:List Int}:OK (Sy a0 a1) fun r=>Ar Tryz.prog 231 [(Aw 1 (O .u32)) a0,(Aw 1 (O .u32)) a1] ((Aw 1 (O .u32)) r):=⟨fun {r} h=>by
 refine pw {T:=Ca,an:=(fun _=>.ask),nl:=(fun s=>bif Nat.beq s 4 then [(0,1)] else [])} Tryz.func231 ?_
 refine Z ?_
 refine A7 h (fun (v12,v13)=>[(0,(.sl 1 (List.map (O .u32) v12))),(1,(.sl 1 (List.map (O .u32) v13))),(4,(.sl 1 (List.map (O .u32) [])))]) (fun (v12,v13)=>[]) ?_
 rintro ⟨v12,v13⟩ _ _ _ h _ _
 refine Z ?_
 refine Ap h (fun _ h=>?_) (fun _ h=>?_)
 refine Jn (Jo (Ay (Ay ?_)))
 refine Bq h (fun v14=>[(21,(Am v14))]) (fun v14=>[]) ?_ ?_
 intro _ h _ _ _
 exact Y
 rintro v14 _ h
 refine Ap h (fun _ h=>?_) (fun _ h=>?_)
 refine Z ?_
 refine Bo h (fun _ h=>?_)
 refine Z ?_
 refine Bo h (fun _ h=>?_)
 refine Z ?_
 refine A7 h (fun (v18,v19)=>[(5,(O .u64 v18)),(7,(O .u64 v19))]) (fun (v18,v19)=>[]) ?_
 rintro ⟨v18,v19⟩ _ _ _ h _ _
 exact Y
 exact Y
 exact Y⟩
instance {a0:List Int}:OK (N7 a0) fun r=>Ar Tryz.prog 230 [(Aw 1 (O .u32)) a0] (Am r):=⟨fun {r} h=>by
 refine pw C0 Tryz.func230 ?_
 exact Y⟩
instance {a0:Fk}:OK (Vu a0) fun r=>Ar Tryz.prog 158 [Mn a0] (Mn r):=⟨fun {r} h=>by
 refine pw {T:=Ca,an:=(fun _=>.ask),nl:=(fun s=>bif Nat.beq s 13 then [(1,1)] else [])} Tryz.func158 ?_
 exact Y⟩
instance {a0:Fk}:OK (L5 a0) fun r=>Ar Tryz.prog 94 [Mn a0] (Cy r):=⟨fun {r} h=>by
 refine pw C0 Tryz.func94 ?_
 exact Y⟩
instance {a0:A3}:OK (Iu a0) fun r=>Ar Tryz.prog 79 [Cy a0] (Cy r):=⟨fun {r} h=>by
 refine pw C0 Tryz.func79 ?_
 exact Y⟩
instance {a0:A3}:OK (Ic a0) fun r=>Ar Tryz.prog 67 [Cy a0] ((O .i64) r):=⟨fun {r} h=>by
 refine pw C0 Tryz.func67 ?_
 exact Y⟩
instance {a0 a1:List Int}:OK (Ki a0 a1) fun r=>Ar Tryz.prog 189 [(Aw 1 (O .u32)) a0,(Aw 1 (O .u32)) a1] (Am r):=⟨fun {r} h=>by
 refine pw C0 Tryz.func189 ?_
 refine Z ?_
 refine Ap h (fun _ h=>?_) (fun _ h=>?_)
 exact Y
 refine Z ?_
 refine A7 h (fun v3=>[(4,(Am false)),(13,(O .i64 v3))]) (fun v3=>[]) ?_
 rintro v3 _ _ _ h _ _
 exact Y⟩
instance {a0:List Aj} {b1:List (ByteArray×Int)} {b2:List (ByteArray×(List Dv))} {b0_0:List As} {b0_1:List Ah} {b0_2 b0_3:Int} {b0_4:List Ah}:OK (Sh a0 b1 b2 b0_0 b0_1 b0_2 b0_3 b0_4) fun r=>Cn Tryz.prog 116 [(.loc 0 0),(Aw 5 B1) a0] [.cells 168 [(.sl 3 (List.map B7 b0_0)),(.sl 3 (Bh b0_1)),(O .i64 b0_2),(O .i64 b0_3),(.sl 3 (Bh b0_4)),(.mp 1),(.mp 2)],.map (Bk (O .i64) b1),.map (Bk (Aw 5 El) b2)] (Am r.1) [.cells 168 [(.sl 3 (List.map B7 b0_0)),(.sl 3 (Bh b0_1)),(O .i64 b0_2),(O .i64 b0_3),(.sl 3 (Bh b0_4)),(.mp 1),(.mp 2)],.map (Bk (O .i64) r.2),.map (Bk (Aw 5 El) b2)]:=⟨fun {r} h=>by
 refine aw C0 true Tryz.func116 ?_
 refine Z ?_
 refine Ap h (fun _ h=>?_) (fun _ h=>?_)
 exact Y
 refine Z ?_
 refine A7 h (fun (v10,o11)=>[(4,(Am false)),(14,(O .i64 v10))]) (fun (v10,o11)=>[(1,.map (Bk (O .i64) o11))]) ?_
 rintro ⟨v10,o11⟩ _ _ _ h _ _
 refine Z ?_
 refine Ap h (fun _ h=>?_) (fun _ h=>?_)
 refine Z ?_
 refine Ce h (fun _ _ _ _ h=>?_)
 refine Z ?_
 refine Bo h (fun _ h=>?_)
 refine ZO ?_
 refine Ay ?_
 refine Bq h (fun v18=>[(8,(Am v18))]) (fun v18=>[]) ?_ ?_
 intro _ h _ _ _
 exact Y
 rintro v18 _ h
 refine Z ?_
 refine Fs h (fun _ h=>?_) (fun _ h=>?_)
 exact Y
 refine Z ?_
 refine Bo h (fun _ h=>?_)
 refine Z ?_
 refine Fs h (fun _ h=>?_) (fun _ h=>?_)
 exact Y
 refine Z ?_
 refine Bl [0,1,2] h (fun _ h=>?_)
 exact Y
 exact Y⟩
theorem Aah {a0:B0} {a1:List (List Aj)} {r:(Bool×B0×(List (ByteArray×Int))×(List (ByteArray×(List Dv)))×(List As)×(List Ah)×Int×Int×(List Ah))} (h:Ke a0 a1=some (.inl r)):Cn Tryz.prog 59 [E3 a0,(Aw 1 (Aw 5 B1)) a1] [] (.tup [.loc 3 0,Am r.1]) [.cells 27 [(.sl 3 (List.map B7 r.2.1.Data)),(.sl 3 (Bh r.2.1.Vars)),(O .i64 r.2.1.Res.Kind),(O .i64 r.2.1.Res.Num),(.sl 3 (Bh r.2.1.Res.Args))],.map (Bk (O .i64) r.2.2.1),.map (Bk (Aw 5 El) r.2.2.2.1),.cells 168 [(.sl 3 (List.map B7 r.2.2.2.2.1)),(.sl 3 (Bh r.2.2.2.2.2.1)),(O .i64 r.2.2.2.2.2.2.1),(O .i64 r.2.2.2.2.2.2.2.1),(.sl 3 (Bh r.2.2.2.2.2.2.2.2)),(.mp 1),(.mp 2)]]:=by
 refine aw {T:=Ca,an:=(fun _=>.ask),nl:=(fun s=>bif Nat.beq s 18 then [(1,7),(2,3),(3,8)] else [])} true Tryz.func59 ?_
 refine ZS ?_
 refine Bp ?_
 refine ZO ?_
 refine Ay (Ay ?_)
 refine Bq h (fun v4=>[(29,(Am v4))]) (fun v4=>[]) ?_ ?_
 intro _ h _ _ _
 exact Y
 rintro v4 _ h
 refine Ap h (fun _ h=>?_) (fun _ h=>?_)
 exact Y
 refine Z ?_
 refine A7 h (fun v8=>[(4,(.val (.pointer none))),(5,(Am false)),(33,(O .i64 v8))]) (fun v8=>[]) ?_
 rintro v8 _ _ _ h _ _
 refine Z ?_
 refine Ap h (fun _ h=>?_) (fun _ h=>?_)
 exact Y
 replace h:=C1 h
 refine Z ?_
 refine A7 h (fun (v18,o19)=>[(4,(.val (.pointer none))),(5,(Am false)),(50,(O .i64 v18))]) (fun (v18,o19)=>[(1,.map (Bk (O .i64) o19))]) ?_
 rintro ⟨v18,o19⟩ _ _ _ h _ _
 refine Z ?_
 refine Ap h (fun _ h=>?_) (fun _ h=>?_)
 refine Z ?_
 refine Ce h (fun _ _ _ _ h=>?_)
 refine Z ?_
 refine Bl [3,1,2] h (fun _ h=>?_)
 exact Y
 exact Y
theorem Aai {a0:B0} {a1:List (List Aj)} {r:Bool} (h:Ke a0 a1=some (.inr r)):Cn Tryz.prog 59 [E3 a0,(Aw 1 (Aw 5 B1)) a1] [] (.tup [.val (.pointer none),Am r]) []:=by
 refine aw {T:=Ca,an:=(fun _=>.ask),nl:=(fun s=>bif Nat.beq s 18 then [(1,7),(2,3),(3,8)] else [])} true Tryz.func59 ?_
 refine ZS ?_
 refine Bp ?_
 refine ZO ?_
 refine Ay (Ay ?_)
 refine Bq h (fun v4=>[(29,(Am v4))]) (fun v4=>[]) ?_ ?_
 intro _ h _ _ _
 exact Y
 rintro v4 _ h
 refine Ap h (fun _ h=>?_) (fun _ h=>?_)
 exact Y
 refine Z ?_
 refine A7 h (fun v8=>[(4,(.val (.pointer none))),(5,(Am false)),(33,(O .i64 v8))]) (fun v8=>[]) ?_
 rintro v8 _ _ _ h _ _
 refine Z ?_
 refine Ap h (fun _ h=>?_) (fun _ h=>?_)
 exact Y
 replace h:=C1 h
 refine Z ?_
 refine A7 h (fun (v18,o19)=>[(4,(.val (.pointer none))),(5,(Am false)),(50,(O .i64 v18))]) (fun (v18,o19)=>[(1,.map (Bk (O .i64) o19))]) ?_
 rintro ⟨v18,o19⟩ _ _ _ h _ _
 refine Z ?_
 refine Ap h (fun _ h=>?_) (fun _ h=>?_)
 refine Z ?_
 refine Ce h (fun _ _ _ _ h=>?_)
 refine Z ?_
 refine Bl [3,1,2] h (fun _ h=>?_)
 exact Y
 exact Y
instance {a0:B0} {a1:List Aj}:OK (Kd a0 a1) fun r=>Ar Tryz.prog 36 [E3 a0,(Aw 5 B1) a1] (Am r):=⟨fun {r} h=>by
 refine pw C0 Tryz.func36 ?_
 refine Z ?_
 refine Ea h (fun v2 hcv2 h=>?_)
 rcases v2 with v3 | v8
 refine Fv.act [] _ _ _ _ (Aah (a0:=a0) (a1:=[a1]) hcv2) rfl rfl trivial ?_
 exact Y
 refine Fv.act [] _ _ _ _ (Aai (a0:=a0) (a1:=[a1]) hcv2) rfl rfl trivial ?_
 exact Y⟩
instance {a0:Int}:OK (Sc a0) fun r=>Ar Tryz.prog 93 [(O .i64) a0] ((Aw 1 (O .u32)) r):=⟨fun {r} h=>by
 refine pw {T:=Ca,an:=(fun _=>.ask),nl:=(fun s=>bif Nat.beq s 2 then [(0,1)] else [])} Tryz.func93 ?_
 exact Y⟩
instance {a0:Int}:OK (Hw a0) fun r=>Ar Tryz.prog 42 [(O .i64) a0] (Cy r):=⟨fun {r} h=>by
 refine pw C0 Tryz.func42 ?_
 exact Y⟩
instance {a0:B0} {a1 a2:List Aj}:OK (Vr a0 a1 a2) fun r=>Ar Tryz.prog 55 [E3 a0,(Aw 5 B1) a1,(Aw 5 B1) a2,(.fn 56 [])] (.tup [(Aw 5 B1) r.1,(O .i64) r.2]):=⟨fun {r} h=>by
 refine pw {T:=Ca,an:=(fun s=>bif Nat.beq s 10 then .own else .ask),nl:=(fun s=>bif Nat.beq s 10 then [(0,5)] else bif Nat.beq s 8 then [(0,5)] else [])} Tryz.func55 ?_
 refine ZS ?_
 refine Bp ?_
 refine ZO ?_
 refine Ay (Ay ?_)
 refine Bq h (fun v4=>[(25,(Am v4))]) (fun v4=>[]) ?_ ?_
 intro _ h _ _ _
 exact Y
 rintro v4 _ h
 refine Ap h (fun _ h=>?_) (fun _ h=>?_)
 exact Y
 refine Z ?_
 refine A7 h (fun (v77,v78,o79)=>[(1,(.sl 5 (List.map B1 v77))),(2,(.sl 5 (List.map B1 v78))),(10,(.arr 1 o79.length 0 o79.length))]) (fun (v77,v78,o79)=>[(1,.rows 65 5 (List.map B1 o79))]) ?_
 rintro ⟨v77,v78,o79⟩ _ _ _ h _ _
 refine Ay (Ay ?_)
 refine Bq h (fun v80=>[(33,(Am v80))]) (fun v80=>[]) ?_ ?_
 intro _ h _ _ _
 exact Y
 rintro v80 _ h
 refine Ap h (fun _ h=>?_) (fun _ h=>?_)
 refine ZS ?_
 refine Bp ?_
 refine ZO ?_
 refine Ay ?_
 refine Bq h (fun v84=>[(11,(O .i64 v84))]) (fun v84=>[]) ?_ ?_
 intro _ h _ _ _
 exact Y
 rintro v84 _ h
 refine Z ?_
 refine Bo h (fun _ h=>?_)
 refine Z ?_
 refine Bo h (fun _ h=>?_)
 refine ZS ?_
 refine Bp ?_
 refine ZO ?_
 refine Ay (Ay ?_)
 refine D7 [.nil 14 0 3,.nil 14 1 3] ?_
 refine ZS ?_
 refine Bp ?_
 refine ZO ?_
 refine Bq h (fun (v93,v94,v95,v96,v97,v98)=>[(2,(.sl 5 (List.map B1 v93)))]) (fun (v93,v94,v95,v96,v97,v98)=>[(3,.cells 41 [(Am v94),(.sl 1 (List.map (O .u32) v95)),(.sl 1 (List.map (O .u32) v96))]),(4,.cells 63 [(.sl 3 (List.map G4 v97)),(.sl 3 (List.map Hj v98))])]) ?_ ?_
 intro _ h _ _ _
 exact Y
 rintro ⟨v93,v94,v95,v96,v97,v98⟩ _ h
 refine ZS ?_
 refine Bp ?_
 refine ZO ?_
 refine Bq h (fun (v102,v103,v104,v105,v106,v107)=>[(1,(.sl 5 (List.map B1 v102)))]) (fun (v102,v103,v104,v105,v106,v107)=>[(2,.cells 41 [(Am v103),(.sl 1 (List.map (O .u32) v104)),(.sl 1 (List.map (O .u32) v105))]),(4,.cells 63 [(.sl 3 (List.map G4 v106)),(.sl 3 (List.map Hj v107))])]) ?_ ?_
 intro _ h _ _ _
 exact Y
 rintro ⟨v102,v103,v104,v105,v106,v107⟩ _ h
 exact Y
 exact Y⟩
instance {a0:B0} {a1 a2:List Aj}:OK (No a0 a1 a2) fun r=>Ar Tryz.prog 18 [E3 a0,(Aw 5 B1) a1,(Aw 5 B1) a2] (.tup [(Aw 5 B1) r.1,(O .i64) r.2]):=⟨fun {r} h=>by
 refine pw {T:=Ca,an:=(fun _=>.ask),nl:=(fun s=>bif Nat.beq s 6 then [(0,5)] else [])} Tryz.func18 ?_
 exact Y⟩
instance {a0 a1:A3}:OK (Pu a0 a1) fun r=>Ar Tryz.prog 58 [Cy a0,Cy a1] (Cy r):=⟨fun {r} h=>by
 refine pw C0 Tryz.func58 ?_
 exact Y⟩
instance {a0:B0} {a1 a2:List Aj}:OK (Aad a0 a1 a2) fun r=>Ar Tryz.prog 55 [E3 a0,(Aw 5 B1) a1,(Aw 5 B1) a2,(.fn 58 [])] (.tup [(Aw 5 B1) r.1,(O .i64) r.2]):=⟨fun {r} h=>by
 refine pw {T:=Ca,an:=(fun s=>bif Nat.beq s 10 then .own else .ask),nl:=(fun s=>bif Nat.beq s 10 then [(0,5)] else bif Nat.beq s 8 then [(0,5)] else [])} Tryz.func55 ?_
 refine ZS ?_
 refine Bp ?_
 refine ZO ?_
 refine Ay (Ay ?_)
 refine Bq h (fun v4=>[(25,(Am v4))]) (fun v4=>[]) ?_ ?_
 intro _ h _ _ _
 exact Y
 rintro v4 _ h
 refine Ap h (fun _ h=>?_) (fun _ h=>?_)
 exact Y
 refine Z ?_
 refine A7 h (fun (v77,v78,o79)=>[(1,(.sl 5 (List.map B1 v77))),(2,(.sl 5 (List.map B1 v78))),(10,(.arr 1 o79.length 0 o79.length))]) (fun (v77,v78,o79)=>[(1,.rows 65 5 (List.map B1 o79))]) ?_
 rintro ⟨v77,v78,o79⟩ _ _ _ h _ _
 refine Ay (Ay ?_)
 refine Bq h (fun v80=>[(33,(Am v80))]) (fun v80=>[]) ?_ ?_
 intro _ h _ _ _
 exact Y
 rintro v80 _ h
 refine Ap h (fun _ h=>?_) (fun _ h=>?_)
 refine ZS ?_
 refine Bp ?_
 refine ZO ?_
 refine Ay ?_
 refine Bq h (fun v84=>[(11,(O .i64 v84))]) (fun v84=>[]) ?_ ?_
 intro _ h _ _ _
 exact Y
 rintro v84 _ h
 refine Z ?_
 refine Bo h (fun _ h=>?_)
 refine Z ?_
 refine Bo h (fun _ h=>?_)
 refine ZS ?_
 refine Bp ?_
 refine ZO ?_
 refine Ay (Ay ?_)
 refine D7 [.nil 14 0 3,.nil 14 1 3] ?_
 refine ZS ?_
 refine Bp ?_
 refine ZO ?_
 refine Bq h (fun (v93,v94,v95,v96,v97,v98)=>[(2,(.sl 5 (List.map B1 v93)))]) (fun (v93,v94,v95,v96,v97,v98)=>[(3,.cells 41 [(Am v94),(.sl 1 (List.map (O .u32) v95)),(.sl 1 (List.map (O .u32) v96))]),(4,.cells 63 [(.sl 3 (List.map G4 v97)),(.sl 3 (List.map Hj v98))])]) ?_ ?_
 intro _ h _ _ _
 exact Y
 rintro ⟨v93,v94,v95,v96,v97,v98⟩ _ h
 refine ZS ?_
 refine Bp ?_
 refine ZO ?_
 refine Bq h (fun (v102,v103,v104,v105,v106,v107)=>[(1,(.sl 5 (List.map B1 v102)))]) (fun (v102,v103,v104,v105,v106,v107)=>[(2,.cells 41 [(Am v103),(.sl 1 (List.map (O .u32) v104)),(.sl 1 (List.map (O .u32) v105))]),(4,.cells 63 [(.sl 3 (List.map G4 v106)),(.sl 3 (List.map Hj v107))])]) ?_ ?_
 intro _ h _ _ _
 exact Y
 rintro ⟨v102,v103,v104,v105,v106,v107⟩ _ h
 exact Y
 exact Y⟩
instance {a0:B0} {a1 a2:List Aj}:OK (Pp a0 a1 a2) fun r=>Ar Tryz.prog 19 [E3 a0,(Aw 5 B1) a1,(Aw 5 B1) a2] (.tup [(Aw 5 B1) r.1,(O .i64) r.2]):=⟨fun {r} h=>by
 refine pw {T:=Ca,an:=(fun _=>.ask),nl:=(fun s=>bif Nat.beq s 6 then [(0,5)] else [])} Tryz.func19 ?_
 exact Y⟩
instance {a0:B0}:OK (R0 a0) fun r=>Ar Tryz.prog 33 [E3 a0] (Am r):=⟨fun {r} h=>by
 refine pw C0 Tryz.func33 ?_
 exact Y⟩
abbrev Afo (k:Nat):Prop:=∀{a0:A6} {a1:Int},OK (Nx k a0 a1) fun r=>Ar Tryz.prog 139 [Ek a0,(O .i64) a1] ((O .i64) r)
theorem Anw (k:Nat):Afo k:=by
 induction k with
 | zero=>exact okz
 | succ k ih=>
  refine @fun a0 a1=>⟨fun {r} h=>?_⟩
  .unfold Nx at h
   refine pw C0 Tryz.func139 ?_
   refine Z ?_
   refine A7 h (fun (v4,v5)=>[(4,(O .i64 0)),(5,(O .i64 v4)),(10,(O .i64 v5))]) (fun (v4,v5)=>[]) ?_
   rintro ⟨v4,v5⟩ _ _ _ h _ _
   exact Y
instance {k:Nat}:Afo k:=(Anw k)
instance {a0:Bi}:OK (Sa a0) fun r=>Ar Tryz.prog 81 [Gi a0] (Am r):=⟨fun {r} h=>by
 refine pw C0 Tryz.func81 ?_
 refine ZS ?_
 refine Bp ?_
 refine ZO ?_
 refine Ay (Ay ?_)
 refine Bq h (fun v2=>[(14,(Am v2))]) (fun v2=>[]) ?_ ?_
 intro _ h _ _ _
 exact Y
 rintro v2 _ h
 refine Ap h (fun _ h=>?_) (fun _ h=>?_)
 exact Y
 refine Z ?_
 refine A7 h (fun v5=>[(2,(Am false)),(18,(O .i64 v5))]) (fun v5=>[]) ?_
 rintro v5 _ _ _ h _ _
 refine Z ?_
 refine Ap h (fun _ h=>?_) (fun _ h=>?_)
 exact Y
 replace h:=C1 h
 refine Z ?_
 refine A7 h (fun v10=>[(2,(Am false)),(33,(O .i64 v10))]) (fun v10=>[]) ?_
 rintro v10 _ _ _ h _ _
 exact Y⟩
instance {a0:A3}:OK (R9 a0) fun r=>Ar Tryz.prog 80 [Cy a0] (Am r):=⟨fun {r} h=>by
 refine pw C0 Tryz.func80 ?_
 exact Y⟩
instance {a0:List Aj} {a1:Int}:OK (L2 a0 a1) fun r=>Ar Tryz.prog 34 [(Aw 5 B1) a0,(O .i64) a1] (Am r):=⟨fun {r} h=>by
 refine pw C0 Tryz.func34 ?_
 refine Z ?_
 refine Ap h (fun _ h=>?_) (fun _ h=>?_)
 exact Y
 refine Z ?_
 refine A7 h (fun v5=>[(4,(Am false)),(12,(O .i64 v5))]) (fun v5=>[]) ?_
 rintro v5 _ _ _ h _ _
 exact Y⟩
instance {a0:B0} {a1 a2:List Aj}:OK (Nn a0 a1 a2) fun r=>Ar Tryz.prog 8 [E3 a0,(Aw 5 B1) a1,(Aw 5 B1) a2] (Am r):=⟨fun {r} h=>by
 refine pw C0 Tryz.func8 ?_
 exact Y⟩
instance {a0:B0} {a1:Int}:OK (Zt a0 a1) fun r=>Ar Tryz.prog 37 [E3 a0,(O .i64) a1] (.tup [C3 r.1,Am r.2]):=⟨fun {r} h=>by
 refine pw {T:=Ca,an:=(fun _=>.ask),nl:=(fun s=>bif Nat.beq s 21 then [(2,3)] else [])} Tryz.func37 ?_
 exact Y⟩
instance {a0:List As} {a1:Ah} {a2:Int}:OK (Z4 a0 a1 a2) fun r=>Ar Tryz.prog 234 [(Aw 3 B7) a0,C3 a1,(O .i64) a2] (.tup [(Fj 3 Bh) r.1,Am r.2]):=⟨fun {r} h=>by
 refine pw {T:=Ca,an:=(fun s=>bif Nat.beq s 10 then .own else .ask),nl:=(fun s=>bif Nat.beq s 10 then [(0,3)] else bif Nat.beq s 6 then [(0,3)] else [])} Tryz.func234 ?_
 refine Z ?_
 refine Bo h (fun _ h=>?_)
 refine Z ?_
 refine Ap h (fun _ h=>?_) (fun _ h=>?_)
 exact Y
 refine Z ?_
 refine Bo h (fun _ h=>?_)
 refine Z ?_
 refine A7 h (fun (v13,o14)=>[(10,(.arr 1 o14.length 0 o14.length)),(28,(O .i64 v13))]) (fun (v13,o14)=>[(1,.rows 25 3 (Bh o14))]) ?_
 rintro ⟨v13,o14⟩ _ _ _ h _ _
 exact Y⟩
abbrev Afp (k:Nat):Prop:=∀{a0:List As} {a1:Ah} {a2:A6},OK (Sn k a0 a1 a2) fun r=>Ar Tryz.prog 159 [(Aw 3 B7) a0,C3 a1,Ek a2] (.tup [(O .i64) r.1,Am r.2])
abbrev Afq (k:Nat):Prop:=∀{a0:List As} {a1:List Ah} {a2:List A6},OK (Sz k a0 a1 a2) fun r=>Ar Tryz.prog 233 [(Aw 3 B7) a0,(Fj 3 Bh) a1,(Fj 2 Gg) a2] (.tup [(O .i64) r.1,Am r.2])
theorem Afr (k:Nat):Afp k/\Afq k:=by
 induction k with
 | zero=>exact ⟨okz,okz⟩
 | succ k ih=>
  obtain ⟨i0_,i1_⟩:=ih
  refine ⟨@fun a0 a1 a2=>⟨fun {r} h=>?_⟩,@fun a0 a1 a2=>⟨fun {r} h=>?_⟩⟩
  .unfold Sn at h
   refine pw C0 Tryz.func159 ?_
   refine Z ?_
   refine Ap h (fun _ h=>?_) (fun _ h=>?_)
   exact Y
   refine Z ?_
   refine Ap h (fun _ h=>?_) (fun _ h=>?_)
   exact Y
   refine Z ?_
   refine Ap h (fun _ h=>?_) (fun _ h=>?_)
   refine Z ?_
   refine Ap h (fun _ h=>?_) (fun _ h=>?_)
   exact Y
   refine Z ?_
   refine A7 h (fun (v8,v9)=>[(6,(O .i64 0)),(7,(Am false)),(8,(O .i64 v8)),(55,(O .i64 v9))]) (fun (v8,v9)=>[]) ?_
   rintro ⟨v8,v9⟩ _ _ _ h _ _
   exact Y
   exact Y
  .unfold Sz at h
   refine pw C0 Tryz.func233 ?_
   refine Z ?_
   refine Ap h (fun _ h=>?_) (fun _ h=>?_)
   exact Y
   refine Z ?_
   refine A7 h (fun (v5,v6)=>[(6,(O .i64 0)),(7,(Am false)),(8,(O .i64 v5)),(20,(O .i64 v6))]) (fun (v5,v6)=>[]) ?_
   rintro ⟨v5,v6⟩ _ _ _ h _ _
   exact Y
instance {k:Nat}:Afp k:=(Afr k).1
instance {k:Nat}:Afq k:=(Afr k).2
instance {a0:List As} {a1:Ah}:OK (Zw a0 a1) fun r=>Ar Tryz.prog 145 [(Aw 3 B7) a0,C3 a1] (Am r):=⟨fun {r} h=>by
 refine pw {T:=Ca,an:=(fun _=>.ask),nl:=(fun s=>bif Nat.beq s 6 then [(1,7),(2,3),(3,8)] else [])} Tryz.func145 ?_
 exact Y⟩
instance {a0:List As} {a1:Ah} {a2:A6}:OK (Zv a0 a1 a2) fun r=>Ar Tryz.prog 95 [(Aw 3 B7) a0,C3 a1,Ek a2] ((O .i64) r):=⟨fun {r} h=>by
 refine pw C0 Tryz.func95 ?_
 exact Y⟩
instance {a0:B0} {a1:Cw}:OK (Vp a0 a1) fun r=>Ar Tryz.prog 43 [E3 a0,G4 a1] (.tup [(O .i64) r.1,(O .i64) r.2.1,Am r.2.2]):=⟨fun {r} h=>by
 refine pw C0 Tryz.func43 ?_
 refine Z ?_
 refine Bo h (fun v3 h=>?_)
 refine Z ?_
 refine Ap h (fun _ h=>?_) (fun _ h=>?_)
 exact Y
 refine Z ?_
 refine Ap h (fun _ h=>?_) (fun _ h=>?_)
 exact Y
 refine Z ?_
 refine Ap h (fun _ h=>?_) (fun _ h=>?_)
 refine Ay (Ay ?_)
 refine Bq h (fun v7=>[(47,(Am v7))]) (fun v7=>[]) ?_ ?_
 intro _ h _ _ _
 exact Y
 rintro v7 _ h
 refine Ap h (fun _ h=>?_) (fun _ h=>?_)
 exact Y
 refine Z ?_
 refine A7 h (fun v11=>[(4,(O .i64 0)),(5,(O .i64 0)),(6,(Am v3.2)),(51,(O .i64 v11))]) (fun v11=>[]) ?_
 rintro v11 _ _ _ h _ _
 exact Y
 exact Y⟩
instance {a0:B0} {a1:List Aj}:OK (Zq a0 a1) fun r=>Ar Tryz.prog 15 [E3 a0,(Aw 5 B1) a1] (Am r):=⟨fun {r} h=>by
 refine pw C0 Tryz.func15 ?_
 refine Z ?_
 refine Bo h (fun _ h=>?_)
 refine Z ?_
 refine Ap h (fun _ h=>?_) (fun _ h=>?_)
 exact Y
 refine Z ?_
 refine A7 h (fun v14=>[(4,(Am false)),(18,(O .i64 v14))]) (fun v14=>[]) ?_
 rintro v14 _ _ _ h _ _
 refine Z ?_
 refine Ap h (fun _ h=>?_) (fun _ h=>?_)
 refine Z ?_
 refine Ce h (fun _ _ _ _ h=>?_)
 refine Z ?_
 refine Ap h (fun _ h=>?_) (fun _ h=>?_)
 exact Y
 refine Z ?_
 refine A7 h (fun v20=>[(4,(Am false)),(31,(O .i64 v20))]) (fun v20=>[]) ?_
 rintro v20 _ _ _ h _ _
 exact Y
 exact Y⟩
instance {a0:B0} {a1:List Aj} {a2 a3:Int}:OK (Zs a0 a1 a2 a3) fun r=>Ar Tryz.prog 32 [E3 a0,(Aw 5 B1) a1,(O .i64) a2,(O .i64) a3] (.tup [(Aw 3 Cy) r.1,Am r.2]):=⟨fun {r} h=>by
 refine pw {T:=Ca,an:=(fun s=>bif Nat.beq s 10 then .own else .ask),nl:=(fun s=>bif Nat.beq s 10 then [(0,3)] else bif Nat.beq s 8 then [(0,3)] else [])} Tryz.func32 ?_
 refine Z ?_
 refine Bo h (fun _ h=>?_)
 refine Z ?_
 refine Ap h (fun _ h=>?_) (fun _ h=>?_)
 exact Y
 refine Z ?_
 refine A7 h (fun (v44,o45)=>[(8,(.sl 3 (List.map Cy []))),(9,(Am false)),(10,(.arr 1 o45.length 0 o45.length)),(23,(O .i64 v44))]) (fun (v44,o45)=>[(1,.rows 41 3 (List.map Cy o45))]) ?_
 rintro ⟨v44,o45⟩ _ _ _ h _ hn1
 refine Z ?_
 refine Ap h (fun _ h=>?_) (fun _ h=>?_)
 refine Z ?_
 refine Ce h (fun _ _ _ _ h=>?_)
 refine ZS ?_
 refine Bp ?_
 refine ZS ?_
 refine Bp ?_
 refine ZO ?_
 refine Tt (fun (v51:Int)=>(.inl v51)) h (fun v51=>[(8,(.sl 3 (List.map Cy []))),(9,(Am false)),(13,(O .i64 v51))]) (fun v51=>[]) ?_ ?_
 intro _ h _ _ _
 exact Y
 rintro v51 _ h
 refine Z ?_
 refine A7 h (fun o57=>[(10,(.arr 1 o57.length 0 o57.length))]) (fun o57=>[(1,.rows 41 3 (List.map Cy o57))]) ?_
 rintro o57 _ _ _ h _ _
 refine Z ?_
 refine Ap h (fun _ h=>?_) (fun _ h=>?_)
 exact Y
 replace h:=C1 h
 refine Z ?_
 refine Bo h (fun v61 h=>?_)
 refine Z ?_
 refine Ju h (fun _ _ hiv62 _ h=>?_)
 refine Z ?_
 refine Lz (f:=Cy) (x:=v61) (j:=v51) rfl rfl (Nat.zero_add _) hiv62 ?_
 refine Z ?_
 exact hn1 _ _ _ _ (Option.some.inj h) ⟨rfl,rfl,congrArg (fun q=>AV.arr 1 q 0 q) (Fw (l:=o57) rfl v51 v61),rfl,trivial⟩ ⟨⟨rfl,rfl⟩,⟨rfl,rfl⟩,trivial⟩ trivial
 exact Y⟩
instance  : OK (Zu) fun r=>Ar Tryz.prog 78 [] (Ek r):=⟨fun {r} h=>by
 refine pw {T:=Ca,an:=(fun _=>.ask),nl:=(fun s=>bif Nat.beq s 1 then [(1,2)] else [])} Tryz.func78 ?_
 exact Y⟩
instance {a0 a1:Int}:OK (Vo a0 a1) fun r=>Ar Tryz.prog 31 [(O .i64) a0,(O .i64) a1] (Gi r):=⟨fun {r} h=>by
 refine pw {T:=Ca,an:=(fun _=>.ask),nl:=(fun s=>bif Nat.beq s 21 then [(1,3)] else bif Nat.beq s 12 then [(0,2)] else [])} Tryz.func31 ?_
 refine ZS ?_
 refine Bp ?_
 refine ZS ?_
 refine Bp ?_
 refine ZO ?_
 refine Ay ?_
 refine D7 [.own 5 1 86 2] ?_
 refine Z ?_
 refine A7 h (fun (v10,o11)=>[(1,(O .i64 v10))]) (fun (v10,o11)=>[(1,.cells 86 [(O .i64 0),(.arr 2 o11.length 0 o11.length)]),(2,.rows 86 2 (Gg o11))]) ?_
 rintro ⟨v10,o11⟩ _ _ _ h _ _
 refine Z ?_
 refine Ap h (fun _ h=>?_) (fun _ h=>?_)
 exact Y
 replace h:=C1 h
 refine Gf (Gd rfl (Ay ?_))
 refine D7 [.fzc 5 1] ?_
 exact Y⟩
instance  : OK (Zr) fun r=>Ar Tryz.prog 29 [] (E3 r):=⟨fun {r} h=>by
 refine pw {T:=Ca,an:=(fun _=>.ask),nl:=(fun s=>bif Nat.beq s 24 then [(2,3)] else bif Nat.beq s 12 then [(2,3)] else bif Nat.beq s 11 then [(2,3)] else bif Nat.beq s 10 then [(1,3)] else bif Nat.beq s 6 then [(2,3)] else [])} Tryz.func29 ?_
 exact Y⟩
instance {a0:List Int}:OK (Hy a0) fun r=>Ar Tryz.prog 166 [(Aw 1 (O .u32)) a0] ((Aw 1 (O .u32)) r):=⟨fun {r} h=>by
 refine pw {T:=Ca,an:=(fun _=>.ask),nl:=(fun s=>bif Nat.beq s 2 then [(0,1)] else [])} Tryz.func166 ?_
 refine Z ?_
 refine A7 h (fun v2=>[(3,(O .i64 v2))]) (fun v2=>[]) ?_
 rintro v2 _ _ _ h _ _
 exact Y⟩
instance {a0:List Int}:OK (Pz a0) fun r=>Ar Tryz.prog 136 [(Aw 1 (O .u32)) a0] ((Aw 1 (O .u32)) r):=⟨fun {r} h=>by
 refine pw {T:=Ca,an:=(fun s=>bif Nat.beq s 3 then .own else .ask),nl:=(fun s=>bif Nat.beq s 3 then [(0,1)] else bif Nat.beq s 2 then [(0,1)] else [])} Tryz.func136 ?_
 refine Z ?_
 refine A7 h (fun (v13,v14,o15)=>[(3,(.arr 0 o15.length 0 o15.length)),(4,(O .u64 v13)),(5,(O .i64 v14))]) (fun (v13,v14,o15)=>[(0,.rows 129 1 (List.map (O .u32) o15))]) ?_
 rintro ⟨v13,v14,o15⟩ _ _ _ h _ _
 refine Z ?_
 refine Ap h (fun _ h=>?_) (fun _ h=>?_)
 exact Y
 replace h:=C1 h
 refine Z ?_
 refine Ap h (fun _ h=>?_) (fun _ h=>?_)
 refine Z ?_
 refine Oo h (fun _ h=>?_)
 refine ZO ?_
 refine Ay ?_
 refine D7 [.fz 3] ?_
 exact Y
 refine Jn (Ay ?_)
 refine D7 [.fz 3] ?_
 exact Y⟩
instance {a0 a1:List Int}:OK (Sx a0 a1) fun r=>Ar Tryz.prog 220 [(Aw 1 (O .u32)) a0,(Aw 1 (O .u32)) a1] ((O .u64) r):=⟨fun {r} h=>by
 refine pw C0 Tryz.func220 ?_
 exact Y⟩
instance {a0:Int}:OK (K2 a0) fun r=>Ar Tryz.prog 77 [(O .u64) a0] ((Aw 1 (O .u32)) r):=⟨fun {r} h=>by
 refine pw {T:=Ca,an:=(fun s=>bif Nat.beq s 3 then .own else .ask),nl:=(fun s=>bif Nat.beq s 3 then [(0,1)] else bif Nat.beq s 2 then [(0,1)] else [])} Tryz.func77 ?_
 refine Z ?_
 refine A7 h (fun (v10,o11)=>[(0,(O .u64 v10)),(3,(.arr 0 o11.length 0 o11.length))]) (fun (v10,o11)=>[(0,.rows 129 1 (List.map (O .u32) o11))]) ?_
 rintro ⟨v10,o11⟩ _ _ _ h _ _
 exact Y⟩
instance {a0 a1:List Int}:OK (L6 a0 a1) fun r=>Ar Tryz.prog 105 [(Aw 1 (O .u32)) a0,(Aw 1 (O .u32)) a1] ((O .i64) r):=⟨fun {r} h=>by
 refine pw C0 Tryz.func105 ?_
 refine Z ?_
 refine Ap h (fun _ h=>?_) (fun _ h=>?_)
 exact Y
 refine Z ?_
 refine A7 h (fun v5=>[(4,(O .i64 0)),(5,(O .i64 v5))]) (fun v5=>[]) ?_
 rintro v5 _ _ _ h _ _
 exact Y⟩
instance {a0 a1:List Int}:OK (Iw a0 a1) fun r=>Ar Tryz.prog 103 [(Aw 1 (O .u32)) a0,(Aw 1 (O .u32)) a1] ((Aw 1 (O .u32)) r):=⟨fun {r} h=>by
 refine pw {T:=Ca,an:=(fun _=>.ask),nl:=(fun s=>bif Nat.beq s 4 then [(0,1)] else [])} Tryz.func103 ?_
 refine Z ?_
 refine Fx h (fun o1 h=>?_)
 refine Z ?_
 refine Gj h (fun (v25,o26)=>[(6,(O .i64 v25))]) (fun (v25,o26)=>[(0,.rows 129 1 (List.map (O .u32) o26))]) (fun (v25,o26)=>o1.length=o26.length) ?_
 rintro ⟨v25,o26⟩ _ _ _ h _ _ q26
 refine Z ?_
 refine Ap h (fun _ h=>?_) (fun _ h=>?_)
 refine Z ?_
 refine Gj h (fun (v35,v36,o37)=>[(7,(O .u64 v35)),(8,(O .i64 v36))]) (fun (v35,v36,o37)=>[(0,.rows 129 1 (List.map (O .u32) o37))]) (fun (v35,v36,o37)=>o1.length=o37.length) ?_
 rintro ⟨v35,v36,o37⟩ _ _ _ h _ _ q37
 refine Ay (Ay ?_)
 refine Bq h (fun v38=>[(29,(Am v38))]) (fun v38=>[]) ?_ ?_
 intro _ h _ _ _
 exact Y
 rintro v38 _ h
 refine Ap h (fun _ h=>?_) (fun _ h=>?_)
 refine Z ?_
 refine Ju h (fun _ _ _ _ h=>?_)
 refine ZS ?_
 refine Bp ?_
 refine ZO ?_
 refine Bq h (fun v42=>[(7,(O .u64 v42))]) (fun v42=>[]) ?_ ?_
 intro _ h _ _ _
 exact Y
 rintro v42 _ h
 exact Y
 exact Y
 replace h:=C1 h
 refine Gf (Gd rfl (Ay ?_))
 refine D7 [.fz 5] ?_
 exact Y⟩
instance {a0:List Int} {a1:Int}:OK (Sw a0 a1) fun r=>Ar Tryz.prog 219 [(Aw 1 (O .u32)) a0,(O .u64) a1] (.tup [(Aw 1 (O .u32)) r.1,(O .u64) r.2]):=⟨fun {r} h=>by
 refine pw {T:=Ca,an:=(fun _=>.ask),nl:=(fun s=>bif Nat.beq s 4 then [(0,1)] else [])} Tryz.func219 ?_
 refine Z ?_
 refine Fx h (fun o1 h=>?_)
 refine Z ?_
 refine Gj h (fun (v7,v8,o9)=>[(7,(O .u64 v7)),(8,(O .i64 v8))]) (fun (v7,v8,o9)=>[(0,.rows 129 1 (List.map (O .u32) o9))]) (fun (v7,v8,o9)=>o1.length=o9.length) ?_
 rintro ⟨v7,v8,o9⟩ _ _ _ h _ _ q9
 refine Z ?_
 refine Ap h (fun _ h=>?_) (fun _ h=>?_)
 exact Y
 replace h:=C1 h
 refine Gf (Gd rfl (Ay ?_))
 refine D7 [.fz 6] ?_
 exact Y⟩
instance {a0 a1:List Int}:OK (L7 a0 a1) fun r=>Ar Tryz.prog 106 [(Aw 1 (O .u32)) a0,(Aw 1 (O .u32)) a1] ((Aw 1 (O .u32)) r):=⟨fun {r} h=>by
 refine pw {T:=Ca,an:=(fun _=>.ask),nl:=(fun s=>bif Nat.beq s 4 then [(0,1)] else [])} Tryz.func106 ?_
 refine Z ?_
 refine Fx h (fun o1 h=>?_)
 refine Z ?_
 refine Gj h (fun (v10,v11,o12)=>[(6,(O .u32 v10)),(7,(O .i64 v11))]) (fun (v10,v11,o12)=>[(0,.rows 129 1 (List.map (O .u32) o12))]) (fun (v10,v11,o12)=>o1.length=o12.length) ?_
 rintro ⟨v10,v11,o12⟩ _ _ _ h _ _ q12
 refine Z ?_
 refine Ap h (fun _ h=>?_) (fun _ h=>?_)
 refine ZS ?_
 refine Bp ?_
 refine ZS ?_
 refine Bp ?_
 refine ZO ?_
 refine Bq h (fun v14=>[(8,(O .u32 v14))]) (fun v14=>[]) ?_ ?_
 intro _ h _ _ _
 exact Y
 rintro v14 _ h
 exact Y
 replace h:=C1 h
 refine Gf (Gd rfl (Ay ?_))
 refine D7 [.fz 5] ?_
 exact Y⟩
end Go.Ab
namespace Go.Ab
open Go Go.Proofs
set_option maxRecDepth 10000
set_option maxHeartbeats 4000000
set_option linter.unusedVariables false
instance {a0 a1:List Int}:OK (Nw a0 a1) fun r=>Ar Tryz.prog 138 [(Aw 1 (O .u32)) a0,(Aw 1 (O .u32)) a1] (.tup [(Aw 1 (O .u32)) r.1,(Aw 1 (O .u32)) r.2]):=⟨fun {r} h=>by
 refine pw {T:=Ca,an:=(fun s=>bif Nat.beq s 50 then .frz 0 else bif Nat.beq s 47 then .own else .ask),nl:=(fun s=>bif Nat.beq s 9 then [(0,1)] else bif Nat.beq s 5 then [(0,1)] else bif Nat.beq s 4 then [(0,1)] else [])} Tryz.func138 ?_
 refine Z ?_
 refine Bo h (fun _ h=>?_)
 refine Z ?_
 refine Ap h (fun _ h=>?_) (fun _ h=>?_)
 exact Y
 refine Z ?_
 refine Ap h (fun _ h=>?_) (fun _ h=>?_)
 exact Y
 refine Z ?_
 refine Fx h (fun o6 h=>?_)
 refine Z ?_
 refine Gj h (fun (v33,v34,o35)=>[(9,(.sl 1 (List.map (O .u32) v33))),(10,(O .i64 v34))]) (fun (v33,v34,o35)=>[(0,.rows 129 1 (List.map (O .u32) o35))]) (fun (v33,v34,o35)=>o6.length=o35.length) ?_
 rintro ⟨v33,v34,o35⟩ _ _ _ h _ _ q35
 refine Z ?_
 refine Ap h (fun _ h=>?_) (fun _ h=>?_)
 refine Z ?_
 refine Ce h (fun _ _ _ _ h=>?_)
 refine Z ?_
 refine Oo h (fun o38 h=>?_)
 refine Z ?_
 refine Ea h (fun v39 hcv39 h=>?_)
 refine Adh.mk _ (OK.ok hcv39 :) rfl ?_
 refine Z ?_
 refine Bo h (fun _ h=>?_)
 refine Z ?_
 refine A7 h (fun v44=>[(11,(O .u64 v44))]) (fun v44=>[]) ?_
 rintro v44 _ _ _ h _ _
 refine Z ?_
 refine Fs h (fun _ h=>?_) (fun _ h=>?_)
 refine Z ?_
 refine Bo h (fun _ h=>?_)
 refine Z ?_
 refine Bo h (fun _ h=>?_)
 refine Z ?_
 refine Bo h (fun _ h=>?_)
 refine Z ?_
 refine Ap h (fun _ h=>?_) (fun _ h=>?_)
 exact Y
 replace h:=C1 h
 refine Z ?_
 refine Bo h (fun _ h=>?_)
 refine Z ?_
 refine Bo h (fun _ h=>?_)
 refine Z ?_
 refine Bo h (fun _ h=>?_)
 refine Z ?_
 refine A7 h (fun (v54,v55)=>[(9,(.sl 1 (List.map (O .u32) v54))),(11,(O .u64 v55))]) (fun (v54,v55)=>[]) ?_
 rintro ⟨v54,v55⟩ _ _ _ h _ _
 exact Y
 replace h:=C1 h
 refine Z ?_
 refine Bo h (fun _ h=>?_)
 refine Z ?_
 refine Bo h (fun _ h=>?_)
 refine Z ?_
 refine Bo h (fun _ h=>?_)
 refine Z ?_
 refine A7 h (fun (v54,v55)=>[(9,(.sl 1 (List.map (O .u32) v54))),(11,(O .u64 v55))]) (fun (v54,v55)=>[]) ?_
 rintro ⟨v54,v55⟩ _ _ _ h _ _
 exact Y
 replace h:=C1 h
 refine Gf (Gd rfl (Ay ?_))
 refine D7 [.fz 8] ?_
 exact Y⟩
instance {a0 a1:List Int}:OK (Sm a0 a1) fun r=>Ar Tryz.prog 137 [(Aw 1 (O .u32)) a0,(Aw 1 (O .u32)) a1] ((Aw 1 (O .u32)) r):=⟨fun {r} h=>by
 refine pw {T:=Ca,an:=(fun _=>.ask),nl:=(fun s=>bif Nat.beq s 4 then [(0,1)] else [])} Tryz.func137 ?_
 refine Z ?_
 refine A7 h (fun (v2,v3)=>[(0,(.sl 1 (List.map (O .u32) v2))),(1,(.sl 1 (List.map (O .u32) v3)))]) (fun (v2,v3)=>[]) ?_
 rintro ⟨v2,v3⟩ _ _ _ h _ _
 exact Y⟩
instance {a0:Bool} {a1 a2:List Int}:OK (Ie a0 a1 a2) fun r=>Ar Tryz.prog 76 [Am a0,(Aw 1 (O .u32)) a1,(Aw 1 (O .u32)) a2] (Cy r):=⟨fun {r} h=>by
 refine pw {T:=Ca,an:=(fun _=>.ask),nl:=(fun s=>bif Nat.beq s 21 then [(1,1)] else [])} Tryz.func76 ?_
 refine Z ?_
 refine Bo h (fun _ h=>?_)
 refine Z ?_
 refine Bo h (fun _ h=>?_)
 refine ZO ?_
 refine Ay (Ay ?_)
 refine Bq h (fun v4=>[(19,(Am v4))]) (fun v4=>[]) ?_ ?_
 intro _ h _ _ _
 exact Y
 rintro v4 _ h
 refine Ap h (fun _ h=>?_) (fun _ h=>?_)
 exact Y
 refine Z ?_
 refine Bo h (fun _ h=>?_)
 refine ZO ?_
 refine Ay (Ay ?_)
 refine Bq h (fun v7=>[(33,(Am v7))]) (fun v7=>[]) ?_ ?_
 intro _ h _ _ _
 exact Y
 rintro v7 _ h
 exact Y⟩
instance {a0:A3}:OK (Kg a0) fun r=>Ar Tryz.prog 102 [Cy a0] (Cy r):=⟨fun {r} h=>by
 refine pw C0 Tryz.func102 ?_
 exact Y⟩
instance {a0:A3}:OK (Ns a0) fun r=>Ar Tryz.prog 51 [Cy a0] ((O .i64) r):=⟨fun {r} h=>by
 refine pw C0 Tryz.func51 ?_
 exact Y⟩
instance {a0 a1:List Int}:OK (Sd a0 a1) fun r=>Ar Tryz.prog 104 [(Aw 1 (O .u32)) a0,(Aw 1 (O .u32)) a1] ((Aw 1 (O .u32)) r):=⟨fun {r} h=>by
 refine pw {T:=Ca,an:=(fun s=>bif Nat.beq s 5 then .own else .ask),nl:=(fun s=>bif Nat.beq s 5 then [(0,1)] else bif Nat.beq s 4 then [(0,1)] else [])} Tryz.func104 ?_
 refine Z ?_
 refine A7 h (fun (v21,v22,o23)=>[(5,(.arr 0 o23.length 0 o23.length)),(6,(O .u32 v21)),(7,(O .i64 v22))]) (fun (v21,v22,o23)=>[(0,.rows 129 1 (List.map (O .u32) o23))]) ?_
 rintro ⟨v21,v22,o23⟩ _ _ _ h _ _
 refine Ay (Ay ?_)
 refine Bq h (fun v24=>[(22,(Am v24))]) (fun v24=>[]) ?_ ?_
 intro _ h _ _ _
 exact Y
 rintro v24 _ h
 refine Ap h (fun _ h=>?_) (fun _ h=>?_)
 refine ZS ?_
 refine Bp ?_
 refine ZS ?_
 refine Bp ?_
 refine ZO ?_
 refine Bq h (fun v26=>[(8,(O .u32 v26))]) (fun v26=>[]) ?_ ?_
 intro _ h _ _ _
 exact Y
 rintro v26 _ h
 refine ZS ?_
 refine Bp ?_
 refine ZO ?_
 refine Bq h (fun v28=>[(8,(O .u32 v28))]) (fun v28=>[]) ?_ ?_
 intro _ h _ _ _
 exact Y
 rintro v28 _ h
 exact Y
 exact Y⟩
instance {a0 a1:A3}:OK (Nr a0 a1) fun r=>Ar Tryz.prog 50 [Cy a0,Cy a1] (Cy r):=⟨fun {r} h=>by
 refine pw C0 Tryz.func50 ?_
 exact Y⟩
instance {a0:A3}:OK (Se a0) fun r=>Ar Tryz.prog 107 [Cy a0] (Cy r):=⟨fun {r} h=>by
 refine pw C0 Tryz.func107 ?_
 exact Y⟩
instance {a0 a1:A3}:OK (Vq a0 a1) fun r=>Ar Tryz.prog 52 [Cy a0,Cy a1] (Cy r):=⟨fun {r} h=>by
 refine pw C0 Tryz.func52 ?_
 exact Y⟩
instance {a0 a1:A3}:OK (Pn a0 a1) fun r=>Ar Tryz.prog 14 [Cy a0,Cy a1] ((O .i64) r):=⟨fun {r} h=>by
 refine pw C0 Tryz.func14 ?_
 exact Y⟩
instance {a0:Int}:OK (L1 a0) fun r=>Ar Tryz.prog 30 [(O .i64) a0] (Cy r):=⟨fun {r} h=>by
 refine pw C0 Tryz.func30 ?_
 exact Y⟩
instance  : OK (Vn) fun r=>Ar Tryz.prog 7 [] (Am r):=⟨fun {r} h=>by
 refine pw {T:=Ca,an:=(fun _=>.ask),nl:=(fun s=>bif Nat.beq s 37 then [(3,3),(4,3)] else bif Nat.beq s 18 then [(3,3),(4,3)] else bif Nat.beq s 12 then [(3,3),(4,3)] else [])} Tryz.func7 ?_
 exact Y⟩
instance  : OK (Pv) fun r=>Cn Tryz.prog 60 [] [] (.loc 1 0) [.map (Bk (O .i64) r.1),.cells 108 [(.mp 0),(.arr 2 r.2.length 0 r.2.length)],.rows 65 5 (List.map B1 r.2)]:=⟨fun {r} h=>by
 refine aw C0 true Tryz.func60 ?_
 refine ZS ?_
 refine Bp ?_
 refine ZS ?_
 refine Bp ?_
 refine ZO ?_
 refine D7 [.own 3 1 65 5] ?_
 exact Y⟩
theorem Afs {a0:Int} {a1:Bool} {b1:List Int} {r:(Int×(List Int))} (h:Oc a0 a1 b1=some (.inl r)):Cn Tryz.prog 261 [(.loc 0 0),(O .i64) a0,Am a1] [.cells 232 [(.val (.pointer none)),(.arr 1 b1.length 0 b1.length)],.rows 5 1 (List.map (O .u8) b1)] ((O .i64) r.1) [.cells 232 [(.loc 0 0),(.arr 1 r.2.length 0 r.2.length)],.rows 5 1 (List.map (O .u8) r.2)]:=by
 refine aw C0 true Tryz.func261 ?_
 refine ZS ?_
 refine Bp ?_
 refine ZO ?_
 refine Ay (Jo (Ay ?_))
 refine Bq h (fun v1=>[(7,(Am v1))]) (fun v1=>[]) ?_ ?_
 intro _ h _ _ _
 exact Y
 rintro v1 _ h
 refine Ap h (fun _ h=>?_) (fun _ h=>?_)
 refine Z ?_
 refine Bl [0,1] h (fun _ h=>?_)
 exact Y
 refine Z ?_
 refine Ap h (fun _ h=>?_) (fun _ h=>?_)
 refine Z ?_
 refine Bl [0,1] h (fun _ h=>?_)
 exact Y
 refine Z ?_
 refine Ap h (fun _ h=>?_) (fun _ h=>?_)
 refine Z ?_
 refine Bl [0,1] h (fun _ h=>?_)
 exact Y
 exact Y
theorem Aft {a0:Int} {a1:Bool} {b1:List Int} {r:(Int×(List Int))} (h:Oc a0 a1 b1=some (.inr r)):Cn Tryz.prog 261 [(.loc 0 0),(O .i64) a0,Am a1] [.cells 232 [(.val (.pointer none)),(.arr 1 b1.length 0 b1.length)],.rows 5 1 (List.map (O .u8) b1)] ((O .i64) r.1) [.cells 232 [(.val (.pointer none)),(.arr 1 r.2.length 0 r.2.length)],.rows 5 1 (List.map (O .u8) r.2)]:=by
 refine aw C0 true Tryz.func261 ?_
 refine ZS ?_
 refine Bp ?_
 refine ZO ?_
 refine Ay (Jo (Ay ?_))
 refine Bq h (fun v1=>[(7,(Am v1))]) (fun v1=>[]) ?_ ?_
 intro _ h _ _ _
 exact Y
 rintro v1 _ h
 refine Ap h (fun _ h=>?_) (fun _ h=>?_)
 refine Z ?_
 refine Bl [0,1] h (fun _ h=>?_)
 exact Y
 refine Z ?_
 refine Ap h (fun _ h=>?_) (fun _ h=>?_)
 refine Z ?_
 refine Bl [0,1] h (fun _ h=>?_)
 exact Y
 refine Z ?_
 refine Ap h (fun _ h=>?_) (fun _ h=>?_)
 refine Z ?_
 refine Bl [0,1] h (fun _ h=>?_)
 exact Y
 exact Y
instance {a0:Int} {a1:Bool} {b1:List Int}:OK (Tq a0 a1 b1) fun r=>Cn Tryz.prog 261 [(.loc 0 0),(O .i64) a0,Am a1] [.cells 232 [(.loc 0 0),(.arr 1 b1.length 0 b1.length)],.rows 5 1 (List.map (O .u8) b1)] ((O .i64) r.1) [.cells 232 [(.loc 0 0),(.arr 1 r.2.length 0 r.2.length)],.rows 5 1 (List.map (O .u8) r.2)]:=⟨fun {r} h=>by
 refine aw C0 true Tryz.func261 ?_
 refine ZS ?_
 refine Bp ?_
 refine ZO ?_
 refine Ay (Jo (Ay ?_))
 refine Bq h (fun v1=>[(7,(Am v1))]) (fun v1=>[]) ?_ ?_
 intro _ h _ _ _
 exact Y
 rintro v1 _ h
 refine Ap h (fun _ h=>?_) (fun _ h=>?_)
 refine Z ?_
 refine Bl [0,1] h (fun _ h=>?_)
 exact Y
 refine Z ?_
 refine Ap h (fun _ h=>?_) (fun _ h=>?_)
 refine Z ?_
 refine Bl [0,1] h (fun _ h=>?_)
 exact Y
 refine Z ?_
 refine Ap h (fun _ h=>?_) (fun _ h=>?_)
 refine Z ?_
 refine Bl [0,1] h (fun _ h=>?_)
 exact Y
 exact Y⟩
instance {a0 a1:Int}:OK (Js a0 a1) fun r=>Ar Tryz.prog 262 [(O .i64) a0,(O .i64) a1] (C8 r):=⟨fun {r} h=>by
 exact Ank h⟩
instance {b1:List Int}:OK (Wd b1) fun r=>Cn Tryz.prog 195 [(.loc 0 0)] [.cells 232 [(.val (.pointer none)),(.arr 1 b1.length 0 b1.length)],.rows 5 1 (List.map (O .u8) b1)] (C8 r) [.cells 232 [(.val (.pointer none)),(.arr 1 b1.length 0 b1.length)],.dead]:=⟨fun {r} h=>by
 exact Aex h⟩
instance {a0:Di}:OK (La a0) fun r=>Ar Tryz.prog 194 [I0 a0] (C8 r):=⟨fun {r} h=>by
 refine pw C0 Tryz.func194 ?_
 refine Z ?_
 refine Bo h (fun _ h=>?_)
 refine Z ?_
 refine Ap h (fun _ h=>?_) (fun _ h=>?_)
 exact Y
 refine ZS ?_
 refine Bp ?_
 refine ZO ?_
 refine Ay (Ay ?_)
 refine D7 [.own 3 1 5 1] ?_
 refine Z ?_
 refine Vl ?_
 refine Z ?_
 refine Ap h (fun _ h=>?_) (fun _ h=>?_)
 refine Jn (Ay ?_)
 refine Bq h (fun (v30,o31)=>[(4,(O .i64 0)),(6,(O .i64 v30))]) (fun (v30,o31)=>[(1,.cells 232 [(.loc 1 0),(.arr 2 o31.length 0 o31.length)]),(2,.rows 5 1 (List.map (O .u8) o31))]) ?_ ?_
 intro _ h _ _ _
 refine Z ?_
 refine Ce h (fun _ v5 _ _ h=>?_)
 refine Z ?_
 refine Ea h (fun v7 hcv7 h=>?_)
 rcases v7 with v8 | v9
 refine Fv.act [1,2] _ _ _ _ (Afs (a0:=v5.Coef) (a1:=true) (b1:=[]) hcv7) rfl rfl ⟨rfl,rfl,trivial⟩ ?_
 refine ZS ?_
 refine Bp ?_
 refine ZO ?_
 refine Bq h (fun o14=>[]) (fun o14=>[(1,.cells 232 [(.loc 1 0),(.arr 2 o14.length 0 o14.length)]),(2,.rows 5 1 (List.map (O .u8) o14))]) ?_ ?_
 intro _ h _ _ _
 refine Ap h (fun _ h=>?_) (fun _ h=>?_)
 refine Z ?_
 refine Bo h (fun _ h=>?_)
 refine Z ?_
 refine Fe h (fun h=>?_)
 refine Z ?_
 refine Bl [1,2] h (fun _ h=>?_)
 exact Y
 exact Y
 rintro o14 _ h
 refine Z ?_
 refine Ap h (fun _ h=>?_) (fun _ h=>?_)
 refine Z ?_
 refine Bl [1,2] h (fun _ h=>?_)
 exact Y
 refine Z ?_
 refine Bo h (fun _ h=>?_)
 refine Z ?_
 refine Fe h (fun h=>?_)
 refine Z ?_
 refine Bl [1,2] h (fun _ h=>?_)
 exact Y
 refine Fv.act [1,2] _ _ _ _ (Aft (a0:=v5.Coef) (a1:=true) (b1:=[]) hcv7) rfl rfl ⟨rfl,rfl,trivial⟩ ?_
 refine Z ?_
 refine Ap h (fun _ h=>?_) (fun _ h=>?_)
 refine Z ?_
 refine Bo h (fun _ h=>?_)
 refine Z ?_
 refine Fe h (fun h=>?_)
 refine Z ?_
 refine Bl [1,2] h (fun _ h=>?_)
 refine Z ?_
 refine Ap h (fun _ h=>?_) (fun _ h=>?_)
 refine Z ?_
 refine Bl [1,2] h (fun _ h=>?_)
 exact Y
 refine Z ?_
 refine Bo h (fun _ h=>?_)
 refine Z ?_
 refine Fe h (fun h=>?_)
 refine Z ?_
 refine Bl [1,2] h (fun _ h=>?_)
 exact Y
 refine Z ?_
 refine Ap h (fun _ h=>?_) (fun _ h=>?_)
 refine Z ?_
 refine Bl [1,2] h (fun _ h=>?_)
 exact Y
 refine Z ?_
 refine Bo h (fun _ h=>?_)
 refine Z ?_
 refine Fe h (fun h=>?_)
 refine Z ?_
 refine Bl [1,2] h (fun _ h=>?_)
 exact Y
 rintro ⟨v30,o31⟩ _ h
 refine Z ?_
 refine A7 h (fun (v43,o44)=>[(13,(O .i64 v43))]) (fun (v43,o44)=>[(1,.cells 232 [(.loc 1 0),(.arr 2 o44.length 0 o44.length)]),(2,.rows 5 1 (List.map (O .u8) o44))]) ?_
 rintro ⟨v43,o44⟩ _ _ _ h _ _
 refine Z ?_
 refine Ap h (fun _ h=>?_) (fun _ h=>?_)
 refine Z ?_
 refine Ce h (fun _ _ _ _ h=>?_)
 refine Z ?_
 refine Bl [1,2] h (fun _ h=>?_)
 refine ZS ?_
 refine Bp ?_
 refine ZO ?_
 refine Bq h (fun o51=>[]) (fun o51=>[(1,.cells 232 [(.loc 1 0),(.arr 2 o51.length 0 o51.length)]),(2,.rows 5 1 (List.map (O .u8) o51))]) ?_ ?_
 intro _ h _ _ _
 refine Ap h (fun _ h=>?_) (fun _ h=>?_)
 refine Z ?_
 refine Bo h (fun _ h=>?_)
 refine Z ?_
 refine Fe h (fun h=>?_)
 refine Z ?_
 refine Bl [1,2] h (fun _ h=>?_)
 exact Y
 exact Y
 rintro o51 _ h
 refine Z ?_
 refine Ap h (fun _ h=>?_) (fun _ h=>?_)
 refine Z ?_
 refine Bl [1,2] h (fun _ h=>?_)
 exact Y
 refine Z ?_
 refine Bo h (fun _ h=>?_)
 refine Z ?_
 refine Fe h (fun h=>?_)
 refine Z ?_
 refine Bl [1,2] h (fun _ h=>?_)
 exact Y
 replace h:=C1 h
 refine Gf (Gd rfl (Ay (Ay ?_)))
 refine Bq h (fun v57=>[(47,(Am v57))]) (fun v57=>[]) ?_ ?_
 intro _ h _ _ _
 exact Y
 rintro v57 _ h
 refine Ap h (fun _ h=>?_) (fun _ h=>?_)
 refine Z ?_
 refine Bl [1,2] h (fun _ h=>?_)
 refine Z ?_
 refine Bo h (fun _ h=>?_)
 refine Z ?_
 refine Bl [1,2] h (fun _ h=>?_)
 refine Z ?_
 refine Bl [1,2] h (fun _ h=>?_)
 exact Y
 refine Z ?_
 refine Bl [1,2] h (fun _ h=>?_)
 exact Y
 refine Gf (Gd rfl (Ay (Ay ?_)))
 refine Bq h (fun v63=>[(47,(Am v63))]) (fun v63=>[]) ?_ ?_
 intro _ h _ _ _
 exact Y
 rintro v63 _ h
 refine Ap h (fun _ h=>?_) (fun _ h=>?_)
 refine Z ?_
 refine Ea h (fun v64 hcv64 h=>?_)
 rcases v64 with v65 | v66
 refine Fv.act [1,2] _ _ _ _ (Afs (a0:=a0.Const) (a1:=((a0.Terms.length:Int)==(0:Int))) (b1:=[]) hcv64) rfl rfl ⟨rfl,rfl,trivial⟩ ?_
 refine Z ?_
 refine Bo h (fun _ h=>?_)
 refine Z ?_
 refine Bl [1,2] h (fun _ h=>?_)
 refine Z ?_
 refine Bl [1,2] h (fun _ h=>?_)
 exact Y
 refine Fv.act [1,2] _ _ _ _ (Aft (a0:=a0.Const) (a1:=((a0.Terms.length:Int)==(0:Int))) (b1:=[]) hcv64) rfl rfl ⟨rfl,rfl,trivial⟩ ?_
 refine Z ?_
 refine Bo h (fun _ h=>?_)
 refine Z ?_
 refine Bl [1,2] h (fun _ h=>?_)
 refine Z ?_
 refine Bl [1,2] h (fun _ h=>?_)
 exact Y
 refine Z ?_
 refine Bl [1,2] h (fun _ h=>?_)
 exact Y⟩
instance {a0:Bi}:OK (Si a0) fun r=>Ar Tryz.prog 117 [Gi a0] (C8 r):=⟨fun {r} h=>by
 refine pw C0 Tryz.func117 ?_
 refine ZS ?_
 refine Bp ?_
 refine ZS ?_
 refine Bp ?_
 refine ZO ?_
 refine Ay (Ay ?_)
 refine D7 [.own 3 1 5 1] ?_
 refine Z ?_
 refine Vl ?_
 refine Z ?_
 refine Ap h (fun _ h=>?_) (fun _ h=>?_)
 refine Z ?_
 refine Ce h (fun _ _ _ _ h=>?_)
 refine Z ?_
 refine Bo h (fun _ h=>?_)
 refine Z ?_
 refine Bl [1,2] h (fun _ h=>?_)
 refine Z ?_
 refine A7 h (fun (v18,o19)=>[(11,(O .i64 v18))]) (fun (v18,o19)=>[(1,.cells 232 [(.loc 1 0),(.arr 2 o19.length 0 o19.length)]),(2,.rows 5 1 (List.map (O .u8) o19))]) ?_
 rintro ⟨v18,o19⟩ _ _ _ h _ _
 refine Z ?_
 refine Ap h (fun _ h=>?_) (fun _ h=>?_)
 refine Z ?_
 refine Ce h (fun _ _ _ _ h=>?_)
 refine Z ?_
 refine Bo h (fun _ h=>?_)
 refine Z ?_
 refine Bl [1,2] h (fun _ h=>?_)
 exact Y
 replace h:=C1 h
 refine Z ?_
 refine Vl ?_
 refine Z ?_
 refine Ap h (fun _ h=>?_) (fun _ h=>?_)
 refine Z ?_
 refine Ce h (fun _ _ _ _ h=>?_)
 refine Z ?_
 refine Bo h (fun _ h=>?_)
 refine Z ?_
 refine Fe h (fun h=>?_)
 refine Z ?_
 refine Fe h (fun h=>?_)
 refine Z ?_
 refine Bo h (fun _ h=>?_)
 refine Z ?_
 refine Fe h (fun h=>?_)
 refine Z ?_
 refine Bl [1,2] h (fun _ h=>?_)
 refine Z ?_
 refine A7 h (fun (v51,o52)=>[(25,(O .i64 v51))]) (fun (v51,o52)=>[(1,.cells 232 [(.loc 1 0),(.arr 2 o52.length 0 o52.length)]),(2,.rows 5 1 (List.map (O .u8) o52))]) ?_
 rintro ⟨v51,o52⟩ _ _ _ h _ _
 refine Z ?_
 refine Ap h (fun _ h=>?_) (fun _ h=>?_)
 refine Z ?_
 refine Ce h (fun _ _ _ _ h=>?_)
 refine Z ?_
 refine Bo h (fun _ h=>?_)
 refine Z ?_
 refine Fe h (fun h=>?_)
 refine Z ?_
 refine Fe h (fun h=>?_)
 refine Z ?_
 refine Bo h (fun _ h=>?_)
 refine Z ?_
 refine Fe h (fun h=>?_)
 refine Z ?_
 refine Bl [1,2] h (fun _ h=>?_)
 exact Y
 replace h:=C1 h
 refine Z ?_
 refine Bl [1,2] h (fun _ h=>?_)
 exact Y
 refine Z ?_
 refine Bl [1,2] h (fun _ h=>?_)
 exact Y
 refine Z ?_
 refine Vl ?_
 refine Z ?_
 refine Ap h (fun _ h=>?_) (fun _ h=>?_)
 refine Z ?_
 refine Ce h (fun _ _ _ _ h=>?_)
 refine Z ?_
 refine Bo h (fun _ h=>?_)
 refine Z ?_
 refine Fe h (fun h=>?_)
 refine Z ?_
 refine Fe h (fun h=>?_)
 refine Z ?_
 refine Bo h (fun _ h=>?_)
 refine Z ?_
 refine Fe h (fun h=>?_)
 refine Z ?_
 refine Bl [1,2] h (fun _ h=>?_)
 refine Z ?_
 refine A7 h (fun (v90,o91)=>[(25,(O .i64 v90))]) (fun (v90,o91)=>[(1,.cells 232 [(.loc 1 0),(.arr 2 o91.length 0 o91.length)]),(2,.rows 5 1 (List.map (O .u8) o91))]) ?_
 rintro ⟨v90,o91⟩ _ _ _ h _ _
 refine Z ?_
 refine Ap h (fun _ h=>?_) (fun _ h=>?_)
 refine Z ?_
 refine Ce h (fun _ _ _ _ h=>?_)
 refine Z ?_
 refine Bo h (fun _ h=>?_)
 refine Z ?_
 refine Fe h (fun h=>?_)
 refine Z ?_
 refine Fe h (fun h=>?_)
 refine Z ?_
 refine Bo h (fun _ h=>?_)
 refine Z ?_
 refine Fe h (fun h=>?_)
 refine Z ?_
 refine Bl [1,2] h (fun _ h=>?_)
 exact Y
 replace h:=C1 h
 refine Z ?_
 refine Bl [1,2] h (fun _ h=>?_)
 exact Y
 refine Z ?_
 refine Bl [1,2] h (fun _ h=>?_)
 exact Y⟩
instance {a0 a1:List Int}:OK (So a0 a1) fun r=>Ar Tryz.prog 162 [(Aw 1 (O .u32)) a0,(Aw 1 (O .u32)) a1] ((Aw 1 (O .u32)) r):=⟨fun {r} h=>by
 refine pw {T:=Ca,an:=(fun _=>.ask),nl:=(fun s=>bif Nat.beq s 4 then [(0,1)] else [])} Tryz.func162 ?_
 refine ZS ?_
 refine Bp ?_
 refine ZS ?_
 refine Bp ?_
 refine ZO ?_
 refine Bq h (fun (v1,v2)=>[(0,(.sl 1 (List.map (O .u32) v1))),(1,(.sl 1 (List.map (O .u32) v2)))]) (fun (v1,v2)=>[]) ?_ ?_
 intro _ h _ _ _
 exact Y
 rintro ⟨v1,v2⟩ _ h
 refine Z ?_
 refine Fx h (fun _ h=>?_)
 refine Z ?_
 refine A7 h (fun (v20,v21,o22)=>[(5,(.arr 0 o22.length 0 o22.length)),(6,(O .u32 v20)),(22,(O .i64 v21))]) (fun (v20,v21,o22)=>[(0,.rows 129 1 (List.map (O .u32) o22))]) ?_
 rintro ⟨v20,v21,o22⟩ _ _ _ h _ _
 refine Z ?_
 refine Ap h (fun _ h=>?_) (fun _ h=>?_)
 refine Z ?_
 refine Ce h (fun _ _ _ _ h=>?_)
 refine ZS ?_
 refine Bp ?_
 refine ZO ?_
 refine Bq h (fun v25=>[(8,(O .u32 v25))]) (fun v25=>[]) ?_ ?_
 intro _ h _ _ _
 exact Y
 rintro v25 _ h
 exact Y
 exact Y⟩
instance {a0 a1:List Int}:OK (P2 a0 a1) fun r=>Ar Tryz.prog 163 [(Aw 1 (O .u32)) a0,(Aw 1 (O .u32)) a1] ((Aw 1 (O .u32)) r):=⟨fun {r} h=>by
 refine pw {T:=Ca,an:=(fun _=>.ask),nl:=(fun s=>bif Nat.beq s 4 then [(0,1)] else [])} Tryz.func163 ?_
 refine Z ?_
 refine Fx h (fun _ h=>?_)
 refine Z ?_
 refine A7 h (fun (v8,v9,o10)=>[(5,(.arr 0 o10.length 0 o10.length)),(6,(O .i64 v8)),(14,(O .i64 v9))]) (fun (v8,v9,o10)=>[(0,.rows 129 1 (List.map (O .u32) o10))]) ?_
 rintro ⟨v8,v9,o10⟩ _ _ _ h _ _
 refine Z ?_
 refine Ap h (fun _ h=>?_) (fun _ h=>?_)
 refine Z ?_
 refine Ce h (fun _ _ _ _ h=>?_)
 refine ZS ?_
 refine Bp ?_
 refine ZO ?_
 refine Bq h (fun v13=>[(8,(O .i64 v13))]) (fun v13=>[]) ?_ ?_
 intro _ h _ _ _
 exact Y
 rintro v13 _ h
 exact Y
 replace h:=C1 h
 refine Gf (Gd rfl (Ay ?_))
 refine D7 [.fz 5] ?_
 exact Y⟩
instance {a0 a1:Fk}:OK (Vs a0 a1) fun r=>Ar Tryz.prog 99 [Mn a0,Mn a1] (Mn r):=⟨fun {r} h=>by
 refine pw C0 Tryz.func99 ?_
 exact Y⟩
instance {a0 a1:A3}:OK (Nq a0 a1) fun r=>Ar Tryz.prog 46 [Cy a0,Cy a1] (Cy r):=⟨fun {r} h=>by
 refine pw C0 Tryz.func46 ?_
 exact Y⟩
instance {a0:List Aj} {b1:List (ByteArray×Int)} {b2:List Aj}:OK (Kf a0 b1 b2) fun r=>Cn Tryz.prog 61 [(.loc 0 0),(Aw 5 B1) a0] [.cells 108 [(.mp 1),(.arr 2 b2.length 0 b2.length)],.map (Bk (O .i64) b1),.rows 65 5 (List.map B1 b2)] (.tup []) [.cells 108 [(.mp 1),(.arr 2 r.2.length 0 r.2.length)],.map (Bk (O .i64) r.1),.rows 65 5 (List.map B1 r.2)]:=⟨fun {r} h=>by
 refine aw C0 true Tryz.func61 ?_
 refine Z ?_
 refine A7 h (fun (v10,o11,o12)=>[(11,(O .i64 v10))]) (fun (v10,o11,o12)=>[(0,.cells 108 [(.mp 1),(.arr 2 o12.length 0 o12.length)]),(1,.map (Bk (O .i64) o11)),(2,.rows 65 5 (List.map B1 o12))]) ?_
 rintro ⟨v10,o11,o12⟩ _ _ _ h _ hn1
 refine Z ?_
 refine Ap h (fun _ h=>?_) (fun _ h=>?_)
 refine Z ?_
 refine Ce h (fun _ _ _ _ h=>?_)
 refine Z ?_
 refine Bo h (fun _ h=>?_)
 refine ZO ?_
 refine Ay (Ay ?_)
 refine Bq h (fun (v16,v17)=>[(7,(O .i64 v16)),(8,(Am v17))]) (fun (v16,v17)=>[]) ?_ ?_
 intro _ h _ _ _
 refine Z ?_
 refine Vh (f:=(O .i64)) (l:=o11) rfl (0:Int) h (fun j_ hb h=>?_) (fun hb h=>?_)
 exact Y
 exact Y
 rintro ⟨v16,v17⟩ _ h
 refine Z ?_
 refine Ap h (fun _ h=>?_) (fun _ h=>?_)
 refine Z ?_
 refine Ju h (fun _ _ _ _ h=>?_)
 refine Z ?_
 refine Bo h (fun v19 h=>?_)
 refine Z ?_
 refine Ju h (fun _ v20 hiv20 _ h=>?_)
 refine Z ?_
 refine Lz (f:=B1) (x:=(Aj.mk v19 v20.Mono)) (j:=v16) rfl rfl (Nat.zero_add _) hiv20 ?_
 refine Z ?_
 exact hn1 _ _ _ _ (Option.some.inj h) ⟨rfl,trivial⟩ ⟨⟨rfl,rfl⟩,⟨rfl,rfl⟩,⟨congrArg (fun q_=>Bc.cells 108 [(.mp 1),(.arr 2 q_ 0 q_)]) (Fw (l:=o12) rfl v16 (Aj.mk v19 v20.Mono)),rfl⟩,trivial⟩ trivial
 refine Z ?_
 refine Rx (f:=(O .i64)) (l:=o11) (x:=((o12.length:Nat):Int)) rfl rfl ?_
 exact Y
 exact Y⟩
abbrev Afu (k:Nat):Prop:=∀{a0:A6},OK (Od k a0) fun r=>Ar Tryz.prog 271 [Ek a0] (Ek r)
theorem Anx (k:Nat):Afu k:=by
 induction k with
 | zero=>exact okz
 | succ k ih=>
  refine @fun a0=>⟨fun {r} h=>?_⟩
  .unfold Od at h
   refine pw {T:=Ca,an:=(fun _=>.ask),nl:=(fun s=>bif Nat.beq s 17 then [(0,2)] else [])} Tryz.func271 ?_
   refine ZS ?_
   refine Bp ?_
   refine ZS ?_
   refine Bp ?_
   refine ZO ?_
   refine Ay (Ay ?_)
   refine D7 [.own 3 1 86 2] ?_
   refine Z ?_
   refine A7 h (fun (v15,o16)=>[(12,(O .i64 v15))]) (fun (v15,o16)=>[(2,.cells 86 [(O .i64 a0.Num),(.arr 3 o16.length 0 o16.length)]),(3,.rows 86 2 (Gg o16))]) ?_
   rintro ⟨v15,o16⟩ _ _ _ h _ _
   exact Y
instance {k:Nat}:Afu k:=(Anx k)
instance {a0:Bi}:OK (Su a0) fun r=>Ar Tryz.prog 197 [Gi a0] (Gi r):=⟨fun {r} h=>by
 refine pw {T:=Ca,an:=(fun _=>.ask),nl:=(fun s=>bif Nat.beq s 44 then [(0,3)] else bif Nat.beq s 17 then [(0,3)] else [])} Tryz.func197 ?_
 refine ZS ?_
 refine Bp ?_
 refine ZS ?_
 refine Bp ?_
 refine ZO ?_
 refine Ay (Ay ?_)
 refine D7 [.own 3 0 88 3,.own 3 1 118 3] ?_
 refine Z ?_
 refine A7 h (fun (v16,o17)=>[(12,(O .i64 v16))]) (fun (v16,o17)=>[(2,.cells 63 [(.arr 3 o17.length 0 o17.length),(.arr 4 0 0 0)]),(3,.rows 88 3 (List.map G4 o17))]) ?_
 rintro ⟨v16,o17⟩ _ _ _ h _ _
 refine Z ?_
 refine Ap h (fun _ h=>?_) (fun _ h=>?_)
 exact Y
 replace h:=C1 h
 refine Z ?_
 refine A7 h (fun (v35,o36)=>[(31,(O .i64 v35))]) (fun (v35,o36)=>[(2,.cells 63 [(.arr 3 o17.length 0 o17.length),(.arr 4 o36.length 0 o36.length)]),(4,.rows 118 3 (List.map Hj o36))]) ?_
 rintro ⟨v35,o36⟩ _ _ _ h _ _
 exact Y⟩
instance {a0:List Aj}:OK (Sj a0) fun r=>Ar Tryz.prog 120 [(Aw 5 B1) a0] ((Aw 5 B1) r):=⟨fun {r} h=>by
 refine pw {T:=Ca,an:=(fun s=>bif Nat.beq s 3 then .own else .ask),nl:=(fun s=>bif Nat.beq s 3 then [(0,5)] else bif Nat.beq s 2 then [(0,5)] else [])} Tryz.func120 ?_
 refine Z ?_
 refine A7 h (fun (v14,o15)=>[(3,(.arr 0 o15.length 0 o15.length)),(8,(O .i64 v14))]) (fun (v14,o15)=>[(0,.rows 65 5 (List.map B1 o15))]) ?_
 rintro ⟨v14,o15⟩ _ _ _ h _ _
 exact Y⟩
instance {a0:Int}:OK (Vz a0) fun r=>Ar Tryz.prog 218 [(O .u64) a0] ((O .i64) r):=⟨fun {r} h=>by
 refine pw C0 Tryz.func218 ?_
 refine ZS ?_
 refine Bp ?_
 refine ZS ?_
 refine Bp ?_
 refine ZO ?_
 refine Bq h (fun (v2,v3)=>[(0,(O .u64 v2)),(2,(O .i64 v3))]) (fun (v2,v3)=>[]) ?_ ?_
 intro _ h _ _ _
 exact Y
 rintro ⟨v2,v3⟩ _ h
 refine ZS ?_
 refine Bp ?_
 refine ZO ?_
 refine Bq h (fun (v5,v6)=>[(0,(O .u64 v5)),(2,(O .i64 v6))]) (fun (v5,v6)=>[]) ?_ ?_
 intro _ h _ _ _
 exact Y
 rintro ⟨v5,v6⟩ _ h
 refine ZS ?_
 refine Bp ?_
 refine ZO ?_
 refine Bq h (fun (v8,v9)=>[(0,(O .u64 v8)),(2,(O .i64 v9))]) (fun (v8,v9)=>[]) ?_ ?_
 intro _ h _ _ _
 exact Y
 rintro ⟨v8,v9⟩ _ h
 exact Y⟩
instance {a0:Int}:OK (Sl a0) fun r=>Ar Tryz.prog 135 [(O .u64) a0] ((O .i64) r):=⟨fun {r} h=>by
 refine pw C0 Tryz.func135 ?_
 exact Y⟩
instance {a0 a1:Aj}:OK (Py a0 a1) fun r=>Ar Tryz.prog 119 [B1 a0,B1 a1] ((O .i64) r):=⟨fun {r} h=>by
 refine pw C0 Tryz.func119 ?_
 exact Y⟩
instance {a0 a1:Int} {b0:List Aj}:OK (Ta a0 a1 b0) fun r=>Cn Tryz.prog 263 [(.arr 0 b0.length 0 b0.length),(O .i64) a0,(O .i64) a1,(.fn 119 [])] [.rows 65 5 (List.map B1 b0)] (.tup []) [.rows 65 5 (List.map B1 r)]:=⟨fun {r} h=>by
 refine aw C0 true Tryz.func263 ?_
 refine Z ?_
 refine Gj h (fun (v21,o22)=>[(8,(O .i64 v21))]) (fun (v21,o22)=>[(0,.rows 65 5 (List.map B1 o22))]) (fun (v21,o22)=>b0.length=o22.length) ?_
 rintro ⟨v21,o22⟩ _ _ _ h _ _ q22
 refine Z ?_
 refine Ap h (fun _ h=>?_) (fun _ h=>?_)
 refine Z ?_
 refine Gj h (fun (v31,o32)=>[(9,(O .i64 v31))]) (fun (v31,o32)=>[(0,.rows 65 5 (List.map B1 o32))]) (fun (v31,o32)=>b0.length=o32.length) ?_
 rintro ⟨v31,o32⟩ _ _ _ h _ _ q32
 refine Ay (Ay ?_)
 refine Bq h (fun v36=>[(34,(Am v36))]) (fun v36=>[]) ?_ ?_
 intro _ h _ _ _
 exact Y
 rintro v36 _ h
 exact Y
 exact Y⟩
instance {a0 a1 a2:Int} {b0:List Aj}:OK (Ss a0 a1 a2 b0) fun r=>Cn Tryz.prog 196 [(.arr 0 b0.length 0 b0.length),(O .i64) a0,(O .i64) a1,(O .i64) a2,(.fn 119 [])] [.rows 65 5 (List.map B1 b0)] (.tup []) [.rows 65 5 (List.map B1 r)]:=⟨fun {r} h=>by
 refine aw C0 true Tryz.func196 ?_
 refine Z ?_
 refine A7 h (fun _=>[(1,(O .i64 a0)),(2,(O .i64 a1)),(3,(O .i64 a2)),(10,(Am true)),(11,(Am true))]) (fun _=>[]) ?_
 rintro _ _ _ _ h _ _
 refine Z ?_
 refine Ap h (fun _ h=>?_) (fun _ h=>?_)
 refine Z ?_
 refine Bl [0] h (fun _ h=>?_)
 refine Ea h (fun v2 hgv2 h=>?_)
 exact Y
 exact Y⟩
instance {b0:List Aj}:OK (Px b0) fun r=>Cn Tryz.prog 118 [(.arr 0 b0.length 0 b0.length),(.fn 119 [])] [.rows 65 5 (List.map B1 b0)] (.tup []) [.rows 65 5 (List.map B1 r)]:=⟨fun {r} h=>by
 refine aw C0 true Tryz.func118 ?_
 refine Z ?_
 refine Bo h (fun _ h=>?_)
 refine Z ?_
 refine Bl [0] h (fun _ h=>?_)
 refine Ea h (fun v3 hgv3 h=>?_)
 exact Y⟩
instance {b1:List (ByteArray×Int)} {b2:List Aj}:OK (R6 b1 b2) fun r=>Cn Tryz.prog 62 [(.loc 0 0)] [.cells 108 [(.mp 1),(.arr 2 b2.length 0 b2.length)],.map (Bk (O .i64) b1),.rows 65 5 (List.map B1 b2)] (.tup [(Aw 5 B1) r.1,(O .i64) r.2]) [.cells 108 [(.mp 1),(.arr 2 b2.length 0 b2.length)],.map (Bk (O .i64) b1),.rows 65 5 (List.map B1 b2)]:=⟨fun {r} h=>by
 refine aw {T:=Ca,an:=(fun s=>bif Nat.beq s 4 then .own else .ask),nl:=(fun s=>bif Nat.beq s 4 then [(0,5)] else bif Nat.beq s 2 then [(0,5)] else [])} true Tryz.func62 ?_
 refine Z ?_
 refine A7 h (fun (v12,o13)=>[(4,(.arr 3 o13.length 0 o13.length)),(12,(O .i64 v12))]) (fun (v12,o13)=>[(3,.rows 65 5 (List.map B1 o13))]) ?_
 rintro ⟨v12,o13⟩ _ _ _ h _ _
 refine Z ?_
 refine Ap h (fun _ h=>?_) (fun _ h=>?_)
 exact Y
 replace h:=C1 h
 refine Z ?_
 refine Ap h (fun _ h=>?_) (fun _ h=>?_)
 exact Y
 refine Z ?_
 refine Bl [3] h (fun _ h=>?_)
 refine Ea h (fun v20 hgv20 h=>?_)
 refine ZO ?_
 refine Ay ?_
 refine D7 [.fz 4] ?_
 exact Y⟩
instance {a0:B0} {a1 a2:List Aj}:OK (Pq a0 a1 a2) fun r=>Ar Tryz.prog 20 [E3 a0,(Aw 5 B1) a1,(Aw 5 B1) a2] (.tup [(Aw 5 B1) r.1,(O .i64) r.2]):=⟨fun {r} h=>by
 refine pw {T:=Ca,an:=(fun _=>.ask),nl:=(fun s=>bif Nat.beq s 6 then [(0,5)] else [])} Tryz.func20 ?_
 refine ZS ?_
 refine Bp ?_
 refine ZO ?_
 refine Ay (Ay ?_)
 refine Bq h (fun v9=>[(9,(Am v9))]) (fun v9=>[]) ?_ ?_
 intro _ h _ _ _
 refine Z ?_
 refine Ea h (fun v2 hcv2 h=>?_)
 rcases v2 with v3 | v8
 refine Fv.act [] _ _ _ _ (Aah (a0:=a0) (a1:=[a1,a2]) hcv2) rfl rfl trivial ?_
 exact Y
 refine Fv.act [] _ _ _ _ (Aai (a0:=a0) (a1:=[a1,a2]) hcv2) rfl rfl trivial ?_
 exact Y
 rintro v9 _ h
 refine Z ?_
 refine Ap h (fun _ h=>?_) (fun _ h=>?_)
 exact Y
 refine Z ?_
 refine Bl [] h (fun _ h=>?_)
 refine Z ?_
 refine Bl [2,1,3] h (fun _ h=>?_)
 refine Z ?_
 refine Bl [2,1,3] h (fun _ h=>?_)
 refine Z ?_
 refine Bl [2,1,3] h (fun _ h=>?_)
 exact Y⟩
instance {a0:Aj}:OK (Sk a0) fun r=>Ar Tryz.prog 122 [B1 a0] (Am r):=⟨fun {r} h=>by
 refine pw C0 Tryz.func122 ?_
 exact Y⟩
instance {a0:List Aj}:OK (Vy a0) fun r=>Ar Tryz.prog 198 [(Aw 5 B1) a0,(.fn 122 [])] ((O .i64) r):=⟨fun {r} h=>by
 refine pw C0 Tryz.func198 ?_
 refine Z ?_
 refine A7 h (fun v3=>[(4,(O .i64 0)),(8,(O .i64 v3))]) (fun v3=>[]) ?_
 rintro v3 _ _ _ h _ _
 exact Y⟩
instance {a0:List Aj}:OK (Vt a0) fun r=>Ar Tryz.prog 121 [(Aw 5 B1) a0,(.fn 122 [])] (Am r):=⟨fun {r} h=>by
 refine pw C0 Tryz.func121 ?_
 exact Y⟩
instance {a0:List Aj}:OK (R8 a0) fun r=>Ar Tryz.prog 64 [(Aw 5 B1) a0] (Am r):=⟨fun {r} h=>by
 refine pw C0 Tryz.func64 ?_
 exact Y⟩
instance {a0 a1:A3}:OK (Np a0 a1) fun r=>Ar Tryz.prog 45 [Cy a0,Cy a1] (Cy r):=⟨fun {r} h=>by
 refine pw C0 Tryz.func45 ?_
 exact Y⟩
instance {a0:List Aj} {a1:A3}:OK (R7 a0 a1) fun r=>Ar Tryz.prog 63 [(Aw 5 B1) a0,Cy a1] ((Aw 5 B1) r):=⟨fun {r} h=>by
 refine pw {T:=Ca,an:=(fun s=>bif Nat.beq s 5 then .own else .ask),nl:=(fun s=>bif Nat.beq s 5 then [(0,5)] else bif Nat.beq s 4 then [(0,5)] else [])} Tryz.func63 ?_
 refine Z ?_
 refine A7 h (fun (v13,o14)=>[(5,(.arr 1 o14.length 0 o14.length)),(10,(O .i64 v13))]) (fun (v13,o14)=>[(1,.rows 65 5 (List.map B1 o14))]) ?_
 rintro ⟨v13,o14⟩ _ _ _ h _ _
 exact Y⟩
instance {a0:B0} {a1 a2:List Aj}:OK (L0 a0 a1 a2) fun r=>Ar Tryz.prog 21 [E3 a0,(Aw 5 B1) a1,(Aw 5 B1) a2] (Am r):=⟨fun {r} h=>by
 refine pw C0 Tryz.func21 ?_
 refine ZS ?_
 refine Bp ?_
 refine ZO ?_
 refine Ay (Ay ?_)
 refine Bq h (fun v9=>[(8,(Am v9))]) (fun v9=>[]) ?_ ?_
 intro _ h _ _ _
 refine Z ?_
 refine Ea h (fun v2 hcv2 h=>?_)
 rcases v2 with v3 | v8
 refine Fv.act [] _ _ _ _ (Aah (a0:=a0) (a1:=[a1,a2]) hcv2) rfl rfl trivial ?_
 exact Y
 refine Fv.act [] _ _ _ _ (Aai (a0:=a0) (a1:=[a1,a2]) hcv2) rfl rfl trivial ?_
 exact Y
 rintro v9 _ h
 refine Z ?_
 refine Ap h (fun _ h=>?_) (fun _ h=>?_)
 exact Y
 refine Z ?_
 refine Bl [] h (fun _ h=>?_)
 refine Z ?_
 refine Bl [2,1,3] h (fun _ h=>?_)
 refine Z ?_
 refine Bo h (fun _ h=>?_)
 refine Z ?_
 refine Bo h (fun _ h=>?_)
 refine Z ?_
 refine Bl [2,1,3] h (fun _ h=>?_)
 refine ZO ?_
 refine Ay ?_
 refine D7 [.fzc 20 1] ?_
 exact Y⟩
end Go.Ab
