/- The contracts of the functions, each by its walk (made by a program). -/
import Derived.Test.YtjjkmepjaemceaaGreatDoorBcTy
import Derived.Test.YtjjkmepjaemceaaGreatDoorBcDef
import Derived.Test.YtjjkmepjaemceaaGreatDoorBcHand
namespace Go.Ab
open Go Go.Proofs
set_option maxRecDepth 10000
theorem Aog (j i h f c b:Int):Lc Tryz.prog 46 [.int .i64 j,.int .i64 i,.int .i64 h] [.int .i64 f,.int .i64 c,.int .i64 b] (j==f&&(i==c&&(h==b))):=by
 have u:Tryz.prog.underlying 46=some (.struct #[⟨ "Var",3,0,false,"","",0⟩,⟨ "Con",3,1,false,"","",8⟩,⟨ "N",2,2,false,"","",16⟩]):=by kernel_rfl
 have l:Tryz.prog.underlying 2=some (.int .i64):=by kernel_rfl
 have k:Tryz.prog.underlying 3=some (.int .i64):=by kernel_rfl
 have s:Tryz.prog.stoodInHeld 46=false:=by kernel_rfl
 have g:Tryz.prog.eqGuardType Tryz.prog.depth 46=false:=by kernel_rfl
 intro w op x y
 constructor
 .unfold eqGuard
  cases op <;> simp [program,Sem.run,g]
 .show (Op.equalIn (9999+1) 46 _ _).run _ w=_
  unfold Op.equalIn
  simp only [Sem.run_bind,run_underlying u,Result.andThen_ok]
  have hp:(program).run Tryz.prog w = .ok Tryz.prog w:=rfl
  simp only [hp,Result.andThen_ok,s]
  simp [Wg w l,Zu w l 9998,Wg w k,Zu w k 9998]
  by_cases q:j=f <;> by_cases h1:i=c <;> by_cases h2:h=b <;> simp [*]
theorem Aoh (h f c b:Int):Lc Tryz.prog 83 [.int .i64 h,.int .i64 f] [.int .i64 c,.int .i64 b] (h==c&&(f==b)):=by
 have u:Tryz.prog.underlying 83=some (.struct #[⟨ "v",3,0,false,"","amortcost/bound",0⟩,⟨ "con",3,1,false,"","amortcost/bound",8⟩]):=by kernel_rfl
 have i:Tryz.prog.underlying 3=some (.int .i64):=by kernel_rfl
 have s:Tryz.prog.stoodInHeld 83=false:=by kernel_rfl
 have g:Tryz.prog.eqGuardType Tryz.prog.depth 83=false:=by kernel_rfl
 intro w op x y
 constructor
 .unfold eqGuard
  cases op <;> simp [program,Sem.run,g]
 .show (Op.equalIn (9999+1) 83 _ _).run _ w=_
  unfold Op.equalIn
  simp only [Sem.run_bind,run_underlying u,Result.andThen_ok]
  have hp:(program).run Tryz.prog w = .ok Tryz.prog w:=rfl
  simp only [hp,Result.andThen_ok,s]
  simp [Wg w i,Zu w i 9998]
  by_cases j:h=c <;> by_cases h1:f=b <;> simp [*]
def Oc (a:F5):List Value:=[.int .i64 a.v,.int .i64 a.con]
theorem Aa3 (a b:F5):Lc Tryz.prog 83 (Oc a) (Oc b) (Gy a b):=Aoh a.v a.con b.v b.con
theorem Aa4 (a:F5):Pc Tryz.prog 83 (Oc a):=by
 have u:Tryz.prog.underlying 83=some (.struct #[⟨ "v",3,0,false,"","amortcost/bound",0⟩,⟨ "con",3,1,false,"","amortcost/bound",8⟩]):=by kernel_rfl
 have b:Tryz.prog.underlying 3=some (.int .i64):=by kernel_rfl
 refine ⟨⟨_,u⟩,fun w e=>?_⟩
 show (Instr.checkKey e (9999+1) 83 _).run _ w=_
 unfold Instr.checkKey
 simp only [Sem.run_bind,run_underlying u,Result.andThen_ok]
 simp [Oc,Wg w b,An2 b]
theorem Aa5 {a0:(List Int)} {a1:(List Int)} {r:Int} (h:Mp a0 a1=some r):Bb Tryz.prog 113 [(A2 1 (Af .u32)) a0,(A2 1 (Af .u32)) a1] ((Af .i64) r):=by
 unfold Mp at h
 refine Bv Tryz.func113 rfl (by kernel_rfl) (by kernel_rfl) rfl ?_
 refine Z<|Ac<|O<|Aa<|Z<|Z<|Ac<|O<|O<|Ax (f:=(Af .u32)) (l:=a0) rfl<|O<|O<|Ax (f:=(Af .u32)) (l:=a1) rfl<|O<|Aa<|Am h (fun b h=>?_) fun b h=>?_
 refine Z<|Z<|Ac<|O<|O<|Ax (f:=(Af .u32)) (l:=a0) rfl<|O<|O<|Ax (f:=(Af .u32)) (l:=a1) rfl<|O<|Aa<|Am h (fun b h=>?_) fun b h=>?_
 exact Z<|Ac<|O<|Aa<|Ak<|Bu h
 exact An<|Z<|Ac<|O<|Aa<|Ak<|Bu h
 refine An<|Z<|Z<|Ac<|O<|O<|Ax (f:=(Af .u32)) (l:=a0) rfl<|O<|Aw.mk _ rfl<|O<|Aa<|Ay<|Bn h (fun v5=>[(4,(Af .i64 0)),(5,(Af .i64 v5))]) (fun v5=>[]) (fun _=>True) (fun _=>rfl) ⟨rfl,rfl,Ae⟩ Ae Ae ?_
 rintro v5 x D i g c hn1 _
 refine Z<|Z<|Ac<|O<|O<|Aa<|Am g (fun b h=>?_) fun b h=>?_
 refine An<|Z<|Ay<|Ay<|Z<|B0<|O<|O<|O<|A7 (f:=(Af .u32)) rfl h fun B u i6 s h=>O<|O<|O<|O<|A7 (f:=(Af .u32)) rfl h fun A v7 i7 q h=>O<|O<|O<|Aa<|Bj.mk (by kernel_rfl)<|Am h (fun b h=>?_) fun b h=>?_
 refine Z<|Ac<|O<|Aa<|Ak ?_
 have h:=c _ (Ai h)
 exact Bu h
 refine Z<|B0<|O<|O<|O<|A7 (f:=(Af .u32)) rfl h fun z v8 i8 k h=>O<|O<|O<|O<|A7 (f:=(Af .u32)) rfl h fun y v9 i9 j h=>O<|O<|O<|Aa<|Bj.mk (by kernel_rfl)<|Am h (fun b h=>?_) fun b h=>?_
 refine Z<|Ac<|O<|Aa<|Ak ?_
 have h:=c _ (Ai h)
 exact Bu h
 exact An<|Ac<|O<|O<|Aw.mk _ rfl<|O<|Aa<|hn1 _ _ _ _ (Ai h) ⟨rfl,rfl,Ae⟩ Ae Ae
 refine Bh<|Bg rfl ?_
 have h:=c _ (Ai h)
 exact Z<|Ac<|O<|Aa<|Ak<|Bu h
theorem Qy {a0:(List Int)} {r:(List Int)} (h:H7 a0=some r):Bb Tryz.prog 161 [(A2 1 (Af .u32)) a0] ((A2 1 (Af .u32)) r):=by
 unfold H7 at h
 refine C2 (C:={T:=B4,an:=(fun _=>.ask),nl:=(fun s=>bif Nat.beq s 2 then [(0,1)] else [])}) B8 B5 Tryz.func161 rfl (by kernel_rfl) (by kernel_rfl) rfl ?_
 refine Z<|Ac<|O<|Aa<|Z<|Ac<|O<|O<|Ax (f:=(Af .u32)) (l:=a0) rfl<|O<|Aa<|Z<|Ay<|Bn h (fun v2=>[(3,(Af .i64 v2))]) (fun v2=>[]) (fun _=>True) (fun _=>rfl) ⟨rfl,Ae⟩ Ae Ae ?_
 rintro v2 k u i g c hn1 _
 refine Z<|Z<|Ac<|O<|O<|O<|A6 (s:=8) g (fun b h=>?_) fun b h=>?_
 refine Ag<|Ag<|Ag<|Aw.mk _ rfl<|Ag<|A7 (f:=(Af .u32)) rfl h fun q v3 i3 j h=>Ag<|Ag<|O<|Aa<|Am h (fun b h=>?_) fun b h=>?_
 exact An<|Ay<|Ac<|O<|O<|Aw.mk _ rfl<|O<|Aa<|hn1 _ _ _ _ (Ai h) ⟨rfl,Ae⟩ Ae Ae
 refine Bh<|Bg rfl ?_
 have h:=c _ (Ai h)
 exact Z<|Ac<|O<|O<|O<|Mk (f:=(Af .u32)) rfl h fun v5 h=>O<|Aa<|Ak<|congrArg (fun x:(List Int)=>((A2 1<|Af .u32) x:AV))<|Ai h
 refine Ad<|Ad<|Ad<|Ad<|Ad<|Ad<|O<|Aa<|Fg<|Bh<|Bg rfl ?_
 have h:=c _ (Ai h)
 exact Z<|Ac<|O<|O<|O<|Mk (f:=(Af .u32)) rfl h fun v5 h=>O<|Aa<|Ak<|congrArg (fun x:(List Int)=>((A2 1<|Af .u32) x:AV))<|Ai h
theorem Afp {a0:(List Int)} {a1:Int} {r:((List Int)×Int)} (h:N7 a0 a1=some r):Bb Tryz.prog 290 [(A2 1 (Af .u32)) a0,(Af .u64) a1] (.tup [(A2 1 (Af .u32)) r.1,(Af .u64) r.2]):=by
 unfold N7 at h
 refine C2 (C:={T:=B4,an:=(fun _=>.ask),nl:=(fun s=>bif Nat.beq s 4 then [(0,1)] else [])}) B8 B5 Tryz.func290 rfl (by kernel_rfl) (by kernel_rfl) rfl ?_
 refine Z<|Ac<|O<|O<|Aa<|Z<|Ac<|O<|O<|Ax (f:=(Af .u32)) (l:=a0) rfl<|O<|Gx (f:=(Af .u32)) (z:=(0:Int)) rfl h fun D h=>O<|Aa<|Z<|Ac<|O<|Aa<|Z<|Z<|Ac<|O<|O<|Ax (f:=(Af .u32)) (l:=a0) rfl ?_
 refine O<|Aw.mk _ rfl<|O<|Aa<|Ay<|Bn h (fun (v7,v8,c)=>[(7,(Af .u64 v7)),(8,(Af .i64 v8))]) (fun (v7,v8,c)=>[(0,.rows 129 1 (List.map (Af .u32) c))]) (fun (v7,v8,c)=>D.length=c.length) (fun _=>rfl) ⟨rfl,rfl,Ae⟩ ⟨Ah,Ae⟩ rfl ?_
 rintro ⟨v7,v8,c⟩ I J B u q hn1 g
 refine Z<|Z<|Ac<|O<|O<|Aa<|Am u (fun b h=>?_) fun b h=>?_
 refine An<|Z<|Ay<|Z<|Ac<|O<|O<|Aw.mk _ rfl<|O<|O<|O<|A7 (f:=(Af .u32)) rfl h fun G v10 i10 A h=>O<|O<|Aw.mk _ rfl<|O<|Aw.mk _ rfl<|O<|Aa<|Z<|Ac<|O<|O<|O ?_
 exact O<|O<|G4 h fun i h=>O<|Aw.mk _ rfl<|O<|Fo (f:=(Af .u32)) rfl g g h fun E v12 i12 k h=>O<|Ei (f:=(Af .u32)) rfl g (Nat.zero_add _) k<|Fj (f:=(Af .u32)) (x:=(Bt i)) (j:=v8) rfl rfl (Nat.zero_add _) i12<|Aa<|Ac<|O<|O<|O<|Hj h fun v13 h=>O<|Aa<|Ac<|O<|O<|Aw.mk _ rfl<|O<|Aa<|hn1 _ _ _ _ (Ai h) ⟨rfl,rfl,Ae⟩ ⟨Ah,Ae⟩<|Fp (l:=c) g v8<|Bt i
 refine Bh<|Bg rfl ?_
 have h:=q _ (Ai h)
 exact Z<|Fd [.fz 6]<|Bz (f:=(Af .u32)) (l:=c) rfl g<|Bz (f:=(Af .u32)) (l:=c) rfl g<|Dx.mk<|Ac<|O<|O<|Aq h fun v16 y h=>As.mk _ (Qy (a0:=c) y) rfl<|O<|O<|O<|Aa<|Ak<|congrArg (fun x:((List Int)×Int)=>(.tup [(A2 1<|Af .u32) x.1,(Af .u64) x.2]:AV))<|Ai h
theorem Xs {a0:Int} {r:(List Int)} (h:Lw a0=some r):Bb Tryz.prog 157 [(Af .u64) a0] ((A2 1 (Af .u32)) r):=by
 unfold Lw at h
 refine C2 (C:={T:=B4,an:=(fun s=>bif Nat.beq s 3 then .own else .ask),nl:=(fun s=>bif Nat.beq s 3 then [(0,1)] else bif Nat.beq s 2 then [(0,1)] else [])}) B8 B5 Tryz.func157 rfl (by kernel_rfl) (by kernel_rfl) rfl ?_
 refine Z<|Ac<|O<|Aa<|Z<|Ac<|O<|Aa<|Z<|Ay<|Bn h (fun (v10,c)=>[(0,(Af .u64 v10)),(3,(.arr 0 c.length 0 c.length))]) (fun (v10,c)=>[(0,.rows 129 1 (List.map (Af .u32) c))]) (fun _=>True) (fun _=>rfl) ⟨rfl,rfl,Ae⟩ ⟨Ah,Ae⟩ Ae ?_
 rintro ⟨v10,c⟩ u y k i g hn1 _
 refine Z<|Z<|Ac<|O<|O<|Aa<|Am i (fun b h=>?_) fun b h=>?_
 exact An<|Z<|Ay<|Ac<|O<|O<|O<|Hj h fun v12 h=>O<|Aw.mk _ rfl<|O<|O<|D9 (f:=(Af .u32)) (l:=c) (ys:=[(Bt v12)]) rfl rfl rfl rfl h fun q h=>O<|Aa<|Ac<|O<|O<|G4 h fun j h=>O<|Aa<|hn1 _ _ _ _ (Ai h) ⟨rfl,rfl,Ae⟩ ⟨Ah,Ae⟩ Ae
 refine Bh<|Bg rfl ?_
 have h:=g _ (Ai h)
 exact Z<|Ac<|O<|O<|Aa<|Ak<|Bz (f:=(Af .u32)) (l:=c) rfl rfl<|Bz (f:=(Af .u32)) (l:=c) rfl rfl<|congrArg (fun x:(List Int)=>((A2 1<|Af .u32) x:AV))<|Ai h
theorem Aoi {a0:(List Int)} {a1:Int} {r:(List Int)} (h:Qk a0 a1=some r):Cm Tryz.prog 291 [(A2 1 (Af .u32)) a0,(Af .u64) a1] [] (.arr 0 r.length 0 r.length) [.rows 129 1 (List.map (Af .u32) r)]:=by
 unfold Qk at h
 refine D0 (C:={T:=B4,an:=(fun _=>.ask),nl:=(fun s=>bif Nat.beq s 4 then [(0,1)] else [])}) false B8 B5 Tryz.func291 rfl (by kernel_rfl) (by kernel_rfl) rfl ?_
 refine Z<|Ac<|O<|Aa<|Z<|Ac<|O<|O<|Ax (f:=(Af .u32)) (l:=a0) rfl<|O<|Aw.mk _ rfl<|O<|Gx (f:=(Af .u32)) (z:=(0:Int)) rfl h fun E h=>O<|Aa<|Z<|Ac<|O<|Aa<|Z<|Z<|Ac<|O<|O ?_
 refine Ax (f:=(Af .u32)) (l:=a0) rfl<|O<|Aa<|Ay<|Bn h (fun (v7,v8,g)=>[(6,(Af .u64 v7)),(15,(Af .i64 v8))]) (fun (v7,v8,g)=>[(0,.rows 129 1 (List.map (Af .u32) g))]) (fun (v7,v8,g)=>E.length=g.length) (fun _=>rfl) ⟨rfl,rfl,Ae⟩ ⟨Ah,Ae⟩ rfl ?_
 rintro ⟨v7,v8,g⟩ L M D y u hn1 c
 refine Z<|Ac<|O<|Aa<|Z<|Am y (fun b h=>?_) fun b h=>?_
 refine An<|Z<|Ay<|Z<|Ac<|O<|O<|Aa<|Z<|Ac<|O<|O<|O<|A7 (f:=(Af .u32)) rfl h fun J v10 i10 B h=>O<|O<|Aw.mk _ rfl<|O<|O<|Aw.mk _ rfl<|O<|O<|Aw.mk _ rfl<|O ?_
 refine Aa<|Z<|Ac<|O<|O<|O<|O<|Hj h fun i h=>O<|Aw.mk _ rfl<|O<|Fo (f:=(Af .u32)) rfl c c h fun I v12 i12 q h=>O<|Ei (f:=(Af .u32)) rfl c (Nat.zero_add _) q<|Fj (f:=(Af .u32)) (x:=(Bt i)) (j:=v8) rfl rfl (Nat.zero_add _) i12<|Aa<|Ac<|O<|O<|G4 h fun v13 h=>O<|Aa<|Ac<|O ?_
 exact Aw.mk _ rfl<|O<|Aa<|hn1 _ _ _ _ (Ai h) ⟨rfl,rfl,Ae⟩ ⟨Ah,Ae⟩<|Fp (l:=g) c v8<|Bt i
 refine Bh<|Bg rfl ?_
 have h:=u _ (Ai h)
 refine Z<|Ac<|O<|O<|O<|Ax (f:=(Af .u32)) (l:=a0) rfl<|O<|O<|Aw.mk _ rfl<|O<|Fo (f:=(Af .u32)) rfl c c h fun G v16 i16 k h=>O<|Ei (f:=(Af .u32)) rfl c (Nat.zero_add _) k<|Fj (f:=(Af .u32)) (x:=(Bt v7)) (j:=(a0.length:Int)) rfl rfl (Nat.zero_add _) i16<|Aa<|Z<|Ac<|O<|O<|Aa<|Ak ?_
 cases h
 exact ⟨congrArg (fun A=>AV.arr 0 A 0 A)<|Fp (l:=g) c (a0.length:Int)<|Bt v7,rfl,Ae⟩
theorem Aoj {a0:(List Int)} {a1:Int} {r:(List Int)} (h:Xo a0 a1=some r):Bb Tryz.prog 291 [(A2 1 (Af .u32)) a0,(Af .u64) a1] ((A2 1 (Af .u32)) r):=by
 unfold Xo at h
 refine C2 (C:={T:=B4,an:=(fun _=>.ask),nl:=(fun s=>bif Nat.beq s 4 then [(0,1)] else [])}) B8 B5 Tryz.func291 rfl (by kernel_rfl) (by kernel_rfl) rfl ?_
 refine Z<|Ac<|O<|Aa<|Z<|Ac<|O<|O<|Ax (f:=(Af .u32)) (l:=a0) rfl<|O<|Aw.mk _ rfl<|O<|Gx (f:=(Af .u32)) (z:=(0:Int)) rfl h fun D h=>O<|Aa<|Z<|Ac<|O<|Aa<|Z<|Z<|Ac<|O<|O ?_
 refine Ax (f:=(Af .u32)) (l:=a0) rfl<|O<|Aa<|Ay<|Bn h (fun (v7,v8,c)=>[(6,(Af .u64 v7)),(15,(Af .i64 v8))]) (fun (v7,v8,c)=>[(0,.rows 129 1 (List.map (Af .u32) c))]) (fun (v7,v8,c)=>D.length=c.length) (fun _=>rfl) ⟨rfl,rfl,Ae⟩ ⟨Ah,Ae⟩ rfl ?_
 rintro ⟨v7,v8,c⟩ J L B y u hn1 g
 refine Z<|Ac<|O<|Aa<|Z<|Am y (fun b h=>?_) fun b h=>?_
 refine An<|Z<|Ay<|Z<|Ac<|O<|O<|Aa<|Z<|Ac<|O<|O<|O<|A7 (f:=(Af .u32)) rfl h fun I v10 i10 A h=>O<|O<|Aw.mk _ rfl<|O<|O<|Aw.mk _ rfl<|O<|O<|Aw.mk _ rfl<|O ?_
 refine Aa<|Z<|Ac<|O<|O<|O<|O<|Hj h fun i h=>O<|Aw.mk _ rfl<|O<|Fo (f:=(Af .u32)) rfl g g h fun G v12 i12 q h=>O<|Ei (f:=(Af .u32)) rfl g (Nat.zero_add _) q<|Fj (f:=(Af .u32)) (x:=(Bt i)) (j:=v8) rfl rfl (Nat.zero_add _) i12<|Aa<|Ac<|O<|O<|G4 h fun v13 h=>O<|Aa<|Ac<|O ?_
 exact Aw.mk _ rfl<|O<|Aa<|hn1 _ _ _ _ (Ai h) ⟨rfl,rfl,Ae⟩ ⟨Ah,Ae⟩<|Fp (l:=c) g v8<|Bt i
 refine Bh<|Bg rfl ?_
 have h:=u _ (Ai h)
 exact Z<|Ac<|O<|O<|O<|Ax (f:=(Af .u32)) (l:=a0) rfl<|O<|O<|Aw.mk _ rfl<|O<|Fo (f:=(Af .u32)) rfl g g h fun E v16 i16 k h=>O<|Ei (f:=(Af .u32)) rfl g (Nat.zero_add _) k<|Fj (f:=(Af .u32)) (x:=(Bt v7)) (j:=(a0.length:Int)) rfl rfl (Nat.zero_add _) i16<|Aa<|Z<|Ac<|O<|O<|Aa<|Ak<|Bz (f:=(Af .u32)) (l:=(Dy c (a0.length:Int)<|Bt v7)) rfl (Fp (l:=c) g (a0.length:Int)<|Bt v7)<|Bz (f:=(Af .u32)) (l:=(Dy c (a0.length:Int)<|Bt v7)) rfl (Fp (l:=c) g (a0.length:Int)<|Bt v7)<|congrArg (fun x:(List Int)=>((A2 1<|Af .u32) x:AV))<|Ai h
theorem Aok {a0:Nat} {a1:Nat} {a2:(List Int)} {b0:(List Int)} {r:(Int×(List Int))} (h:S2 a0 a1 a2 b0=some r):Cm Tryz.prog 292 [(.arr 0 b0.length a0 a1),(A2 1 (Af .u32)) a2] [.rows 129 1 (List.map (Af .u32) b0)] ((Af .u32) r.1) [.rows 129 1 (List.map (Af .u32) r.2)]:=by
 unfold S2 at h
 refine D0 (C:={T:=B4,an:=(fun _=>.ask)}) true B8 B5 Tryz.func292 rfl (by kernel_rfl) (by kernel_rfl) rfl ?_
 refine Z<|Ac<|O<|Aa<|Z<|Ac<|O<|O<|Ax (f:=(Af .u32)) (l:=a2) rfl<|O<|Aa<|Z<|B0<|O<|O<|O<|Aw.mk _ rfl<|O<|A7 (f:=(Af .u32)) rfl h fun n1 v1 i1 x1 h=>O<|O<|Aw.mk _ rfl<|O<|O ?_
 refine O<|Aw.mk _ rfl<|O<|A7 (f:=(Af .u32)) rfl h fun n2 v2 i2 x2 h=>O<|O<|Aw.mk _ rfl<|O<|O<|Aa<|Bj.mk (by kernel_rfl)<|Z<|B0<|O<|O<|O<|Lj (f:=(Af .u32)) rfl rfl h fun n3 v3 i3 x3 h=>O<|Ei (f:=(Af .u32)) rfl rfl rfl x3<|O<|Aw.mk _ rfl<|O<|Aw.mk _ rfl<|O ?_
 refine O<|O<|Aw.mk _ rfl<|O<|Lj (f:=(Af .u32)) rfl rfl h fun n4 v4 i4 x4 h=>O<|Ei (f:=(Af .u32)) rfl rfl rfl x4<|O<|Aw.mk _ rfl<|O<|Aw.mk _ rfl<|O<|Aa<|Bj.mk (by kernel_rfl)<|Z<|B0<|O<|O<|O<|G4 h fun v5 h=>O<|O<|O<|Hj h fun v6 h=>?_
 refine O<|O<|Aa<|Bj.mk (by kernel_rfl)<|Z<|Ay<|Bn h (fun (v9,v10)=>[(9,(Af .u64 v9)),(10,(Af .u64 v10))]) (fun (v9,v10)=>[]) (fun _=>True) (fun _=>rfl) ⟨rfl,rfl,Ae⟩ ⟨Ah,Ae⟩ Ae ?_
 rintro ⟨v9,v10⟩ u1 K1 ar aa X hn1 _
 refine Z<|Z<|Cd aa fun R a8 ab=>Ce (fun (v12:Bool)=>v12=R) (fun v12=>[(71,(Av v12))]) (fun v12=>[]) (fun _=>rfl) ?_ ?_
 intro K2 hK2
 refine Ac<|O<|O<|O<|A6 (s:=53) a8 (fun b h=>?_) fun b h=>?_
 refine Ag<|Ag<|Ag<|A6 (s:=56) h (fun b h=>?_) fun b h=>?_
 exact Ad<|Ad<|Ad<|Ad<|Ad<|Ad<|Ad<|Ad<|Ad<|Ad<|Ad<|Ad<|Ad<|Ag<|O<|Aa<|hK2 true _ _ _ (Ai h) ⟨rfl,Ae⟩ ⟨Ah,Ae⟩
 exact Ag<|Ag<|Ag<|Aw.mk _ rfl<|Ag<|Ag<|Aw.mk _ rfl<|Ag<|Ag<|Ag<|Aw.mk _ rfl<|Ag<|Lj (f:=(Af .u32)) rfl rfl h fun b7 N i11 M h=>Ag<|Ei (f:=(Af .u32)) rfl rfl rfl M<|Ag<|Aw.mk _ rfl<|Ag<|Aw.mk _ rfl<|Ag<|Ag<|O<|Aa<|hK2 (decide ((Bd<|v9*(Bd v2))>(Bd ((Bd<|v10*1000000000)+(Bd N))))) _ _ _ (Ai h) ⟨rfl,Ae⟩ ⟨Ah,Ae⟩
 exact Ad<|Ad<|Ad<|A9 (5,false) 56 undef<|A9 (5,false) 56 undef<|A9 (5,false) 56 undef<|A9 (5,false) 56 undef<|A9 (5,false) 56 undef<|A9 (5,false) 56 undef<|A9 (5,false) 56 undef<|A9 (5,false) 56 undef<|A9 (5,false) 56 undef<|A9 (5,false) 56 undef<|A9 (5,false) 56 undef<|A9 (5,false) 56 undef<|A9 (5,false) 56 undef<|Ad<|O<|Aa<|hK2 false _ _ _ (Ai h) ⟨rfl,Ae⟩ ⟨Ah,Ae⟩
 rintro v12 u2 ac
 have h:=ab _ ac
 refine Am h (fun b h=>?_) fun b h=>?_
 exact An<|Ay<|Z<|Ac<|O<|O<|Aw.mk _ rfl<|O<|Aa<|Ac<|O<|O<|O<|Aw.mk _ rfl<|O<|Aa<|hn1 _ _ _ _ (Ai h) ⟨rfl,rfl,Ae⟩ ⟨Ah,Ae⟩ Ae
 refine Bh<|Bg rfl ?_
 have h:=X _ (Ai h)
 refine Z<|Ac<|O<|Aa<|Z<|Z<|Ac<|O<|O<|Aa<|Ay<|Bn h (fun (v24,v25,q)=>[(11,(Af .i64 v24)),(78,(Af .i64 v25))]) (fun (v24,v25,q)=>[(0,.rows 129 1 (List.map (Af .u32) q))]) (fun (v24,v25,q)=>b0.length=q.length) (fun _=>rfl) ⟨rfl,rfl,Ae⟩ ⟨Ah,Ae⟩ rfl ?_
 rintro ⟨v24,v25,q⟩ u3 K3 aq a7 V hn3 c
 refine Z<|Ac<|O<|Aa<|Z<|Am a7 (fun b h=>?_) fun b h=>?_
 refine An<|Z<|Ay<|Z<|Ac<|O<|O<|Aa<|Z<|B0<|O<|O<|O<|Lj (f:=(Af .u32)) rfl c h fun b6 am i27 L h=>O<|Ei (f:=(Af .u32)) rfl c rfl L<|O<|Aw.mk _ rfl<|O<|O<|Aw.mk _ rfl<|O<|O<|O ?_
 refine O<|A7 (f:=(Af .u32)) rfl h fun b5 v28 i28 af h=>O<|O<|Aw.mk _ rfl<|O<|Aw.mk _ rfl<|O<|Hj h fun ak h=>O<|Aw.mk _ rfl<|O<|Aw.mk _ rfl<|O<|Aa<|Bj.mk (by kernel_rfl)<|Z<|Ac<|O<|O<|O<|O<|A7 (f:=(Af .u32)) rfl h fun b4 aj i30 ae h=>O ?_
 refine O<|Aw.mk _ rfl<|O<|Aw.mk _ rfl<|O<|G4 h fun v31 h=>O<|Aw.mk _ rfl<|O<|Aa<|Z<|Ay<|Bn h (fun (y,u)=>[(11,(Af .i64 y)),(13,(Af .i64 u))]) (fun (y,u)=>[]) (fun _=>True) (fun _=>rfl) ⟨rfl,rfl,Ae⟩ ⟨Ah,Ae⟩ Ae ?_
 rintro ⟨y,u⟩ u4 K4 ap a6 U hn4 _
 refine Z<|Z<|Ac<|O<|O<|Aa<|Am a6 (fun b h=>?_) fun b h=>?_
 exact An<|Ay<|Z<|Ac<|O<|O<|Aw.mk _ rfl<|O<|Aa<|Ac<|O<|O<|Aw.mk _ rfl<|O<|Aa<|hn4 _ _ _ _ (Ai h) ⟨rfl,rfl,Ae⟩ ⟨Ah,Ae⟩ Ae
 refine Bh<|Bg rfl ?_
 have h:=U _ (Ai h)
 exact Ac<|O<|O<|O<|O<|Aw.mk _ rfl<|O<|Lj (f:=(Af .u32)) rfl c h fun b3 ai i36 J h=>O<|Ei (f:=(Af .u32)) rfl c rfl J<|Fj (f:=(Af .u32)) (x:=(Bt u)) (j:=(((a0:Nat):Int)+v25)) rfl rfl rfl (Wz _ i36)<|Aa<|Ac<|O<|Aw.mk _ rfl<|O<|Aa<|hn3 _ _ _ _ (Ai h) ⟨rfl,rfl,Ae⟩ ⟨Ah,Ae⟩<|Fp (l:=q) c (((a0:Nat):Int)+v25)<|Bt u
 refine Bh<|Bg rfl ?_
 have h:=V _ (Ai h)
 refine Z<|Ac<|O<|O<|O<|Lj (f:=(Af .u32)) rfl c h fun az A i39 I h=>O<|Ei (f:=(Af .u32)) rfl c rfl I<|O<|Aw.mk _ rfl<|O<|O<|Aw.mk _ rfl<|O<|Aa<|Z<|Z<|Ac<|O<|O<|Aa<|Am h (fun b h=>?_) fun b h=>?_
 refine Z<|Ac<|O<|O<|O<|O<|Aw.mk _ rfl<|O<|Lj (f:=(Af .u32)) rfl c h fun ay v40 i40 G h=>O<|Ei (f:=(Af .u32)) rfl c rfl G<|Fj (f:=(Af .u32)) (x:=(Bt<|Al ((Al A)-v24))) (j:=(((a0:Nat):Int)+(a2.length:Int))) rfl rfl rfl (Wz _ i40)<|Aa<|Z<|Ac<|O<|O<|Aw.mk _ rfl<|O<|Aa<|Ak ?_
 cases h
 exact ⟨rfl,rfl,Ae⟩
 refine An<|Z<|Ac<|O<|Aa<|Z<|Z<|Ac<|O<|O<|Aa<|Ay<|Bn h (fun (v46,i,k)=>[(15,(Af .u32 v46)),(136,(Af .i64 i))]) (fun (v46,i,k)=>[(0,.rows 129 1 (List.map (Af .u32) k))]) (fun (v46,i,k)=>b0.length=k.length) (fun _=>rfl) ⟨rfl,rfl,Ae⟩ ⟨Ah,Ae⟩ c ?_
 rintro ⟨v46,i,k⟩ u5 K5 ao Y S hn5 g
 refine Z<|Ac<|O<|Aa<|Z<|Am Y (fun b h=>?_) fun b h=>?_
 refine An<|Z<|Ay<|Z<|Ac<|O<|O<|Aa<|Z<|B0<|O<|O<|O<|Lj (f:=(Af .u32)) rfl g h fun ax v49 i49 E h=>O<|Ei (f:=(Af .u32)) rfl g rfl E<|O<|O<|O<|A7 (f:=(Af .u32)) rfl h fun aw ah i50 ad h=>O<|O<|Aw.mk _ rfl<|O ?_
 refine O<|Aw.mk _ rfl<|O<|Aa<|Bj.mk (by kernel_rfl)<|Z<|Ac<|O<|O<|G4 h fun v51 h=>O<|Aa<|Ac<|O<|O<|O<|O<|Hj h fun z h=>O<|Lj (f:=(Af .u32)) rfl g h fun av v53 i53 D h=>O<|Ei (f:=(Af .u32)) rfl g rfl D<|Fj (f:=(Af .u32)) (x:=z) (j:=(((a0:Nat):Int)+i)) rfl rfl rfl (Wz _ i53)<|Aa ?_
 exact Ac<|O<|Aw.mk _ rfl<|O<|Aa<|hn5 _ _ _ _ (Ai h) ⟨rfl,rfl,Ae⟩ ⟨Ah,Ae⟩<|Fp (l:=k) g (((a0:Nat):Int)+i) z
 refine Bh<|Bg rfl ?_
 have h:=S _ (Ai h)
 refine Z<|Ac<|O<|O<|O<|O<|O<|Aw.mk _ rfl<|O<|Aw.mk _ rfl<|O<|Aw.mk _ rfl<|O<|Lj (f:=(Af .u32)) rfl g h fun au ag i56 B h=>O<|Ei (f:=(Af .u32)) rfl g rfl B<|Fj (f:=(Af .u32)) (x:=(Bt<|Al ((Al ((Al A)-v24))+(Al v46)))) (j:=(((a0:Nat):Int)+(a2.length:Int))) rfl rfl rfl (Wz _ i56)<|Aa<|Z<|Ac<|O<|O<|Aw.mk _ rfl<|O ?_
 refine Aw.mk _ rfl<|O<|Aa<|Ak ?_
 cases h
 exact ⟨rfl,rfl,Ae⟩
theorem Aa6 {a0:(List Int)} {a1:(List Int)} {r:((List Int)×(List Int))} (h:N5 a0 a1=some r):Bb Tryz.prog 232 [(A2 1 (Af .u32)) a0,(A2 1 (Af .u32)) a1] (.tup [(A2 1 (Af .u32)) r.1,(A2 1 (Af .u32)) r.2]):=by
 unfold N5 at h
 refine C2 (C:={T:=B4,an:=(fun _=>.ask),nl:=(fun s=>bif Nat.beq s 5 then [(0,1)] else bif Nat.beq s 4 then [(0,1)] else [])}) B8 B5 Tryz.func232 rfl (by kernel_rfl) (by kernel_rfl) rfl ?_
 refine Z<|Ac<|O<|O<|Aa<|Z<|Z<|Ac<|O<|O<|O<|Aq h fun v1 c1 h=>As.mk _ (Aa5 (a0:=a0) (a1:=a1) c1) rfl<|O<|Aa<|Am h (fun b h=>?_) fun b h=>?_
 exact Z<|Ac<|O<|O<|W2 (f:=(Af .u32)) (ys:=a0) rfl h fun N h=>O<|O<|Aa<|Ak<|Bz (f:=(Af .u32)) (l:=N) rfl rfl<|Bz (f:=(Af .u32)) (l:=N) rfl rfl<|congrArg (fun x:((List Int)×(List Int))=>(.tup [(A2 1<|Af .u32) x.1,(A2 1<|Af .u32) x.2]:AV))<|Ai h
 refine An<|Z<|Z<|Ac<|O<|O<|Ax (f:=(Af .u32)) (l:=a1) rfl<|O<|Aa<|Am h (fun b h=>?_) fun b h=>?_
 refine Z<|Ac<|O<|O<|O<|A7 (f:=(Af .u32)) rfl h fun n4 v4 i4 x4 h=>O<|O<|Aw.mk _ rfl<|O<|Aq h fun v5 c5 h=>As.mk _ (Afp (a0:=a0) (a1:=(Bd v4)) c5) rfl<|O<|O<|O<|O<|O<|Aa<|Z<|Ac<|O<|O<|O<|Aq h fun v6 c6 h=>?_
 exact As.mk _ (Xs (a0:=v5.2) c6) rfl<|O<|O<|Aa<|Ak<|congrArg (fun x:((List Int)×(List Int))=>(.tup [(A2 1<|Af .u32) x.1,(A2 1<|Af .u32) x.2]:AV))<|Ai h
 refine An<|Z<|Ac<|O<|O<|Ax (f:=(Af .u32)) (l:=a1) rfl<|O<|Aa<|Z<|Ac<|O<|O<|O<|Aw.mk _ rfl<|O<|A7 (f:=(Af .u32)) rfl h fun n7 v7 i7 x7 h=>O<|O<|Aw.mk _ rfl<|O<|Aw.mk _ rfl<|O<|G4 h fun v8 h=>O ?_
 refine Aa<|Z<|Ac<|O<|O<|O<|Aq h fun v9 Y h=>As.act [] _ _ _ _ (Aoi (a0:=a0) (a1:=v8) Y) rfl rfl Ae<|O<|Aa<|Z<|Ac<|O<|O<|O<|Aq h fun U M h=>As.mk _ (Aoj (a0:=a1) (a1:=v8) M) rfl<|O<|O<|Mk (f:=(Af .u32)) rfl h fun v12 h=>O<|Aa<|Z<|Ac ?_
 refine O<|O<|Ax (f:=(Af .u32)) (l:=a0) rfl<|O<|O<|Aw.mk _ rfl<|O<|Aw.mk _ rfl<|O<|Gx (f:=(Af .u32)) (z:=(0:Int)) rfl h fun B h=>O<|Aa<|Z<|Z<|Ac<|O<|O<|Ax (f:=(Af .u32)) (l:=a0) rfl<|O<|O<|Aw.mk _ rfl<|O<|Aa<|Ay ?_
 refine Bn h (fun (i,g,c)=>[(13,(Af .i64 i))]) (fun (i,g,c)=>[(0,.rows 129 1 (List.map (Af .u32) g)),(1,.rows 129 1 (List.map (Af .u32) c))]) (fun (i,g,c)=>v9.length=g.length/\B.length=c.length) (fun _=>rfl) ⟨rfl,Ae⟩ ⟨Ah,Ah,Ae⟩ (Ah) ?_
 rintro ⟨i,g,c⟩ u1 K1 V E D hn1 ⟨u,k⟩
 refine Z<|Z<|Ac<|O<|O<|Aa<|Am E (fun b h=>?_) fun b h=>?_
 refine An<|Z<|Ay<|Ac<|O<|O<|O<|O<|O<|O<|O<|Aw.mk _ rfl<|O<|Aw.mk _ rfl<|O<|Anw (f:=(Af .u32)) rfl u h fun v22 h=>O<|O<|Aq h fun v23 L h=>?_
 have q:=(Aok (a0:=(0+v22.1)) (a1:=(v22.2-v22.1)) (a2:=v12) (b0:=g) L)
 rw [<-u] at q
 exact As.act [0] _ _ _ _ q rfl rfl ⟨rfl,Ae⟩<|Aq h fun v24 y h=>O<|Fo (f:=(Af .u32)) rfl k k h fun X v25 i25 A h=>O<|Ei (f:=(Af .u32)) rfl k (Nat.zero_add _) A<|Fj (f:=(Af .u32)) (x:=v23.1) (j:=i) rfl rfl (Nat.zero_add _) i25<|Aa<|Ac<|O<|O<|Aw.mk _ rfl<|O<|Aa<|hn1 _ _ _ _ (Ai h) ⟨rfl,Ae⟩ ⟨Ah,Ah,Ae⟩ (⟨Anv y,Fp (l:=c) k i v23.1⟩)
 refine Bh<|Bg rfl ?_
 have h:=D _ (Ai h)
 refine Z<|Fd [.fz 10]<|Bz (f:=(Af .u32)) (l:=g) rfl u<|Bz (f:=(Af .u32)) (l:=g) rfl u<|Dx.mk<|Ac<|O<|O<|Aq h fun v28 J h=>As.mk _ (Qy (a0:=g) J) rfl<|O<|O<|Aq h fun S I h=>As.mk _ (Afp (a0:=v28) (a1:=v8) I) rfl<|O<|O<|O<|O<|O<|Aa<|Z<|Fd [.fz 12]<|Bz (f:=(Af .u32)) (l:=c) rfl k<|Bz (f:=(Af .u32)) (l:=c) rfl k<|Dx.mk<|Ac ?_
 exact O<|O<|Aq h fun R G h=>As.mk _ (Qy (a0:=c) G) rfl<|O<|O<|O<|Aa<|Ak<|congrArg (fun x:((List Int)×(List Int))=>(.tup [(A2 1<|Af .u32) x.1,(A2 1<|Af .u32) x.2]:AV))<|Ai h
theorem Afq {a0:(List Int)} {r:(Int×Bool)} (h:Qj a0=some r):Bb Tryz.prog 289 [(A2 1 (Af .u32)) a0] (.tup [(Af .u64) r.1,Av r.2]):=by
 unfold Qj at h
 refine Bv Tryz.func289 rfl (by kernel_rfl) (by kernel_rfl) rfl ?_
 refine Z<|Ac<|O<|O<|Aa<|Z<|Ac<|O<|Aa<|Z<|Z<|Ac<|O<|O<|Ax (f:=(Af .u32)) (l:=a0) rfl<|O<|Aa<|Ay<|Bn h (fun (v3,v4)=>[(2,(Af .u64 0)),(3,(Av false)),(4,(Af .u64 v3)),(9,(Af .i64 v4))]) (fun (v3,v4)=>[]) (fun _=>True) (fun _=>rfl) ⟨rfl,rfl,rfl,rfl,Ae⟩ Ae Ae ?_
 rintro ⟨v3,v4⟩ q u i g c hn1 _
 refine Z<|Ac<|O<|Aa<|Z<|Am g (fun b h=>?_) fun b h=>?_
 refine An<|Z<|Ay<|Z<|Ac<|O<|O<|Aa<|Z<|Ac<|O<|O<|O<|Ax (f:=(Af .u32)) (l:=a0) rfl<|O<|Aw.mk _ rfl<|O<|O<|Aw.mk _ rfl<|O<|A7 (f:=(Af .u32)) rfl h fun s v5 i5 j h=>O<|O<|Aw.mk _ rfl ?_
 refine O<|Aa<|Z<|Z<|Ac<|O<|O<|O<|Aw.mk _ rfl<|O<|G4 h fun k h=>O<|Aa<|Am h (fun b h=>?_) fun b h=>?_
 refine Z<|Ac<|O<|O<|Aa<|Ak ?_
 have h:=c _ (Ai h)
 exact congrArg (fun x:(Int×Bool)=>(.tup [(Af .u64) x.1,Av x.2]:AV))<|Ai h
 exact An<|Ac<|O<|O<|Aw.mk _ rfl<|O<|O<|Aw.mk _ rfl<|O<|Aa<|Ac<|O<|Aw.mk _ rfl<|O<|Aa<|hn1 _ _ _ _ (Ai h) ⟨rfl,rfl,rfl,rfl,Ae⟩ Ae Ae
 refine Bh<|Bg rfl ?_
 have h:=c _ (Ai h)
 exact Z<|Ac<|O<|O<|O<|Aa<|Ak<|congrArg (fun x:(Int×Bool)=>(.tup [(Af .u64) x.1,Av x.2]:AV))<|Ai h
theorem Aol {a0:(List Int)} {a1:(List Int)} {r:(List Int)} (h:Sr a0 a1=some r):Bb Tryz.prog 231 [(A2 1 (Af .u32)) a0,(A2 1 (Af .u32)) a1] ((A2 1 (Af .u32)) r):=by
 unfold Sr at h
 refine C2 (C:={T:=B4,an:=(fun _=>.ask),nl:=(fun s=>bif Nat.beq s 4 then [(0,1)] else [])}) B8 B5 Tryz.func231 rfl (by kernel_rfl) (by kernel_rfl) rfl ?_
 refine Z<|Ac<|O<|Aa<|Z<|Ay<|Bn h (fun (v12,v13)=>[(0,(.sl 1<|List.map (Af .u32) v12)),(1,(.sl 1<|List.map (Af .u32) v13)),(4,(.sl 1<|List.map (Af .u32) []))]) (fun (v12,v13)=>[]) (fun _=>True) (fun _=>rfl) ⟨rfl,rfl,rfl,Ae⟩ Ae Ae ?_
 rintro ⟨v12,v13⟩ N U J y i hn1 _
 refine Z<|Z<|Ac<|O<|O<|Ax (f:=(Af .u32)) (l:=v13) rfl<|O<|Aa<|Am y (fun b h=>?_) fun b h=>?_
 refine An<|Ay<|Z<|Z<|Cd h fun j u z=>Ce (fun (c:Bool)=>c=j) (fun c=>[(21,(Av c))]) (fun c=>[]) (fun _=>rfl) ?_ ?_
 intro S hK2
 refine Ac<|O<|O<|Ax (f:=(Af .u32)) (l:=v12) rfl<|O<|O<|A6 (s:=17) u (fun b h=>?_) fun b h=>?_
 exact Ag<|Ag<|Ax (f:=(Af .u32)) (l:=v13) rfl<|Ag<|O<|Aa<|hK2 (decide ((v13.length:Int)<=(2:Int))) _ _ _ (Ai h) ⟨rfl,Ae⟩ Ae
 exact Ad<|Ad<|Ad<|O<|Aa<|hK2 false _ _ _ (Ai h) ⟨rfl,Ae⟩ Ae
 rintro c M A
 have h:=z _ A
 refine Am h (fun b h=>?_) fun b h=>?_
 refine Z<|Ac<|O<|O<|Aq h fun v15 G h=>As.mk _ (Afq (a0:=v12) G) rfl<|O<|O<|O<|O<|O<|Aa<|Z<|Ac<|O<|O<|Aq h fun v16 E h=>As.mk _ (Afq (a0:=v13) E) rfl<|O<|O<|O<|O<|O<|Aa ?_
 refine Z<|Ay<|Bn h (fun (v18,g)=>[(5,(Af .u64 v18)),(7,(Af .u64 g))]) (fun (v18,g)=>[]) (fun _=>True) (fun _=>rfl) ⟨rfl,rfl,Ae⟩ Ae Ae ?_
 rintro ⟨v18,g⟩ L R I q k hn3 _
 refine Z<|Z<|Ac<|O<|O<|Aa<|Am q (fun b h=>?_) fun b h=>?_
 exact An<|Ay<|B0<|O<|O<|O<|O<|Hj h fun v20 h=>O<|O<|Aa<|Bj.mk (by kernel_rfl)<|hn3 _ _ _ _ (Ai h) ⟨rfl,rfl,Ae⟩ Ae Ae
 refine Bh<|Bg rfl ?_
 have h:=k _ (Ai h)
 refine Z<|Ac<|O<|O<|Aq h fun v23 D h=>As.mk _ (Xs (a0:=v18) D) rfl<|O<|Aa<|Ak ?_
 have h:=i _ (Ai h)
 exact congrArg (fun x:(List Int)=>((A2 1<|Af .u32) x:AV))<|Ai h
 exact An<|Z<|Ac<|O<|O<|O<|Aq h fun v24 B h=>As.mk _ (Aa6 (a0:=v12) (a1:=v13) B) rfl<|O<|O<|O<|O<|O<|Aa<|Ac<|O<|O<|O<|O<|Aa<|hn1 _ _ _ _ (Ai h) ⟨rfl,rfl,rfl,Ae⟩ Ae Ae
 refine Bh<|Bg rfl ?_
 have h:=i _ (Ai h)
 exact Z<|Ac<|O<|O<|Aa<|Ak<|congrArg (fun x:(List Int)=>((A2 1<|Af .u32) x:AV))<|Ai h
theorem Afr {a0:(List Int)} {r:Bool} (h:N4 a0=some r):Bb Tryz.prog 230 [(A2 1 (Af .u32)) a0] (Av r):=by
 unfold N4 at h
 refine Bv Tryz.func230 rfl (by kernel_rfl) (by kernel_rfl) rfl ?_
 refine Z<|Ac<|O<|Aa<|Z<|Ac<|O<|O<|Ax (f:=(Af .u32)) (l:=a0) rfl<|O<|O<|A6 (s:=6) h (fun b h=>?_) fun b h=>?_
 exact Ag<|Ag<|A7 (f:=(Af .u32)) rfl h fun i g i1 c h=>Ag<|Ag<|O<|O<|Aa<|Ak<|A3 h
 exact Ad<|Ad<|Ad<|Ad<|O<|O<|Aa<|Ak<|A3 h
theorem Aom {a0:Ea} {r:Ea} (h:Ux a0=some r):Bb Tryz.prog 158 [He a0] (He r):=by
 unfold Ux at h
 refine C2 (C:={T:=B4,an:=(fun _=>.ask),nl:=(fun s=>bif Nat.beq s 13 then [(1,1)] else [])}) B8 B5 Tryz.func158 rfl (by kernel_rfl) (by kernel_rfl) rfl ?_
 refine Z<|Ac<|O<|O<|Aa<|Z<|Z<|Ac<|O<|O<|O<|Ax (f:=(Af .u32)) (l:=a0.n) rfl<|O<|Aa<|Am h (fun b h=>?_) fun b h=>?_
 exact Z<|Ac<|O<|O<|O<|Aa<|Ak<|congrArg (fun x:Ea=>(He x:AV))<|Ai h
 refine An<|Z<|Z<|Ac<|O<|O<|O<|Aq h fun v3 k h=>As.mk _ (Afr (a0:=a0.d) k) rfl<|Aa<|Am h (fun b h=>?_) fun b h=>?_
 exact Z<|Ac<|O<|O<|Aa<|Ak<|congrArg (fun x:Ea=>(He x:AV))<|Ai h
 refine An<|Z<|Ac<|O<|O<|O<|O<|O<|Aq h fun v4 j h=>As.mk _ (Aol (a0:=a0.n) (a1:=a0.d) j) rfl<|O<|Aa<|Z<|Z<|Ac<|O<|O<|Aq h fun v5 i h=>As.mk _ (Afr (a0:=v4) i) rfl<|Aa<|Am h (fun b h=>?_) fun b h=>?_
 exact Z<|Ac<|O<|O<|Aa<|Ak<|congrArg (fun x:Ea=>(He x:AV))<|Ai h
 refine An<|Z<|Ac<|O<|O<|O<|O<|Aq h fun q g h=>As.mk _ (Aa6 (a0:=a0.n) (a1:=v4) g) rfl<|O<|O<|O<|O<|O<|Aa<|Z<|Ac<|O<|O<|O<|O<|Aq h fun v7 c h=>As.mk _ (Aa6 (a0:=a0.d) (a1:=v4) c) rfl<|O ?_
 exact O<|O<|O<|O<|Aa<|Z<|Ac<|O<|O<|O<|O<|O<|O<|Aa<|Ak<|congrArg (fun x:Ea=>(He x:AV))<|Ai h
theorem Vc {a0:Ea} {r:A1} (h:Lo a0=some r):Bb Tryz.prog 94 [He a0] (Bx r):=by
 unfold Lo at h
 refine Bv Tryz.func94 rfl (by kernel_rfl) (by kernel_rfl) rfl ?_
 refine Z<|Ac<|O<|O<|Aa<|Z<|Ac<|O<|O<|Aq h fun v3 b h=>As.mk _ (Aom (a0:=a0) b) rfl<|O<|O<|Aa<|Z<|Ac<|O<|O<|O<|O<|O<|O<|O<|O ?_
 exact Aa<|Ak<|congrArg (fun x:A1=>(Bx x:AV))<|Ai h
end Go.Ab
namespace Go.Ab
open Go Go.Proofs
set_option maxRecDepth 10000
theorem Aa7 {a0:Int} {r:(List Int)} (h:Nq a0=some r):Bb Tryz.prog 93 [(Af .i64) a0] ((A2 1 (Af .u32)) r):=by
 unfold Nq at h
 refine C2 (C:={T:=B4,an:=(fun _=>.ask),nl:=(fun s=>bif Nat.beq s 2 then [(0,1)] else [])}) B8 B5 Tryz.func93 rfl (by kernel_rfl) (by kernel_rfl) rfl ?_
 refine Z<|Ac<|O<|Aa<|Z<|Z<|Ac<|O<|O<|Aa<|Am h (fun b h=>?_) fun b h=>?_
 exact Z<|Ac<|O<|O<|Aw.mk _ rfl<|O<|Aw.mk _ rfl<|O<|Aq h fun g f h=>As.mk _ (Xs (a0:=(Bd<|0-(Bd a0))) f) rfl<|O<|Aa<|Ak<|congrArg (fun x:(List Int)=>((A2 1<|Af .u32) x:AV))<|Ai h
 exact An<|Z<|Ac<|O<|O<|Aw.mk _ rfl<|O<|Aq h fun v2 c h=>As.mk _ (Xs (a0:=(Bd a0)) c) rfl<|O<|Aa<|Ak<|congrArg (fun x:(List Int)=>((A2 1<|Af .u32) x:AV))<|Ai h
theorem L1 {a0:Int} {r:A1} (h:G5 a0=some r):Bb Tryz.prog 42 [(Af .i64) a0] (Bx r):=by
 unfold G5 at h
 refine Bv Tryz.func42 rfl (by kernel_rfl) (by kernel_rfl) rfl ?_
 exact Z<|Ac<|O<|Aa<|Z<|Ac<|O<|O<|O<|O<|Aq h fun v2 c h=>As.mk _ (Aa7 (a0:=a0) c) rfl<|O<|O<|O<|Aq h fun v3 b h=>As.mk _ (Vc (a0:=(Ea.mk (decide<|a0<(0:Int)) v2 [1])) b) rfl<|O<|Aa<|Ak<|congrArg (fun x:A1=>(Bx x:AV))<|Ai h
theorem Afs {a0:(List Int)} {r:(List Int)} (h:P2 a0=some r):Bb Tryz.prog 160 [(A2 1 (Af .u32)) a0] ((A2 1 (Af .u32)) r):=by
 unfold P2 at h
 refine C2 (C:={T:=B4,an:=(fun _=>.ask),nl:=(fun s=>bif Nat.beq s 2 then [(0,1)] else [])}) B8 B5 Tryz.func160 rfl (by kernel_rfl) (by kernel_rfl) rfl ?_
 refine Z<|Ac<|O<|Aa<|Z<|Ac<|O<|O<|Ax (f:=(Af .u32)) (l:=a0) rfl<|O<|Aw.mk _ rfl<|O<|Gx (f:=(Af .u32)) (z:=(0:Int)) rfl h fun G h=>O<|Aa<|Z<|Ac<|O<|Aa<|Z<|Z<|Ac<|O<|O ?_
 refine Ax (f:=(Af .u32)) (l:=a0) rfl<|O<|Aa<|Ay<|Bn h (fun (g,v15,c)=>[(3,(.arr 0 c.length 0 c.length)),(4,(Af .u64 g)),(13,(Af .i64 v15))]) (fun (g,v15,c)=>[(0,.rows 129 1 (List.map (Af .u32) c))]) (fun _=>True) (fun _=>rfl) ⟨rfl,rfl,rfl,Ae⟩ ⟨Ah,Ae⟩ Ae ?_
 rintro ⟨g,v15,c⟩ E I A k j hn1 _
 refine Z<|Ac<|O<|Aa<|Z<|Am k (fun b h=>?_) fun b h=>?_
 refine An<|Z<|Ay<|Z<|Ac<|O<|O<|Aa<|Z<|Ac<|O<|O<|O<|A7 (f:=(Af .u32)) rfl h fun D v17 i17 y h=>O<|O<|Aw.mk _ rfl<|O<|O<|Aw.mk _ rfl<|O<|Aa<|Z<|Ac ?_
 exact O<|O<|O<|Hj h fun v18 h=>O<|Aw.mk _ rfl<|O<|O<|D9 (f:=(Af .u32)) (l:=c) (ys:=[(Bt v18)]) rfl rfl rfl rfl h fun B h=>O<|Aa<|Ac<|O<|O<|G4 h fun v20 h=>O<|Aa<|Ac<|O<|Aw.mk _ rfl<|O<|Aa<|hn1 _ _ _ _ (Ai h) ⟨rfl,rfl,rfl,Ae⟩ ⟨Ah,Ae⟩ Ae
 refine Bh<|Bg rfl ?_
 have h:=j _ (Ai h)
 refine Z<|Z<|Ac<|O<|O<|Aa<|Am h (fun b h=>?_) fun b h=>?_
 exact Ac<|O<|O<|O<|Aw.mk _ rfl<|O<|O<|D9 (f:=(Af .u32)) (l:=c) (ys:=[(Bt g)]) rfl rfl rfl rfl h fun i h=>O<|Aa<|Z<|Fd [.fz 3]<|Bz (f:=(Af .u32)) (l:=i) rfl rfl<|Bz (f:=(Af .u32)) (l:=i) rfl rfl<|Dx.mk<|Ac<|O<|O<|Aq h fun v24 u h=>As.mk _ (Qy (a0:=i) u) rfl<|O<|Aa<|Ak<|congrArg (fun x:(List Int)=>((A2 1<|Af .u32) x:AV))<|Ai h
 exact An<|Z<|Fd [.fz 3]<|Bz (f:=(Af .u32)) (l:=c) rfl rfl<|Bz (f:=(Af .u32)) (l:=c) rfl rfl<|Dx.mk<|Ac<|O<|O<|Aq h fun v25 q h=>As.mk _ (Qy (a0:=c) q) rfl<|O<|Aa<|Ak<|congrArg (fun x:(List Int)=>((A2 1<|Af .u32) x:AV))<|Ai h
theorem Od {a0:A1} {r:Ea} (h:I8 a0=some r):Bb Tryz.prog 97 [Bx a0] (He r):=by
 unfold I8 at h
 refine C2 (C:={T:=B4,an:=(fun _=>.ask),nl:=(fun s=>bif Nat.beq s 20 then [(1,1)] else [])}) B8 B5 Tryz.func97 rfl (by kernel_rfl) (by kernel_rfl) rfl ?_
 refine Z<|Ac<|O<|O<|Aa<|Z<|B0<|O<|O<|O<|Aq h fun v3 q h=>As.mk _ (Afs (a0:=a0.Num) q) rfl<|O<|O<|O<|Aq h fun v4 k h=>As.mk _ (Afs (a0:=a0.Den) k) rfl<|O<|O<|Aa<|Bj.mk (by kernel_rfl)<|Z<|Z<|Cd h fun c g i=>?_
 refine Ce (fun (v5:Bool)=>v5=c) (fun v5=>[(18,(Av v5))]) (fun v5=>[]) (fun _=>rfl) ?_ ?_
 intro y hK1
 refine Ac<|O<|O<|Ax (f:=(Af .u32)) (l:=v3) rfl<|O<|O<|A6 (s:=14) g (fun b h=>?_) fun b h=>?_
 exact Ad<|Ad<|Ad<|O<|Aa<|hK1 true _ _ _ (Ai h) ⟨rfl,Ae⟩ ⟨Ah,Ah,Ae⟩
 exact Ag<|Ag<|Ax (f:=(Af .u32)) (l:=v4) rfl<|Ag<|O<|Aa<|hK1 ((v4.length:Int)==(0:Int)) _ _ _ (Ai h) ⟨rfl,Ae⟩ ⟨Ah,Ah,Ae⟩
 rintro v5 u j
 have h:=i _ j
 refine Am h (fun b h=>?_) fun b h=>?_
 exact Z<|Ac<|O<|O<|O<|Aa<|Ak<|congrArg (fun x:Ea=>(He x:AV))<|Ai h
 exact An<|Z<|Ac<|O<|O<|O<|O<|O<|O<|Aa<|Ak<|congrArg (fun x:Ea=>(He x:AV))<|Ai h
theorem Qz {a0:(List Int)} {a1:(List Int)} {r:(List Int)} (h:Jp a0 a1=some r):Bb Tryz.prog 98 [(A2 1 (Af .u32)) a0,(A2 1 (Af .u32)) a1] ((A2 1 (Af .u32)) r):=by
 unfold Jp at h
 refine C2 (C:={T:=B4,an:=(fun _=>.ask),nl:=(fun s=>bif Nat.beq s 4 then [(0,1)] else [])}) B8 B5 Tryz.func98 rfl (by kernel_rfl) (by kernel_rfl) rfl ?_
 refine Z<|Ac<|O<|Aa<|Z<|Z<|Cd h fun D L M=>Ce (fun (u:Bool)=>u=D) (fun u=>[(17,(Av u))]) (fun u=>[]) (fun _=>rfl) ?_ ?_
 intro K1 hK1
 refine Ac<|O<|O<|Ax (f:=(Af .u32)) (l:=a0) rfl<|O<|O<|A6 (s:=13) L (fun b h=>?_) fun b h=>?_
 exact Ad<|Ad<|Ad<|O<|Aa<|hK1 true _ _ _ (Ai h) ⟨rfl,Ae⟩ Ae
 exact Ag<|Ag<|Ax (f:=(Af .u32)) (l:=a1) rfl<|Ag<|O<|Aa<|hK1 ((a1.length:Int)==(0:Int)) _ _ _ (Ai h) ⟨rfl,Ae⟩ Ae
 rintro u u1 N
 have h:=M _ N
 refine Am h (fun b h=>?_) fun b h=>?_
 exact Z<|Ac<|O<|Aa<|Ak<|congrArg (fun x:(List Int)=>((A2 1<|Af .u32) x:AV))<|Ai h
 refine An<|Z<|Ac<|O<|O<|Ax (f:=(Af .u32)) (l:=a0) rfl<|O<|O<|Ax (f:=(Af .u32)) (l:=a1) rfl<|O<|Aw.mk _ rfl<|O<|Gx (f:=(Af .u32)) (z:=(0:Int)) rfl h fun S h=>O<|Aa<|Z<|Z<|Ac<|O<|O<|Ax (f:=(Af .u32)) (l:=a0) rfl<|O<|Aa<|Ay ?_
 refine Bn h (fun (v23,g)=>[(26,(Af .i64 v23))]) (fun (v23,g)=>[(0,.rows 129 1 (List.map (Af .u32) g))]) (fun (v23,g)=>S.length=g.length) (fun _=>rfl) ⟨rfl,Ae⟩ ⟨Ah,Ae⟩ rfl ?_
 rintro ⟨v23,g⟩ u2 K2 ab J G hn2 q
 refine Z<|Ac<|O<|Aa<|Z<|Am J (fun b h=>?_) fun b h=>?_
 refine An<|Z<|Ay<|Z<|Ac<|O<|O<|Aa<|Z<|Ac<|O<|Aa<|Z<|Z<|Ac<|O<|O<|Ax (f:=(Af .u32)) (l:=a1) rfl<|O<|Aa<|Ay<|Bn h (fun (v31,k,i)=>[(7,(Af .u64 v31)),(31,(Af .i64 k))]) (fun (v31,k,i)=>[(0,.rows 129 1 (List.map (Af .u32) i))]) (fun (v31,k,i)=>S.length=i.length) (fun _=>rfl) ⟨rfl,rfl,Ae⟩ ⟨Ah,Ae⟩ q ?_
 rintro ⟨v31,k,i⟩ u3 K3 aa I E hn3 c
 refine Z<|Ac<|O<|Aa<|Z<|Am I (fun b h=>?_) fun b h=>?_
 refine An<|Z<|Ay<|Z<|Ac<|O<|O<|Aa<|Z<|B0<|O<|O<|O<|A7 (f:=(Af .u32)) rfl h fun ag a8 i34 V h=>O<|O<|Aw.mk _ rfl<|O<|O<|O<|A7 (f:=(Af .u32)) rfl h fun af v35 i35 U h=>O<|O<|Aw.mk _ rfl ?_
 refine O<|Aw.mk _ rfl<|O<|O<|O<|O<|Aw.mk _ rfl<|O<|Fo (f:=(Af .u32)) rfl c c h fun ae a7 i36 B h=>O<|Ei (f:=(Af .u32)) rfl c (Nat.zero_add _) B<|O<|Aw.mk _ rfl<|O<|Aw.mk _ rfl<|O<|O<|Aw.mk _ rfl<|O<|Aa<|Bj.mk (by kernel_rfl)<|Z<|Ac<|O ?_
 refine O<|O<|O<|Aw.mk _ rfl<|O<|O<|Hj h fun v37 h=>O<|Aw.mk _ rfl<|O<|Fo (f:=(Af .u32)) rfl c c h fun ad v38 i38 A h=>O<|Ei (f:=(Af .u32)) rfl c (Nat.zero_add _) A<|Fj (f:=(Af .u32)) (x:=(Bt v37)) (j:=(Al<|v23+k)) rfl rfl (Nat.zero_add _) i38<|Aa<|Ac<|O<|O<|G4 h fun a6 h=>O<|Aa<|Ac<|O<|Aw.mk _ rfl ?_
 exact O<|Aa<|hn3 _ _ _ _ (Ai h) ⟨rfl,rfl,Ae⟩ ⟨Ah,Ae⟩<|Fp (l:=i) c (Al<|v23+k)<|Bt v37
 refine Bh<|Bg rfl ?_
 have h:=E _ (Ai h)
 exact Ac<|O<|O<|O<|O<|Ax (f:=(Af .u32)) (l:=a1) rfl<|O<|Aw.mk _ rfl<|O<|O<|Aw.mk _ rfl<|O<|Fo (f:=(Af .u32)) rfl c c h fun ac Y i43 y h=>O<|Ei (f:=(Af .u32)) rfl c (Nat.zero_add _) y<|Fj (f:=(Af .u32)) (x:=(Bt v31)) (j:=(Al<|v23+(a1.length:Int))) rfl rfl (Nat.zero_add _) i43<|Aa<|Ac<|O<|Aw.mk _ rfl<|O<|Aa<|hn2 _ _ _ _ (Ai h) ⟨rfl,Ae⟩ ⟨Ah,Ae⟩<|Fp (l:=i) c (Al<|v23+(a1.length:Int))<|Bt v31
 refine Bh<|Bg rfl ?_
 have h:=G _ (Ai h)
 exact Z<|Fd [.fz 5]<|Bz (f:=(Af .u32)) (l:=g) rfl q<|Bz (f:=(Af .u32)) (l:=g) rfl q<|Dx.mk<|Ac<|O<|O<|Aq h fun X R h=>As.mk _ (Qy (a0:=g) R) rfl<|O<|Aa<|Ak<|congrArg (fun x:(List Int)=>((A2 1<|Af .u32) x:AV))<|Ai h
theorem Aft {a0:A1} {a1:A1} {r:A1} (h:Ll a0 a1=some r):Bb Tryz.prog 45 [Bx a0,Bx a1] (Bx r):=by
 unfold Ll at h
 refine Bv Tryz.func45 rfl (by kernel_rfl) (by kernel_rfl) rfl ?_
 refine Z<|Ac<|O<|O<|O<|Aa<|Z<|B0<|O<|O<|Aq h fun v4 i h=>As.mk _ (Od (a0:=a0) i) rfl<|O<|O<|Aq h fun v5 g h=>As.mk _ (Od (a0:=a1) g) rfl<|O<|O<|O<|O<|Aa<|Bj.mk (by kernel_rfl)<|Z<|B0 ?_
 refine O<|O<|O<|O<|O<|O<|O<|O<|O<|O<|Aq h fun v8 f h=>As.mk _ (Qz (a0:=v4.n) (a1:=v5.n) f) rfl<|O<|O<|O<|O<|O<|Aq h fun v9 c h=>As.mk _ (Qz (a0:=v4.d) (a1:=v5.d) c) rfl<|O<|O<|Aq h fun v10 b h=>As.mk _ (Vc (a0:=(Ea.mk (v4.neg != v5.neg) v8 v9)) b) rfl<|O ?_
 exact Aa<|Bj.mk (by kernel_rfl)<|Ak<|congrArg (fun x:A1=>(Bx x:AV))<|Ai h
theorem Aon {a0:Int} {a1:Int} {r:A1} (h:Pw a0 a1=some r):Bb Tryz.prog 133 [(Af .i64) a0,(Af .i64) a1] (Bx r):=by
 unfold Pw at h
 refine Bv Tryz.func133 rfl (by kernel_rfl) (by kernel_rfl) rfl ?_
 refine Z<|Ac<|O<|Aa<|Z<|Z<|Ac<|O<|O<|Aa<|Am h (fun b h=>?_) fun b h=>?_
 exact Z<|Ac<|O<|Aq h fun v2 i h=>As.mk _ (L1 (a0:=0) i) rfl<|O<|Aa<|Ak<|congrArg (fun x:A1=>(Bx x:AV))<|Ai h
 exact An<|Z<|Ac<|O<|O<|O<|O<|O<|O<|O<|Aq h fun v3 g h=>As.mk _ (Aa7 (a0:=a0) g) rfl<|O<|O<|Aq h fun v4 f h=>As.mk _ (Aa7 (a0:=a1) f) rfl<|O<|O<|Aq h fun v5 c h=>As.mk _ (Vc (a0:=(Ea.mk ((decide<|a0<(0:Int)) != (decide<|a1<(0:Int))) v3 v4)) c) rfl<|O<|Aa<|Ak<|congrArg (fun x:A1=>(Bx x:AV))<|Ai h
theorem Aoo {a0:Int} {a1:Int} {r:A1} (h:Sb a0 a1=some r):Bb Tryz.prog 96 [(Af .i64) a0,(Af .i64) a1] (Bx r):=by
 unfold Sb at h
 refine Bv Tryz.func96 rfl (by kernel_rfl) (by kernel_rfl) rfl ?_
 refine Z<|Ac<|O<|Aa<|Z<|Ac<|O<|Aq h fun v2 q h=>As.mk _ (L1 (a0:=1) q) rfl<|O<|O<|Aa<|Z<|Z<|Ac<|O<|O<|Aa<|Ay<|Bn h (fun (v7,v8,v9,v10)=>[(9,(Af .i64 v7))]) (fun (v7,v8,v9,v10)=>[(1,.cells 41 [(Av v8),(.sl 1<|List.map (Af .u32) v9),(.sl 1<|List.map (Af .u32) v10)])]) (fun _=>True) (fun _=>rfl) ⟨rfl,Ae⟩ ⟨Ah,Ah,Ae⟩ Ae ?_
 rintro ⟨v7,v8,v9,v10⟩ s u l f c hn1 _
 refine Z<|Ac<|O<|Aa<|Z<|Am f (fun b h=>?_) fun b h=>?_
 refine An<|Z<|Ay<|Z<|Ac<|O<|O<|Aa<|Z<|Z<|Ac<|O<|O<|O<|Aa<|Am h (fun b h=>?_) fun b h=>?_
 refine Z<|Ac<|O<|Aq h fun k j h=>As.mk _ (L1 (a0:=0) j) rfl<|O<|Aa<|Ak ?_
 have h:=c _ (Ai h)
 exact congrArg (fun x:A1=>(Bx x:AV))<|Ai h
 exact An<|B0<|O<|O<|O<|O<|Aw.mk _ rfl<|O<|O<|Aw.mk _ rfl<|O<|Aq h fun v12 i h=>As.mk _ (Aon (a0:=(Al<|a0-v7)) (a1:=(Al<|v7+1)) i) rfl<|O<|Aq h fun v13 g h=>As.mk _ (Aft (a0:=(A1.mk v8 v9 v10)) (a1:=v12) g) rfl<|O<|Aa<|Bj.mk (by kernel_rfl)<|Ac<|O<|Aw.mk _ rfl<|O<|Aa<|hn1 _ _ _ _ (Ai h) ⟨rfl,Ae⟩ ⟨Ah,Ah,Ae⟩ Ae
 refine Bh<|Bg rfl ?_
 have h:=c _ (Ai h)
 exact Z<|Ac<|O<|O<|Aa<|Ak<|congrArg (fun x:A1=>(Bx x:AV))<|Ai h
theorem Aop {a0:Int} {a1:Int} {r:(A1×Bool)} (h:Nm a0 a1=some r):Bb Tryz.prog 44 [(Af .i64) a0,(Af .i64) a1] (.tup [Bx r.1,Av r.2]):=by
 unfold Nm at h
 refine Bv Tryz.func44 rfl (by kernel_rfl) (by kernel_rfl) rfl ?_
 refine Z<|Ac<|O<|O<|Aa<|Z<|Z<|Cd h fun c f g=>Ce (fun (v2:Bool)=>v2=c) (fun v2=>[(11,(Av v2))]) (fun v2=>[]) (fun _=>rfl) ?_ ?_
 intro q hK1
 refine Ac<|O<|O<|O<|A6 (s:=8) f (fun b h=>?_) fun b h=>?_
 exact Ad<|Ad<|O<|Aa<|hK1 true _ _ _ (Ai h) ⟨rfl,Ae⟩ ⟨Ah,Ae⟩
 exact Ag<|Ag<|O<|Aa<|hK1 (decide<|a1>(64:Int)) _ _ _ (Ai h) ⟨rfl,Ae⟩ ⟨Ah,Ae⟩
 rintro v2 l i
 have h:=g _ i
 refine Am h (fun b h=>?_) fun b h=>?_
 exact Z<|Ac<|O<|Aq h fun v3 k h=>As.mk _ (L1 (a0:=0) k) rfl<|O<|O<|Aa<|Ak<|congrArg (fun x:(A1×Bool)=>(.tup [Bx x.1,Av x.2]:AV))<|Ai h
 exact An<|Z<|Ac<|O<|O<|O<|O<|Aq h fun v4 j h=>As.mk _ (Aoo (a0:=(if a0>(0:Int) then a0 else 0)) (a1:=a1) j) rfl<|O<|O<|Aa<|Ak<|congrArg (fun x:(A1×Bool)=>(.tup [Bx x.1,Av x.2]:AV))<|Ai h
theorem Afu {a0:Cp} {a1:Int} {r:(Ao×Bool)} (h:Pp a0 a1=some r):Bb Tryz.prog 37 [Fe a0,(Af .i64) a1] (.tup [Ba r.1,Av r.2]):=by
 unfold Pp at h
 refine C2 (C:={T:=B4,an:=(fun _=>.ask),nl:=(fun s=>bif Nat.beq s 21 then [(2,3)] else [])}) B8 B5 Tryz.func37 rfl (by kernel_rfl) (by kernel_rfl) rfl ?_
 refine Z<|Ac<|O<|O<|O<|Aa<|Z<|Ay<|Z<|Ac<|O<|O<|O<|Aa<|Am h (fun b h=>?_) fun b h=>?_
 exact Z<|Ac<|O<|O<|O<|O<|Aa<|Ak<|congrArg (fun x:(Ao×Bool)=>(.tup [Ba x.1,Av x.2]:AV))<|Ai h
 refine Z<|Ac<|O<|O<|O<|A6 (s:=14) h (fun b h=>?_) fun b h=>?_
 exact Ad<|Ad<|Ad<|Ad<|Ad<|O<|O<|Aa<|Dd<|Z<|Ac<|O<|O<|O<|Aa<|Ak<|congrArg (fun x:(Ao×Bool)=>(.tup [Ba x.1,Av x.2]:AV))<|Ai h
 refine Ag<|Ag<|Ag<|Ag<|Ax (f:=Ba) (l:=a0.Vars) (Bq _)<|Ag<|O<|O<|Aa<|Am h (fun b h=>?_) fun b h=>?_
 exact Z<|Ac<|O<|O<|O<|Aa<|Ak<|congrArg (fun x:(Ao×Bool)=>(.tup [Ba x.1,Av x.2]:AV))<|Ai h
 exact An<|Z<|Ac<|O<|O<|O<|O<|A7 (f:=Ba) (Bq _) h fun g v3 i3 c h=>O<|O<|O<|Aa<|Ak<|congrArg (fun x:(Ao×Bool)=>(.tup [Ba x.1,Av x.2]:AV))<|Ai h
theorem Xt {a0:(List A5)} {a1:Int} {a2:Int} {r:(List Bool)} (h:Mq a0 a1 a2=some r):Bb Tryz.prog 147 [(A2 3 Bf) a0,(Af .i64) a1,(Af .i64) a2] ((A2 1 Av) r):=by
 unfold Mq at h
 refine C2 (C:={T:=B4,an:=(fun _=>.ask),nl:=(fun s=>bif Nat.beq s 6 then [(0,1)] else [])}) B8 B5 Tryz.func147 rfl (by kernel_rfl) (by kernel_rfl) rfl ?_
 refine Z<|Ac<|O<|Aa<|Z<|Z<|Cd h fun S a7 aa=>Ce (fun (v2:Bool)=>v2=S) (fun v2=>[(34,(Av v2))]) (fun v2=>[]) (fun _=>rfl) ?_ ?_
 intro K1 hK1
 refine Ac<|O<|O<|O<|A6 (s:=15) a7 (fun b h=>?_) fun b h=>?_
 exact Ad<|Ad<|Ad<|Ad<|O<|O<|Ad<|Ad<|O<|O<|Ad<|Ad<|Ad<|Ad<|Ad<|Ad<|Ad<|Ad<|O<|Aa<|hK1 true _ _ _ (Ai h) ⟨rfl,Ae⟩ Ae
 refine Ag<|Ag<|Ag<|Ax (f:=Bf) (l:=a0) rfl<|Ag<|O<|O<|A6 (s:=21) h (fun b h=>?_) fun b h=>?_
 exact Ad<|Ad<|O<|O<|Ad<|Ad<|Ad<|Ad<|Ad<|Ad<|Ad<|Ad<|O<|Aa<|hK1 true _ _ _ (Ai h) ⟨rfl,Ae⟩ Ae
 refine Ag<|Ag<|O<|O<|A6 (s:=25) h (fun b h=>?_) fun b h=>?_
 exact Ad<|Ad<|Ad<|Ad<|Ad<|Ad<|Ad<|Ad<|O<|Aa<|hK1 true _ _ _ (Ai h) ⟨rfl,Ae⟩ Ae
 exact Ag<|Ag<|Ag<|Ag<|A7 (f:=Bf) rfl h fun n1 v1 i1 x1 h=>Ag<|Ag<|Ag<|Ax (f:=Ej) (l:=v1.Cons) rfl<|Ag<|O<|Aa<|hK1 (decide<|a2>=(v1.Cons.length:Int)) _ _ _ (Ai h) ⟨rfl,Ae⟩ Ae
 rintro v2 u1 ac
 have h:=aa _ ac
 refine Am h (fun b h=>?_) fun b h=>?_
 exact Z<|Ac<|O<|Aa<|Ak<|congrArg (fun x:(List Bool)=>((A2 1 Av) x:AV))<|Ai h
 refine An<|Z<|Ac<|O<|O<|O<|A7 (f:=Bf) rfl h fun n3 v3 i3 x3 h=>O<|O<|O<|O<|A7 (f:=Ej) rfl h fun n4 v4 i4 x4 h=>O<|O<|O<|Aa<|Z<|Ac<|O<|O<|Ax (f:=Ba) (l:=v4.Args) (Bq _)<|O<|Gx (f:=Av) (z:=(false:Bool)) rfl h fun N h=>O ?_
 refine Aa<|Z<|Z<|Ac<|O<|O<|Ax (f:=Ba) (l:=v4.Args) (Bq _)<|O<|Aa<|Ay<|Bn h (fun (v28,i)=>[(49,(Af .i64 v28))]) (fun (v28,i)=>[(0,.rows 4 1 (List.map Av i))]) (fun (v28,i)=>N.length=i.length) (fun _=>rfl) ⟨rfl,Ae⟩ ⟨Ah,Ae⟩ rfl ?_
 rintro ⟨v28,i⟩ u2 K2 am a6 V hn2 g
 refine Z<|Ac<|O<|Aa<|Z<|Am a6 (fun b h=>?_) fun b h=>?_
 refine An<|Z<|Ay<|Z<|Ac<|O<|O<|A7 (f:=Ba) (Bq _) h fun ay u i30 af h=>O<|O<|O<|O<|Aa<|Z<|Cd h fun R Y a8=>Ce (fun (q:(List Bool))=>q=R/\N.length=q.length) (fun q=>[]) (fun q=>[(0,.rows 4 1 (List.map Av q))]) (fun _=>rfl) ?_ ?_
 intro K3 hK3
 refine B0<|O<|O<|O<|O<|O<|O<|A6 (s:=59) Y (fun b h=>?_) fun b h=>?_
 refine Ag<|Ag<|Ag<|Ag<|O<|O<|A6 (s:=65) h (fun b h=>?_) fun b h=>?_
 exact Ag<|Ag<|Ag<|Ax (f:=Ba) (l:=u.Args) (Bq _)<|Ag<|Ag<|Ag<|A7 (f:=Bf) rfl h fun ax A i32 ae h=>Ag<|Ag<|Ag<|O<|O<|Fo (f:=Av) rfl g g h fun aw aj i33 J h=>O<|Ei (f:=Av) rfl g (Nat.zero_add _) J<|Fj (f:=Av) (x:=((u.Args.length:Int)==A.Vars)) (j:=v28) rfl rfl (Nat.zero_add _) i33<|Aa<|Bj.mk (by kernel_rfl)<|hK3 (Dy i v28 ((u.Args.length:Int)==A.Vars)) _ _ _ ⟨(Ai h),Fp (l:=i) g v28 ((u.Args.length:Int)==A.Vars)⟩ Ae ⟨Ah,Ah,Ae⟩
 exact Ad<|Ad<|Ad<|Ad<|Ad<|Ad<|Ad<|Ad<|Ad<|O<|O<|Fo (f:=Av) rfl g g h fun av ai i34 I h=>O<|Ei (f:=Av) rfl g (Nat.zero_add _) I<|Fj (f:=Av) (x:=false) (j:=v28) rfl rfl (Nat.zero_add _) i34<|Aa<|Bj.mk (by kernel_rfl)<|hK3 (Dy i v28 false) _ _ _ ⟨(Ai h),Fp (l:=i) g v28 false⟩ Ae ⟨Ah,Ah,Ae⟩
 exact Ad<|Ad<|Ad<|Ad<|O<|O<|Ad<|Ad<|Ad<|Ad<|Ad<|Ad<|Ad<|Ad<|Ad<|O<|O<|Fo (f:=Av) rfl g g h fun au v35 i35 G h=>O<|Ei (f:=Av) rfl g (Nat.zero_add _) G<|Fj (f:=Av) (x:=false) (j:=v28) rfl rfl (Nat.zero_add _) i35<|Aa<|Bj.mk (by kernel_rfl)<|hK3 (Dy i v28 false) _ _ _ ⟨(Ai h),Fp (l:=i) g v28 false⟩ Ae ⟨Ah,Ah,Ae⟩
 rintro q u3 ⟨ab,M⟩
 have h:=a8 _ ab
 refine Z<|Ac<|O<|O<|O<|Ax (f:=Ba) (l:=u.Args) (Bq _)<|O<|Aa<|Ay<|Bn h (fun (y,k)=>[(80,(Af .i64 y))]) (fun (y,k)=>[(0,.rows 4 1 (List.map Av k))]) (fun (y,k)=>N.length=k.length) (fun _=>rfl) ⟨rfl,Ae⟩ ⟨Ah,Ah,Ae⟩ M ?_
 rintro ⟨y,k⟩ u4 K4 ak X U hn4 c
 refine Z<|Ac<|O<|Aa<|Z<|Am X (fun b h=>?_) fun b h=>?_
 refine An<|Z<|Ay<|Z<|Ac<|O<|O<|A7 (f:=Ba) (Bq _) h fun ar L i44 ad h=>O<|O<|O<|O<|Aa<|Z<|Ac<|O<|O<|O<|O<|A6 (s:=88) h (fun b h=>?_) fun b h=>?_
 refine Ad<|Ad<|Ad<|Ad<|O<|O<|Ad<|Ad<|Ad<|Ad<|O<|Aa<|Dd<|Ac<|O<|O<|O<|Fo (f:=Av) rfl c c h fun aq v46 i46 E h=>O<|Ei (f:=Av) rfl c (Nat.zero_add _) E<|Fj (f:=Av) (x:=false) (j:=v28) rfl rfl (Nat.zero_add _) i46<|Aa<|Ac<|O ?_
 exact Aw.mk _ rfl<|O<|Aa<|hn4 _ _ _ _ (Ai h) ⟨rfl,Ae⟩ ⟨Ah,Ah,Ae⟩<|Fp (l:=k) c v28 false
 refine Ag<|Ag<|Ag<|Ag<|O<|O<|A6 (s:=94) h (fun b h=>?_) fun b h=>?_
 exact Ad<|Ad<|Ad<|Ad<|O<|Aa<|Dd<|Ac<|O<|O<|O<|Fo (f:=Av) rfl c c h fun ap ah i47 D h=>O<|Ei (f:=Av) rfl c (Nat.zero_add _) D<|Fj (f:=Av) (x:=false) (j:=v28) rfl rfl (Nat.zero_add _) i47<|Aa<|Ac<|O<|Aw.mk _ rfl<|O<|Aa<|hn4 _ _ _ _ (Ai h) ⟨rfl,Ae⟩ ⟨Ah,Ah,Ae⟩<|Fp (l:=k) c v28 false
 refine Ag<|Ag<|Ag<|Ax (f:=Ba) (l:=L.Args) (Bq _)<|Ag<|O<|Aa<|Am h (fun b h=>?_) fun b h=>?_
 exact Ac<|O<|O<|O<|Fo (f:=Av) rfl c c h fun ao ag i48 B h=>O<|Ei (f:=Av) rfl c (Nat.zero_add _) B<|Fj (f:=Av) (x:=false) (j:=v28) rfl rfl (Nat.zero_add _) i48<|Aa<|Ac<|O<|Aw.mk _ rfl<|O<|Aa<|hn4 _ _ _ _ (Ai h) ⟨rfl,Ae⟩ ⟨Ah,Ah,Ae⟩<|Fp (l:=k) c v28 false
 exact An<|Ac<|O<|Aw.mk _ rfl<|O<|Aa<|hn4 _ _ _ _ (Ai h) ⟨rfl,Ae⟩ ⟨Ah,Ah,Ae⟩ c
 refine Bh<|Bg rfl ?_
 have h:=U _ (Ai h)
 exact Ac<|O<|Aw.mk _ rfl<|O<|Aa<|hn2 _ _ _ _ (Ai h) ⟨rfl,Ae⟩ ⟨Ah,Ae⟩ c
 refine Bh<|Bg rfl ?_
 have h:=V _ (Ai h)
 exact Z<|Ac<|O<|O<|Aa<|Ak<|Bz (f:=Av) (l:=i) rfl g<|Bz (f:=Av) (l:=i) rfl g<|congrArg (fun x:(List Bool)=>((A2 1 Av) x:AV))<|Ai h
theorem Afv:∀k:Nat,(∀(a0:Ao) (r:Int),Ki k a0=some r->Bb Tryz.prog 224 [Ba a0] ((Af .i64) r))
 | 0=>(fun _ _ h=>by simp only [Ki] at h; cases h)
 | k+1=>by
  have ih:=Afv k
  have c:∀{a0:Ao} {r:Int},Ki k a0=some r->Bb Tryz.prog 224 [Ba a0] ((Af .i64) r):=fun h=>ih _ _ h
  intro a0 r h
  unfold Ki at h
  refine Bv Tryz.func224 rfl (by kernel_rfl) (by kernel_rfl) rfl ?_
  refine Z<|Ac<|O<|O<|Aa<|Z<|Ac<|O<|Aa<|Z<|Z<|Ac<|O<|O<|O<|Ax (f:=Ba) (l:=a0.Args) (Bq _)<|O<|Aa<|Ay<|Bn h (fun (v5,g)=>[(3,(Af .i64 v5)),(9,(Af .i64 g))]) (fun (v5,g)=>[]) (fun _=>True) (fun _=>rfl) ⟨rfl,rfl,Ae⟩ ⟨Ah,Ae⟩ Ae ?_
  rintro ⟨v5,g⟩ x z q j i hn1 _
  refine Z<|Ac<|O<|Aa<|Z<|Am j (fun b h=>?_) fun b h=>?_
  refine An<|Z<|Ay<|Z<|Ac<|O<|A7 (f:=Ba) (Bq _) h fun y v7 i7 u h=>O<|O<|O<|Aa<|Ac<|O<|O<|O<|Aq h fun v9 s h=>As.mk _ (c (a0:=v7) s) rfl<|O<|Aw.mk _ rfl<|O<|Aa<|Ac<|O<|Aw.mk _ rfl ?_
  exact O<|Aa<|hn1 _ _ _ _ (Ai h) ⟨rfl,rfl,Ae⟩ ⟨Ah,Ae⟩ Ae
  refine Bh<|Bg rfl ?_
  have h:=i _ (Ai h)
  exact Z<|Ac<|O<|O<|Aa<|Ak<|Bu h
theorem Afw {k:Nat} {a0:Ao} {r:Int} (h:Ki k a0=some r):Bb Tryz.prog 224 [Ba a0] ((Af .i64) r):=(Afv k) _ _ h
theorem Afx:∀k:Nat,(∀(a0:Ao) (a1:(List Ao)) (r:Ao),Jr k a0 a1=some r->Bb Tryz.prog 226 [Ba a0,(Ck 3 Bi) a1] (Ba r))
 | 0=>(fun _ _ _ h=>by simp only [Jr] at h; cases h)
 | k+1=>by
  have ih:=Afx k
  have c:∀{a0:Ao} {a1:(List Ao)} {r:Ao},Jr k a0 a1=some r->Bb Tryz.prog 226 [Ba a0,(Ck 3 Bi) a1] (Ba r):=fun h=>ih _ _ _ h
  intro a0 a1 r h
  unfold Jr at h
  refine C2 (C:={T:=B4,an:=(fun _=>.ask),nl:=(fun s=>bif Nat.beq s 42 then [(0,3)] else [])}) B8 B5 Tryz.func226 rfl (by kernel_rfl) (by kernel_rfl) rfl ?_
  refine Z<|Ac<|O<|O<|Aa<|Z<|Z<|Cd h fun j y z=>Ce (fun (v3:Bool)=>v3=j) (fun v3=>[(22,(Av v3))]) (fun v3=>[]) (fun _=>rfl) ?_ ?_
  intro U hK1
  refine Ac<|O<|O<|O<|O<|A6 (s:=11) y (fun b h=>?_) fun b h=>?_
  refine Ag<|Ag<|Ag<|O<|O<|A6 (s:=16) h (fun b h=>?_) fun b h=>?_
  exact Ag<|Ag<|Ag<|Ag<|Ax (f:=Ba) (l:=a1) (Bq _)<|Ag<|O<|Aa<|hK1 (decide<|a0.Num<(a1.length:Int)) _ _ _ (Ai h) ⟨rfl,Ae⟩ ⟨Ah,Ah,Ae⟩
  exact Ad<|Ad<|Ad<|Ad<|Ad<|O<|Aa<|hK1 false _ _ _ (Ai h) ⟨rfl,Ae⟩ ⟨Ah,Ah,Ae⟩
  exact Ad<|Ad<|Ad<|O<|O<|Ad<|Ad<|Ad<|Ad<|Ad<|O<|Aa<|hK1 false _ _ _ (Ai h) ⟨rfl,Ae⟩ ⟨Ah,Ah,Ae⟩
  rintro v3 N A
  have h:=z _ A
  refine Am h (fun b h=>?_) fun b h=>?_
  exact Z<|Ac<|O<|O<|O<|O<|A7 (f:=Ba) (Bq _) h fun R v4 i4 L h=>O<|O<|Aq h fun v5 J h=>As.mk _ (Bb.sub (c (a0:=v4) (a1:=[]) J) ⟨Sub.refl _,Sub.nil _,Ae⟩<|Sub.refl _) rfl<|O<|Aa<|Ak<|congrArg (fun x:Ao=>(Ba x:AV))<|Ai h
  refine An<|Z<|Ac<|O<|O<|O<|O<|O<|O<|O<|Aa<|Z<|Z<|Fd [.own 5 2 25 3]<|Dx.mk<|Ac<|O<|O<|O<|Ax (f:=Ba) (l:=a0.Args) (Bq _)<|O<|Aa<|Ay<|Bn h (fun (v18,i)=>[(37,(Af .i64 v18))]) (fun (v18,i)=>[(2,.cells 25 [(Af .i64 a0.Kind),(Af .i64 a0.Num),(.arr 3 i.length 0 i.length)]),(3,.rows 25 3 (Bi i))]) (fun _=>True) (fun _=>rfl) ⟨rfl,Ae⟩ ⟨Ah,Ah,Ah,Ah,Ae⟩ Ae ?_
  rintro ⟨v18,i⟩ M S E u q hn2 _
  refine Z<|Ac<|O<|Aa<|Z<|Am u (fun b h=>?_) fun b h=>?_
  refine An<|Z<|Ay<|Z<|Ac<|O<|A7 (f:=Ba) (Bq _) h fun I v20 i20 D h=>O<|O<|O<|Aa<|B0<|O<|O<|O<|O<|O<|Aq h fun v22 B h=>As.mk _ (c (a0:=v20) (a1:=a1) B) rfl<|O<|O<|H4 (g:=Bi) Bq (f:=Ba) (l:=i) (ys:=[v22]) (Bq _) rfl rfl rfl h fun G h=>O<|O ?_
  exact Aa<|Bj.mk (by kernel_rfl)<|Ac<|O<|Aw.mk _ rfl<|O<|Aa<|hn2 _ _ _ _ (Ai h) ⟨rfl,Ae⟩ ⟨Ah,Ah,Ah,Ah,Ae⟩ Ae
  refine Bh<|Bg rfl ?_
  have h:=q _ (Ai h)
  exact Z<|Ac<|O<|O<|Aa<|Ak<|Bz (f:=Ba) (l:=i) (Bq _) rfl<|Bz (f:=Ba) (l:=i) (Bq _) rfl<|congrArg (fun x:Ao=>(Ba x:AV))<|Ai h
theorem Afy {k:Nat} {a0:Ao} {a1:(List Ao)} {r:Ao} (h:Jr k a0 a1=some r):Bb Tryz.prog 226 [Ba a0,(Ck 3 Bi) a1] (Ba r):=(Afx k) _ _ _ h
end Go.Ab
namespace Go.Ab
open Go Go.Proofs
set_option maxRecDepth 10000
theorem Afz:∀k:Nat,(∀(a0:Ao) (a1:(List Int)) (r:Int),Kj k a0 a1=some r->Bb Tryz.prog 225 [Ba a0,(A2 1 (Af .i64)) a1] ((Af .i64) r))
 | 0=>(fun _ _ _ h=>by simp only [Kj] at h; cases h)
 | k+1=>by
  have ih:=Afz k
  have c:∀{a0:Ao} {a1:(List Int)} {r:Int},Kj k a0 a1=some r->Bb Tryz.prog 225 [Ba a0,(A2 1 (Af .i64)) a1] ((Af .i64) r):=fun h=>ih _ _ _ h
  intro a0 a1 r h
  unfold Kj at h
  refine Bv Tryz.func225 rfl (by kernel_rfl) (by kernel_rfl) rfl ?_
  refine Z<|Ac<|O<|O<|Aa<|Z<|Z<|Cd h fun i q u=>Ce (fun (v2:Bool)=>v2=i) (fun v2=>[(22,(Av v2))]) (fun v2=>[]) (fun _=>rfl) ?_ ?_
  intro M hK1
  refine Ac<|O<|O<|O<|O<|A6 (s:=11) q (fun b h=>?_) fun b h=>?_
  refine Ag<|Ag<|Ag<|O<|O<|A6 (s:=16) h (fun b h=>?_) fun b h=>?_
  exact Ag<|Ag<|Ag<|Ag<|Ax (f:=(Af .i64)) (l:=a1) rfl<|Ag<|O<|Aa<|hK1 (decide<|a0.Num<(a1.length:Int)) _ _ _ (Ai h) ⟨rfl,Ae⟩ ⟨Ah,Ae⟩
  exact Ad<|Ad<|Ad<|Ad<|Ad<|O<|Aa<|hK1 false _ _ _ (Ai h) ⟨rfl,Ae⟩ ⟨Ah,Ae⟩
  exact Ad<|Ad<|Ad<|O<|O<|Ad<|Ad<|Ad<|Ad<|Ad<|O<|Aa<|hK1 false _ _ _ (Ai h) ⟨rfl,Ae⟩ ⟨Ah,Ae⟩
  rintro v2 G x
  have h:=u _ x
  refine Am h (fun b h=>?_) fun b h=>?_
  exact Z<|Ac<|O<|O<|O<|O<|A7 (f:=(Af .i64)) rfl h fun J v3 i3 D h=>O<|O<|Aa<|Ak<|Bu h
  refine An<|Z<|Ac<|O<|Aa<|Z<|Z<|Ac<|O<|O<|O<|Ax (f:=Ba) (l:=a0.Args) (Bq _)<|O<|Aa<|Ay<|Bn h (fun (v7,v8)=>[(5,(Af .i64 v7)),(31,(Af .i64 v8))]) (fun (v7,v8)=>[]) (fun _=>True) (fun _=>rfl) ⟨rfl,rfl,Ae⟩ ⟨Ah,Ae⟩ Ae ?_
  rintro ⟨v7,v8⟩ E L A j g hn2 _
  refine Z<|Ac<|O<|Aa<|Z<|Am j (fun b h=>?_) fun b h=>?_
  refine An<|Z<|Ay<|Z<|Ac<|O<|A7 (f:=Ba) (Bq _) h fun I v9 i9 B h=>O<|O<|O<|Aa<|Z<|Ac<|O<|O<|O<|O<|Aq h fun z y h=>As.mk _ (c (a0:=v9) (a1:=a1) y) rfl<|O<|Aw.mk _ rfl<|O<|Aa<|Z ?_
  refine Ac<|O<|O<|Aa<|Am h (fun b h=>?_) fun b h=>?_
  refine Bh<|Wp rfl<|Bg rfl ?_
  have h:=g _ (Ai h)
  exact Z<|Ac<|O<|O<|Aa<|Ak<|Bu h
  exact An<|Ac<|O<|Aw.mk _ rfl<|O<|Aa<|hn2 _ _ _ _ (Ai h) ⟨rfl,rfl,Ae⟩ ⟨Ah,Ae⟩ Ae
  refine Bh<|Bg rfl ?_
  have h:=g _ (Ai h)
  exact Z<|Ac<|O<|O<|Aa<|Ak<|Bu h
theorem Af0 {k:Nat} {a0:Ao} {a1:(List Int)} {r:Int} (h:Kj k a0 a1=some r):Bb Tryz.prog 225 [Ba a0,(A2 1 (Af .i64)) a1] ((Af .i64) r):=(Afz k) _ _ _ h
theorem Af1 {a0:(List A5)} {a1:Ao} {a2:Int} {r:((List Ao)×Bool)} (h:Tb a0 a1 a2=some r):Bb Tryz.prog 143 [(A2 3 Bf) a0,Ba a1,(Af .i64) a2] (.tup [(Ck 3 Bi) r.1,Av r.2]):=by
 unfold Tb at h
 refine C2 (C:={T:=B4,an:=(fun s=>bif Nat.beq s 14 then .own else .ask),nl:=(fun s=>bif Nat.beq s 14 then [(0,3)] else bif Nat.beq s 6 then [(0,3)] else [])}) B8 B5 Tryz.func143 rfl (by kernel_rfl) (by kernel_rfl) rfl ?_
 refine Z<|Ac<|O<|O<|O<|Aa<|Z<|Z<|Cd h fun J V Y=>Ce (fun (v2:Bool)=>v2=J) (fun v2=>[(31,(Av v2))]) (fun v2=>[]) (fun _=>rfl) ?_ ?_
 intro K1 hK1
 refine Ac<|O<|O<|O<|O<|A6 (s:=20) V (fun b h=>?_) fun b h=>?_
 exact Ad<|Ad<|Ad<|O<|O<|Ad<|Ad<|Ad<|Ad<|Ad<|O<|Aa<|hK1 true _ _ _ (Ai h) ⟨rfl,Ae⟩ ⟨Ah,Ae⟩
 refine Ag<|Ag<|Ag<|O<|O<|A6 (s:=25) h (fun b h=>?_) fun b h=>?_
 exact Ad<|Ad<|Ad<|Ad<|Ad<|O<|Aa<|hK1 true _ _ _ (Ai h) ⟨rfl,Ae⟩ ⟨Ah,Ae⟩
 exact Ag<|Ag<|Ag<|Ag<|Ax (f:=Bf) (l:=a0) rfl<|Ag<|O<|Aa<|hK1 (decide<|a1.Num>=(a0.length:Int)) _ _ _ (Ai h) ⟨rfl,Ae⟩ ⟨Ah,Ae⟩
 rintro v2 u1 a7
 have h:=Y _ a7
 refine Am h (fun b h=>?_) fun b h=>?_
 exact Z<|Ac<|O<|O<|Aa<|Ak<|congrArg (fun x:((List Ao)×Bool)=>(.tup [(Ck 3 Bi) x.1,Av x.2]:AV))<|Ai h
 refine An<|Z<|Ac<|O<|O<|O<|O<|A7 (f:=Bf) rfl h fun n3 v3 i3 x3 h=>O<|O<|O<|Aa<|Z<|Z<|Cd h fun I U X=>Ce (fun (v5:Bool)=>v5=I) (fun v5=>[(53,(Av v5))]) (fun v5=>[]) (fun _=>rfl) ?_ ?_
 intro K2 hK2
 refine Ac<|O<|O<|O<|Ax (f:=Ba) (l:=a1.Args) (Bq _)<|O<|O<|O<|O<|A6 (s:=43) U (fun b h=>?_) fun b h=>?_
 exact Ad<|Ad<|O<|O<|Ad<|Ad<|Ad<|Ad<|Ad<|O<|Aa<|hK2 true _ _ _ (Ai h) ⟨rfl,Ae⟩ ⟨Ah,Ah,Ae⟩
 refine Ag<|Ag<|O<|O<|A6 (s:=47) h (fun b h=>?_) fun b h=>?_
 exact Ad<|Ad<|Ad<|Ad<|Ad<|O<|Aa<|hK2 true _ _ _ (Ai h) ⟨rfl,Ae⟩ ⟨Ah,Ah,Ae⟩
 exact Ag<|Ag<|Ag<|Ag<|Ax (f:=Ej) (l:=v3.Cons) rfl<|Ag<|O<|Aa<|hK2 (decide<|a2>=(v3.Cons.length:Int)) _ _ _ (Ai h) ⟨rfl,Ae⟩ ⟨Ah,Ah,Ae⟩
 rintro v5 u2 a6
 have h:=X _ a6
 refine Am h (fun b h=>?_) fun b h=>?_
 exact Z<|Ac<|O<|O<|Aa<|Ak<|congrArg (fun x:((List Ao)×Bool)=>(.tup [(Ck 3 Bi) x.1,Av x.2]:AV))<|Ai h
 refine An<|Z<|Ac<|O<|O<|O<|Ax (f:=Ba) (l:=a1.Args) (Bq _)<|O<|Gx (f:=(Af .i64)) (z:=(0:Int)) rfl h fun o6 h=>O<|Aa<|Z<|Z<|Ac<|O<|O<|O<|Ax (f:=Ba) (l:=a1.Args) (Bq _)<|O<|Aa<|Ay<|Bn h (fun (v12,c)=>[(61,(Af .i64 v12))]) (fun (v12,c)=>[(2,.rows 3 1 (List.map (Af .i64) c))]) (fun (v12,c)=>o6.length=c.length) (fun _=>rfl) ⟨rfl,Ae⟩ ⟨Ah,Ah,Ah,Ae⟩ rfl ?_
 rintro ⟨v12,c⟩ u3 K3 ak S M hn3 k
 refine Z<|Ac<|O<|Aa<|Z<|Am S (fun b h=>?_) fun b h=>?_
 refine An<|Z<|Ay<|Z<|Ac<|O<|O<|A7 (f:=Ba) (Bq _) h fun au G i14 ag h=>O<|O<|O<|O<|Aa<|Ac<|O<|O<|O<|O<|Aq h fun v16 ab h=>As.mk _ (Afw (a0:=G) ab) rfl<|O<|Fo (f:=(Af .i64)) rfl k k h fun ar v17 i17 y h=>O<|Ei (f:=(Af .i64)) rfl k (Nat.zero_add _) y ?_
 exact Fj (f:=(Af .i64)) (x:=v16) (j:=v12) rfl rfl (Nat.zero_add _) i17<|Aa<|Ac<|O<|Aw.mk _ rfl<|O<|Aa<|hn3 _ _ _ _ (Ai h) ⟨rfl,Ae⟩ ⟨Ah,Ah,Ah,Ae⟩<|Fp (l:=c) k v12 v16
 refine Bh<|Bg rfl ?_
 have h:=M _ (Ai h)
 refine Z<|Z<|Ac<|O<|O<|O<|O<|A7 (f:=Ej) rfl h fun aq E i19 af h=>O<|O<|O<|Ax (f:=Ba) (l:=E.Args) (Bq _)<|O<|Aa<|Ay<|Fd [.fz 9]<|Bz (f:=(Af .i64)) (l:=c) rfl k<|Bz (f:=(Af .i64)) (l:=c) rfl k<|Dx.mk<|Bn h (fun v23=>[(6,(.sl 3<|Bi [])),(7,(Av false)),(79,(Af .i64 v23))]) (fun v23=>[]) (fun _=>True) (fun _=>rfl) ⟨rfl,rfl,rfl,Ae⟩ ⟨Ah,Ah,Ah,Ae⟩ Ae ?_
 rintro v23 u4 K4 ai R u hn4 _
 refine Z<|Ac<|O<|Aa<|Z<|Am R (fun b h=>?_) fun b h=>?_
 refine An<|Z<|Ay<|Z<|Ac<|O<|A7 (f:=Ba) (Bq _) h fun ap v24 i24 ae h=>O<|O<|O<|Aa<|Z<|Ac<|O<|O<|O<|Aq h fun v26 aa h=>As.mk _ (Af0 (a0:=v24) (a1:=c) aa) rfl<|O<|Aa<|Am h (fun b h=>?_) fun b h=>?_
 refine Z<|Ac<|O<|O<|Aa<|Ak ?_
 have h:=u _ (Ai h)
 exact congrArg (fun x:((List Ao)×Bool)=>(.tup [(Ck 3 Bi) x.1,Av x.2]:AV))<|Ai h
 exact An<|Ac<|O<|Aw.mk _ rfl<|O<|Aa<|hn4 _ _ _ _ (Ai h) ⟨rfl,rfl,rfl,Ae⟩ ⟨Ah,Ah,Ah,Ae⟩ Ae
 refine Bh<|Bg rfl ?_
 have h:=u _ (Ai h)
 refine Z<|Ac<|O<|Aa<|Z<|Z<|Ac<|O<|O<|O<|O<|A7 (f:=Ej) rfl h fun ao D i30 ad h=>O<|O<|O<|Ax (f:=Ba) (l:=D.Args) (Bq _)<|O<|Aa<|Ay<|Bn h (fun (q,i)=>[(14,(.arr 3 i.length 0 i.length)),(95,(Af .i64 q))]) (fun (q,i)=>[(3,.rows 25 3 (Bi i))]) (fun _=>True) (fun _=>rfl) ⟨rfl,rfl,Ae⟩ ⟨Ah,Ah,Ah,Ah,Ae⟩ Ae ?_
 rintro ⟨q,i⟩ u5 K5 ah N L hn5 _
 refine Z<|Ac<|O<|Aa<|Z<|Am N (fun b h=>?_) fun b h=>?_
 refine An<|Z<|Ay<|Z<|Ac<|O<|A7 (f:=Ba) (Bq _) h fun am B i43 ac h=>O<|O<|O<|Aa<|Ac<|O<|O<|O<|O<|O<|Aq h fun A a8 h=>As.mk _ (Afy (a0:=B) (a1:=a1.Args) a8) rfl<|O<|O<|H4 (g:=Bi) Bq (f:=Ba) (l:=i) (ys:=[A]) (Bq _) rfl rfl rfl h fun aj h=>O<|Aa ?_
 exact Ac<|O<|Aw.mk _ rfl<|O<|Aa<|hn5 _ _ _ _ (Ai h) ⟨rfl,rfl,Ae⟩ ⟨Ah,Ah,Ah,Ah,Ae⟩ Ae
 refine Bh<|Bg rfl ?_
 have h:=L _ (Ai h)
 exact Z<|Ac<|O<|O<|O<|Aa<|Ak<|Bz (f:=Ba) (l:=i) (Bq _) rfl<|Bz (f:=Ba) (l:=i) (Bq _) rfl<|congrArg (fun x:((List Ao)×Bool)=>(.tup [(Ck 3 Bi) x.1,Av x.2]:AV))<|Ai h
theorem Aoq {a0:(List A5)} {a1:Ao} {a2:Int} {r:((List Ao)×Bool)} (h:Qb a0 a1 a2=some r):Bb Tryz.prog 234 [(A2 3 Bf) a0,Ba a1,(Af .i64) a2] (.tup [(Ck 3 Bi) r.1,Av r.2]):=by
 unfold Qb at h
 refine C2 (C:={T:=B4,an:=(fun s=>bif Nat.beq s 10 then .own else .ask),nl:=(fun s=>bif Nat.beq s 10 then [(0,3)] else bif Nat.beq s 6 then [(0,3)] else [])}) B8 B5 Tryz.func234 rfl (by kernel_rfl) (by kernel_rfl) rfl ?_
 refine Z<|Ac<|O<|O<|O<|Aa<|Z<|Ac<|O<|O<|O<|O<|Aq h fun v2 D h=>As.mk _ (Af1 (a0:=a0) (a1:=a1) (a2:=a2) D) rfl<|O<|O<|O<|O<|O<|Aa<|Z<|Z<|Ac<|O ?_
 refine O<|Aa<|Am h (fun b h=>?_) fun b h=>?_
 exact Z<|Ac<|O<|O<|Aa<|Ak<|congrArg (fun x:((List Ao)×Bool)=>(.tup [(Ck 3 Bi) x.1,Av x.2]:AV))<|Ai h
 refine An<|Z<|Ac<|O<|Aa<|Z<|Z<|Ac<|O<|O<|O<|O<|O<|Aq h fun v4 B h=>As.mk _ (Xt (a0:=a0) (a1:=a1.Num) (a2:=a2) B) rfl<|O<|Ax (f:=Av) (l:=v4) rfl<|O<|Aa<|Ay<|Bn h (fun (v13,c)=>[(10,(.arr 1 c.length 0 c.length)),(28,(Af .i64 v13))]) (fun (v13,c)=>[(1,.rows 25 3 (Bi c))]) (fun _=>True) (fun _=>rfl) ⟨rfl,rfl,Ae⟩ ⟨Ah,Ah,Ae⟩ Ae ?_
 rintro ⟨v13,c⟩ E G u j i hn1 _
 refine Z<|Ac<|O<|Aa<|Z<|Am j (fun b h=>?_) fun b h=>?_
 refine An<|Z<|Ay<|Z<|Ac<|O<|O<|A7 (f:=Av) rfl h fun A v15 i15 q h=>O<|O<|O<|Aa<|Z<|Ac<|O<|O<|Aa<|Am h (fun b h=>?_) fun b h=>?_
 exact Ac<|O<|O<|O<|O<|A7 (f:=Ba) (Bq _) h fun z v16 i16 k h=>O<|O<|O<|H4 (g:=Bi) Bq (f:=Ba) (l:=c) (ys:=[v16]) (Bq _) rfl rfl rfl h fun y h=>O<|Aa<|Ac<|O<|Aw.mk _ rfl<|O<|Aa<|hn1 _ _ _ _ (Ai h) ⟨rfl,rfl,Ae⟩ ⟨Ah,Ah,Ae⟩ Ae
 exact An<|Ac<|O<|Aw.mk _ rfl<|O<|Aa<|hn1 _ _ _ _ (Ai h) ⟨rfl,rfl,Ae⟩ ⟨Ah,Ah,Ae⟩ Ae
 refine Bh<|Bg rfl ?_
 have h:=i _ (Ai h)
 exact Z<|Ac<|O<|O<|O<|Aa<|Ak<|Bz (f:=Ba) (l:=c) (Bq _) rfl<|Bz (f:=Ba) (l:=c) (Bq _) rfl<|congrArg (fun x:((List Ao)×Bool)=>(.tup [(Ck 3 Bi) x.1,Av x.2]:AV))<|Ai h
theorem Af2:∀k:Nat,(∀(a0:(List A5)) (a1:Ao) (a2:Be) (r:(Int×Bool)),Ke k a0 a1 a2=some r->Bb Tryz.prog 159 [(A2 3 Bf) a0,Ba (Ao.mk a1.Kind a1.Num a1.Args),Bw (Be.mk a2.Num a2.Kids)] (.tup [(Af .i64) r.1,Av r.2]))/\(∀(a0:(List A5)) (a1:(List Ao)) (a2:(List Be)) (r:(Int×Bool)),Lx k a0 a1 a2=some r->Bb Tryz.prog 233 [(A2 3 Bf) a0,(Ck 3 Bi) a1,(Ck 2 Fs) a2] (.tup [(Af .i64) r.1,Av r.2]))
 | 0=>⟨(fun _ _ _ _ h=>by simp only [Ke] at h; cases h),(fun _ _ _ _ h=>by simp only [Lx] at h; cases h)⟩
 | k+1=>by
  have ih:=Af2 k
  have g:∀{a0:(List A5)} {a1:Ao} {a2:Be} {r:(Int×Bool)},Ke k a0 a1 a2=some r->Bb Tryz.prog 159 [(A2 3 Bf) a0,Ba (Ao.mk a1.Kind a1.Num a1.Args),Bw (Be.mk a2.Num a2.Kids)] (.tup [(Af .i64) r.1,Av r.2]):=fun h=>ih.1 _ _ _ _ h
  have c:∀{a0:(List A5)} {a1:(List Ao)} {a2:(List Be)} {r:(Int×Bool)},Lx k a0 a1 a2=some r->Bb Tryz.prog 233 [(A2 3 Bf) a0,(Ck 3 Bi) a1,(Ck 2 Fs) a2] (.tup [(Af .i64) r.1,Av r.2]):=fun h=>ih.2 _ _ _ _ h
  refine ⟨?_,?_⟩
  .intro a0 a1 a2 r h
   unfold Ke at h
   refine Bv Tryz.func159 rfl (by kernel_rfl) (by kernel_rfl) rfl ?_
   refine Z<|Ac<|O<|O<|O<|O<|Aa<|Z<|Z<|Ac<|O<|O<|Aa<|Ay<|Z<|Ac<|O<|O<|Aa<|Am h (fun b h=>?_) fun b h=>?_
   refine Z<|Z<|Ac<|O<|O<|O<|Aa<|Am h (fun b h=>?_) fun b h=>?_
   exact Z<|Ac<|O<|O<|Aa<|Ak<|congrArg (fun x:(Int×Bool)=>(.tup [(Af .i64) x.1,Av x.2]:AV))<|Ai h
   exact An<|Z<|Ac<|O<|O<|O<|O<|O<|O<|Aq h fun v3 G h=>As.mk _ (c (a0:=a0) (a1:=a1.Args) (a2:=a2.Kids) G) rfl<|O<|O<|O<|O<|Aa<|Ak<|congrArg (fun x:(Int×Bool)=>(.tup [(Af .i64) x.1,Av x.2]:AV))<|Ai h
   refine Z<|Ac<|O<|O<|Aa<|Am h (fun b h=>?_) fun b h=>?_
   refine Z<|B0<|O<|O<|O<|O<|O<|O<|A6 (s:=36) h (fun b h=>?_) fun b h=>?_
   refine Ag<|Ag<|Ag<|O<|O<|A6 (s:=41) h (fun b h=>?_) fun b h=>?_
   exact Ag<|Ag<|Ag<|Ax (f:=Bw) (l:=a2.Kids) (Cu _)<|Ag<|O<|O<|O<|Aa<|Bj.mk (by kernel_rfl)<|Ak<|congrArg (fun x:(Int×Bool)=>(.tup [(Af .i64) x.1,Av x.2]:AV))<|Ai h
   exact Ad<|Ad<|Ad<|Ad<|O<|O<|O<|Aa<|Bj.mk (by kernel_rfl)<|Ak<|congrArg (fun x:(Int×Bool)=>(.tup [(Af .i64) x.1,Av x.2]:AV))<|Ai h
   exact Ad<|Ad<|Ad<|O<|O<|Ad<|Ad<|Ad<|Ad<|O<|O<|O<|Aa<|Bj.mk (by kernel_rfl)<|Ak<|congrArg (fun x:(Int×Bool)=>(.tup [(Af .i64) x.1,Av x.2]:AV))<|Ai h
   refine Z<|Ac<|O<|O<|Aa<|Am h (fun b h=>?_) fun b h=>?_
   refine Z<|Z<|Ac<|O<|O<|O<|Aa<|Am h (fun b h=>?_) fun b h=>?_
   exact Z<|Ac<|O<|O<|Aa<|Ak<|congrArg (fun x:(Int×Bool)=>(.tup [(Af .i64) x.1,Av x.2]:AV))<|Ai h
   refine An<|Z<|Ac<|O<|Aa<|Z<|Z<|Ac<|O<|O<|O<|Ax (f:=Bw) (l:=a2.Kids) (Cu _)<|O<|Aa<|Ay<|Bn h (fun (v8,v9)=>[(6,(Af .i64 0)),(7,(Av false)),(8,(Af .i64 v8)),(55,(Af .i64 v9))]) (fun (v8,v9)=>[]) (fun _=>True) (fun _=>rfl) ⟨rfl,rfl,rfl,rfl,Ae⟩ ⟨Ah,Ah,Ae⟩ Ae ?_
   rintro ⟨v8,v9⟩ D I u j i hn1 _
   refine Z<|Ac<|O<|Aa<|Z<|Am j (fun b h=>?_) fun b h=>?_
   refine An<|Z<|Ay<|Z<|Ac<|O<|A7 (f:=Bw) (Cu _) h fun E v10 i10 B h=>O<|O<|O<|Aa<|Z<|Ac<|O<|O<|O<|O<|O<|Aq h fun v12 z h=>As.mk _ (Aoq (a0:=a0) (a1:=a1) (a2:=v10.Num) z) rfl<|O<|O<|O<|O ?_
   refine O<|Aa<|Z<|Z<|Ac<|O<|O<|Aa<|Am h (fun b h=>?_) fun b h=>?_
   refine Z<|Ac<|O<|O<|Aa<|Ak ?_
   have h:=i _ (Ai h)
   exact congrArg (fun x:(Int×Bool)=>(.tup [(Af .i64) x.1,Av x.2]:AV))<|Ai h
   refine An<|Z<|Ac<|O<|O<|O<|O<|O<|Aq h fun v13 y h=>As.mk _ (c (a0:=a0) (a1:=v12.1) (a2:=v10.Kids) y) rfl<|O<|O<|O<|O<|O<|Aa<|Z<|Ac<|O<|O<|O<|Aw.mk _ rfl<|O<|Aw.mk _ rfl ?_
   refine O<|Aa<|Z<|Ac<|O<|O<|O<|A6 (s:=83) h (fun b h=>?_) fun b h=>?_
   refine Ad<|Ad<|O<|Aa<|Dd<|Z<|Ac<|O<|O<|Aa<|Ak ?_
   have h:=i _ (Ai h)
   exact congrArg (fun x:(Int×Bool)=>(.tup [(Af .i64) x.1,Av x.2]:AV))<|Ai h
   refine Ag<|Ag<|O<|Aa<|Am h (fun b h=>?_) fun b h=>?_
   refine Z<|Ac<|O<|O<|Aa<|Ak ?_
   have h:=i _ (Ai h)
   exact congrArg (fun x:(Int×Bool)=>(.tup [(Af .i64) x.1,Av x.2]:AV))<|Ai h
   exact An<|Ac<|O<|Aw.mk _ rfl<|O<|Aa<|hn1 _ _ _ _ (Ai h) ⟨rfl,rfl,rfl,rfl,Ae⟩ ⟨Ah,Ah,Ae⟩ Ae
   refine Bh<|Bg rfl ?_
   have h:=i _ (Ai h)
   exact Z<|Ac<|O<|O<|O<|Aa<|Ak<|congrArg (fun x:(Int×Bool)=>(.tup [(Af .i64) x.1,Av x.2]:AV))<|Ai h
   refine An<|Z<|B0<|O<|O<|O<|O<|A6 (s:=92) h (fun b h=>?_) fun b h=>?_
   exact Ag<|Ag<|Ag<|Ax (f:=Bw) (l:=a2.Kids) (Cu _)<|Ag<|O<|O<|O<|Aa<|Bj.mk (by kernel_rfl)<|Ak<|congrArg (fun x:(Int×Bool)=>(.tup [(Af .i64) x.1,Av x.2]:AV))<|Ai h
   exact Ad<|Ad<|Ad<|Ad<|O<|O<|O<|Aa<|Bj.mk (by kernel_rfl)<|Ak<|congrArg (fun x:(Int×Bool)=>(.tup [(Af .i64) x.1,Av x.2]:AV))<|Ai h
  .intro a0 a1 a2 r h
   unfold Lx at h
   refine Bv Tryz.func233 rfl (by kernel_rfl) (by kernel_rfl) rfl ?_
   refine Z<|Ac<|O<|O<|Aa<|Z<|Z<|Ac<|O<|O<|Ax (f:=Ba) (l:=a1) (Bq _)<|O<|O<|Ax (f:=Bw) (l:=a2) (Cu _)<|O<|Aa<|Am h (fun b h=>?_) fun b h=>?_
   exact Z<|Ac<|O<|O<|Aa<|Ak<|congrArg (fun x:(Int×Bool)=>(.tup [(Af .i64) x.1,Av x.2]:AV))<|Ai h
   refine An<|Z<|Ac<|O<|Aa<|Z<|Z<|Ac<|O<|O<|Ax (f:=Ba) (l:=a1) (Bq _)<|O<|Aa<|Ay<|Bn h (fun (v5,q)=>[(6,(Af .i64 0)),(7,(Av false)),(8,(Af .i64 v5)),(20,(Af .i64 q))]) (fun (v5,q)=>[]) (fun _=>True) (fun _=>rfl) ⟨rfl,rfl,rfl,rfl,Ae⟩ Ae Ae ?_
   rintro ⟨v5,q⟩ D I u j i hn1 _
   refine Z<|Ac<|O<|Aa<|Z<|Am j (fun b h=>?_) fun b h=>?_
   refine An<|Z<|Ay<|Z<|Ac<|O<|O<|A7 (f:=Ba) (Bq _) h fun N v7 i7 L h=>O<|O<|O<|O<|Aa<|Z<|B0<|O<|O<|O<|O<|O<|A7 (f:=Bw) (Cu _) h fun M v9 i9 J h=>O<|O<|Aq h fun v10 A h=>?_
   refine As.mk _ (g (a0:=a0) (a1:=v7) (a2:=v9) A) rfl<|O<|O<|O<|O<|O<|Aa<|Bj.mk (by kernel_rfl)<|Z<|Z<|Ac<|O<|O<|Aa<|Am h (fun b h=>?_) fun b h=>?_
   refine Z<|Ac<|O<|O<|Aa<|Ak ?_
   have h:=i _ (Ai h)
   exact congrArg (fun x:(Int×Bool)=>(.tup [(Af .i64) x.1,Av x.2]:AV))<|Ai h
   exact An<|Ac<|O<|O<|O<|Aw.mk _ rfl<|O<|Aa<|Ac<|O<|Aw.mk _ rfl<|O<|Aa<|hn1 _ _ _ _ (Ai h) ⟨rfl,rfl,rfl,rfl,Ae⟩ Ae Ae
   refine Bh<|Bg rfl ?_
   have h:=i _ (Ai h)
   exact Z<|Ac<|O<|O<|O<|O<|O<|Aa<|Ak<|congrArg (fun x:(Int×Bool)=>(.tup [(Af .i64) x.1,Av x.2]:AV))<|Ai h
theorem Aor {k:Nat} {a0:(List A5)} {a1:Ao} {a2:Be} {r:(Int×Bool)} (h:Ke k a0 a1 a2=some r):Bb Tryz.prog 159 [(A2 3 Bf) a0,Ba (Ao.mk a1.Kind a1.Num a1.Args),Bw (Be.mk a2.Num a2.Kids)] (.tup [(Af .i64) r.1,Av r.2]):=(Af2 k).1 _ _ _ _ h
theorem Aos {a0:(List A5)} {r:Bool} (h:Xh a0=some r):Bb Tryz.prog 185 [Qu (Hk.mk a0 [] [] [])] (Av r):=by
 unfold Xh at h
 refine Bv Tryz.func185 rfl (by kernel_rfl) (by kernel_rfl) rfl ?_
 refine Z<|Ac<|O<|O<|Aa<|Z<|Ac<|O<|O<|O<|Ax (f:=Ba) (l:=[]) (Bq _)<|O<|Gx (f:=Av) (z:=(false:Bool)) rfl h fun u h=>O<|O<|Aa<|Z<|Ac<|O<|O<|Aa<|Z<|Ac<|O ?_
 refine O<|Aa<|Z<|Z<|Ac<|O<|O<|O<|Ax (f:=Il) (l:=[]) rfl<|O<|Aa<|Ay<|Bn h (fun _=>[(2,(Av false)),(20,(Af .i64 0))]) (fun _=>[]) (fun _=>True) (fun _=>rfl) ⟨rfl,rfl,Ae⟩ ⟨Ah,Ah,Ah,Ah,Ae⟩ Ae ?_
 rintro _ s y k i c hn1 _
 refine Z<|Ac<|O<|Aa<|Z<|Fg<|Bh<|Bg rfl ?_
 have h:=c _ (Ai i)
 refine Z<|Z<|Ac<|O<|O<|O<|Ax (f:=Jd) (l:=[]) rfl<|O<|Aa<|Ay<|Bn h (fun _=>[(2,(Av false)),(40,(Af .i64 0))]) (fun _=>[]) (fun _=>True) (fun _=>rfl) ⟨rfl,rfl,Ae⟩ ⟨Ah,Ah,Ah,Ah,Ae⟩ Ae ?_
 rintro _ q x j g b hn2 _
 refine Z<|Ac<|O<|Aa<|Z<|Fg<|Bh<|Bg rfl ?_
 have h:=b _ (Ai g)
 exact Z<|Ac<|O<|O<|O<|O<|Ax (f:=Ba) (l:=[]) (Bq _)<|O<|O<|Aa<|Ak<|A3 h
theorem Aot {a0:(List A5)} {r:Bool} (h:Xf a0=some r):Bb Tryz.prog 183 [Qu (Hk.mk a0 [] [] [])] (Av r):=by
 unfold Xf at h
 refine Bv Tryz.func183 rfl (by kernel_rfl) (by kernel_rfl) rfl ?_
 refine Z<|Ac<|O<|O<|Aa<|Z<|Z<|Ac<|O<|O<|O<|Ax (f:=Il) (l:=[]) rfl<|O<|O<|Ag<|Ag<|Ag<|Ax (f:=Jd) (l:=[]) rfl<|Ag<|O<|Aa<|Fg<|An<|Z ?_
 refine Ac<|O<|O<|Aa<|Z<|Ac<|O<|Aa<|Z<|Z<|Ac<|O<|O<|O<|Ax (f:=Il) (l:=[]) rfl<|O<|Aa<|Ay<|Bn h (fun _=>[(2,(Av false)),(4,(Av false)),(21,(Af .i64 0))]) (fun _=>[]) (fun _=>True) (fun _=>rfl) ⟨rfl,rfl,rfl,Ae⟩ ⟨Ah,Ah,Ae⟩ Ae ?_
 rintro _ i j g c b hn1 _
 refine Z<|Ac<|O<|Aa<|Z<|Fg<|Bh<|Bg rfl ?_
 have h:=b _ (Ai c)
 exact Z<|Ac<|O<|Aa<|Ak<|A3 h
theorem Aou {a0:Int} {r:Bool} (h:S5 a0=some r):Bb Tryz.prog 324 [(Af .u8) a0] (Av r):=by
 unfold S5 at h
 refine Bv Tryz.func324 rfl (by kernel_rfl) (by kernel_rfl) rfl ?_
 refine Z<|Ac<|O<|Aa<|Z<|Ac<|O<|O<|O<|A6 (s:=5) h (fun b h=>?_) fun b h=>?_
 exact Ad<|Ad<|O<|O<|Ad<|Ad<|O<|O<|Ad<|Ad<|O<|O<|Aa<|Ak<|A3 h
 refine Ag<|Ag<|O<|O<|A6 (s:=9) h (fun b h=>?_) fun b h=>?_
 exact Ad<|Ad<|O<|O<|Ad<|Ad<|O<|O<|Aa<|Ak<|A3 h
 refine Ag<|Ag<|O<|O<|A6 (s:=13) h (fun b h=>?_) fun b h=>?_
 exact Ad<|Ad<|O<|O<|Aa<|Ak<|A3 h
 exact Ag<|Ag<|O<|O<|Aa<|Ak<|A3 h
end Go.Ab
namespace Go.Ab
open Go Go.Proofs
set_option maxRecDepth 10000
theorem Aov {a0:ByteArray} {r:Bool} (h:S8 a0=some r):Bb Tryz.prog 346 [Co a0] (Av r):=by
 unfold S8 at h
 refine Bv Tryz.func346 rfl (by kernel_rfl) (by kernel_rfl) rfl ?_
 refine Z<|Ac<|O<|Aa<|Z<|Z<|Ac<|O<|Aa<|Ay<|Z<|Z<|Ac<|O<|O<|Aa<|Am h (fun b h=>?_) fun b h=>?_
 refine An<|Am h (fun b h=>?_) fun b h=>?_
 exact Z<|Ac<|O<|Aa<|Ak<|A3 h
 exact An<|Z<|Ac<|O<|Aa<|Ak<|A3 h
 refine Z<|Ac<|O<|O<|Aa<|Am h (fun b h=>?_) fun b h=>?_
 refine An<|Am h (fun b h=>?_) fun b h=>?_
 exact Z<|Ac<|O<|Aa<|Ak<|A3 h
 exact An<|Z<|Ac<|O<|Aa<|Ak<|A3 h
 refine Z<|Ac<|O<|O<|Aa<|Am h (fun b h=>?_) fun b h=>?_
 refine An<|Am h (fun b h=>?_) fun b h=>?_
 exact Z<|Ac<|O<|Aa<|Ak<|A3 h
 exact An<|Z<|Ac<|O<|Aa<|Ak<|A3 h
 refine Z<|Ac<|O<|O<|Aa<|Am h (fun b h=>?_) fun b h=>?_
 refine An<|Am h (fun b h=>?_) fun b h=>?_
 exact Z<|Ac<|O<|Aa<|Ak<|A3 h
 exact An<|Z<|Ac<|O<|Aa<|Ak<|A3 h
 refine Z<|Ac<|O<|O<|Aa<|Am h (fun b h=>?_) fun b h=>?_
 refine An<|Am h (fun b h=>?_) fun b h=>?_
 exact Z<|Ac<|O<|Aa<|Ak<|A3 h
 exact An<|Z<|Ac<|O<|Aa<|Ak<|A3 h
 refine Z<|Ac<|O<|O<|Aa<|Am h (fun b h=>?_) fun b h=>?_
 refine An<|Am h (fun b h=>?_) fun b h=>?_
 exact Z<|Ac<|O<|Aa<|Ak<|A3 h
 exact An<|Z<|Ac<|O<|Aa<|Ak<|A3 h
 refine Z<|Ac<|O<|O<|Aa<|Am h (fun b h=>?_) fun b h=>?_
 refine An<|Am h (fun b h=>?_) fun b h=>?_
 exact Z<|Ac<|O<|Aa<|Ak<|A3 h
 exact An<|Z<|Ac<|O<|Aa<|Ak<|A3 h
 refine Z<|Ac<|O<|O<|Aa<|Am h (fun b h=>?_) fun b h=>?_
 refine An<|Am h (fun b h=>?_) fun b h=>?_
 exact Z<|Ac<|O<|Aa<|Ak<|A3 h
 exact An<|Z<|Ac<|O<|Aa<|Ak<|A3 h
 refine Z<|Ac<|O<|O<|Aa<|Am h (fun b h=>?_) fun b h=>?_
 refine An<|Am h (fun b h=>?_) fun b h=>?_
 exact Z<|Ac<|O<|Aa<|Ak<|A3 h
 exact An<|Z<|Ac<|O<|Aa<|Ak<|A3 h
 refine Z<|Ac<|O<|O<|Aa<|Am h (fun b h=>?_) fun b h=>?_
 refine An<|Am h (fun b h=>?_) fun b h=>?_
 exact Z<|Ac<|O<|Aa<|Ak<|A3 h
 exact An<|Z<|Ac<|O<|Aa<|Ak<|A3 h
 refine Z<|Ac<|O<|O<|Aa<|Am h (fun b h=>?_) fun b h=>?_
 refine An<|Am h (fun b h=>?_) fun b h=>?_
 exact Z<|Ac<|O<|Aa<|Ak<|A3 h
 exact An<|Z<|Ac<|O<|Aa<|Ak<|A3 h
 refine Z<|Ac<|O<|O<|Aa<|Am h (fun b h=>?_) fun b h=>?_
 refine An<|Am h (fun b h=>?_) fun b h=>?_
 exact Z<|Ac<|O<|Aa<|Ak<|A3 h
 exact An<|Z<|Ac<|O<|Aa<|Ak<|A3 h
 refine Z<|Ac<|O<|O<|Aa<|Am h (fun b h=>?_) fun b h=>?_
 refine An<|Am h (fun b h=>?_) fun b h=>?_
 exact Z<|Ac<|O<|Aa<|Ak<|A3 h
 exact An<|Z<|Ac<|O<|Aa<|Ak<|A3 h
 refine Z<|Ac<|O<|O<|Aa<|Am h (fun b h=>?_) fun b h=>?_
 refine An<|Am h (fun b h=>?_) fun b h=>?_
 exact Z<|Ac<|O<|Aa<|Ak<|A3 h
 exact An<|Z<|Ac<|O<|Aa<|Ak<|A3 h
 refine Z<|Ac<|O<|O<|Aa<|Am h (fun b h=>?_) fun b h=>?_
 refine An<|Am h (fun b h=>?_) fun b h=>?_
 exact Z<|Ac<|O<|Aa<|Ak<|A3 h
 exact An<|Z<|Ac<|O<|Aa<|Ak<|A3 h
 refine Z<|Ac<|O<|O<|Aa<|Am h (fun b h=>?_) fun b h=>?_
 refine An<|Am h (fun b h=>?_) fun b h=>?_
 exact Z<|Ac<|O<|Aa<|Ak<|A3 h
 exact An<|Z<|Ac<|O<|Aa<|Ak<|A3 h
 refine Z<|Ac<|O<|O<|Aa<|Am h (fun b h=>?_) fun b h=>?_
 refine An<|Am h (fun b h=>?_) fun b h=>?_
 exact Z<|Ac<|O<|Aa<|Ak<|A3 h
 exact An<|Z<|Ac<|O<|Aa<|Ak<|A3 h
 refine Z<|Ac<|O<|O<|Aa<|Am h (fun b h=>?_) fun b h=>?_
 refine An<|Am h (fun b h=>?_) fun b h=>?_
 exact Z<|Ac<|O<|Aa<|Ak<|A3 h
 exact An<|Z<|Ac<|O<|Aa<|Ak<|A3 h
 refine Z<|Ac<|O<|O<|Aa<|Am h (fun b h=>?_) fun b h=>?_
 refine An<|Am h (fun b h=>?_) fun b h=>?_
 exact Z<|Ac<|O<|Aa<|Ak<|A3 h
 exact An<|Z<|Ac<|O<|Aa<|Ak<|A3 h
 refine Z<|Ac<|O<|O<|Aa<|Am h (fun b h=>?_) fun b h=>?_
 refine An<|Am h (fun b h=>?_) fun b h=>?_
 exact Z<|Ac<|O<|Aa<|Ak<|A3 h
 exact An<|Z<|Ac<|O<|Aa<|Ak<|A3 h
 refine Z<|Ac<|O<|O<|Aa<|Am h (fun b h=>?_) fun b h=>?_
 refine An<|Am h (fun b h=>?_) fun b h=>?_
 exact Z<|Ac<|O<|Aa<|Ak<|A3 h
 exact An<|Z<|Ac<|O<|Aa<|Ak<|A3 h
 refine Z<|Ac<|O<|O<|Aa<|Am h (fun b h=>?_) fun b h=>?_
 refine An<|Am h (fun b h=>?_) fun b h=>?_
 exact Z<|Ac<|O<|Aa<|Ak<|A3 h
 exact An<|Z<|Ac<|O<|Aa<|Ak<|A3 h
 refine Z<|Ac<|O<|O<|Aa<|Am h (fun b h=>?_) fun b h=>?_
 refine An<|Am h (fun b h=>?_) fun b h=>?_
 exact Z<|Ac<|O<|Aa<|Ak<|A3 h
 exact An<|Z<|Ac<|O<|Aa<|Ak<|A3 h
 refine Z<|Ac<|O<|O<|Aa<|Am h (fun b h=>?_) fun b h=>?_
 refine An<|Am h (fun b h=>?_) fun b h=>?_
 exact Z<|Ac<|O<|Aa<|Ak<|A3 h
 exact An<|Z<|Ac<|O<|Aa<|Ak<|A3 h
 refine Z<|Ac<|O<|O<|Aa<|Am h (fun b h=>?_) fun b h=>?_
 refine An<|Am h (fun b h=>?_) fun b h=>?_
 exact Z<|Ac<|O<|Aa<|Ak<|A3 h
 exact An<|Z<|Ac<|O<|Aa<|Ak<|A3 h
 refine Z<|Ac<|O<|O<|Aa<|Am h (fun b h=>?_) fun b h=>?_
 refine An<|Am h (fun b h=>?_) fun b h=>?_
 exact Z<|Ac<|O<|Aa<|Ak<|A3 h
 exact An<|Z<|Ac<|O<|Aa<|Ak<|A3 h
 refine Z<|Ac<|O<|O<|Aa<|Am h (fun b h=>?_) fun b h=>?_
 refine An<|Am h (fun b h=>?_) fun b h=>?_
 exact Z<|Ac<|O<|Aa<|Ak<|A3 h
 exact An<|Z<|Ac<|O<|Aa<|Ak<|A3 h
 refine Ac<|O<|O<|Aa<|Am h (fun b h=>?_) fun b h=>?_
 exact Z<|Ac<|O<|Aa<|Ak<|A3 h
 exact An<|Z<|Ac<|O<|Aa<|Ak<|A3 h
theorem Aa8 {a0:Int} {r:Bool} (h:Mw a0=some r):Bb Tryz.prog 347 [(Af .u8) a0] (Av r):=by
 unfold Mw at h
 refine Bv Tryz.func347 rfl (by kernel_rfl) (by kernel_rfl) rfl ?_
 refine Z<|Ac<|O<|Aa<|Z<|Ac<|O<|O<|O<|A6 (s:=5) h (fun b h=>?_) fun b h=>?_
 exact Ag<|Ag<|O<|O<|Aa<|Ak<|A3 h
 exact Ad<|Ad<|O<|O<|Aa<|Ak<|A3 h
theorem Af3 {a0:Int} {r:Bool} (h:Qs a0=some r):Bb Tryz.prog 342 [(Af .u8) a0] (Av r):=by
 unfold Qs at h
 refine Bv Tryz.func342 rfl (by kernel_rfl) (by kernel_rfl) rfl ?_
 refine Z<|Ac<|O<|Aa<|Z<|Ac<|O<|O<|O<|A6 (s:=5) h (fun b h=>?_) fun b h=>?_
 exact Ag<|Ag<|O<|O<|Aa<|Ak<|A3 h
 exact Ad<|Ad<|O<|O<|Aa<|Ak<|A3 h
theorem Aa9 {a0:Int} {r:Bool} (h:N9 a0=some r):Bb Tryz.prog 343 [(Af .u8) a0] (Av r):=by
 unfold N9 at h
 refine Bv Tryz.func343 rfl (by kernel_rfl) (by kernel_rfl) rfl ?_
 refine Z<|Ac<|O<|Aa<|Z<|Ac<|O<|O<|O<|A6 (s:=5) h (fun b h=>?_) fun b h=>?_
 exact Ag<|Ag<|O<|O<|Aa<|Ak<|A3 h
 exact Ad<|Ad<|O<|O<|Aa<|Ak<|A3 h
theorem Aow {a0:Int} {r:Bool} (h:Qt a0=some r):Bb Tryz.prog 345 [(Af .u8) a0] (Av r):=by
 unfold Qt at h
 refine Bv Tryz.func345 rfl (by kernel_rfl) (by kernel_rfl) rfl ?_
 refine Z<|Ac<|O<|Aa<|Z<|Ac<|O<|O<|Aq h fun i g h=>As.mk _ (Af3 (a0:=a0) g) rfl<|O<|A6 (s:=5) h (fun b h=>?_) fun b h=>?_
 exact Ad<|Ad<|O<|O<|Ad<|Ad<|O<|O<|Ad<|Ad<|O<|O<|Aa<|Ak<|A3 h
 refine Ag<|Ag<|Aq h fun v2 f h=>As.mk _ (Aa9 (a0:=a0) f) rfl<|O<|O<|A6 (s:=9) h (fun b h=>?_) fun b h=>?_
 exact Ad<|Ad<|O<|O<|Ad<|Ad<|O<|O<|Aa<|Ak<|A3 h
 refine Ag<|Ag<|Aq h fun v3 c h=>As.mk _ (Aa8 (a0:=a0) c) rfl<|O<|O<|A6 (s:=13) h (fun b h=>?_) fun b h=>?_
 exact Ad<|Ad<|O<|O<|Aa<|Ak<|A3 h
 exact Ag<|Ag<|O<|O<|Aa<|Ak<|A3 h
theorem Aox {a0:ByteArray} {r:ByteArray} (h:S7 a0=some r):Bb Tryz.prog 344 [Co a0,(.fn 345 [])] (Co r):=by
 unfold S7 at h
 refine Bv Tryz.func344 rfl (by kernel_rfl) (by kernel_rfl) rfl ?_
 refine Z<|Ac<|O<|Aa<|Z<|Ac<|O<|Aa<|Z<|Ay<|Bn h (fun v3=>[(5,(Af .i64 v3))]) (fun v3=>[]) (fun _=>True) (fun _=>rfl) ⟨rfl,Ae⟩ Ae Ae ?_
 rintro v3 q u j i c hn1 _
 refine Z<|Z<|Ac<|O<|O<|O<|O<|O<|A6 (s:=10) i (fun b h=>?_) fun b h=>?_
 refine Ag<|Ag<|Ag<|Ag<|Ha h fun l h=>Ag<|Aq h fun v5 k h=>As.mk _ (Aow (a0:=(l.toNat:Int)) k) rfl<|O<|Aa<|Am h (fun b h=>?_) fun b h=>?_
 exact An<|Ay<|Ac<|O<|O<|Aw.mk _ rfl<|O<|Aa<|hn1 _ _ _ _ (Ai h) ⟨rfl,Ae⟩ Ae Ae
 refine Bh<|Bg rfl ?_
 have h:=c _ (Ai h)
 exact Z<|Ac<|O<|O<|O<|Eg h fun g f _ _ h=>O<|Aa<|Ak<|congrArg (fun x:ByteArray=>(Co x:AV))<|Ai h
 refine Ad<|Ad<|Ad<|Ad<|Ad<|O<|Aa<|Fg<|Bh<|Bg rfl ?_
 have h:=c _ (Ai h)
 exact Z<|Ac<|O<|O<|O<|Eg h fun g f _ _ h=>O<|Aa<|Ak<|congrArg (fun x:ByteArray=>(Co x:AV))<|Ai h
theorem Aoy {a0:ByteArray} {r:ByteArray} (h:U9 a0=some r):Bb Tryz.prog 344 [Co a0,(.fn 347 [])] (Co r):=by
 unfold U9 at h
 refine Bv Tryz.func344 rfl (by kernel_rfl) (by kernel_rfl) rfl ?_
 refine Z<|Ac<|O<|Aa<|Z<|Ac<|O<|Aa<|Z<|Ay<|Bn h (fun v3=>[(5,(Af .i64 v3))]) (fun v3=>[]) (fun _=>True) (fun _=>rfl) ⟨rfl,Ae⟩ Ae Ae ?_
 rintro v3 q u j i c hn1 _
 refine Z<|Z<|Ac<|O<|O<|O<|O<|O<|A6 (s:=10) i (fun b h=>?_) fun b h=>?_
 refine Ag<|Ag<|Ag<|Ag<|Ha h fun l h=>Ag<|Aq h fun v5 k h=>As.mk _ (Aa8 (a0:=(l.toNat:Int)) k) rfl<|O<|Aa<|Am h (fun b h=>?_) fun b h=>?_
 exact An<|Ay<|Ac<|O<|O<|Aw.mk _ rfl<|O<|Aa<|hn1 _ _ _ _ (Ai h) ⟨rfl,Ae⟩ Ae Ae
 refine Bh<|Bg rfl ?_
 have h:=c _ (Ai h)
 exact Z<|Ac<|O<|O<|O<|Eg h fun g f _ _ h=>O<|Aa<|Ak<|congrArg (fun x:ByteArray=>(Co x:AV))<|Ai h
 refine Ad<|Ad<|Ad<|Ad<|Ad<|O<|Aa<|Fg<|Bh<|Bg rfl ?_
 have h:=c _ (Ai h)
 exact Z<|Ac<|O<|O<|O<|Eg h fun g f _ _ h=>O<|Aa<|Ak<|congrArg (fun x:ByteArray=>(Co x:AV))<|Ai h
theorem Aoz {a0:ByteArray} {r:ByteArray} (h:Ta a0=some r):Bb Tryz.prog 349 [Co a0] (Co r):=by
 unfold Ta at h
 refine Bv Tryz.func349 rfl (by kernel_rfl) (by kernel_rfl) rfl ?_
 refine Z<|Ac<|O<|Aa<|Z<|Z<|Ac<|O<|O<|O<|Aa<|Cd h fun f g c=>Ce (fun (x:Unit)=>(.inr x)=f) (fun _=>[(2,(Co<|ByteArray.mk #[]))]) (fun _=>[]) (fun _=>rfl) ?_ ?_
 intro K1 hK1
 refine Am g (fun b h=>?_) fun b h=>?_
 refine Z<|Ac<|O<|O<|Eg h fun ah a8 _ _ h=>Aa<|Ay<|Z<|Z<|Ac<|O<|O<|Aa<|Am h (fun b h=>?_) fun b h=>?_
 refine An<|Am h (fun b h=>?_) fun b h=>?_
 refine Z<|Ac<|O<|O<|Eg h fun ag a7 _ _ h=>O<|Aa<|Ak ?_
 have h:=c _ (Ai h)
 exact congrArg (fun x:ByteArray=>(Co x:AV))<|Ai h
 exact An<|hK1 () _ _ _ (Ai h) ⟨rfl,Ae⟩ Ae
 refine Z<|Ac<|O<|O<|Aa<|Am h (fun b h=>?_) fun b h=>?_
 refine An<|Am h (fun b h=>?_) fun b h=>?_
 refine Z<|Ac<|O<|O<|Eg h fun af a6 _ _ h=>O<|Aa<|Ak ?_
 have h:=c _ (Ai h)
 exact congrArg (fun x:ByteArray=>(Co x:AV))<|Ai h
 exact An<|hK1 () _ _ _ (Ai h) ⟨rfl,Ae⟩ Ae
 refine Ac<|O<|O<|Aa<|Am h (fun b h=>?_) fun b h=>?_
 refine Z<|Ac<|O<|O<|Eg h fun ae a1 _ _ h=>O<|Aa<|Ak ?_
 have h:=c _ (Ai h)
 exact congrArg (fun x:ByteArray=>(Co x:AV))<|Ai h
 exact An<|hK1 () _ _ _ (Ai h) ⟨rfl,Ae⟩ Ae
 exact An<|hK1 () _ _ _ (Ai h) ⟨rfl,Ae⟩ Ae
 rintro _ u1 i
 have h:=c _ i
 refine Z<|Z<|Ac<|O<|O<|Eg h fun ad Y _ _ h=>Aa<|Ay<|Z<|Z<|Ac<|O<|O<|Aa<|Am h (fun b h=>?_) fun b h=>?_
 refine An<|Am h (fun b h=>?_) fun b h=>?_
 exact Z<|Ac<|O<|O<|Eg h fun ac X _ _ h=>O<|Aa<|Ak<|congrArg (fun x:ByteArray=>(Co x:AV))<|Ai h
 exact An<|Z<|Ac<|O<|Aa<|Ak<|congrArg (fun x:ByteArray=>(Co x:AV))<|Ai h
 refine Z<|Ac<|O<|O<|Aa<|Am h (fun b h=>?_) fun b h=>?_
 refine An<|Am h (fun b h=>?_) fun b h=>?_
 exact Z<|Ac<|O<|O<|Eg h fun ab V _ _ h=>O<|Aa<|Ak<|congrArg (fun x:ByteArray=>(Co x:AV))<|Ai h
 exact An<|Z<|Ac<|O<|Aa<|Ak<|congrArg (fun x:ByteArray=>(Co x:AV))<|Ai h
 refine Z<|Ac<|O<|O<|Aa<|Am h (fun b h=>?_) fun b h=>?_
 refine An<|Am h (fun b h=>?_) fun b h=>?_
 exact Z<|Ac<|O<|O<|Eg h fun aa U _ _ h=>O<|Aa<|Ak<|congrArg (fun x:ByteArray=>(Co x:AV))<|Ai h
 exact An<|Z<|Ac<|O<|Aa<|Ak<|congrArg (fun x:ByteArray=>(Co x:AV))<|Ai h
 refine Z<|Ac<|O<|O<|Aa<|Am h (fun b h=>?_) fun b h=>?_
 refine An<|Am h (fun b h=>?_) fun b h=>?_
 exact Z<|Ac<|O<|O<|Eg h fun S B _ _ h=>O<|Aa<|Ak<|congrArg (fun x:ByteArray=>(Co x:AV))<|Ai h
 exact An<|Z<|Ac<|O<|Aa<|Ak<|congrArg (fun x:ByteArray=>(Co x:AV))<|Ai h
 refine Z<|Ac<|O<|O<|Aa<|Am h (fun b h=>?_) fun b h=>?_
 refine An<|Am h (fun b h=>?_) fun b h=>?_
 exact Z<|Ac<|O<|O<|Eg h fun R A _ _ h=>O<|Aa<|Ak<|congrArg (fun x:ByteArray=>(Co x:AV))<|Ai h
 exact An<|Z<|Ac<|O<|Aa<|Ak<|congrArg (fun x:ByteArray=>(Co x:AV))<|Ai h
 refine Z<|Ac<|O<|O<|Aa<|Am h (fun b h=>?_) fun b h=>?_
 refine An<|Am h (fun b h=>?_) fun b h=>?_
 exact Z<|Ac<|O<|O<|Eg h fun N z _ _ h=>O<|Aa<|Ak<|congrArg (fun x:ByteArray=>(Co x:AV))<|Ai h
 exact An<|Z<|Ac<|O<|Aa<|Ak<|congrArg (fun x:ByteArray=>(Co x:AV))<|Ai h
 refine Z<|Ac<|O<|O<|Aa<|Am h (fun b h=>?_) fun b h=>?_
 refine An<|Am h (fun b h=>?_) fun b h=>?_
 exact Z<|Ac<|O<|O<|Eg h fun M y _ _ h=>O<|Aa<|Ak<|congrArg (fun x:ByteArray=>(Co x:AV))<|Ai h
 exact An<|Z<|Ac<|O<|Aa<|Ak<|congrArg (fun x:ByteArray=>(Co x:AV))<|Ai h
 refine Z<|Ac<|O<|O<|Aa<|Am h (fun b h=>?_) fun b h=>?_
 refine An<|Am h (fun b h=>?_) fun b h=>?_
 exact Z<|Ac<|O<|O<|Eg h fun L u _ _ h=>O<|Aa<|Ak<|congrArg (fun x:ByteArray=>(Co x:AV))<|Ai h
 exact An<|Z<|Ac<|O<|Aa<|Ak<|congrArg (fun x:ByteArray=>(Co x:AV))<|Ai h
 refine Z<|Ac<|O<|O<|Aa<|Am h (fun b h=>?_) fun b h=>?_
 refine An<|Am h (fun b h=>?_) fun b h=>?_
 exact Z<|Ac<|O<|O<|Eg h fun J s _ _ h=>O<|Aa<|Ak<|congrArg (fun x:ByteArray=>(Co x:AV))<|Ai h
 exact An<|Z<|Ac<|O<|Aa<|Ak<|congrArg (fun x:ByteArray=>(Co x:AV))<|Ai h
 refine Z<|Ac<|O<|O<|Aa<|Am h (fun b h=>?_) fun b h=>?_
 refine An<|Am h (fun b h=>?_) fun b h=>?_
 exact Z<|Ac<|O<|O<|Eg h fun I q _ _ h=>O<|Aa<|Ak<|congrArg (fun x:ByteArray=>(Co x:AV))<|Ai h
 exact An<|Z<|Ac<|O<|Aa<|Ak<|congrArg (fun x:ByteArray=>(Co x:AV))<|Ai h
 refine Z<|Ac<|O<|O<|Aa<|Am h (fun b h=>?_) fun b h=>?_
 refine An<|Am h (fun b h=>?_) fun b h=>?_
 exact Z<|Ac<|O<|O<|Eg h fun G l _ _ h=>O<|Aa<|Ak<|congrArg (fun x:ByteArray=>(Co x:AV))<|Ai h
 exact An<|Z<|Ac<|O<|Aa<|Ak<|congrArg (fun x:ByteArray=>(Co x:AV))<|Ai h
 refine Z<|Ac<|O<|O<|Aa<|Am h (fun b h=>?_) fun b h=>?_
 refine An<|Am h (fun b h=>?_) fun b h=>?_
 exact Z<|Ac<|O<|O<|Eg h fun E k _ _ h=>O<|Aa<|Ak<|congrArg (fun x:ByteArray=>(Co x:AV))<|Ai h
 exact An<|Z<|Ac<|O<|Aa<|Ak<|congrArg (fun x:ByteArray=>(Co x:AV))<|Ai h
 refine Ac<|O<|O<|Aa<|Am h (fun b h=>?_) fun b h=>?_
 exact Z<|Ac<|O<|O<|Eg h fun D j _ _ h=>O<|Aa<|Ak<|congrArg (fun x:ByteArray=>(Co x:AV))<|Ai h
 exact An<|Z<|Ac<|O<|Aa<|Ak<|congrArg (fun x:ByteArray=>(Co x:AV))<|Ai h
theorem Ao0 {a0:ByteArray} {r:Bool} (h:S9 a0=some r):Bb Tryz.prog 348 [Co a0] (Av r):=by
 unfold S9 at h
 refine Bv Tryz.func348 rfl (by kernel_rfl) (by kernel_rfl) rfl ?_
 refine Z<|Ac<|O<|Aa<|Z<|Ac<|O<|Aa<|Z<|Z<|Ac<|O<|O<|O<|Aa<|Ay<|Bn h (fun (v2,v3)=>[(2,(Av false)),(3,(Af .i64 v2)),(7,(Af .i64 v3))]) (fun (v2,v3)=>[]) (fun _=>True) (fun _=>rfl) ⟨rfl,rfl,rfl,Ae⟩ Ae Ae ?_
 rintro ⟨v2,v3⟩ i k g f c hn1 _
 refine Z<|Ac<|O<|Aa<|Z<|Am f (fun b h=>?_) fun b h=>?_
 refine An<|Z<|Ay<|Z<|Ac<|O<|O<|Aa<|Z<|Ac<|O<|O<|Aw.mk _ rfl<|O<|O<|O<|Ha h fun j h=>O<|Aw.mk _ rfl<|O<|Aw.mk _ rfl<|O<|Aw.mk _ rfl<|O ?_
 refine Aa<|Z<|Ac<|O<|O<|Aa<|Am h (fun b h=>?_) fun b h=>?_
 refine Z<|Ac<|O<|Aa<|Ak ?_
 have h:=c _ (Ai h)
 exact A3 h
 exact An<|Ac<|O<|Aw.mk _ rfl<|O<|Aa<|hn1 _ _ _ _ (Ai h) ⟨rfl,rfl,rfl,Ae⟩ Ae Ae
 refine Bh<|Bg rfl ?_
 have h:=c _ (Ai h)
 exact Z<|Ac<|O<|Aa<|Ak<|A3 h
theorem Ao1 {a0:ByteArray} {a1:Int} {r:(Eu×Int)} (h:S6 a0 a1=some r):Bb Tryz.prog 325 [Co a0,(Af .i64) a1] (.tup [Ft r.1,(Af .i64) r.2]):=by
 unfold S6 at h
 refine Bv Tryz.func325 rfl (by kernel_rfl) (by kernel_rfl) rfl ?_
 refine Z<|Ac<|O<|O<|Aa<|Z<|Ac<|O<|O<|O<|O<|Aa<|Z<|Z<|Ac<|O<|O<|O<|Ha h fun l h=>O<|Aa<|Ay<|Z<|Cd h fun y B E=>?_
 refine Ce (fun (f:Bool)=>f=y) (fun f=>[(23,(Av f))]) (fun f=>[]) (fun _=>rfl) ?_ ?_
 intro K1 hK1
 refine Ac<|O<|O<|Aq B fun v4 Y h=>As.mk _ (Af3 (a0:=(l.toNat:Int)) Y) rfl<|O<|A6 (s:=26) h (fun b h=>?_) fun b h=>?_
 exact Ad<|Ad<|O<|O<|Aa<|hK1 true _ _ _ (Ai h) ⟨rfl,Ae⟩ ⟨Ah,Ah,Ae⟩
 exact Ag<|Ag<|Aq h fun v5 X h=>As.mk _ (Aa9 (a0:=(l.toNat:Int)) X) rfl<|O<|O<|Aa<|hK1 v5 _ _ _ (Ai h) ⟨rfl,Ae⟩ ⟨Ah,Ah,Ae⟩
 rintro f u1 I
 have h:=E _ I
 refine Am h (fun b h=>?_) fun b h=>?_
 refine Z<|Ac<|O<|O<|O<|Eg h fun z q _ _ h=>O<|Aq h fun v8 V h=>As.mk _ (Aox (a0:=(a0.extract z q)) V) rfl<|O<|O<|Aa<|Ay<|Z<|Ac<|O<|O<|O<|O<|O<|Aa<|Am h (fun b h=>?_) fun b h=>?_
 exact Z<|Ac<|O<|O<|O<|Aa<|Ak<|congrArg (fun x:(Eu×Int)=>(.tup [Ft x.1,(Af .i64) x.2]:AV))<|Ai h
 refine Z<|Ac<|O<|O<|Aq h fun v9 U h=>As.mk _ (Aa9 (a0:=(l.toNat:Int)) U) rfl<|O<|Aa<|Am h (fun b h=>?_) fun b h=>?_
 exact Ac<|O<|O<|Aa<|Z<|Ac<|O<|O<|O<|Aa<|Ak<|congrArg (fun x:(Eu×Int)=>(.tup [Ft x.1,(Af .i64) x.2]:AV))<|Ai h
 refine Z<|Ac<|O<|O<|O<|Aq h fun v10 R h=>As.mk _ (Aov (a0:=v8) R) rfl<|O<|Aa<|Am h (fun b h=>?_) fun b h=>?_
 exact Ac<|O<|O<|Aa<|Z<|Ac<|O<|O<|O<|Aa<|Ak<|congrArg (fun x:(Eu×Int)=>(.tup [Ft x.1,(Af .i64) x.2]:AV))<|Ai h
 exact Ac<|O<|O<|Aa<|Z<|Ac<|O<|O<|O<|Aa<|Ak<|congrArg (fun x:(Eu×Int)=>(.tup [Ft x.1,(Af .i64) x.2]:AV))<|Ai h
 refine Z<|Ac<|O<|O<|Aq h fun S N h=>As.mk _ (Aa8 (a0:=(l.toNat:Int)) N) rfl<|O<|Aa<|Am h (fun b h=>?_) fun b h=>?_
 refine Z<|Ac<|O<|O<|Aa<|Z<|Ac<|O<|O<|O<|Eg h fun k i _ _ h=>O<|Aq h fun v13 M h=>As.mk _ (Aoy (a0:=(a0.extract k i)) M) rfl<|O<|O<|Aa<|Z<|Z<|Cd h fun u A D=>Ce (fun (c:Bool)=>c=u) (fun c=>[(67,(Av c))]) (fun c=>[]) (fun _=>rfl) ?_ ?_
 intro K2 hK2
 refine Ac<|O<|O<|O<|A6 (s:=62) A (fun b h=>?_) fun b h=>?_
 exact Ag<|Ag<|Ag<|Ag<|O<|Aa<|hK2 (decide ((v13.size:Int)>(1:Int))) _ _ _ (Ai h) ⟨rfl,Ae⟩ ⟨Ah,Ah,Ae⟩
 exact Ad<|Ad<|Ad<|Ad<|O<|Aa<|hK2 false _ _ _ (Ai h) ⟨rfl,Ae⟩ ⟨Ah,Ah,Ae⟩
 rintro c u2 G
 have h:=D _ G
 refine Am h (fun b h=>?_) fun b h=>?_
 exact Z<|Ac<|O<|O<|O<|Aa<|Ak<|congrArg (fun x:(Eu×Int)=>(.tup [Ft x.1,(Af .i64) x.2]:AV))<|Ai h
 refine An<|Z<|Ac<|O<|O<|O<|Aq h fun v15 L h=>As.mk _ (Ao0 (a0:=v13) L) rfl<|O<|Aa<|Am h (fun b h=>?_) fun b h=>?_
 exact Z<|Ac<|O<|O<|O<|Aa<|Ak<|congrArg (fun x:(Eu×Int)=>(.tup [Ft x.1,(Af .i64) x.2]:AV))<|Ai h
 exact An<|Z<|Ac<|O<|O<|O<|Aa<|Ak<|congrArg (fun x:(Eu×Int)=>(.tup [Ft x.1,(Af .i64) x.2]:AV))<|Ai h
 refine Z<|Ac<|O<|O<|Aa<|Z<|Ac<|O<|O<|O<|Eg h fun j g _ _ h=>O<|Aq h fun v17 J h=>As.mk _ (Aoz (a0:=(a0.extract j g)) J) rfl<|O<|O<|Aa<|Z<|Ac<|O<|O<|O<|Aa<|Am h (fun b h=>?_) fun b h=>?_
 exact Z<|Ac<|O<|O<|O<|Aa<|Ak<|congrArg (fun x:(Eu×Int)=>(.tup [Ft x.1,(Af .i64) x.2]:AV))<|Ai h
 exact An<|Z<|Ac<|O<|O<|O<|Aa<|Ak<|congrArg (fun x:(Eu×Int)=>(.tup [Ft x.1,(Af .i64) x.2]:AV))<|Ai h
theorem Ao2 {a0:ByteArray} {r:((List Eu)×Int×Int)} (h:U6 a0=some r):Bb Tryz.prog 295 [Co a0] (.tup [(A2 3 Ft) r.1,(Af .i64) r.2.1,(Af .i64) r.2.2]):=by
 unfold U6 at h
 refine C2 (C:={T:=B4,an:=(fun s=>bif Nat.beq s 5 then .own else .ask),nl:=(fun s=>bif Nat.beq s 5 then [(0,3)] else bif Nat.beq s 2 then [(0,3)] else [])}) B8 B5 Tryz.func295 rfl (by kernel_rfl) (by kernel_rfl) rfl ?_
 refine Z<|Ac<|O<|O<|O<|Aa<|An4<|Z<|Z<|Ac<|O<|O<|O<|Aa<|Am h (fun b h=>?_) fun b h=>?_
 exact Z<|Ac<|O<|O<|O<|Aa<|Ak<|congrArg (fun x:((List Eu)×Int×Int)=>(.tup [(A2 3 Ft) x.1,(Af .i64) x.2.1,(Af .i64) x.2.2]:AV))<|Ai h
 refine An<|Z<|Ac<|O<|Aa<|Z<|Ac<|O<|Aa<|Z<|An3<|Z<|Ay<|Bn h (fun (v26,c)=>[(2,(.sl 3<|List.map Ft [])),(3,(Af .i64 0)),(4,(Af .i64 0)),(5,(.arr 0 c.length 0 c.length)),(6,(Af .i64 v26))]) (fun (v26,c)=>[(0,.rows 341 3 (List.map Ft c))]) (fun _=>True) (fun _=>rfl) ⟨rfl,rfl,rfl,rfl,rfl,Ae⟩ ⟨Ah,Ae⟩ Ae ?_
 rintro ⟨v26,c⟩ N S I y j hn1 _
 refine Z<|Z<|Ac<|O<|O<|O<|O<|Aa<|Am y (fun b h=>?_) fun b h=>?_
 refine An<|Ay<|Z<|Z<|Ac<|O<|O<|O<|Ha h fun B h=>O<|Aq h fun D A h=>As.mk _ (Aou (a0:=(B.toNat:Int)) A) rfl<|Aa<|Am h (fun b h=>?_) fun b h=>?_
 exact Z<|Ac<|O<|O<|Aw.mk _ rfl<|O<|Aa<|Bh<|Bg rfl<|hn1 _ _ _ _ (Ai h) ⟨rfl,rfl,rfl,rfl,rfl,Ae⟩ ⟨Ah,Ae⟩ Ae
 refine An<|Z<|Z<|Ac<|O<|O<|O<|Ha h fun L h=>O<|Aa<|Am h (fun b h=>?_) fun b h=>?_
 refine Z<|Ay<|Bn h (fun i=>[(6,(Af .i64 i))]) (fun i=>[]) (fun _=>True) (fun _=>rfl) ⟨rfl,Ae⟩ ⟨Ah,Ae⟩ Ae ?_
 rintro i M R G u k hn2 _
 refine Z<|Z<|Ac<|O<|O<|O<|O<|Aa<|Am u (fun b h=>?_) fun b h=>?_
 refine An<|Z<|Ay<|Z<|Ac<|O<|O<|O<|Ha h fun J h=>O<|Aa<|Am h (fun b h=>?_) fun b h=>?_
 refine Bh<|Wp rfl<|Wp rfl<|Bg rfl ?_
 have h:=k _ (Ai h)
 exact hn1 _ _ _ _ (Ai h) ⟨rfl,rfl,rfl,rfl,rfl,Ae⟩ ⟨Ah,Ae⟩ Ae
 exact An<|Ac<|O<|O<|Aw.mk _ rfl<|O<|Aa<|hn2 _ _ _ _ (Ai h) ⟨rfl,Ae⟩ ⟨Ah,Ae⟩ Ae
 refine Bh<|Bg rfl ?_
 have h:=k _ (Ai h)
 refine Bh<|Wp rfl<|Bg rfl ?_
 have h:=j _ (Ai h)
 exact Z<|Ac<|O<|O<|O<|O<|O<|O<|D9 (f:=Ft) (l:=c) (ys:=[(Eu.mk 6 (ByteArray.mk #[]) (a0.size:Int))]) rfl rfl rfl rfl h fun g h=>O<|O<|O<|Aa<|Ak<|Bz (f:=Ft) (l:=g) rfl rfl<|Bz (f:=Ft) (l:=g) rfl rfl<|congrArg (fun x:((List Eu)×Int×Int)=>(.tup [(A2 3 Ft) x.1,(Af .i64) x.2.1,(Af .i64) x.2.2]:AV))<|Ai h
 refine An<|Z<|Ac<|O<|O<|O<|Aq h fun q z h=>As.mk _ (Ao1 (a0:=a0) (a1:=v26) z) rfl<|O<|O<|O<|O<|O<|O<|Aa<|Z<|Z<|Ac<|O<|O<|Aa<|Am h (fun b h=>?_) fun b h=>?_
 refine Z<|Ac<|O<|O<|O<|O<|O<|Aa<|Ak ?_
 have h:=j _ (Ai h)
 exact congrArg (fun x:((List Eu)×Int×Int)=>(.tup [(A2 3 Ft) x.1,(Af .i64) x.2.1,(Af .i64) x.2.2]:AV))<|Ai h
 exact An<|Z<|Ac<|O<|O<|O<|O<|D9 (f:=Ft) (l:=c) (ys:=[q.1]) rfl rfl rfl rfl h fun E h=>O<|Aa<|Ac<|O<|O<|O<|O<|O<|Aw.mk _ rfl<|O<|Aa<|hn1 _ _ _ _ (Ai h) ⟨rfl,rfl,rfl,rfl,rfl,Ae⟩ ⟨Ah,Ae⟩ Ae
 refine Bh<|Bg rfl ?_
 have h:=j _ (Ai h)
 exact Z<|Ac<|O<|O<|O<|O<|O<|O<|D9 (f:=Ft) (l:=c) (ys:=[(Eu.mk 6 (ByteArray.mk #[]) (a0.size:Int))]) rfl rfl rfl rfl h fun g h=>O<|O<|O<|Aa<|Ak<|Bz (f:=Ft) (l:=g) rfl rfl<|Bz (f:=Ft) (l:=g) rfl rfl<|congrArg (fun x:((List Eu)×Int×Int)=>(.tup [(A2 3 Ft) x.1,(Af .i64) x.2.1,(Af .i64) x.2.2]:AV))<|Ai h
end Go.Ab
namespace Go.Ab
open Go Go.Proofs
set_option maxRecDepth 10000
theorem Af4 {a0:ByteArray} {r:Bool} (h:N6 a0=some r):Bb Tryz.prog 243 [Co a0] (Av r):=by
 unfold N6 at h
 refine Bv Tryz.func243 rfl (by kernel_rfl) (by kernel_rfl) rfl ?_
 refine Z<|Ac<|O<|Aa<|Z<|Ac<|O<|O<|Aq h fun c g h=>As.mk _ (Ao2 (a0:=a0) g) rfl<|O<|O<|O<|O<|O<|O<|O<|Aa<|Z<|Ac<|O<|O<|O<|A6 (s:=14) h (fun b h=>?_) fun b h=>?_
 refine Ag<|Ag<|Ax (f:=Ft) (l:=c.1) rfl<|Ag<|O<|O<|A6 (s:=19) h (fun b h=>?_) fun b h=>?_
 refine Ag<|Ag<|A7 (f:=Ft) rfl h fun q v2 i2 j h=>Ag<|Ag<|Ag<|O<|O<|A6 (s:=26) h (fun b h=>?_) fun b h=>?_
 exact Ag<|Ag<|A7 (f:=Ft) rfl h fun k v3 i3 i h=>Ag<|Ag<|Ag<|Ag<|O<|O<|Aa<|Ak<|A3 h
 exact Ad<|Ad<|Ad<|Ad<|Ad<|Ad<|O<|O<|Aa<|Ak<|A3 h
 exact Ad<|Ad<|Ad<|Ad<|Ad<|O<|O<|Ad<|Ad<|Ad<|Ad<|Ad<|Ad<|O<|O<|Aa<|Ak<|A3 h
 exact Ad<|Ad<|Ad<|O<|O<|Ad<|Ad<|Ad<|Ad<|Ad<|O<|O<|Ad<|Ad<|Ad<|Ad<|Ad<|Ad<|O<|O<|Aa<|Ak<|A3 h
theorem Af5:∀k:Nat,(∀(a0:Ao) (a1:Int) (r:Bool),L0 k a0 a1=some r->Bb Tryz.prog 296 [Ba (Ao.mk a0.Kind a0.Num a0.Args),(Af .i64) a1] (Av r))/\(∀(a0:Ao) (b0:Int) (r:Bool),Qp k a0 b0=some r->Cm Tryz.prog 326 [Ba (Ao.mk a0.Kind a0.Num a0.Args),(.loc 0 0)] [.cells 3 [(Af .i64 b0)]] (Av r) [.cells 3 [(Af .i64 b0)]])/\(∀(a0:(List Ao)) (b0:Int) (r:Bool),Oa k a0 b0=some r->Cm Tryz.prog 245 [(Ck 3 Bi) a0,(.fn 326 [(.loc 0 0)])] [.cells 3 [(Af .i64 b0)]] (Av r) [.cells 3 [(Af .i64 b0)]])/\(∀(a0:(List Ao)) (b0:Int) (r:Int),Tc k a0 b0=some r->Cm Tryz.prog 297 [(Ck 3 Bi) a0,(.fn 326 [(.loc 0 0)])] [.cells 3 [(Af .i64 b0)]] ((Af .i64) r) [.cells 3 [(Af .i64 b0)]])
 | 0=>⟨(fun _ _ _ h=>by simp only [L0] at h; cases h),(fun _ _ _ h=>by simp only [Qp] at h; cases h),(fun _ _ _ h=>by simp only [Oa] at h; cases h),(fun _ _ _ h=>by simp only [Tc] at h; cases h)⟩
 | k+1=>by
  have ih:=Af5 k
  have j:∀{a0:Ao} {a1:Int} {r:Bool},L0 k a0 a1=some r->Bb Tryz.prog 296 [Ba (Ao.mk a0.Kind a0.Num a0.Args),(Af .i64) a1] (Av r):=fun h=>ih.1 _ _ _ h
  have i:∀{a0:Ao} {b0:Int} {r:Bool},Qp k a0 b0=some r->Cm Tryz.prog 326 [Ba (Ao.mk a0.Kind a0.Num a0.Args),(.loc 0 0)] [.cells 3 [(Af .i64 b0)]] (Av r) [.cells 3 [(Af .i64 b0)]]:=fun h=>ih.2.1 _ _ _ h
  have c:∀{a0:(List Ao)} {b0:Int} {r:Bool},Oa k a0 b0=some r->Cm Tryz.prog 245 [(Ck 3 Bi) a0,(.fn 326 [(.loc 0 0)])] [.cells 3 [(Af .i64 b0)]] (Av r) [.cells 3 [(Af .i64 b0)]]:=fun h=>ih.2.2.1 _ _ _ h
  have g:∀{a0:(List Ao)} {b0:Int} {r:Int},Tc k a0 b0=some r->Cm Tryz.prog 297 [(Ck 3 Bi) a0,(.fn 326 [(.loc 0 0)])] [.cells 3 [(Af .i64 b0)]] ((Af .i64) r) [.cells 3 [(Af .i64 b0)]]:=fun h=>ih.2.2.2 _ _ _ h
  refine ⟨?_,?_,?_,?_⟩
  .intro a0 a1 r h
   unfold L0 at h
   refine Bv Tryz.func296 rfl (by kernel_rfl) (by kernel_rfl) rfl ?_
   refine Z<|Ac<|O<|O<|O<|Aa<|Z<|Ac<|O<|O<|O<|O<|A6 (s:=8) h (fun b h=>?_) fun b h=>?_
   refine Ag<|Ag<|Ag<|Ag<|O<|O<|A6 (s:=14) h (fun b h=>?_) fun b h=>?_
   exact Ad<|Ad<|Ad<|Ad<|O<|O<|Aa<|Ak<|A3 h
   exact Ag<|Ag<|Ag<|Ag<|Aq h fun v3 A h=>As.act [1] _ _ _ _ (c (a0:=a0.Args) (b0:=a1) A) rfl rfl ⟨rfl,Ae⟩<|O<|O<|Aa<|Ak<|A3 h
   exact Ad<|Ad<|Ad<|Ad<|O<|O<|Ag<|Ag<|Ag<|Ag<|Aq h fun v4 z h=>As.act [1] _ _ _ _ (c (a0:=a0.Args) (b0:=a1) z) rfl rfl ⟨rfl,Ae⟩<|O<|O<|Aa<|Ak<|A3 h
  .intro a0 b0 r h
   unfold Qp at h
   refine D0 (C:={T:=B4,an:=(fun _=>.ask)}) true B8 B5 Tryz.func326 rfl (by kernel_rfl) (by kernel_rfl) rfl ?_
   refine Z<|Ac<|O<|O<|Aa<|Z<|Ac<|O<|O<|O<|Aq h fun v2 B h=>As.mk _ (j (a0:=a0) (a1:=b0) B) rfl<|O<|Aa<|Ak ?_
   cases h
   exact ⟨rfl,rfl,Ae⟩
  .intro a0 b0 r h
   unfold Oa at h
   refine D0 (C:={T:=B4,an:=(fun _=>.ask)}) true B8 B5 Tryz.func245 rfl (by kernel_rfl) (by kernel_rfl) rfl ?_
   refine Z<|Ac<|O<|Aa<|Z<|Ac<|O<|O<|O<|Aq h fun G D h=>As.act [0] _ _ _ _ (g (a0:=a0) (b0:=b0) D) rfl rfl ⟨rfl,Ae⟩<|O<|O<|Aa<|Ak ?_
   cases h
   exact ⟨rfl,rfl,Ae⟩
  .intro a0 b0 r h
   unfold Tc at h
   refine D0 (C:={T:=B4,an:=(fun _=>.ask)}) true B8 B5 Tryz.func297 rfl (by kernel_rfl) (by kernel_rfl) rfl ?_
   refine Z<|Ac<|O<|Aa<|Z<|Z<|Ac<|O<|O<|Ax (f:=Ba) (l:=a0) (Bq _)<|O<|Aa<|Ay<|Bn h (fun v3=>[(4,(Af .i64 0)),(8,(Af .i64 v3))]) (fun v3=>[]) (fun _=>True) (fun _=>rfl) ⟨rfl,rfl,Ae⟩ ⟨Ah,Ae⟩ Ae ?_
   rintro v3 I L x u q hn1 _
   refine Z<|Ac<|O<|Aa<|Z<|Am u (fun b h=>?_) fun b h=>?_
   refine An<|Z<|Ay<|Z<|Ac<|O<|O<|Aa<|Z<|Ac<|O<|O<|O<|O<|A7 (f:=Ba) (Bq _) h fun J v4 i4 E h=>O<|O<|Aq h fun v5 y h=>As.act [0] _ _ _ _ (i (a0:=v4) (b0:=b0) y) rfl rfl ⟨rfl,Ae⟩<|Aa<|Am h (fun b h=>?_) fun b h=>?_
   refine Z<|Ac<|O<|O<|Aa<|Ak ?_
   have h:=q _ (Ai h)
   cases h
   exact ⟨rfl,rfl,Ae⟩
   exact An<|Ac<|O<|Aw.mk _ rfl<|O<|Aa<|hn1 _ _ _ _ (Ai h) ⟨rfl,rfl,Ae⟩ ⟨Ah,Ae⟩ Ae
   refine Bh<|Bg rfl ?_
   have h:=q _ (Ai h)
   refine Z<|Ac<|O<|Aa<|Ak ?_
   cases h
   exact ⟨rfl,rfl,Ae⟩
theorem Ao3 {k:Nat} {a0:Ao} {a1:Int} {r:Bool} (h:L0 k a0 a1=some r):Bb Tryz.prog 296 [Ba (Ao.mk a0.Kind a0.Num a0.Args),(Af .i64) a1] (Av r):=(Af5 k).1 _ _ _ h
theorem Af6:∀k:Nat,(∀(a0:(List Ao)) (b1:D2) (r:(Bool×D2)),Ob k a0 b1=some r->Cm Tryz.prog 245 [(Ck 3 Bi) a0,(.fn 253 [(.loc 0 0)])] [.cells 224 [(.loc 1 0)],.cells 226 [(.sl 3 (List.map Bf b1.data)),(Af .i64 b1.vars),(Af .i64 b1.left)]] (Av r.1) [.cells 224 [(.loc 1 0)],.cells 226 [(.sl 3 (List.map Bf r.2.data)),(Af .i64 r.2.vars),(Af .i64 r.2.left)]])/\(∀(a0:(List Ao)) (b1:D2) (r:(Int×D2)),Qv k a0 b1=some r->Cm Tryz.prog 297 [(Ck 3 Bi) a0,(.fn 253 [(.loc 0 0)])] [.cells 224 [(.loc 1 0)],.cells 226 [(.sl 3 (List.map Bf b1.data)),(Af .i64 b1.vars),(Af .i64 b1.left)]] ((Af .i64) r.1) [.cells 224 [(.loc 1 0)],.cells 226 [(.sl 3 (List.map Bf r.2.data)),(Af .i64 r.2.vars),(Af .i64 r.2.left)]])/\(∀(a0:Ao) (b0:D2) (r:(Bool×D2)),Ik k a0 b0=some r->Cm Tryz.prog 188 [(.loc 0 0),Ba a0] [.cells 226 [(.sl 3 (List.map Bf b0.data)),(Af .i64 b0.vars),(Af .i64 b0.left)]] (Av r.1) [.cells 226 [(.sl 3 (List.map Bf r.2.data)),(Af .i64 r.2.vars),(Af .i64 r.2.left)]])/\(∀(a0:Ao) (b1:D2) (r:(Bool×D2)),Qf k a0 b1=some r->Cm Tryz.prog 253 [Ba a0,(.loc 0 0)] [.cells 224 [(.loc 1 0)],.cells 226 [(.sl 3 (List.map Bf b1.data)),(Af .i64 b1.vars),(Af .i64 b1.left)]] (Av r.1) [.cells 224 [(.loc 1 0)],.cells 226 [(.sl 3 (List.map Bf r.2.data)),(Af .i64 r.2.vars),(Af .i64 r.2.left)]])
 | 0=>⟨(fun _ _ _ h=>by simp only [Ob] at h; cases h),(fun _ _ _ h=>by simp only [Qv] at h; cases h),(fun _ _ _ h=>by simp only [Ik] at h; cases h),(fun _ _ _ h=>by simp only [Qf] at h; cases h)⟩
 | k+1=>by
  have ih:=Af6 k
  have c:∀{a0:(List Ao)} {b1:D2} {r:(Bool×D2)},Ob k a0 b1=some r->Cm Tryz.prog 245 [(Ck 3 Bi) a0,(.fn 253 [(.loc 0 0)])] [.cells 224 [(.loc 1 0)],.cells 226 [(.sl 3 (List.map Bf b1.data)),(Af .i64 b1.vars),(Af .i64 b1.left)]] (Av r.1) [.cells 224 [(.loc 1 0)],.cells 226 [(.sl 3 (List.map Bf r.2.data)),(Af .i64 r.2.vars),(Af .i64 r.2.left)]]:=fun h=>ih.1 _ _ _ h
  have g:∀{a0:(List Ao)} {b1:D2} {r:(Int×D2)},Qv k a0 b1=some r->Cm Tryz.prog 297 [(Ck 3 Bi) a0,(.fn 253 [(.loc 0 0)])] [.cells 224 [(.loc 1 0)],.cells 226 [(.sl 3 (List.map Bf b1.data)),(Af .i64 b1.vars),(Af .i64 b1.left)]] ((Af .i64) r.1) [.cells 224 [(.loc 1 0)],.cells 226 [(.sl 3 (List.map Bf r.2.data)),(Af .i64 r.2.vars),(Af .i64 r.2.left)]]:=fun h=>ih.2.1 _ _ _ h
  have j:∀{a0:Ao} {b0:D2} {r:(Bool×D2)},Ik k a0 b0=some r->Cm Tryz.prog 188 [(.loc 0 0),Ba a0] [.cells 226 [(.sl 3 (List.map Bf b0.data)),(Af .i64 b0.vars),(Af .i64 b0.left)]] (Av r.1) [.cells 226 [(.sl 3 (List.map Bf r.2.data)),(Af .i64 r.2.vars),(Af .i64 r.2.left)]]:=fun h=>ih.2.2.1 _ _ _ h
  have i:∀{a0:Ao} {b1:D2} {r:(Bool×D2)},Qf k a0 b1=some r->Cm Tryz.prog 253 [Ba a0,(.loc 0 0)] [.cells 224 [(.loc 1 0)],.cells 226 [(.sl 3 (List.map Bf b1.data)),(Af .i64 b1.vars),(Af .i64 b1.left)]] (Av r.1) [.cells 224 [(.loc 1 0)],.cells 226 [(.sl 3 (List.map Bf r.2.data)),(Af .i64 r.2.vars),(Af .i64 r.2.left)]]:=fun h=>ih.2.2.2 _ _ _ h
  refine ⟨?_,?_,?_,?_⟩
  .intro a0 b1 r h
   unfold Ob at h
   refine D0 (C:={T:=B4,an:=(fun _=>.ask)}) true B8 B5 Tryz.func245 rfl (by kernel_rfl) (by kernel_rfl) rfl ?_
   refine Z<|Ac<|O<|Aa<|Z<|Ac<|O<|O<|O<|Aq h fun v1 c1 h=>As.act [0,1] _ _ _ _ (g (a0:=a0) (b1:=b1) c1) rfl rfl ⟨rfl,rfl,Ae⟩<|O<|O<|Aa<|Ak ?_
   cases h
   exact ⟨rfl,rfl,rfl,Ae⟩
  .intro a0 b1 r h
   unfold Qv at h
   refine D0 (C:={T:=B4,an:=(fun _=>.ask)}) true B8 B5 Tryz.func297 rfl (by kernel_rfl) (by kernel_rfl) rfl ?_
   refine Z<|Ac<|O<|Aa<|Z<|Z<|Ac<|O<|O<|Ax (f:=Ba) (l:=a0) (Bq _)<|O<|Aa<|Ay<|Bn h (fun (v3,v4,v5,z)=>[(4,(Af .i64 0)),(8,(Af .i64 v3))]) (fun (v3,v4,v5,z)=>[(1,.cells 226 [(.sl 3<|List.map Bf v4),(Af .i64 v5),(Af .i64 z)])]) (fun _=>True) (fun _=>rfl) ⟨rfl,rfl,Ae⟩ ⟨Ah,Ah,Ae⟩ Ae ?_
   rintro ⟨v3,v4,v5,z⟩ u1 K1 A y B hn1 _
   refine Z<|Ac<|O<|Aa<|Z<|Am y (fun b h=>?_) fun b h=>?_
   refine An<|Z<|Ay<|Z<|Ac<|O<|O<|Aa<|Z<|Ac<|O<|O<|O<|O<|A7 (f:=Ba) (Bq _) h fun n7 v7 i7 x7 h=>O<|O<|Aq h fun v8 c8 h=>As.act [0,1] _ _ _ _ (i (a0:=v7) (b1:=(D2.mk v4 v5 z)) c8) rfl rfl ⟨rfl,rfl,Ae⟩<|Aa<|Am h (fun b h=>?_) fun b h=>?_
   refine Z<|Ac<|O<|O<|Aa<|Ak ?_
   have h:=B _ (Ai h)
   cases h
   exact ⟨rfl,rfl,rfl,Ae⟩
   exact An<|Ac<|O<|Aw.mk _ rfl<|O<|Aa<|hn1 _ _ _ _ (Ai h) ⟨rfl,rfl,Ae⟩ ⟨Ah,Ah,Ae⟩ Ae
   refine Bh<|Bg rfl ?_
   have h:=B _ (Ai h)
   refine Z<|Ac<|O<|Aa<|Ak ?_
   cases h
   exact ⟨rfl,rfl,rfl,Ae⟩
  .intro a0 b0 r h
   unfold Ik at h
   refine D0 (C:={T:=B4,an:=(fun _=>.ask)}) true B8 B5 Tryz.func188 rfl (by kernel_rfl) (by kernel_rfl) rfl ?_
   refine Z<|Ac<|O<|O<|O<|Aa<|Z<|Ac<|O<|O<|O<|O<|O<|Aw.mk _ rfl<|O<|O<|O<|Aa<|Z<|Z<|Ac<|O<|O<|O ?_
   refine O<|O<|Aa<|Am h (fun b h=>?_) fun b h=>?_
   refine Z<|Ac<|O<|Aa<|Ak ?_
   cases h
   exact ⟨rfl,rfl,Ae⟩
   refine An<|Z<|Ac<|O<|O<|Aa<|Z<|Z<|Ac<|O<|O<|Aa<|Cd h fun A y u=>Ce (fun (x:(Int×Int))=>(.inl x)=A) (fun (v8,v9)=>[(4,(Av false)),(5,(Af .i64 v8)),(6,(Af .i64 v9))]) (fun (v8,v9)=>[]) (fun _=>rfl) ?_ ?_
   intro K1 hK1
   refine Ay<|Z<|Z<|Ac<|O<|O<|Aa<|Cd y fun J S a1=>Ce (fun (v3:Bool)=>v3=J) (fun v3=>[(21,(Av v3))]) (fun v3=>[]) (fun _=>rfl) ?_ ?_
   intro K2 hK2
   refine Am S (fun b h=>?_) fun b h=>?_
   exact An<|hK2 (a0.Kind==(1:Int)) _ _ _ (Ai h) ⟨rfl,Ae⟩ ⟨Ah,Ah,Ah,Ae⟩
   refine Z<|Ac<|O<|O<|Aa<|Am h (fun b h=>?_) fun b h=>?_
   exact An<|hK2 (a0.Kind==(2:Int)) _ _ _ (Ai h) ⟨rfl,Ae⟩ ⟨Ah,Ah,Ah,Ae⟩
   exact Ac<|O<|O<|Aa<|hK2 (a0.Kind==(3:Int)) _ _ _ (Ai h) ⟨rfl,Ae⟩ ⟨Ah,Ah,Ah,Ae⟩
   rintro v3 u2 ab
   have h:=a1 _ ab
   refine Am h (fun b h=>?_) fun b h=>?_
   exact An<|hK1 (0,0) _ _ _ (Ai h) ⟨rfl,rfl,rfl,Ae⟩ ⟨Ah,Ah,Ah,Ae⟩
   refine Z<|Ac<|O<|O<|Aa<|Am h (fun b h=>?_) fun b h=>?_
   refine Z<|B0<|O<|O<|O<|O<|A6 (s:=30) h (fun b h=>?_) fun b h=>?_
   refine Ad<|Ad<|Ad<|Ad<|Ad<|Ad<|Ad<|O<|Aa<|Bj.mk (by kernel_rfl)<|Dd<|Z<|Ac<|O<|Aa<|Ak ?_
   have h:=u _ (Ai h)
   cases h
   exact ⟨rfl,rfl,Ae⟩
   refine Ag<|Ag<|Ag<|Ag<|Ag<|Ag<|Ag<|O<|Aa<|Bj.mk (by kernel_rfl)<|Am h (fun b h=>?_) fun b h=>?_
   refine Z<|Ac<|O<|Aa<|Ak ?_
   have h:=u _ (Ai h)
   cases h
   exact ⟨rfl,rfl,Ae⟩
   exact An<|hK1 (0,0) _ _ _ (Ai h) ⟨rfl,rfl,rfl,Ae⟩ ⟨Ah,Ah,Ah,Ae⟩
   refine Z<|Ac<|O<|O<|Aa<|Am h (fun b h=>?_) fun b h=>?_
   refine Z<|Z<|Cd h fun I R Y=>Ce (fun (v4:Bool)=>v4=I) (fun v4=>[(53,(Av v4))]) (fun v4=>[]) (fun _=>rfl) ?_ ?_
   intro K3 hK3
   refine B0<|O<|O<|O<|O<|A6 (s:=44) R (fun b h=>?_) fun b h=>?_
   exact Ad<|Ad<|Ad<|Ad<|Ad<|Ad<|Ad<|Ad<|O<|Aa<|Bj.mk (by kernel_rfl)<|hK3 true _ _ _ (Ai h) ⟨rfl,Ae⟩ ⟨Ah,Ah,Ah,Ae⟩
   exact Ag<|Ag<|Ag<|Ag<|Ag<|Ag<|Ag<|Ax (f:=Bf) (l:=b0.data) rfl<|Ag<|O<|Aa<|Bj.mk (by kernel_rfl)<|hK3 (decide<|a0.Num>=(b0.data.length:Int)) _ _ _ (Ai h) ⟨rfl,Ae⟩ ⟨Ah,Ah,Ah,Ae⟩
   rintro v4 u3 aa
   have h:=Y _ aa
   refine Am h (fun b h=>?_) fun b h=>?_
   refine Z<|Ac<|O<|Aa<|Ak ?_
   have h:=u _ (Ai h)
   cases h
   exact ⟨rfl,rfl,Ae⟩
   refine An<|B0<|O<|O<|O<|O<|O<|O<|O<|A7 (f:=Bf) rfl h fun n5 v5 i5 x5 h=>O<|O<|O<|O<|O<|O<|O<|O<|O<|A7 (f:=Bf) rfl h fun n6 z i6 x6 h=>O<|O<|O<|O ?_
   exact Aa<|Bj.mk (by kernel_rfl)<|hK1 (v5.Vars,z.Vars) _ _ _ (Ai h) ⟨rfl,rfl,rfl,Ae⟩ ⟨Ah,Ah,Ah,Ae⟩
   refine Z<|Ac<|O<|O<|Aa<|Am h (fun b h=>?_) fun b h=>?_
   exact Ac<|O<|O<|Aa<|hK1 (2,6) _ _ _ (Ai h) ⟨rfl,rfl,rfl,Ae⟩ ⟨Ah,Ah,Ah,Ae⟩
   refine Z<|Z<|Ac<|O<|O<|Aa<|Cd h fun G N X=>Ce (fun (v7:Bool)=>v7=G) (fun v7=>[(74,(Av v7))]) (fun v7=>[]) (fun _=>rfl) ?_ ?_
   intro K4 hK4
   refine Am N (fun b h=>?_) fun b h=>?_
   exact An<|hK4 (a0.Kind==(7:Int)) _ _ _ (Ai h) ⟨rfl,Ae⟩ ⟨Ah,Ah,Ah,Ae⟩
   exact Ac<|O<|O<|Aa<|hK4 (a0.Kind==(8:Int)) _ _ _ (Ai h) ⟨rfl,Ae⟩ ⟨Ah,Ah,Ah,Ae⟩
   rintro v7 u4 a8
   have h:=X _ a8
   refine Am h (fun b h=>?_) fun b h=>?_
   exact Ac<|O<|O<|Aa<|hK1 (1,1) _ _ _ (Ai h) ⟨rfl,rfl,rfl,Ae⟩ ⟨Ah,Ah,Ah,Ae⟩
   refine Z<|Ac<|O<|O<|Aa<|Am h (fun b h=>?_) fun b h=>?_
   exact Ac<|O<|O<|Aa<|hK1 (1,7) _ _ _ (Ai h) ⟨rfl,rfl,rfl,Ae⟩ ⟨Ah,Ah,Ah,Ae⟩
   refine Z<|Ac<|O<|Aa<|Ak ?_
   have h:=u _ (Ai h)
   cases h
   exact ⟨rfl,rfl,Ae⟩
   rintro ⟨v8,v9⟩ u1 ac
   have h:=u _ ac
   refine Z<|Z<|Cd h fun E M V=>Ce (fun (v10:Bool)=>v10=E) (fun v10=>[(91,(Av v10))]) (fun v10=>[]) (fun _=>rfl) ?_ ?_
   intro K5 hK5
   refine Ac<|O<|O<|O<|O<|A6 (s:=82) M (fun b h=>?_) fun b h=>?_
   refine Ag<|Ag<|Ag<|O<|O<|A6 (s:=87) h (fun b h=>?_) fun b h=>?_
   exact Ag<|Ag<|Ag<|O<|Aa<|hK5 (a0.Num != (0:Int)) _ _ _ (Ai h) ⟨rfl,Ae⟩ ⟨Ah,Ah,Ah,Ae⟩
   exact Ad<|Ad<|Ad<|O<|Aa<|hK5 false _ _ _ (Ai h) ⟨rfl,Ae⟩ ⟨Ah,Ah,Ah,Ae⟩
   exact Ad<|Ad<|Ad<|O<|O<|Ad<|Ad<|Ad<|O<|Aa<|hK5 false _ _ _ (Ai h) ⟨rfl,Ae⟩ ⟨Ah,Ah,Ah,Ae⟩
   rintro v10 u5 a7
   have h:=V _ a7
   refine Am h (fun b h=>?_) fun b h=>?_
   refine Z<|Ac<|O<|Aa<|Ak ?_
   cases h
   exact ⟨rfl,rfl,Ae⟩
   refine An<|Z<|Z<|Cd h fun D L U=>Ce (fun (q:Bool)=>q=D) (fun q=>[(103,(Av q))]) (fun q=>[]) (fun _=>rfl) ?_ ?_
   intro K6 hK6
   refine Ac<|O<|O<|O<|Ax (f:=Ba) (l:=a0.Args) (Bq _)<|O<|O<|O<|A6 (s:=97) L (fun b h=>?_) fun b h=>?_
   exact Ad<|Ad<|Ad<|Ad<|Ad<|O<|Aa<|hK6 true _ _ _ (Ai h) ⟨rfl,Ae⟩ ⟨Ah,Ah,Ah,Ae⟩
   exact Ag<|Ag<|Ag<|Ax (f:=Ba) (l:=a0.Args) (Bq _)<|Ag<|Ag<|O<|Aa<|hK6 (decide ((a0.Args.length:Int)>v9)) _ _ _ (Ai h) ⟨rfl,Ae⟩ ⟨Ah,Ah,Ah,Ae⟩
   rintro q u6 a6
   have h:=U _ a6
   refine Am h (fun b h=>?_) fun b h=>?_
   refine Z<|Ac<|O<|Aa<|Ak ?_
   cases h
   exact ⟨rfl,rfl,Ae⟩
   refine An<|Z<|Ac<|O<|O<|O<|O<|Aq h fun v12 ad h=>As.act [1,0] _ _ _ _ (c (a0:=a0.Args) (b1:=(D2.mk b0.data b0.vars<|Al<|b0.left-1)) ad) rfl rfl ⟨rfl,rfl,Ae⟩<|O<|O<|Aa<|Ak ?_
   cases h
   exact ⟨rfl,rfl,Ae⟩
  .intro a0 b1 r h
   unfold Qf at h
   refine D0 (C:={T:=B4,an:=(fun _=>.ask)}) true B8 B5 Tryz.func253 rfl (by kernel_rfl) (by kernel_rfl) rfl ?_
   refine Z<|Ac<|O<|O<|Aa<|Z<|Ac<|O<|O<|O<|Aq h fun v2 c2 h=>As.act [1] _ _ _ _ (j (a0:=a0) (b0:=b1) c2) rfl rfl ⟨rfl,Ae⟩<|O<|O<|Aa<|Ak ?_
   cases h
   exact ⟨rfl,rfl,rfl,Ae⟩
theorem Ao4 {k:Nat} {a0:Ao} {b0:D2} {r:(Bool×D2)} (h:Ik k a0 b0=some r):Cm Tryz.prog 188 [(.loc 0 0),Ba a0] [.cells 226 [(.sl 3 (List.map Bf b0.data)),(Af .i64 b0.vars),(Af .i64 b0.left)]] (Av r.1) [.cells 226 [(.sl 3 (List.map Bf r.2.data)),(Af .i64 r.2.vars),(Af .i64 r.2.left)]]:=(Af6 k).2.2.1 _ _ _ h
theorem Oe {a0:(List A5)} {a1:Ao} {a2:Int} {r:Bool} (h:Kb a0 a1 a2=some r):Bb Tryz.prog 115 [(A2 3 Bf) a0,Ba a1,(Af .i64) a2] (Av r):=by
 unfold Kb at h
 refine Bv Tryz.func115 rfl (by kernel_rfl) (by kernel_rfl) rfl ?_
 exact Z<|Ac<|O<|O<|Aa<|Z<|Ac<|O<|O<|O<|O<|O<|Aa<|Z<|Ac<|O<|O<|O<|Aq h fun v3 b h=>As.act [1] _ _ _ _ (Ao4 (a0:=a1) (b0:=(D2.mk a0 a2 200)) b) rfl rfl ⟨rfl,Ae⟩<|O<|Aa<|Ak<|A3 h
theorem Af7 {a0:(List A5)} {a1:Int} {a2:Int} {r:Bool} (h:Mt a0 a1 a2=some r):Bb Tryz.prog 244 [(A2 3 Bf) a0,(Af .i64) a1,(Af .i64) a2] (Av r):=by
 unfold Mt at h
 refine Bv Tryz.func244 rfl (by kernel_rfl) (by kernel_rfl) rfl ?_
 refine Z<|Ac<|O<|Aa<|Z<|Ac<|O<|O<|O<|A7 (f:=Bf) rfl h fun N J i1 I h=>O<|O<|O<|O<|A7 (f:=Ej) rfl h fun M v2 i2 G h=>O<|O<|O<|Aa<|Z<|Z<|Ac<|O<|O ?_
 refine Ax (f:=Ba) (l:=v2.Args) (Bq _)<|O<|Aa<|Am h (fun b h=>?_) fun b h=>?_
 exact Z<|Ac<|O<|Aa<|Ak<|A3 h
 refine An<|Z<|Ac<|O<|O<|O<|O<|Aq h fun v3 E h=>As.mk _ (Xt (a0:=a0) (a1:=a1) (a2:=a2) E) rfl<|O<|Aa<|Z<|Z<|Ac<|O<|O<|Ax (f:=Ba) (l:=v2.Args) (Bq _)<|O<|Aa<|Ay<|Bn h (fun c=>[(6,(Av false)),(29,(Af .i64 c))]) (fun c=>[]) (fun _=>True) (fun _=>rfl) ⟨rfl,rfl,Ae⟩ Ae Ae ?_
 rintro c L R z j g hn1 _
 refine Z<|Ac<|O<|Aa<|Z<|Am j (fun b h=>?_) fun b h=>?_
 refine An<|Z<|Ay<|Z<|Ac<|O<|O<|A7 (f:=Ba) (Bq _) h fun D v12 i12 y h=>O<|O<|O<|O<|Aa<|Z<|B0<|O<|O<|O<|Aw.mk _ rfl<|O<|Mk (f:=Bf) rfl h fun i h=>O<|O<|O ?_
 refine O<|A7 (f:=Bf) rfl h fun B v15 i15 x h=>O<|O<|O<|Aq h fun v16 q h=>As.mk _ (Oe (a0:=i) (a1:=v12) (a2:=v15.Vars) q) rfl<|O<|O<|A6 (s:=46) h (fun b h=>?_) fun b h=>?_
 refine Ad<|Ad<|Ad<|Ad<|Ad<|Ad<|A9 (18,true) 52 undef<|A9 (18,true) 52 undef<|A9 (18,true) 52 undef<|Ad<|O<|Aa<|Bj.mk (by kernel_rfl)<|Dd<|Z<|Ac<|O<|Aa<|Ak ?_
 have h:=g _ (Ai h)
 exact A3 h
 refine Ag<|Ag<|Ag<|A7 (f:=Av) rfl h fun A v17 i17 u h=>Ag<|Ag<|Ag<|A6 (s:=52) h (fun b h=>?_) fun b h=>?_
 refine Ag<|Ag<|Ag<|Aq h fun v18 k h=>As.mk _ (Ao3 (a0:=v12) (a1:=a1) k) rfl<|Ag<|O<|Aa<|Bj.mk (by kernel_rfl)<|Am h (fun b h=>?_) fun b h=>?_
 refine Z<|Ac<|O<|Aa<|Ak ?_
 have h:=g _ (Ai h)
 exact A3 h
 exact An<|Ac<|O<|Aw.mk _ rfl<|O<|Aa<|hn1 _ _ _ _ (Ai h) ⟨rfl,rfl,Ae⟩ Ae Ae
 exact Ad<|Ad<|Ad<|Ag<|O<|Aa<|Bj.mk (by kernel_rfl)<|Fg<|An<|Ac<|O<|Aw.mk _ rfl<|O<|Aa<|hn1 _ _ _ _ (Ai h) ⟨rfl,rfl,Ae⟩ Ae Ae
 refine Bh<|Bg rfl ?_
 have h:=g _ (Ai h)
 exact Z<|Ac<|O<|Aa<|Ak<|A3 h
end Go.Ab
