/- Plain laws: what the plain functions answer. -/
import Derived.Test.YtbobikfnkmhgnaaGreatDoorPbPl3
namespace Go.Ab
open Go
theorem Aoo:∀(k:Nat) (t:Ah) (a:Int),Bg t<=k->k<1099511627776->∃r,Og k t a=some r/\True:=by
 intro k
 induction k with
 | zero=>intro i a h; have:=Gx i; omega
 | succ k ih=>
  intro i a h hk
  have f:=Gx i
  have g:=Ib i.Args
  rw [Og]
  refine Mk ⟨_,rfl,trivial⟩ ?_
  refine D9 (fun (v,_)=>∃j:Nat,v=j/\j<=i.Args.length) (fun (v,_)=>i.Args.length-v.toNat) (fun _=>True) ⟨0,rfl,by omega⟩ ?_ ?_
  .rintro ⟨v,b⟩ ⟨j,rfl,hj⟩
   rcases Nat.lt_or_ge j i.Args.length with h' | h'
   .have hx:i.Args[j]? = some i.Args[j]:=Bu h'
    generalize i.Args[j]=x at hx
    have hm:=G4 (B4 hx)
    obtain ⟨⟨y,z⟩,c,_⟩:=ih x b (by omega) (by omega)
    simp only [Ak (by omega:(j:Int)<(i.Args.length:Int)),cond_true,B6 rfl hx,Ad,c,Cz h' (by omega)]
    cases y with
    | false=>exact .inr ⟨_,rfl,trivial⟩
    | true=>exact .inl ⟨_,rfl,⟨j+1,rfl,by omega⟩,by simp only [Int.toNat_natCast]; omega⟩
   .have:j=i.Args.length:=by omega
    subst this
    exact .inr ⟨.inr b,by simp,trivial⟩
  .rintro (⟨x,y⟩ | e) _
   .exact ⟨_,rfl,trivial⟩
   .exact ⟨_,rfl,trivial⟩
theorem Aop (t:Ah) (h:Bg t<=1048576):∃b,S5 t=some b:=by
 unfold S5
 obtain ⟨r,h1,_⟩:=Aoo 4000000 t 250 (by omega) (by omega)
 exact ⟨_,by rw [h1]; rfl⟩
theorem A0d (l:List Ah) (n:Int) (c:l.length<=1048576) (h:∀t∈l,Bg t<=1048576):∃b,Vq l n=some b/\True:=by
 unfold Vq
 refine D9 (fun v=>∃j:Nat,v=j/\j<=l.length) (fun v=>l.length-v.toNat) (fun _=>True) ⟨0,rfl,by omega⟩ ?_ ?_
 .rintro v ⟨j,rfl,hj⟩
  rcases Nat.lt_or_ge j l.length with h' | h'
  .have hx:l[j]? = some l[j]:=Bu h'
   generalize l[j]=x at hx
   obtain ⟨b,hb⟩:=Aop x (h x (B4 hx))
   simp only [Ak (by omega:(j:Int)<(l.length:Int)),cond_true,B6 rfl hx,Ad,hb,Cz h' (by omega)]
   cases decide ((j:Int)<=n) with
   | false=>exact .inr ⟨_,rfl,trivial⟩
   | true=>
    cases b with
    | false=>exact .inr ⟨_,rfl,trivial⟩
    | true=>exact .inl ⟨_,rfl,⟨j+1,rfl,by omega⟩,by simp only [Int.toNat_natCast]; omega⟩
  .simp only [Ap (by omega:¬(j:Int)<(l.length:Int)),cond_false]
   exact .inr ⟨_,rfl,trivial⟩
 .rintro (r | r) _
  .exact ⟨_,rfl,trivial⟩
  .exact ⟨_,rfl,trivial⟩
theorem A0e (l:List Az) (f:DSz l):∃b,Vp l=some b/\True:=by
 unfold Vp
 have A:=f.len
 refine Mk ⟨_,rfl,trivial⟩ ?_
 refine D9 (fun v=>∃j:Nat,v=j/\j<=l.length) (fun v=>l.length-v.toNat) (fun _=>True) ⟨0,rfl,by omega⟩ ?_ ?_
 .rintro v ⟨j,rfl,hj⟩
  rcases Nat.lt_or_ge j l.length with h' | h'
  .have hx:l[j]? = some l[j]:=Bu h'
   generalize l[j]=x at hx
   obtain ⟨B,k⟩:=f.sz x (B4 hx)
   simp only [Ak (by omega:(j:Int)<(l.length:Int)),cond_true,B6 rfl hx,Ad,Cz h' (by omega)]
   have hq:∃q,(bif decide ((x.Name.size:Int)>40) then some true else some (decide ((x.Cons.length:Int)>10)))=some q:=by
    cases decide ((x.Name.size:Int)>40) <;> exact ⟨_,rfl⟩
   obtain ⟨q,hq⟩:=hq
   erw [hq]
   simp only [Ad]
   cases q with
   | true=>exact .inr ⟨_,rfl,trivial⟩
   | false=>
    simp only [cond_false]
    have key:∀(W:Option (Int⊕(Bool⊕Unit))),(∃r,W=some r/\(r = .inl ((j+1:Nat):Int)\/∃e,r = .inr e))->(∃s',W=some (Sum.inl s')/\(∃j:Nat,s'=(j:Int)/\j<=l.length)/\l.length-s'.toNat<l.length-((j:Int)).toNat)\/∃e,W=some (Sum.inr e)/\True:=by
     rintro W ⟨r,rfl,rfl | ⟨e,rfl⟩⟩
     .exact .inl ⟨_,rfl,⟨j+1,rfl,by omega⟩,by simp only [Int.toNat_natCast]; omega⟩
     .exact .inr ⟨_,rfl,trivial⟩
    refine key _ ?_
    refine D9 (fun v=>∃j:Nat,v=j/\j<=x.Cons.length) (fun v=>x.Cons.length-v.toNat) (fun _=>True) ⟨0,rfl,by omega⟩ ?_ ?_
    .rintro v ⟨i,rfl,hi⟩
     rcases Nat.lt_or_ge i x.Cons.length with h'' | h''
     .have hy:x.Cons[i]? = some x.Cons[i]:=Bu h''
      generalize x.Cons[i]=y at hy
      have d1:=k y (B4 hy)
      have d2:=Ib y.Args
      simp only [Ak (by omega:(i:Int)<(x.Cons.length:Int)),cond_true,B6 rfl hy,Ad,Cz h'' (by omega)]
      have hq:∃q,(bif decide ((y.Name.size:Int)>40) then some true else some (decide ((y.Args.length:Int)>8)))=some q:=by
       cases decide ((y.Name.size:Int)>40) <;> exact ⟨_,rfl⟩
      obtain ⟨q,hq⟩:=hq
      erw [hq]
      simp only [Ad]
      cases q with
      | true=>exact .inr ⟨_,rfl,trivial⟩
      | false=>
       simp only [cond_false]
       have key:∀(W:Option (Int⊕(Bool⊕Int))),(∃r,W=some r/\(r = .inl ((i+1:Nat):Int)\/∃e,r = .inr e))->(∃s',W=some (Sum.inl s')/\(∃j:Nat,s'=(j:Int)/\j<=x.Cons.length)/\x.Cons.length-s'.toNat<x.Cons.length-((i:Int)).toNat)\/∃e,W=some (Sum.inr e)/\True:=by
        rintro W ⟨r,rfl,rfl | ⟨e,rfl⟩⟩
        .exact .inl ⟨_,rfl,⟨i+1,rfl,by omega⟩,by simp only [Int.toNat_natCast]; omega⟩
        .exact .inr ⟨_,rfl,trivial⟩
       refine key _ ?_
       refine D9 (fun s=>∃j:Nat,s.1=j/\j<=y.Args.length) (fun s=>y.Args.length-s.1.toNat) (fun _=>True) ⟨0,rfl,by omega⟩ ?_ ?_
       .rintro ⟨_,w⟩ ⟨u,rfl,hu⟩
        rcases Nat.lt_or_ge u y.Args.length with h3 | h3
        .have c:y.Args[u]? = some y.Args[u]:=Bu h3
         generalize y.Args[u]=t at c
         have hm:=G4 (B4 c)
         obtain ⟨⟨g,z⟩,h,_⟩:=Aoo 4000000 t w (by omega) (by omega)
         simp only [Ak (by omega:(u:Int)<(y.Args.length:Int)),cond_true,B6 rfl c,Ad,h,Cz h3 (by omega)]
         cases g with
         | false=>exact .inr ⟨_,rfl,trivial⟩
         | true=>exact .inl ⟨_,rfl,⟨u+1,rfl,by omega⟩,by simp only [Int.toNat_natCast]; omega⟩
        .simp only [Ap (by omega:¬(u:Int)<(y.Args.length:Int)),cond_false]
         exact .inr ⟨_,rfl,trivial⟩
       .rintro (r | r) _
        .exact ⟨_,rfl,.inr ⟨_,rfl⟩⟩
        .exact ⟨_,rfl,.inl rfl⟩
     .simp only [Ap (by omega:¬(i:Int)<(x.Cons.length:Int)),cond_false]
      exact .inr ⟨_,rfl,trivial⟩
    .rintro (r | r) _
     .exact ⟨_,rfl,.inr ⟨_,rfl⟩⟩
     .exact ⟨_,rfl,.inl rfl⟩
  .simp only [Ap (by omega:¬(j:Int)<(l.length:Int)),cond_false]
   exact .inr ⟨_,rfl,trivial⟩
 .rintro (r | r) _
  .exact ⟨_,rfl,trivial⟩
  .exact ⟨_,rfl,trivial⟩
theorem A0f (x:Ce) (f:CSz x):∃b,Vi x=some b:=by
 unfold Vi
 obtain ⟨a,ha,_⟩:=A0e x.Data f.ds
 obtain ⟨b,hb,_⟩:=A0d x.Vars 40 f.nv f.vs
 obtain ⟨c,hc⟩:=Aop x.Res f.rs
 rw [ha,hb,hc]
 cases a <;> cases b <;> exact ⟨_,rfl⟩
theorem A0g (x:Ce) (k:CSz x) (ps:List (List Aj)) (s:ps.length<=1048576) (hp:∀p∈ps,p.length<=1048576/\∀t∈p,TSz t) :
  ∃b,Vg x ps=some b/\(b=true->∀p∈ps,p.length<=10/\∀t∈p,R0 t.Mono):=by
 unfold Vg
 refine D9 (fun v=>∃j:Nat,v=j/\j<=ps.length/\∀p∈ps.take j,p.length<=10/\∀t∈p,R0 t.Mono) (fun v=>ps.length-v.toNat) (fun z=>z = .inl false\/(z = .inr ()/\∀p∈ps,p.length<=10/\∀t∈p,R0 t.Mono)) ⟨0,rfl,by omega,by simp⟩ ?_ ?_
 .rintro v ⟨j,rfl,hj,c⟩
  rcases Nat.lt_or_ge j ps.length with h' | h'
  .have hx:ps[j]? = some ps[j]:=Bu h'
   generalize ps[j]=p at hx
   obtain ⟨i,g⟩:=hp p (B4 hx)
   obtain ⟨b,hb,l⟩:=Az6 p i g
   simp only [Ak (by omega:(j:Int)<(ps.length:Int)),cond_true,B6 rfl hx,Ad,hb,Cz h' (by omega)]
   cases b with
   | false=>exact .inr ⟨_,rfl,.inl rfl⟩
   | true=>
    refine .inl ⟨_,rfl,⟨j+1,rfl,by omega,fun q hq=>?_⟩,by simp only [Int.toNat_natCast]; omega⟩
    rw [C6 hx] at hq
    rcases List.mem_append.1 hq with hq | hq
    .exact c q hq
    .rw [List.mem_singleton] at hq
     subst hq; exact l rfl
  .have:j=ps.length:=by omega
   subst this
   rw [List.take_length] at c
   exact .inr ⟨.inr (),by simp,.inr ⟨rfl,c⟩⟩
 .rintro z (rfl | ⟨rfl,f⟩)
  .exact ⟨false,rfl,fun h=>by cases h⟩
  .obtain ⟨b,hb⟩:=A0f x k
   exact ⟨b,by dsimp only; rw [hb]; rfl,fun _=>f⟩
end Go.Ab
namespace Go.Ab
open Go
theorem CP.dst {p:List Aj} (h:CP p):Dst p:=h.srt.imp fun {a b} hab e=>by
 unfold ltT at hab
 rw [Hx.2 e] at hab; omega
end Go.Ab
namespace Go.Ab
open Go
theorem Aoq:N2 (fun t u:Aj=>Cr t.Mono u.Mono) where
 irr x:=by
  show ¬Cr x.Mono x.Mono<0
  rw [Ano]; omega
 trs x y z h1 h2:=Pe h1 h2
 ntr x y z h1 h2:=by
  show ¬Cr x.Mono z.Mono<0
  have h1:¬Cr x.Mono y.Mono<0:=h1
  have h2:¬Cr y.Mono z.Mono<0:=h2
  intro h3
  rcases Int.lt_trichotomy (Cr x.Mono y.Mono) 0 with k | k | k
  .exact h1 k
  .rw [Hx.1 k] at h3; exact h2 h3
  .exact h2 (Pe (Agg.1 k) h3)
def Abw (b:List Aj):List Aj:=b.mergeSort fun t u=>decide (Cr t.Mono u.Mono<=0)
theorem Aor (b:List Aj):(Abw b).Perm b:=List.mergeSort_perm _ _
theorem A0h (f:List Aj) (hd:Dst f):(Abw f).Pairwise ltT:=by
 have h1:=List.pairwise_mergeSort (le:=fun t u:Aj=>decide (Cr t.Mono u.Mono<=0)) (fun a b c h1 h2=>by
  simp only [decide_eq_true_eq] at *
  have:=Aoq.ntr c b a (by show ¬Cr _ _<0; rw [Rs]; omega) (by show ¬Cr _ _<0; rw [Rs]; omega)
  have this:¬Cr c.Mono a.Mono<0:=this
  rw [Rs] at this; omega) (fun a b=>by
  simp only [Bool.or_eq_true,decide_eq_true_eq]
  rw [Rs a.Mono b.Mono]; omega) f
 have h2:(Abw f).Pairwise fun t u=>t.Mono≠u.Mono:=((Aor f).pairwise_iff (fun {x y} h=>h.symm)).2 hd
 refine (h1.and h2).imp fun {t u} h=>?_
 have a:=of_decide_eq_true h.1
 have b:Cr t.Mono u.Mono≠0:=fun e=>h.2 (Hx.1 e)
 unfold ltT; omega
theorem Aos (b:List Aj) (hd:Dst b) (hm:∀t∈b,MSz t.Mono):∃R,M4 b=some R/\R.Perm b/\R.Pairwise ltT:=by
 rcases Nat.lt_or_ge 12 b.length with h | h
 .have e:Nat.ble b.length 12=false:=by
   cases k:Nat.ble b.length 12 with
   | false=>rfl
   | true=>have:=Nat.le_of_ble_eq_true k; omega
  unfold M4
  rw [e,cond_false]
  obtain ⟨r,f,i,law,hc,hp,g⟩:=Att (cmp:=M5) (l:=b) (r:=Abw b) ⟨_,Aoq,fun x hx y _=>Agu x y (hm x hx),Aor b,A0h b hd⟩
  refine ⟨r,f,hp,?_⟩
  refine (List.Pairwise.imp_of_mem (S:=ltT) (fun {t u} ht hu h=>?_) g)
  have c:=hc t (hp.mem_iff.1 ht) u (hp.mem_iff.1 hu)
  rw [Agu t u (hm t (hp.mem_iff.1 ht))] at c
  have c:=Option.some.inj c
  unfold ltT; rw [c]; exact h
 .exact Azq b hd hm h
theorem A0i:∀(k:Nat),k<1099511627776->(∀i:A9,2*C4 i<=k->Qf k i i=some true)/\(∀l:List A9,2*Fd l+1<=k->Tn k l l=some true):=by
 intro k
 induction k with
 | zero=>exact fun _=>⟨fun i h=>(by have:=Fs i; omega),fun l h=>by omega⟩
 | succ k ih=>
  intro hk
  have ih:=ih (by omega)
  refine ⟨fun i h=>?_,fun l h=>?_⟩
  .have:=Fs i
   rw [Qf,beq_self_eq_true,cond_true,ih.2 i.Kids (by omega)]; rfl
  .have b:=Lv l
   rw [Tn,bne_self_eq_false,cond_false]
   refine Fi l (fun j=>(j:Int)) rfl (by omega) ?_ ?_
   .intro j x hj hx h1 h2 h3
    have:=Kq (B4 hx)
    simp only [h1,h2,h3,cond_true,Ad,ih.1 x (by omega),Dm,cond_false]
   .intro h
    exact ⟨.inr (),by simp only [h]; rfl,rfl⟩
theorem A0j (l:Ca) (h:l.Terms.length<=1048576):Vv l l=some true:=by
 unfold Vv
 rw [bne_self_eq_false,bne_self_eq_false]
 simp only [cond_false,Ad]
 refine Fi l.Terms (fun j=>(j:Int)) rfl (by omega) ?_ ?_
 .intro j x hj hx h1 h2 h3
  simp only [h1,h2,h3,cond_true,Ad,beq_self_eq_true,Bool.and_true,Dm,cond_false]
 .intro h
  exact ⟨.inr (),by simp only [h]; rfl,rfl⟩
theorem A0k (m:A8) (h:MSz m):Vl m m=some true:=by
 have c:=h.nf
 have b:=h.na
 unfold Vl
 rw [bne_self_eq_false,bne_self_eq_false]
 simp only [cond_false,Ad]
 refine Fi m.Factors (fun j=>(j:Int)) rfl (by omega) ?_ ?_
 .intro j x hj hx h1 h2 h3
  have:=h.fi x (B4 hx)
  simp only [h1,h2,h3,cond_true,Ad,bne_self_eq_false,(A0i 4000000 (by omega)).1 x.Index (by omega),Dm,cond_false]
 .intro h1
  refine ⟨.inr (),by simp only [h1]; rfl,?_⟩
  dsimp only
  refine Fi m.Atoms (fun j=>(j:Int)) rfl (by omega) ?_ ?_
  .intro j x hj hx h1 h2 h3
   have:=h.al x (B4 hx)
   simp only [h1,h2,h3,cond_true,Ad,bne_self_eq_false,A0j x.Lin (by omega),Dm,cond_false]
  .intro h1
   exact ⟨.inr (),by simp only [h1]; rfl,rfl⟩
theorem Agy (p:List Aj) (b:p.length<=1048576) (h:∀t∈p,MSz t.Mono/\RB 34359738000 t.Coef):Ja p p=some true:=by
 unfold Ja
 rw [bne_self_eq_false]
 simp only [cond_false]
 refine Fi p (fun j=>(j:Int)) rfl (by omega) ?_ ?_
 .intro j x hj hx h1 h2 h3
  obtain ⟨a1,a2⟩:=h x (B4 hx)
  simp only [h1,h2,h3,cond_true,Ad,Az3 x.Coef (by have:=a2.nl; omega) (by have:=a2.dl; omega),A0k x.Mono a1,Dm,cond_false]
 .intro h1
  exact ⟨.inr (),by simp only [h1]; rfl,rfl⟩
end Go.Ab
namespace Go.Ab
open Go
theorem Aot {x:Ce} (g:CSz x) {ps:List (List Aj)} (b:∀p∈ps,∀t∈p,TSz t) (i:ps.length<=1048576) (h:¬(Ig x/\∀p∈ps,I4 x.Data x.Vars x.Res p=true)):L7 x ps=some (.inr false):=by
 obtain ⟨r,f,c⟩:=Aof x g ps b i
 rcases c with ⟨h2,_⟩ | ⟨_,rfl⟩
 .exact (h h2).elim
 .exact f
theorem Agz {x:Ce} (i:CSz x) {ps:List (List Aj)} (c:∀p∈ps,∀t∈p,TSz t) (j:ps.length<=1048576) (h:Ig x/\∀p∈ps,I4 x.Data x.Vars x.Res p=true):∃b,L7 x ps=some (.inl (true,x,b,[],x.Data,x.Vars,x.Res.Kind,x.Res.Num,x.Res.Args))/\Ft x.Data x.Vars x.Res b:=by
 obtain ⟨r,g,f⟩:=Aof x i ps c j
 rcases f with ⟨_,b,e,hm⟩ | ⟨h2,_⟩
 .exact ⟨b,by rw [g,e],hm⟩
 .exact (h2 h).elim
structure PR (x:Ce) (n:Nat) (f:A8->Rat) (R:List Aj):Prop where
 cp:CP R
 val:∀m,cf R m=f m
 tb:∀t∈R,Hi x t.Mono/\RB 8589934592 t.Coef
 len:R.length<=n
theorem PR.of {x:Ce} {n m:Nat} {f g:A8->Rat} {R:List Aj} (h:PR x n f R) (b:n<=m) (c:∀a,f a=g a):PR x m g R :=
 ⟨h.cp,fun a=>by rw [h.val,c],h.tb,Nat.le_trans h.len b⟩
theorem Jq.nil (x:Ce):Jq x []:=⟨Abl.2 ⟨by simp,CP.nil,fun t ht=>by cases ht⟩,fun t ht=>by cases ht⟩
theorem PR.same {x:Ce} {n:Nat} {f:A8->Rat} {R S:List Aj} (h:PR x n f R) (c:n<=1000) (b:CP S) (e:∀m,cf S m=f m):R=S/\Ja R S=some true:=by
 have:R=S:=CP.ext h.cp b fun m=>by rw [h.val,e]
 subst this
 refine ⟨rfl,Agy R (by have:=h.len; omega) fun t ht=>⟨(h.tb t ht).1.2,(h.tb t ht).2.mono (by omega)⟩⟩
theorem Aou:Ja [] []=some true:=Agy [] (by simp) (fun t ht=>by cases ht)
theorem A0l (a:Aq):∃b,N4 a=some b:=by
 unfold N4
 cases decide ((a.Num.length:Int)<=8) <;> exact ⟨_,rfl⟩
end Go.Ab
namespace Go.Ab
open Go
theorem Ag0:∀n k,bc n k<=n ^ k
 | n,0=>by rw [Jr]; exact Nat.le_refl _
 | 0,k+1=>by simp [bc]
 | n+1,k+1=>by
  have h1:=Ag0 n k
  have h2:=Ag0 n (k+1)
  have h3:n ^ k<=(n+1) ^ k:=Nat.pow_le_pow_left (by omega) k
  have b:n ^ (k+1)<=n*(n+1) ^ k:=by rw [Nat.pow_succ,Nat.mul_comm]; exact Nat.mul_le_mul_left _ h3
  rw [bc,Nat.pow_succ,Nat.mul_add,Nat.mul_one,Nat.mul_comm]; omega
end Go.Ab
namespace Go.Ab
open Go
def Sm (a:Nat):Prop:=a<=5000 ^ 6
theorem Sm.of {a d:Nat} (h:a<=5000 ^ d) (hd:d<=6):Sm a:=Nat.le_trans h (Nat.pow_le_pow_right (by decide) hd)
end Go.Ab
namespace Go.Ab
open Go
theorem Abx (z:Int):mkRat z 1=(z:Rat):=by
 rw [Rat.mkRat_eq_div,show ((1:Nat):Rat)=1 from rfl]; grind
theorem A0m (z:Int) (h1 : -9223372036854775808<=z) (h2:z<=9223372036854775807):∃r,Fz z=some r/\RB 3 r/\Hg r/\rq r=(z:Rat):=by
 have b:Bf z.natAbs<=3:=Mh (n:=z.natAbs) (by omega)
 refine ⟨_,Xe z h1 h2,Hv _ _ _ _ b (by rw [Hu]; decide) (by decide),Nk _ _ _ (by decide),?_⟩
 rw [Kv _ _ _ (by decide),Abx]
 congr 1
 unfold sg
 by_cases h:z<0
 .rw [Ak h,if_pos rfl]; omega
 .rw [Ap h,if_neg (by decide)]; omega
theorem Ur (n:Nat):rq (cR n)=(n:Rat):=by
 unfold cR
 rw [Kv _ _ _ (by decide),Abx]; rfl
theorem Ag1 (n:Nat):Hg (cR n):=Nk _ _ _ (by decide)
end Go.Ab
namespace Go.Ab
open Go
end Go.Ab
namespace Go.Ab
open Go
end Go.Ab
namespace Go.Ab
open Go
end Go.Ab
namespace Go.Ab
open Go
end Go.Ab
namespace Go.Ab
open Go
def sm:Nat->(Nat->Nat)->Nat
 | 0,_=>0
 | n+1,f=>sm n f+f n
theorem X2 {f g:Nat->Nat}:∀{n:Nat},(∀k,k<n->f k=g k)->sm n f=sm n g
 | 0,_=>rfl
 | n+1,h=>by rw [sm,sm,X2 (n:=n) fun k hk=>h k (by omega),h n (by omega)]
theorem X3 (f g:Nat->Nat):∀n,sm n (fun k=>f k+g k)=sm n f+sm n g
 | 0=>rfl
 | n+1=>by simp only [sm,X3 f g n]; omega
theorem Aov (c:Nat) (f:Nat->Nat):∀n,sm n (fun k=>c*f k)=c*sm n f
 | 0=>rfl
 | n+1=>by simp only [sm,Aov c f n,Nat.mul_add]
theorem X4 {f:Nat->Nat}:∀{n:Nat},(∀k,k<n->f k=0)->sm n f=0
 | 0,_=>rfl
 | n+1,h=>by rw [sm,X4 (n:=n) fun k hk=>h k (by omega),h n (by omega)]
theorem Ag2 (f:Nat->Nat):∀n,sm (n+1) f=f 0+sm n (fun k=>f (k+1))
 | 0=>by simp [sm]
 | n+1=>by rw [sm,Ag2 f n,sm]; omega
theorem Aow {f:Nat->Nat} {n:Nat}:∀{m:Nat},n<=m->(∀k,n<=k->f k=0)->sm m f=sm n f
 | 0,h,_=>by rw [show n=0 by omega]
 | m+1,h,hf=>by
  by_cases e:n=m+1
  .rw [e]
  .rw [sm,Aow (m:=m) (by omega) hf,hf m (by omega),Nat.add_zero]
theorem Aby {f:Nat->Nat} {n k:Nat} (hk:k<n) (b:∀j,j≠k->f j=0):sm n f=f k:=by
 induction n with
 | zero=>omega
 | succ n ih=>
  rw [sm]
  by_cases e:k=n
  .subst e
   rw [X4 fun j hj=>b j (by omega),Nat.zero_add]
  .rw [ih (by omega),b n (by omega),Nat.add_zero]
theorem Nn:∀n,bc n n=1
 | 0=>rfl
 | n+1=>by
  rw [bc,Nn n]
  have:bc n (n+1)=0:=by have:=bc_big2 n (n+1) (by omega); exact this
  omega
where bc_big2:∀n k,n<k->bc n k=0
 | n,0,h=>absurd h (by omega)
 | 0,k+1,_=>rfl
 | n+1,k+1,h=>by rw [bc,bc_big2 n k (by omega),bc_big2 n (k+1) (by omega)]
theorem Us {n k:Nat} (h:n<k):bc n k=0:=Nn.bc_big2 n k h
theorem Ut (n k:Nat):bc (n+1) (k+1)=bc n k+bc n (k+1):=by rw [bc]
def Rc (a b k:Nat):Nat:=if b<=k then bc k a*bc a (k-b) else 0
theorem Aox {a b k:Nat} (h:a+b<k):Rc a b k=0:=by
 unfold Rc
 rw [if_pos (by omega),Us (show a<k-b by omega),Nat.mul_zero]
theorem A0n {a b k:Nat} (h:k<a):Rc a b k=0:=by
 unfold Rc
 split
 .rw [Us h,Nat.zero_mul]
 .rfl
theorem Aoy (b k:Nat):Rc 0 b k=if k=b then 1 else 0:=by
 unfold Rc
 by_cases h:k=b
 .subst h; rw [if_pos (Nat.le_refl _),if_pos rfl,Nat.sub_self,Jr,Jr]
 .rw [if_neg h]
  split
  .rw [Us (show 0<k-b by omega),Nat.mul_zero]
  .rfl
theorem Aoz (a k:Nat):Rc a 0 k=if k=a then 1 else 0:=by
 unfold Rc
 rw [if_pos (Nat.zero_le _),Nat.sub_zero]
 by_cases h:k=a
 .subst h; rw [if_pos rfl,Nn]
 .rw [if_neg h]
  rcases Nat.lt_or_ge k a with h2 | h2
  .rw [Us h2,Nat.zero_mul]
  .rw [Us (show a<k by omega),Nat.mul_zero]
theorem A0o (a b k:Nat):Rc (a+1) (b+1) (k+1)=Rc a (b+1) k+Rc (a+1) b k+Rc a b k:=by
 unfold Rc
 by_cases h:b<=k
 .rw [if_pos (by omega),if_pos h,if_pos h,show k+1-(b+1)=k-b by omega,Ut]
  by_cases h2:b+1<=k
  .rw [if_pos h2]
   obtain ⟨j,hj⟩:∃j,k-b=j+1:=⟨k-b-1,by omega⟩
   rw [hj,show k-(b+1)=j by omega,Ut]
   simp only [Nat.add_mul,Nat.mul_add]; omega
  .rw [if_neg h2,show k-b=0 by omega,Jr,Jr]; omega
 .rw [if_neg (by omega),if_neg h,if_neg h,if_neg (by omega)]
theorem A0p (a b:Nat):Rc (a+1) (b+1) 0=0:=by
 unfold Rc; rw [if_neg (by omega)]
theorem A0q (f:Nat->Nat) (n N:Nat):sm (N+1) (fun k=>f k*bc (n+1) k)=sm (N+1) (fun k=>f k*bc n k)+sm N (fun k=>f (k+1)*bc n k):=by
 rw [Ag2,Ag2 (fun k=>f k*bc n k),Jr,Jr]
 have:sm N (fun k=>f (k+1)*bc (n+1) (k+1))=sm N (fun k=>f (k+1)*bc n (k+1))+sm N (fun k=>f (k+1)*bc n k):=by
  rw [<-X3]
  exact X2 fun k _=>by rw [Ut,Nat.mul_add]; omega
 rw [this]; omega
theorem X5:∀(n a b N:Nat),a+b<N->sm N (fun k=>Rc a b k*bc n k)=bc n a*bc n b
 | n,0,b,N,h=>by
  rw [Jr,Nat.one_mul,Aby (k:=b) (by omega) fun j hj=>by rw [Aoy,if_neg hj,Nat.zero_mul],Aoy,if_pos rfl,Nat.one_mul]
 | n,a+1,0,N,h=>by
  rw [Jr,Nat.mul_one,Aby (k:=a+1) (by omega) fun j hj=>by rw [Aoz,if_neg hj,Nat.zero_mul],Aoz,if_pos rfl,Nat.one_mul]
 | 0,a+1,b+1,N,h=>by
  rw [show bc 0 (a+1)=0 from rfl,Nat.zero_mul]
  refine X4 fun k _=>?_
  cases k with
  | zero=>rw [A0p,Nat.zero_mul]
  | succ k=>rw [show bc 0 (k+1)=0 from rfl,Nat.mul_zero]
 | n+1,a+1,b+1,N,h=>by
  obtain ⟨N,rfl⟩:∃M,N=M+1:=⟨N-1,by omega⟩
  rw [A0q,X5 n (a+1) (b+1) (N+1) h]
  have h1:=X5 n a (b+1) N (by omega)
  have h2:=X5 n (a+1) b N (by omega)
  have h3:=X5 n a b N (by omega)
  have c:sm N (fun k=>Rc (a+1) (b+1) (k+1)*bc n k)=sm N (fun k=>Rc a (b+1) k*bc n k)+sm N (fun k=>Rc (a+1) b k*bc n k)+sm N (fun k=>Rc a b k*bc n k):=by
   rw [<-X3,<-X3]
   exact X2 fun k _=>by rw [A0o,Nat.add_mul,Nat.add_mul]
  rw [c,h1,h2,h3,Ut,Ut,Nat.add_mul,Nat.mul_add,Nat.mul_add]; omega
theorem A0r {f g:Nat->Nat} {N:Nat} (h:∀n,n<N->sm N (fun k=>f k*bc n k)=sm N (fun k=>g k*bc n k)):∀k,k<N->f k=g k:=by
 intro k
 induction k using Nat.strongRecOn with
 | ind k ih=>
  intro hk
  have cut:∀F:Nat->Nat,sm N (fun j=>F j*bc k j)=sm k (fun j=>F j*bc k j)+F k:=by
   intro F
   have e:sm N (fun j=>F j*bc k j)=sm (k+1) (fun j=>F j*bc k j):=Aow (by omega) fun j hj=>by rw [Us (by omega),Nat.mul_zero]
   rw [e,sm,Nn,Nat.mul_one]
  have:=h k hk
  rw [cut f,cut g,X2 (f:=fun j=>f j*bc k j) (g:=fun j=>g j*bc k j) fun j hj=>by rw [ih j hj (by omega)]] at this
  omega
end Go.Ab
namespace Go.Ab
open Go
noncomputable def Uu {α:Type} (cmp:α->α->Option Int) (a0:Int):Int×List α->Option ((Int×List α)⊕(Int×List α)):=fun (v31,b)=>
 (show Option Bool from
 bif (decide (v31>a0)) then (
 (Af b v31).bind fun v33=>
 (Af b (Ac (v31-1))).bind fun g=>
 (cmp v33 g).bind fun v35=>
 some (decide (v35<(0:Int))))
 else some false).bind fun f=>
 bif f then (
 (Af b (Ac (v31-1))).bind fun v37=>
 (Af b v31).bind fun c=>
 (Af b v31).bind fun v39=>
 (Af (Ci b v31 v37) (Ac (v31-1))).bind fun v40=>
 some (.inl ((Ac (v31-1)),(Ci (Ci b v31 v37) (Ac (v31-1)) c))))
 else some (.inr (v31,b))
noncomputable def Abz {α:Type} (cmp:α->α->Option Int) (a0 a1:Int) (g:List α):Option (List α) :=
 (Al (S:=(Int×(List α))) (E:=(List α)) (fun (v21,b)=>
 bif (decide (v21<a1)) then (
 (Al (Uu cmp a0) (v21,b)).bind fun (v41,f)=>
 some (.inl ((Ac (v21+1)),f))
 )
 else (
 some (.inr b)
 )
  ) ((Ac (a0+1)),g)).bind fun c=>
 some c
theorem A0s {α:Type} (A R:List α) (x y:α):((A++y::x::R).set (A.length+1) y).set A.length x=A++x::y::R:=by
 induction A with
 | nil=>rfl
 | cons a A ih=>simp only [List.cons_append,List.length_cons,List.set_cons_succ,ih]
theorem Ao0 {α:Type} (A R:List α) (x:α):(A++x::R)[A.length]? = some x:=by simp
theorem A0t {α:Type} (A R:List α) (x y:α):(A++y::x::R)[A.length+1]? = some x:=by
 induction A with
 | nil=>rfl
 | cons a A ih=>simp
theorem A0u {α:Type} (cmp:α->α->Option Int) (y:α) (R:List α):Uu cmp 0 (0,y::R)=some (.inr (0,y::R)):=by
 unfold Uu
 simp only [Ap (by omega:¬(0:Int)>0),cond_false,Ad]
theorem A0v {α:Type} {cmp:α->α->Option Int} {c:α->α->Int} {N:Nat} (i:N<=1099511627776) (A R:List α) (u y:α) (b:cmp u y=some (c u y)) (f:(A++y::u::R).length<=N):Uu cmp 0 (((A.length+1:Nat):Int),A++y::u::R) =
  if c u y<0 then some (.inl ((A.length:Int),A++u::y::R)) else some (.inr (((A.length+1:Nat):Int),A++y::u::R)):=by
 have h:A.length+1<N:=by simp at f; omega
 have g:Ac (((A.length+1:Nat):Int)-1)=(A.length:Int):=by rw [Ac,Bp] <;> omega
 unfold Uu
 simp only [Ak (by omega:((A.length+1:Nat):Int)>0),cond_true,g,B6 (n:=A.length+1) rfl (A0t A R u y),B6 (n:=A.length) rfl (Ao0 A (u::R) y),Ad,b]
 by_cases hc:c u y<0
 .rw [Ak hc,if_pos hc]
  simp only [cond_true]
  rw [Fb (n:=A.length+1) rfl,Fb (n:=A.length) rfl,A0s]
  have:Af ((A++y::u::R).set (A.length+1) y) (A.length:Int)=some y:=by
   refine B6 rfl ?_
   rw [List.getElem?_set_ne (by omega)]; exact Ao0 A (u::R) y
  rw [this]; rfl
 .rw [Ap hc,if_neg hc]; rfl
theorem A0w {α:Type} {cmp:α->α->Option Int} {c:α->α->Int} {N:Nat} (q:N<=1099511627776) :
  ∀(n:Nat) (A R:List α) (x:α),A.length=n->(∀t∈A,cmp x t=some (c x t))->(A++x::R).length<=N ->
   ∃f i,Al (Uu cmp 0) ((A.length:Int),A++x::R)=some ((f.length:Int),f++x::(i++R))/\A=f++i/\(∀a∈i,c x a<0)/\∀k y,f=k++[y]->¬c x y<0:=by
 intro n
 induction n with
 | zero=>
  intro A R x g _ _
  have:A = []:=List.length_eq_zero_iff.1 g
  subst this
  exact ⟨[],[],Ds (A0u cmp x R),rfl,(fun _ h=>by cases h),(fun k y h=>by simp at h)⟩
 | succ n ih=>
  intro A R x g hm b
  obtain ⟨B,y,rfl⟩:∃B y,A=B++[y]:=by
   rcases List.eq_nil_or_concat A with h | ⟨B,y,h⟩
   .rw [h] at g; cases g
   .exact ⟨B,y,by simpa using h⟩
  have s:B.length=n:=by simpa using g
  have D:(B++[y])++x::R=B++y::x::R:=by simp
  have el:(((B++[y]).length:Nat):Int)=((B.length+1:Nat):Int):=by simp
  rw [D] at b ⊢
  rw [el]
  have j:=A0v (cmp:=cmp) (c:=c) q B R x y (hm y (by simp)) b
  by_cases hc:c x y<0
  .rw [if_pos hc] at j
   obtain ⟨f,i,h1,h2,h3,u⟩:=ih B (y::R) x s (fun t ht=>hm t (by simp [ht])) (by simpa using b)
   refine ⟨f,i++[y],?_,by rw [h2]; simp,?_,u⟩
   .rw [Hm j,h1]; simp
   .intro a ha
    rcases List.mem_append.1 ha with ha | ha
    .exact h3 a ha
    .simp only [List.mem_singleton] at ha
     subst ha; exact hc
  .rw [if_neg hc] at j
   refine ⟨B++[y],[],?_,by simp,(fun _ h=>by cases h),?_⟩
   .rw [Ds j]; simp
   .intro k z l
    have:=List.append_inj' l rfl
    have e:y=z:=by simpa using this.2
    subst e; exact hc
theorem A0x {α:Type} {c:α->α->Int} (L:N2 c) {f j:List α} {x:α} (s:(f++j).Pairwise (fun a b=>¬c b a<0)) (h2:∀a∈j,c x a<0) (h1:∀g y,f=g++[y]->¬c x y<0):(f++x::j).Pairwise (fun a b=>¬c b a<0):=by
 obtain ⟨i,l,k⟩:=List.pairwise_append.1 s
 have hx:∀a∈f,¬c x a<0:=by
  intro a ha
  rcases List.eq_nil_or_concat f with h | ⟨g,y,h⟩
  .rw [h] at ha; cases ha
  .have h:f=g++[y]:=by simpa using h
   have q:=h1 g y h
   rw [h] at ha i
   rcases List.mem_append.1 ha with ha | ha
   .exact L.ntr x y a q ((List.pairwise_append.1 i).2.2 a ha y (by simp))
   .simp only [List.mem_singleton] at ha
    subst ha; exact q
 refine List.pairwise_append.2 ⟨i,List.pairwise_cons.2 ⟨fun a ha h=>L.irr x (L.trs x a x (h2 a ha) h),l⟩,fun a ha b hb=>?_⟩
 rcases List.mem_cons.1 hb with rfl | hb
 .exact hx a ha
 .exact k a ha b hb
theorem A0y {α:Type} {cmp:α->α->Option Int} {c:α->α->Int} (L:N2 c) (f:List α) (A:∀x∈f,∀y∈f,cmp x y=some (c x y)) (J:f.length<=1099511627776) :
  ∃R,Abz cmp 0 (f.length:Int) f=some R/\R.Perm f/\R.Pairwise (fun a b=>¬c b a<0):=by
 unfold Abz
 cases f with
 | nil=>
  refine ⟨[],?_,List.Perm.refl _,List.Pairwise.nil⟩
  refine J7 0 (fun _=>((1:Int),([]:List α))) (by simp [Ac,Bp]) (fun j hj=>by omega) ⟨[],?_,rfl⟩
  simp
 | cons z0 B=>
 generalize k:z0::B=f at *
 have hpos:1<=f.length:=by rw [<-k]; simp
 refine D9 (fun s=>∃(i:Nat) (S:List α),s=((i:Int),S++f.drop i)/\1<=i/\i<=f.length/\S.length=i/\S.Perm (f.take i)/\S.Pairwise (fun a b=>¬c b a<0)) (fun s=>f.length-s.1.toNat)
  (fun R=>R.Perm f/\R.Pairwise (fun a b=>¬c b a<0)) ⟨1,[z0],by rw [<-k]; simp [Ac,Bp],by omega,hpos,rfl,by rw [<-k]; simp,List.pairwise_singleton _ _⟩ ?_ ?_
 .rintro _ ⟨i,S,rfl,G,hi,E,g,l⟩
  rcases Nat.lt_or_ge i f.length with h | h
  .have hx:f[i]? = some f[i]:=Bu h
   have hxm:f[i]∈f:=List.getElem_mem h
   generalize f[i]=x at hx hxm
   have D:f.drop i=x::f.drop (i+1):=Kr hx
   have z:(S++x::f.drop (i+1)).length=f.length:=by simp; omega
   simp only [Ak (by omega:(i:Int)<(f.length:Int)),cond_true,Cz h (by omega)]
   rw [D]
   left
   obtain ⟨u,q,h1,h2,h3,I⟩:=A0w (cmp:=cmp) (c:=c) (N:=f.length) (by omega) S.length S (f.drop (i+1)) x rfl (fun t ht=>A x hxm t (List.mem_of_mem_take (g.mem_iff.1 ht))) (by rw [z]; exact Nat.le_refl _)
   rw [E] at h1
   have hp:(u++x::q).Perm (f.take (i+1)):=by
    rw [C6 hx]
    have:(u++x::q).Perm ((u++q)++[x]):=by
     rw [List.append_assoc]
     exact List.Perm.append_left u (List.perm_append_singleton x q).symm
    exact this.trans (by rw [<-h2]; exact g.append_right [x])
   refine ⟨(((i+1:Nat):Int),(u++x::q)++f.drop (i+1)),bnd h1 (by simp),⟨i+1,u++x::q,rfl,by omega,by omega,?_,hp,?_⟩,by simp; omega⟩
   .rw [hp.length_eq,List.length_take]; omega
   .rw [h2] at l
    exact A0x L l h3 I
  .have:i=f.length:=by omega
   subst this
   rw [List.take_length] at g
   simp only [Ap (by omega:¬(f.length:Int)<(f.length:Int)),cond_false,List.drop_length,List.append_nil]
   exact .inr ⟨S,rfl,g,l⟩
 .rintro R ⟨h1,h2⟩
  exact ⟨R,rfl,h1,h2⟩
noncomputable def Ao1 {α:Type} (B:Nat) (gr:Int->Option (List α)) (a0:List (List α)):Option (List α) :=
 (Al (S:=(Int×Int)) (E:=Int) (fun (v2,v3)=>
 bif (decide (v3<(a0.length:Int))) then (
 (Af a0 v3).bind fun v4=>
 bif (decide ((Ac (v2+(v4.length:Int)))<(0:Int))) then (
 none
 )
 else (
 some (.inl ((Ac (v2+(v4.length:Int))),(Ac (v3+1))))
 )
 )
 else (
 some (.inr v2)
 )
  ) (0,0)).bind fun v5=>
 (gr v5).bind fun i=>
 (Al (S:=(Int×(List α))) (E:=(List α)) (fun (b,c)=>
 bif (decide (b<(a0.length:Int))) then (
 (Af a0 b).bind fun f=>
 (B3 B c f).bind fun h=>
 some (.inl ((Ac (b+1)),h))
 )
 else (
 some (.inr c)
 )
  ) (0,i)).bind fun g=>
 some g
theorem Ao2 {α:Type} {B:Nat} (g:B<=1024) {gr:Int->Option (List α)} (l:∀n:Nat,n<=1000000->gr (n:Int)=some []) (a b:List α) (h:a.length+b.length<=1000000):Ao1 B gr [a,b]=some (a++b):=by
 have m1:a.length*B<=1000000*1024:=Nat.mul_le_mul (by omega) g
 have m2:(a.length+b.length)*B<=1000000*1024:=Nat.mul_le_mul h g
 have f:Ac 1=1:=by rw [Ac,Bp] <;> omega
 have c:Ac 2=2:=by rw [Ac,Bp] <;> omega
 have k:Ac (a.length:Int)=(a.length:Int):=by rw [Ac,Bp] <;> omega
 have i:Ac ((a.length:Int)+(b.length:Int))=((a.length:Int)+(b.length:Int)):=by rw [Ac,Bp] <;> omega
 have i0:Af [a,b] 0=some a:=rfl
 have i1:Af [a,b] 1=some b:=rfl
 have s:B3 B [] a=some a:=by rw [Cy (by simp; omega)]; rfl
 have q:B3 B a b=some (a++b):=Cy (by omega)
 unfold Ao1
 refine J7 2 (fun j=>if j=0 then (0,0) else if j=1 then ((a.length:Int),1) else (((a.length+b.length:Nat):Int),2)) rfl ?_ ⟨((a.length+b.length:Nat):Int),?_,?_⟩
 .intro j hj
  rcases (by omega:j=0\/j=1) with rfl | rfl
  .have:¬((a.length:Int)<0):=by omega
   simp [i0,k,f,this]
  .have:¬((a.length:Int)+(b.length:Int)<0):=by omega
   simp [i1,i,c,this]
 .simp
 .rw [l _ h,Ad]
  refine J7 2 (fun j=>if j=0 then (0,[]) else if j=1 then (1,a) else (2,a++b)) rfl ?_ ⟨a++b,?_,rfl⟩
  .intro j hj
   rcases (by omega:j=0\/j=1) with rfl | rfl
   .simp [i0,f,s]
   .simp [i1,c,q]
  .simp
end Go.Ab
namespace Go.Ab
open Go
def Big:Nat:=1000000000 ^ 100
structure Np (x:Aq) (a:Nat):Prop where
 rb:RB 200 x
 s:sv x=false
 n:nv x=a
 d:dv x=1
theorem Ag3 {a:Nat} (h:a<Big):Bf a<=100:=Kn h
theorem Np.cR {a:Nat} (h:Bf a<=200):Np (cR a) a:=⟨Agx h (by decide),(Agw a).1,(Agw a).2.1,(Agw a).2.2⟩
theorem Np.c {a:Nat} (h:a<Big):Np (Ab.cR a) a:=Np.cR (by have:=Ag3 h; omega)
theorem Np.z:Np ⟨false,[],[]⟩ 0:=⟨Ayj 200,by unfold sv; simp,by unfold nv; simp [Ai],by unfold dv; simp [Ai]⟩
theorem Np.add {x y:Aq} {a b:Nat} (hx:Np x a) (hy:Np y b):M3 x y=some (Ab.cR (a+b)):=by
 rw [Ae9 _ _ 200 200 hx.rb hy.rb (by omega) (by omega),hx.s,hx.n,hx.d,hy.s,hy.n,hy.d]
 simp [Jl,Ik,Ab.cR]
theorem Np.mul {x y:Aq} {a b:Nat} (hx:Np x a) (hy:Np y b):H7 x y=some (Ab.cR (a*b)):=by
 rw [Xf _ _ 200 200 hx.rb hy.rb (by omega) (by omega),hx.s,hx.n,hx.d,hy.s,hy.n,hy.d]
 simp [Ab.cR]
theorem Np.sign {x:Aq} {a:Nat} (hx:Np x a):Ho x=some (if a=0 then 0 else 1):=by
 rw [Ae7 _ 200 hx.rb (by omega),hx.s,hx.n]
 simp [Ia]
theorem Np.can {x:Aq} {a:Nat} (hx:Np x a):Li x=some (Ab.cR a):=by
 rw [Aas _ 200 hx.rb (by omega),hx.s,hx.n,hx.d]; rfl
def Ls (n:Nat) (f:Nat->Nat):List Aq:=(List.range n).map fun k=>cR (f k)
theorem Mm (n:Nat) (f:Nat->Nat):(Ls n f).length=n:=by simp [Ls]
theorem Kw {n k:Nat} (f:Nat->Nat) (h:k<n):(Ls n f)[k]? = some (cR (f k)):=by simp [Ls,h]
theorem X6 {n:Nat} {l:List Aq} {f:Nat->Nat} (b:l.length=n) (h:∀k,k<n->l[k]? = some (cR (f k))):l=Ls n f:=by
 apply List.ext_getElem?
 intro k
 rcases Nat.lt_or_ge k n with hk | hk
 .rw [h k hk,Kw f hk]
 .rw [List.getElem?_eq_none (by omega),List.getElem?_eq_none (by rw [Mm]; omega)]
theorem Ab0 {α R:Type} {step:Int×List α->Option ((Int×List α)⊕List α)} {J:List α->Option R} {r:R} {i n:Nat} (o:List α) (g:Nat->α) (hi:i<=n) (q:o.length=n)
  (l:∀(j:Nat) (o':List α),i<=j->j<n->o'.length=n->step ((j:Int),o')=some (.inl (((j+1:Nat):Int),o'.set j (g j))))
  (y:∀o',o'.length=n->step ((n:Int),o')=some (.inr o'))
  (z:∀o',o'.length=n->(∀k,k<i->o'[k]? = o[k]?)->(∀k,i<=k->k<n->o'[k]? = some (g k))->J o'=some r):(Al step ((i:Int),o)).bind J=some r:=by
 obtain ⟨e,A,f⟩:=Jy (step:=step) (fun s=>∃(j:Nat) (o':List α),s=((j:Int),o')/\i<=j/\j<=n/\o'.length=n/\(∀k,k<i->o'[k]? = o[k]?)/\∀k,i<=k->k<j->o'[k]? = some (g k)) (fun s=>n-s.1.toNat)
  (fun o'=>o'.length=n/\(∀k,k<i->o'[k]? = o[k]?)/\∀k,i<=k->k<n->o'[k]? = some (g k)) (by
  rintro _ ⟨j,o',rfl,c,x,h1,h2,h3⟩
  rcases Nat.lt_or_ge j n with h | h
  .refine .inl ⟨_,l j o' c h h1,⟨j+1,o'.set j (g j),rfl,by omega,by omega,by simp [h1],fun k hk=>?_,fun k b u=>?_⟩,by simp; omega⟩
   .rw [List.getElem?_set_ne (by omega)]; exact h2 k hk
   .rcases Nat.lt_or_ge k j with h' | h'
    .rw [List.getElem?_set_ne (by omega)]; exact h3 k b h'
    .have:k=j:=by omega
     subst this
     rw [List.getElem?_set_self (by omega)]
  .have:j=n:=by omega
   subst this
   exact .inr ⟨o',y o' h1,h1,h2,h3⟩) ((i:Int),o) ⟨i,o,rfl,by omega,hi,q,fun _ _=>rfl,fun k h1 h2=>by omega⟩
 rw [A,Ad]
 exact z e f.1 f.2.1 f.2.2
theorem A0z (n:Nat) (b:n<=1000):W1 (n:Int)=some (Ls n fun _=>0):=by
 unfold W1
 rw [Iz rfl rfl (Nat.le_refl _) (by omega) (by omega),Ad]
 refine Ab0 (i:=0) (n:=n) _ (fun _=>cR 0) (by omega) (by simp) ?_ ?_ ?_
 .intro j o' _ h2 h3
  have hx:o'[j]? = some o'[j]:=Bu (by omega)
  simp only [List.length_replicate,Ak (by omega:(j:Int)<(n:Int)),cond_true,Azy,Ad,B6 rfl hx,Cz h2 (by omega),Fb (n:=j) rfl]
 .intro o' h
  simp only [List.length_replicate,Ap (by omega:¬(n:Int)<(n:Int)),cond_false]
 .intro o' h1 _ h3
  rw [X6 h1 (f:=fun _=>0) fun k hk=>h3 k (by omega) hk]
theorem Ao3 (n k:Nat) (b:n<1000000000) (hk:k<=64):Aaa (n:Int) (k:Int)=some (cR (bc n k)):=by
 have h:Ts (n:Int) (k:Int)=some (cR (bc n k)):=by
  rw [Aly n k b hk,Xz,show A7 false (D2 k*bc n k) (D2 k)=A7 false (D2 k*bc n k) (D2 k*1) by rw [Nat.mul_one],Lt _ _ _ _ (Rk k)]
  rfl
 exact h
theorem Ao4 {n k:Nat} (h:n<=40):bc n k<Big:=by
 refine Nat.lt_of_le_of_lt (X0 n k) ?_
 exact Nat.lt_of_le_of_lt (Nat.pow_le_pow_right (by decide) h) (by decide)
theorem A00 (a b:Nat) (ha:a<=16) (hb:b<=16):Tt (a:Int) (b:Int)=some (Ls (a+b+1) (Rc a b)):=by
 unfold Tt
 have q:Ac ((a:Int)+(b:Int))=((a+b:Nat):Int):=by rw [Ac,Bp] <;> omega
 have l:Ac (((a+b:Nat):Int)+1)=((a+b+1:Nat):Int):=by rw [Ac,Bp] <;> omega
 have e:(if (b:Int)>(a:Int) then (b:Int) else (a:Int))=((max a b:Nat):Int):=by split <;> omega
 rw [q,l,A0z _ (by omega),Ad,e]
 refine Ab0 (i:=max a b) (n:=a+b+1) _ (fun k=>cR (Rc a b k)) (by omega) (by simp [Mm]) ?_ ?_ ?_
 .intro j o' h1 h2 h3
  have hx:o'[j]? = some o'[j]:=Bu (by omega)
  have g:Ac ((j:Int)-(b:Int))=((j-b:Nat):Int):=by rw [Ac,Bp] <;> omega
  have s:Rc a b j=bc j a*bc a (j-b):=by unfold Rc; rw [if_pos (by omega)]
  simp only [Ak (by omega:(j:Int)<=((a+b:Nat):Int)),cond_true,Ao3 j a (by omega) (by omega),g,Ao3 a (j-b) (by omega) (by omega),Ad,(Np.c (Ao4 (by omega:j<=40))).mul (Np.c (Ao4 (k:=j-b) (by omega:a<=40))),B6 rfl hx,Cz h2 (by omega),Fb (n:=j) rfl,s]
 .intro o' h
  simp only [Ap (by omega:¬((a+b+1:Nat):Int)<=((a+b:Nat):Int)),cond_false]
 .intro o' h1 h2 h3
  rw [X6 h1 (f:=Rc a b) fun k hk=>?_]
  rcases Nat.lt_or_ge k (max a b) with h | h
  .rw [h2 k h,Kw _ hk]
   have:Rc a b k=0:=by
    rcases (by omega:k<a\/k<b) with h | h
    .exact A0n h
    .unfold Rc; rw [if_neg (by omega)]
   rw [this]
  .exact h3 k h hk
end Go.Ab
namespace Go.Ab
open Go
theorem A01 {m n:Nat} {f g:Nat->Nat} {c:Nat} (hm:m<=1000) (D:n<=1000) (B:∀k,k<m->f k<Big) (q:∀k,k<n->g k<Big) (hc:c<Big) :
  Q4 (Ls m f) (Ls n g) (cR c)=some (Ls (max m n) fun k=>(if k<m then f k else 0)+(if k<n then g k else 0)*c):=by
 unfold Q4
 rw [Mm,Mm]
 have e:(if (n:Int)>(m:Int) then (n:Int) else (m:Int))=((max m n:Nat):Int):=by split <;> omega
 rw [e,Iz rfl rfl (Nat.le_refl _) (by omega) (by omega),Ad]
 refine Ab0 (i:=0) (n:=max m n) _ (fun k=>cR ((if k<m then f k else 0)+(if k<n then g k else 0)*c)) (by omega) (by simp) ?_ ?_ ?_
 .intro j o' _ h2 h3
  have hx:o'[j]? = some o'[j]:=Bu (by omega)
  obtain ⟨x,A,u⟩:∃x:Aq,(bif decide ((j:Int)<(m:Int)) then ((Af (Ls m f) (j:Int)).bind fun b=>some (b.Neg,b.Num,b.Den)) else some (false,[],[]))=some (x.Neg,x.Num,x.Den)/\Np x (if j<m then f j else 0):=by
   by_cases h:j<m
   .rw [Ak (by omega),cond_true,B6 rfl (Kw f h),if_pos h]
    exact ⟨_,rfl,Np.c (B j h)⟩
   .rw [Ap (by omega),cond_false,if_neg h]
    exact ⟨⟨false,[],[]⟩,rfl,Np.z⟩
  obtain ⟨y,s,l⟩:∃x:Aq,(bif decide ((j:Int)<(n:Int)) then ((Af (Ls n g) (j:Int)).bind fun b=>some (b.Neg,b.Num,b.Den)) else some (false,[],[]))=some (x.Neg,x.Num,x.Den)/\Np x (if j<n then g j else 0)/\(if j<n then g j else 0)<Big:=by
   by_cases h:j<n
   .rw [Ak (by omega),cond_true,B6 rfl (Kw g h),if_pos h]
    exact ⟨_,rfl,Np.c (q j h),q j h⟩
   .rw [Ap (by omega),cond_false,if_neg h]
    exact ⟨⟨false,[],[]⟩,rfl,Np.z,by decide⟩
  have hq:Bf ((if j<n then g j else 0)*c)<=200:=by
   have:=Gg (if j<n then g j else 0) c
   have:=Ag3 l.2
   have:=Ag3 hc
   omega
  have hb:Wt x y (cR c)=some (cR ((if j<m then f j else 0)+(if j<n then g j else 0)*c)):=by
   unfold Wt
   rw [(Np.c hc).mul l.1,Ad,Nat.mul_comm c,u.add (Np.cR hq)]; rfl
  simp only [List.length_replicate,Ak (by omega:(j:Int)<((max m n:Nat):Int)),cond_true]
  erw [A,Ad,s,Ad]
  dsimp only
  rw [hb,Ad,B6 rfl hx,Ad,Cz h2 (by omega),Fb (n:=j) rfl]
 .intro o' h
  simp only [List.length_replicate,Ap (by omega:¬((max m n:Nat):Int)<((max m n:Nat):Int)),cond_false]
 .intro o' h1 _ h3
  rw [X6 h1 (f:=fun k=>(if k<m then f k else 0)+(if k<n then g k else 0)*c) fun k hk=>h3 k (by omega) hk]
theorem Ag4 {p:List Aq} {n:Nat} {f:Nat->Nat} (u:n<1000) (s:p.length=n+1) (hp:∀k,k<n+1->∃x,p[k]? = some x/\Np x (f k)) (b:f n≠0):Mb p=some (Ls (n+1) f):=by
 unfold Mb
 obtain ⟨x,q,l⟩:=hp n (by omega)
 have w:Ac (((n+1:Nat):Int)-1)=(n:Int):=by rw [Ac,Bp] <;> omega
 refine bnd (a:=((n+1:Nat):Int)) (Ds ?_) ?_
 .rw [s]
  simp only [Ak (by omega:((n+1:Nat):Int)>0),cond_true,w,B6 rfl q,Ad,l.sign,if_neg b]
  rfl
 .rw [Iz rfl rfl (Nat.le_refl _) (by omega) (by omega),Ad]
  refine Ab0 (i:=0) (n:=n+1) _ (fun k=>cR (f k)) (by omega) (by simp) ?_ ?_ ?_
  .intro j o' _ h2 h3
   have hx:o'[j]? = some o'[j]:=Bu (by omega)
   obtain ⟨y,g,c⟩:=hp j h2
   simp only [List.length_replicate,Ak (by omega:(j:Int)<((n+1:Nat):Int)),cond_true,B6 rfl g,c.can,Ad,B6 rfl hx,Cz h2 (by omega),Fb (n:=j) rfl]
  .intro o' h
   simp only [List.length_replicate,Ap (by omega:¬((n+1:Nat):Int)<((n+1:Nat):Int)),cond_false]
  .intro o' h1 _ h3
   rw [X6 h1 (f:=f) fun k hk=>h3 k (by omega) hk]
def F1 (n d:Nat) (f:Nat->Nat) (k:Nat):Nat:=sm n fun a=>f a*Rc a d k
theorem Ao5 (a d:Nat):0<Rc a d (a+d):=by
 unfold Rc
 rw [if_pos (by omega),show a+d-d=a by omega,Nn]
 have:0<bc (a+d) a:=by
  have h:∀d,0<bc (a+d) a:=by
   intro d
   induction d with
   | zero=>rw [Nat.add_zero,Nn]; decide
   | succ d ih=>
    cases a with
    | zero=>rw [Jr]; decide
    | succ a=>rw [show a+1+(d+1)=(a+1+d)+1 by omega,Ut]; omega
  exact h d
 omega
theorem A02 {n d:Nat} {f:Nat->Nat} {p q:List Aq} (a1:n+d<=12) (hp:p=Ls (n+1) f) (i:f n≠0) (hq:q.length=d+1) (R:∀k,k<d+1->∃x,q[k]? = some x/\Np x (if k=d then 1 else 0))
  (U:∀k,k<n+1->f k<Big) (Y:∀a k,a<=n+1->F1 a d f k<Big):Wo p q=some (Ls (n+d+1) (F1 (n+1) d f),true):=by
 unfold Wo
 have l:p.length=n+1:=by rw [hp,Mm]
 rw [l,hq,Ap (by omega),Ap (by omega)]
 simp only [cond_false,Ad]
 have c1:Mb p=some (Ls (n+1) f):=Ag4 (by omega) l (fun k hk=>⟨_,by rw [hp]; exact Kw f hk,Np.c (U k hk)⟩) i
 have c2:Mb q=some (Ls (d+1) fun k=>if k=d then 1 else 0):=Ag4 (by omega) hq R (by simp)
 have w:Ac (((n+1:Nat):Int)+((d+1:Nat):Int))=((n+d+2:Nat):Int):=by rw [Ac,Bp] <;> omega
 rw [c1,Ad,c2,Ad,Mm,Mm,Cm (by omega),Cm (by omega)]
 simp only [cond_false,Ad]
 rw [w,Ap (by omega),cond_false]
 obtain ⟨r,r1,Z⟩:=D9 (J:=fun B=>(Mb B).bind fun A=>some (A,true)) (Q:=fun r=>r=(Ls (n+d+1) (F1 (n+1) d f),true)) (step:=fun (x:List Aq×Int)=>match x with
  | (v25,v26)=>
   bif (decide (v26<((n+1:Nat):Int))) then (
   (Af (Ls (n+1) f) v26).bind fun M=>
   (Al (S:=((List Aq)×Int)) (E:=((List Aq)×Int)) (fun (g,v37)=>
   bif (decide (v37<((d+1:Nat):Int))) then (
   (Af (Ls (d+1) fun k=>if k=d then 1 else 0) v37).bind fun I=>
   (H7 M I).bind fun v40=>
   (Ho v40).bind fun G=>
   bif (G==(0:Int)) then (
   some (.inl (g,(Ac (v37+1))))
   )
   else (
   (Tt v26 v37).bind fun D=>
   (Q4 g D v40).bind fun v44=>
   some (.inl (v44,(Ac (v37+1))))
   )
   )
   else (
   some (.inr (g,v37))
   )
    ) (v25,0)).bind fun (v45,v46)=>
   some (.inl (v45,(Ac (v26+1))))
   )
   else (
   some (.inr v25)
   )) (s:=([],0))
  (fun s=>∃(a L:Nat) (h:Nat->Nat),s=(Ls L h,(a:Int))/\a<=n+1/\L<=a+d/\(∀k,(if k<L then h k else 0)=F1 a d f k)/\(a=n+1->L=n+d+1)) (fun s=>n+1-s.2.toNat)
  (fun e=>e=Ls (n+d+1) (F1 (n+1) d f)) ⟨0,0,fun _=>0,rfl,by omega,by omega,fun k=>by simp [F1,sm],by omega⟩ (by
  rintro _ ⟨a,L,h,rfl,ha,hL,z,y⟩
  rcases Nat.lt_or_ge a (n+1) with h1 | h1
  .left
   have N:Np (cR 0) 0:=Np.c (by decide)
   have b:∀k,F1 (a+1) d f k=F1 a d f k+f a*Rc a d k:=fun k=>rfl
   have hh:∀k,k<L->h k<Big:=fun k hk=>by
    have:=z k
    rw [if_pos hk] at this
    rw [this]; exact Y a k (by omega)
   by_cases h0:f a=0
   .refine ⟨(Ls L h,((a+1:Nat):Int)),?_,⟨a+1,L,h,rfl,by omega,by omega,fun k=>by rw [b,h0,z]; simp,fun e=>?_⟩,by simp; omega⟩
    .simp only [Ak (by omega:(a:Int)<((n+1:Nat):Int)),cond_true,B6 rfl (Kw f h1),Ad,h0]
     refine J7 (d+1) (fun j=>(Ls L h,(j:Int))) rfl ?_ ⟨(Ls L h,((d+1:Nat):Int)),?_,?_⟩
     .intro j hj
      have hy:Np (cR (if j=d then 1 else 0)) (if j=d then 1 else 0):=Np.c (by split <;> decide)
      simp only [Ak (by omega:(j:Int)<((d+1:Nat):Int)),cond_true,B6 rfl (Kw _ hj),Ad,N.mul hy,Nat.zero_mul,N.sign,if_true,Cz hj (by omega)]
      rfl
     .simp only [Ap (by omega:¬((d+1:Nat):Int)<((d+1:Nat):Int)),cond_false]
     .rw [Cz h1 (by omega)]
    .have:a=n:=by omega
     subst this; exact (i h0).elim
   .have u:=Np.c (U a h1)
    have V:Q4 (Ls L h) (Ls (a+d+1) (Rc a d)) (cR (f a))=some (Ls (a+d+1) fun k=>(if k<L then h k else 0)+(if k<a+d+1 then Rc a d k else 0)*f a):=by
     rw [A01 (by omega) (by omega) hh (fun k hk=>?_) (U a h1),show max L (a+d+1)=a+d+1 by omega]
     unfold Rc
     split
     .refine Nat.lt_of_le_of_lt (Nat.mul_le_mul (X0 k a) (X0 a (k-d))) ?_
      rw [<-Nat.pow_add]
      exact Nat.lt_of_le_of_lt (Nat.pow_le_pow_right (by decide) (by omega:k+a<=40)) (by decide)
     .decide
    refine ⟨(Ls (a+d+1) fun k=>(if k<L then h k else 0)+(if k<a+d+1 then Rc a d k else 0)*f a,((a+1:Nat):Int)),?_,⟨a+1,a+d+1,_,rfl,by omega,by omega,fun k=>?_,fun e=>by omega⟩,by simp; omega⟩
    .simp only [Ak (by omega:(a:Int)<((n+1:Nat):Int)),cond_true,B6 rfl (Kw f h1),Ad]
     refine J7 (d+1) (fun j=>if j<=d then (Ls L h,(j:Int)) else (Ls (a+d+1) fun k=>(if k<L then h k else 0)+(if k<a+d+1 then Rc a d k else 0)*f a,(j:Int))) (by simp) ?_ ⟨((Ls (a+d+1) fun k=>(if k<L then h k else 0)+(if k<a+d+1 then Rc a d k else 0)*f a),((d+1:Nat):Int)),?_,?_⟩
     .intro j hj
      have hy:Np (cR (if j=d then 1 else 0)) (if j=d then 1 else 0):=Np.c (by split <;> decide)
      rw [if_pos (by omega)]
      simp only [Ak (by omega:(j:Int)<((d+1:Nat):Int)),cond_true,B6 rfl (Kw _ hj),Ad,u.mul hy,Cz hj (by omega)]
      rcases Nat.lt_or_ge j d with h2 | h2
      .rw [if_neg (by omega:¬j=d),Nat.mul_zero,N.sign,Ad,if_pos (by omega:j+1<=d)]
       rfl
      .have:j=d:=by omega
       subst this
       rw [if_pos rfl,Nat.mul_one,u.sign,Ad,if_neg h0,A00 a j (by omega) (by omega),Ad,V,if_neg (by omega)]
       rfl
     .rw [if_neg (by omega)]
      simp only [Ap (by omega:¬((d+1:Nat):Int)<((d+1:Nat):Int)),cond_false]
     .rw [Cz h1 (by omega)]
    .rw [b,<-z]
     by_cases hk:k<a+d+1
     .rw [if_pos hk,if_pos hk,Nat.mul_comm (Rc a d k)]
     .rw [if_neg hk,if_neg (by omega),Aox (by omega)]; simp
  .have:a=n+1:=by omega
   subst this
   right
   have X:=y rfl
   refine ⟨Ls L h,?_,?_⟩
   .simp only [Ap (by omega:¬((n+1:Nat):Int)<((n+1:Nat):Int)),cond_false]
   .subst X
    refine X6 (Mm _ _) fun k hk=>?_
    have:=z k
    rw [if_pos hk] at this
    rw [Kw _ hk,this]) (by
  rintro _ rfl
  refine ⟨_,bnd (Ag4 (n:=n+d) (f:=F1 (n+1) d f) (by omega) (Mm _ _) (fun k hk=>⟨_,Kw _ hk,Np.c (Y _ _ (by omega))⟩) ?_) rfl,rfl⟩
  have e:F1 (n+1) d f (n+d)=F1 n d f (n+d)+f n*Rc n d (n+d):=rfl
  have:=Nat.mul_pos (Nat.pos_of_ne_zero i) (Ao5 n d)
  omega)
 rw [<-Z]
 exact r1
end Go.Ab
namespace Go.Ab
open Go
theorem A03 (d x N:Nat) (f:Nat->Nat):∀M,(∀a,a<M->a+d<N)->sm N (fun k=>F1 M d f k*bc x k)=sm M (fun a=>f a*bc x a)*bc x d:=by
 intro M
 induction M with
 | zero=>intro _; rw [X4 (fun k _=>by simp [F1,sm])]; simp [sm]
 | succ M ih=>
  intro h
  have e:∀k,F1 (M+1) d f k*bc x k=F1 M d f k*bc x k+f M*(Rc M d k*bc x k):=fun k=>by
   show (F1 M d f k+f M*Rc M d k)*bc x k=_
   rw [Nat.add_mul,Nat.mul_assoc]
  rw [X2 (fun k _=>e k),X3,ih (fun a ha=>h a (by omega)),Aov,X5 x M d N (h M (by omega))]
  show _=(sm M (fun a=>f a*bc x a)+f M*bc x M)*bc x d
  rw [Nat.add_mul,Nat.mul_assoc (f M)]
theorem A04 (d:Nat) (f:Nat->Nat) (k:Nat):∀{m n:Nat},m<=n->F1 m d f k<=F1 n d f k:=by
 intro m n h
 induction n with
 | zero=>
  have:m=0:=by omega
  subst this; exact Nat.le_refl _
 | succ n ih=>
  rcases Nat.lt_or_ge m (n+1) with h' | h'
  .have:=ih (by omega)
   have e:F1 (n+1) d f k=F1 n d f k+f n*Rc n d k:=rfl
   omega
  .have:m=n+1:=by omega
   subst this; exact Nat.le_refl _
def prb (x:Nat):List Ba->Nat
 | []=>1
 | a::l=>bc x a.Deg.toNat*prb x l
def C1:List Ba->Nat
 | []=>0
 | a::l=>a.Deg.toNat+C1 l
theorem Ao6 (x:Nat) (l m:List Ba):prb x (l++m)=prb x l*prb x m:=by
 induction l with
 | nil=>simp [prb]
 | cons a l ih=>simp only [List.cons_append,prb,ih,Nat.mul_assoc]
theorem R3 (l m:List Ba):C1 (l++m)=C1 l+C1 m:=by
 induction l with
 | nil=>simp [C1]
 | cons a l ih=>simp only [List.cons_append,C1,ih,Nat.add_assoc]
theorem Ab1 {l m:List Ba} (h:l.Perm m):C1 l=C1 m:=by
 induction h with
 | nil=>rfl
 | cons a _ ih=>simp only [C1,ih]
 | swap a b l=>simp only [C1]; omega
 | trans _ _ h1 h2=>exact h1.trans h2
theorem A05 (x d:Nat):bc x d<=(x+1) ^ d:=Nat.le_trans (Ag0 x d) (Nat.pow_le_pow_left (by omega) d)
theorem Ao7 (x:Nat):∀l:List Ba,prb x l<=(x+1) ^ C1 l
 | []=>by simp [prb,C1]
 | a::l=>by
  simp only [prb,C1,Nat.pow_add]
  exact Nat.mul_le_mul (A05 x _) (Ao7 x l)
theorem R4 {x:Nat} {l:List Ba} (hx:x<=1048576) (hd:C1 l<=12):prb x l<Big:=by
 refine Nat.lt_of_le_of_lt (Ao7 x l) ?_
 refine Nat.lt_of_le_of_lt (Nat.pow_le_pow_left (by omega:x+1<=1048577) _) ?_
 exact Nat.lt_of_le_of_lt (Nat.pow_le_pow_right (by decide) hd) (by decide)
def PwN (l:List Ba) (N:Nat) (f:Nat->Nat):Prop:=N=C1 l/\f N≠0/\∀x,sm (N+1) (fun k=>f k*bc x k)=prb x l
theorem PwN.le {l:List Ba} {N:Nat} {f:Nat->Nat} (h:PwN l N f) {k:Nat} (hk:k<N+1):f k<=prb k l:=by
 have h1:=h.2.2 k
 have h2:f k*bc k k<=sm (N+1) (fun j=>f j*bc k j):=by
  have:∀n,k<n->f k*bc k k<=sm n (fun j=>f j*bc k j):=by
   intro n
   induction n with
   | zero=>intro h; omega
   | succ n ih=>
    intro h
    show _<=sm n _+f n*bc k n
    rcases Nat.lt_or_ge k n with h' | h'
    .have:=ih h'; omega
    .have:k=n:=by omega
     subst this; omega
  exact this _ hk
 rw [Nn,Nat.mul_one] at h2
 omega
theorem PwN.step {l:List Ba} {N:Nat} {f:Nat->Nat} (h:PwN l N f) (a:Ba):PwN (l++[a]) (N+a.Deg.toNat) (F1 (N+1) a.Deg.toNat f):=by
 refine ⟨by rw [R3,h.1]; simp [C1],?_,fun x=>?_⟩
 .have e:F1 (N+1) a.Deg.toNat f (N+a.Deg.toNat)=F1 N a.Deg.toNat f (N+a.Deg.toNat)+f N*Rc N a.Deg.toNat (N+a.Deg.toNat):=rfl
  have:=Nat.mul_pos (Nat.pos_of_ne_zero h.2.1) (Ao5 N a.Deg.toNat)
  omega
 .rw [A03 _ x _ f (N+1) (fun b ha=>by omega),h.2.2 x,Ao6]
  simp [prb]
theorem A06 (l:List Ba) (x:l≠[]) (ht:∀a∈l,a.Lin.Terms.length≠0) (hd:∀a∈l,0<=a.Deg) (M:C1 l<=12) (R:l.length<=1000) :
  ∃N f,Ln l=some (Ls (N+1) f)/\PwN l N f:=by
 have h0:Aad l=false:=by
  cases l with
  | nil=>exact (x rfl).elim
  | cons a L=>
   have:=ht a (by simp)
   show (a.Lin.Terms.length==0)=false
   simpa using this
 have h1:∃N f,Aac l=some (Ls (N+1) f)/\PwN l N f:=by
  unfold Aac
  rw [Uq,Ad]
  suffices h:∃r,_/\∃N f,r=Ls (N+1) f/\PwN l N f by
   obtain ⟨r,G,N,f,E,D⟩:=h
   exact ⟨N,f,by rw [<-E]; exact G,D⟩
  refine D9 (fun s=>∃(i N:Nat) (f:Nat->Nat),s=(Ls (N+1) f,(i:Int))/\i<=l.length/\PwN (l.take i) N f) (fun s=>l.length-s.2.toNat) (fun e=>∃N f,e=Ls (N+1) f/\PwN l N f)
   ⟨0,0,fun _=>1,rfl,by omega,by simp [PwN,C1,prb,sm,Jr]⟩ ?_ ?_
  .rintro _ ⟨i,N,f,rfl,hi,g⟩
   rcases Nat.lt_or_ge i l.length with h | h
   .left
    have hx:l[i]? = some l[i]:=Bu h
    have b:=List.getElem_mem h
    generalize l[i]=a at hx b
    have S:=ht a b
    have J:=hd a b
    have B:C1 l=C1 (l.take i)+(a.Deg.toNat+C1 (l.drop (i+1))):=by
     have:=R3 (l.take i) (l.drop i)
     rw [List.take_append_drop] at this
     rw [this,Kr hx]; rfl
    have U:=g.1
    have w:Ac (a.Deg+1)=((a.Deg.toNat+1:Nat):Int):=by rw [Ac,Bp] <;> omega
    have I:Af (List.replicate (a.Deg.toNat+1) (⟨false,[],[]⟩:Aq)) a.Deg=some ⟨false,[],[]⟩:=B6 (n:=a.Deg.toNat) (by omega) (by simp)
    have u:=g.step a
    have hb:∀A k,A<=N+1->F1 A a.Deg.toNat f k<Big:=by
     intro A k y
     refine Nat.lt_of_le_of_lt (A04 _ f k y) ?_
     rcases Nat.lt_or_ge k (N+a.Deg.toNat+1) with hk | hk
     .refine Nat.lt_of_le_of_lt (u.le hk) (R4 (by omega) ?_)
      rw [R3]; simp only [C1]; omega
     .have:F1 (N+1) a.Deg.toNat f k=0:=X4 fun j hj=>by rw [Aox (by omega)]; rfl
      rw [this]; decide
    have hm:=A02 (n:=N) (d:=a.Deg.toNat) (f:=f) (p:=Ls (N+1) f) (q:=Ci (List.replicate (a.Deg.toNat+1) ⟨false,[],[]⟩) a.Deg (cR 1)) (by omega) rfl g.2.1 (by rw [Fb (n:=a.Deg.toNat) (by omega)]; simp) (fun k hk=>by
     rw [Fb (n:=a.Deg.toNat) (by omega)]
     by_cases e:k=a.Deg.toNat
     .subst e
      rw [if_pos rfl]
      exact ⟨_,List.getElem?_set_self (by simp),Np.c (by decide)⟩
     .rw [if_neg e,List.getElem?_set_ne (by omega)]
      exact ⟨⟨false,[],[]⟩,by simp [hk],Np.z⟩) (fun k hk=>Nat.lt_of_le_of_lt (g.le hk) (R4 (by omega) (by omega))) hb
    refine ⟨(Ls (N+a.Deg.toNat+1) (F1 (N+1) a.Deg.toNat f),((i+1:Nat):Int)),?_,⟨i+1,_,_,rfl,by omega,by rw [C6 hx]; exact u⟩,by simp; omega⟩
    simp only [Ak (by omega:(i:Int)<(l.length:Int)),cond_true,B6 rfl hx,Ad,Cm (by omega:¬(a.Lin.Terms.length:Int)=0),cond_false,w,Iz rfl rfl (Nat.le_refl _) (by omega:56*(a.Deg.toNat+1)<=281474976710656) (by omega),Uq,I,hm,Cz h (by omega)]
   .have:i=l.length:=by omega
    subst this
    rw [List.take_length] at g
    right
    exact ⟨_,by simp only [Ap (by omega:¬(l.length:Int)<(l.length:Int)),cond_false],_,_,rfl,g⟩
  .rintro _ ⟨N,f,rfl,h⟩
   exact ⟨_,rfl,N,f,rfl,h⟩
 obtain ⟨N,f,h2,h3⟩:=h1
 refine ⟨N,f,?_,h3⟩
 unfold Ln
 rw [h0,cond_false]
 exact h2
theorem A07 {c:Int} {d:Int} (hc:c<=1048576) (hd:0<=d) (b:d<=64):M9 c d=some (cR (bc c.toNat d.toNat),true):=by
 have h:=Az0 c.toNat d.toNat (by omega) (by omega)
 have e:((d.toNat:Nat):Int)=d:=by omega
 rw [e] at h
 rw [<-h]
 unfold M9
 have f:(if c>(0:Int) then c else 0)=(if ((c.toNat:Nat):Int)>(0:Int) then ((c.toNat:Nat):Int) else 0):=by split <;> split <;> omega
 rw [f]
theorem A08 (l:List Ba) {c:Int} (hc:c<=1048576) (ht:∀a∈l,a.Lin.Terms.length=0/\a.Lin.Const=c) (hd:∀a∈l,0<=a.Deg) (G:C1 l<=12) (I:l.length<=1000) :
  Ln l=some [cR (prb c.toNat l)]:=by
 have h1:Aab l=some [cR (prb c.toNat l)]:=by
  unfold Aab
  rw [Uq,Ad]
  obtain ⟨r,B,A⟩:∃r,_/\r = [cR (prb c.toNat l)]:=D9 (fun s=>∃i:Nat,s=((i:Int),[cR (prb c.toNat (l.take i))])/\i<=l.length) (fun s=>l.length-s.1.toNat) (fun e=>e = [cR (prb c.toNat l)]) (J:=fun o=>some o)
   (step:=fun (x:Int×List Aq)=>match x with
    | (g,f)=>
     bif (decide (g<(l.length:Int))) then (
     (Af l g).bind fun b=>
     bif ((b.Lin.Terms.length:Int)==(0:Int)) then (
     (M9 b.Lin.Const b.Deg).bind fun k=>
     (Af f 0).bind fun v20=>
     (H7 v20 k.1).bind fun v21=>
     (Af f 0).bind fun v22=>
     some (.inl ((Ac (g+1)),(Ci f 0 v21)))
     )
     else (
     (Ez 56 (Ac (b.Deg+1)) (Ac (b.Deg+1)) ((Aq.mk false [] []):Aq)).bind fun q=>
     (Fz 1).bind fun v25=>
     (Af q b.Deg).bind fun v26=>
     none
     )
     )
     else (
     some (.inr f)
     )) (s:=(0,[cR 1]))
   ⟨0,rfl,by omega⟩ (by
   rintro _ ⟨i,rfl,hi⟩
   rcases Nat.lt_or_ge i l.length with h | h
   .left
    have hx:l[i]? = some l[i]:=Bu h
    have j:=List.getElem_mem h
    generalize l[i]=a at hx j
    obtain ⟨L,D⟩:=ht a j
    have y:=hd a j
    have e:C1 l=C1 (l.take i)+(a.Deg.toNat+C1 (l.drop (i+1))):=by
     have:=R3 (l.take i) (l.drop i)
     rw [List.take_append_drop] at this
     rw [this,Kr hx]; rfl
    have hb:prb c.toNat (l.take i)<Big:=R4 (by omega) (by omega)
    have z:bc c.toNat a.Deg.toNat<Big:=by
     have:=R4 (x:=c.toNat) (l:=[a]) (by omega) (by simp only [C1]; omega)
     simpa [prb] using this
    have u:Af [cR (prb c.toNat (l.take i))] 0=some (cR (prb c.toNat (l.take i))):=rfl
    refine ⟨_,?_,⟨i+1,rfl,by omega⟩,by simp; omega⟩
    simp only [Ak (by omega:(i:Int)<(l.length:Int)),cond_true,B6 rfl hx,Ad,Ea (by omega:(a.Lin.Terms.length:Int)=0),D,A07 hc y (by omega:a.Deg<=64),u,(Np.c hb).mul (Np.c z),Cz h (by omega)]
    rw [C6 hx,Ao6]
    simp [prb,Ci]
   .have:i=l.length:=by omega
    subst this
    right
    exact ⟨[cR (prb c.toNat (List.take l.length l))],by simp only [Ap (by omega:¬(l.length:Int)<(l.length:Int)),cond_false],by rw [List.take_length]⟩) (by
   rintro _ rfl
   exact ⟨_,rfl,rfl⟩)
  rw [<-A]
  exact B
 have h0:Aad l=true:=by
  cases l with
  | nil=>rfl
  | cons a E=>
   have:=(ht a (by simp)).1
   show (a.Lin.Terms.length==0)=true
   simpa using this
 unfold Ln
 rw [h0,cond_true,h1]
end Go.Ab
namespace Go.Ab
open Go
noncomputable def X7 {α:Type} (cmp:α->α->Option Int) (a0:Int) (g:List α):Option (List α) :=
 (Al (S:=(Int×Int×(List α))) (E:=(Int×Int×(List α))) (fun (v3,v4,i)=>
 bif (decide (v4<=a0)) then (
 (Abz cmp v3 v4 i).bind fun h=>
 (Gc g.length h).bind fun l=>
 some (.inl (v4,(Ac (v4+20)),h))
 )
 else (
 some (.inr (v3,v4,i))
 )
  ) (0,20,g)).bind fun (v8,v9,f)=>
 (Abz cmp v8 a0 f).bind fun c=>
 (Gc g.length c).bind fun v12=>
 (Al (S:=(Int×Int×Int)) (E:=Unit) (fun (b,k,j)=>
 bif (decide (b<a0)) then (
 (Al (S:=Unit) (E:=Unit) (fun _=>
 bif (decide ((Ac (2*b))<=a0)) then (
 none
 )
 else (
 some (.inr ())
 )
  ) ()).bind fun _=>
 bif (decide ((Ac (0+b))<a0)) then (
 none
 )
 else (
 some (.inl ((Ac (b*2)),0,(Ac (2*b))))
 )
 )
 else (
 some (.inr ())
 )
  ) (20,v8,v9)).bind fun _=>
 some c
theorem Ag5 {α:Type} {cmp:α->α->Option Int} {c:α->α->Int} (L:N2 c) (f:List α) (g:∀x∈f,∀y∈f,cmp x y=some (c x y)) (h:f.length<20) :
  ∃R,X7 cmp (f.length:Int) f=some R/\R.Perm f/\R.Pairwise (fun a b=>¬c b a<0):=by
 obtain ⟨R,h1,h2,h3⟩:=A0y L f g (by omega)
 refine ⟨R,?_,h2,h3⟩
 unfold X7
 refine bnd (a:=(0,20,f)) (Ds ?_) ?_
 .simp only [Ap (by omega:¬(20:Int)<=(f.length:Int)),cond_false]
 .dsimp only
  rw [h1,Ad,Nm h2.length_eq.symm,Ad]
  refine bnd (a:=()) (Ds ?_) rfl
  simp only [Ap (by omega:¬(20:Int)<(f.length:Int)),cond_false]
theorem Ab2:N2 Fg where
 irr x:=by rw [(Ka.zero x x trivial trivial).2 rfl]; omega
 trs x y z h1 h2:=Ka.trans x y z trivial trivial trivial h1 h2
 ntr x y z h1 h2 h3:=by
  rcases Int.lt_trichotomy (Fg x y) 0 with k | k | k
  .exact h1 k
  .have:=(Ka.zero x y trivial trivial).1 k
   subst this; exact h2 h3
  .have b:Fg y x<0:=by rw [Ka.anti x y trivial trivial]; omega
   exact h2 (Ka.trans y x z trivial trivial trivial b h3)
theorem A09:N2 (fun a b:Ba=>Fg a.Lin b.Lin):=⟨fun _=>Ab2.irr _,fun _ _ _=>Ab2.trs _ _ _,fun _ _ _=>Ab2.ntr _ _ _⟩
def Ab3 (l:List Ba):Prop:=l.Pairwise fun a b=>¬Fg b.Lin a.Lin<0
theorem Ao8 (b:List Ba) (ht:∀a∈b,a.Lin.Terms.length<1099511627776) (c:b.length<20):∃R,Tg b=some R/\R.Perm b/\Ab3 R:=by
 obtain ⟨R,h1,h2,h3⟩:=Ag5 (cmp:=Th) A09 b (fun x hx y _=>by
  unfold Th
  rw [Abi x.Lin y.Lin (ht x hx)]; rfl) c
 refine ⟨R,?_,h2,h3⟩
 unfold Tg
 have e:Zu (b.length:Int) b=X7 Th (b.length:Int) b:=rfl
 rw [e,h1,Ad,Nm h2.length_eq.symm]; rfl
theorem A1a:Oh []=some []:=by
 obtain ⟨R,h1,h2,h3⟩:=Ag5 (cmp:=Oi) (c:=fun _ _=>0) ⟨fun _=>by omega,fun _ _ _ h=>by omega,fun _ _ _ _ _=>by omega⟩ ([]:List Bh) (fun x hx=>by cases hx) (by simp)
 have b:R = []:=List.Perm.eq_nil h2
 subst b
 unfold Oh
 have e:Wm ((([]:List Bh).length:Nat):Int) []=X7 Oi ((([]:List Bh).length:Nat):Int) []:=rfl
 rw [e,h1]; rfl
theorem Ao9 {α:Type} (n:Nat) (h:n<=1000000):N3 (α:=α) (n:Int)=some []:=by
 unfold N3
 rw [Ak (by omega),Ak (by omega)]; rfl
theorem A1b (a b:List Ba) (h:a.length+b.length<=1000000):Z1 [a,b]=some (a++b) :=
 Ao2 (B:=40) (by decide) (gr:=Z5) (fun n h=>Ao9 n h) a b h
theorem A1c (a b:List Bh) (h:a.length+b.length<=1000000):Z0 [a,b]=some (a++b) :=
 Ao2 (B:=40) (by decide) (gr:=Z4) (fun n h=>Ao9 n h) a b h
theorem Apa (m n:A8) (h1:m.Factors.length+n.Factors.length<=1000000) (h2:m.Atoms.length+n.Atoms.length<=1000000):Wn m n=some ⟨m.Factors++n.Factors,m.Atoms++n.Atoms⟩:=by
 unfold Wn
 rw [A1c _ _ h1,Ad,A1b _ _ h2]; rfl
def atO (l:Ca) (k:Nat):List Ba:=if k=0 then [] else [⟨l,k⟩]
theorem A1d (l:Ca) (k:Nat):Qp l (k:Int)=some (atO l k):=by
 unfold Qp atO
 by_cases h:k=0
 .rw [Ea (by omega),if_pos h]; rfl
 .rw [Cm (by omega),if_neg h]; rfl
theorem Apb (l:Ca) (k:Nat):(atO l k).length<=1:=by unfold atO; split <;> simp
abbrev FS:={F:List Bh // F.length<=1000}
theorem A1e {t:Aj} {x:Aq} {K:Nat} {A B:List Ba} {F:FS} (hm:t.Mono=⟨F.1,A⟩) (b:A.length+B.length<=1000000) (i:K<30000000000) (h1:RB K t.Coef) (h2:RB 200 x) :
  ∃u,Lm t x ⟨[],B⟩=some u/\u.Mono=⟨F.1,A++B⟩/\rq u.Coef=rq t.Coef*rq x/\RB (K+202) u.Coef:=by
 obtain ⟨c,h,g,_,f⟩:=Ang h1 h2 (by omega) (by omega)
 refine ⟨⟨c,⟨F.1,A++B⟩⟩,?_,rfl,f,g⟩
 unfold Lm
 have:=F.2
 rw [h,Ad,hm,Apa _ _ (by simp; omega) b,List.append_nil]; rfl
abbrev Ef:=List Ba×Nat
inductive F2 (F:FS) (c:Rat) (K:Nat):List Aj->List Ef->Prop
 | nil:F2 F c K [] []
 | cons {t:Aj} {b:Ef} {ts:List Aj} {bs:List Ef}:t.Mono=⟨F.1,b.1⟩->rq t.Coef=c*(b.2:Rat)->RB K t.Coef->F2 F c K ts bs->F2 F c K (t::ts) (b::bs)
theorem F2.len {F:FS} {c:Rat} {K:Nat} {ts:List Aj} {bs:List Ef} (h:F2 F c K ts bs):ts.length=bs.length:=by
 induction h with
 | nil=>rfl
 | cons _ _ _ _ ih=>simp [ih]
theorem F2.app {F:FS} {c:Rat} {K:Nat} {ts f:List Aj} {bs cs:List Ef} (h:F2 F c K ts bs) (h':F2 F c K f cs):F2 F c K (ts++f) (bs++cs):=by
 induction h with
 | nil=>exact h'
 | cons a b d _ ih=>exact .cons a b d ih
theorem F2.mono {F:FS} {c:Rat} {K f:Nat} {ts:List Aj} {bs:List Ef} (h:F2 F c K ts bs) (hk:K<=f):F2 F c f ts bs:=by
 induction h with
 | nil=>exact .nil
 | cons a b d _ ih=>exact .cons a b (d.mono hk) ih
theorem F2.get {F:FS} {c:Rat} {K:Nat} {ts:List Aj} {bs:List Ef} (h:F2 F c K ts bs):∀{j:Nat} {t:Aj},ts[j]? = some t->∃b,bs[j]? = some b/\t.Mono=⟨F.1,b.1⟩/\rq t.Coef=c*(b.2:Rat)/\RB K t.Coef:=by
 induction h with
 | nil=>intro j t h; simp at h
 | @cons t b ts bs a1 a2 a3 _ ih=>
  intro j u hj
  cases j with
  | zero=>
   simp only [List.getElem?_cons_zero,Option.some.injEq] at hj
   subst hj
   exact ⟨b,rfl,a1,a2,a3⟩
  | succ j=>
   simp only [List.getElem?_cons_succ] at hj
   simpa using ih hj
def fs0:FS:=⟨[],by decide⟩
abbrev Rep (c:Rat) (K:Nat):List Aj->List Ef->Prop:=F2 fs0 c K
def F5 (B:List Ef) (l:Ca) (f:Nat->Nat) (n:Nat):List Ef:=(List.range n).flatMap fun k=>if f k=0 then [] else B.map fun b=>(b.1++atO l k,b.2*f k)
theorem R5 (B:List Ef) (l:Ca) (f:Nat->Nat) (n:Nat):F5 B l f (n+1)=F5 B l f n++(if f n=0 then [] else B.map fun b=>(b.1++atO l n,b.2*f n)):=by
 unfold F5
 rw [List.range_succ,List.flatMap_append]; simp
theorem Apc (B:List Ef) (l:Ca) (f:Nat->Nat) (n:Nat):(F5 B l f n).length<=n*B.length:=by
 induction n with
 | zero=>simp [F5]
 | succ n ih=>
  rw [R5,List.length_append,Nat.add_mul,Nat.one_mul]
  have:(if f n=0 then ([]:List Ef) else B.map fun b=>(b.1++atO l n,b.2*f n)).length<=B.length:=by split <;> simp
  omega
noncomputable def X8 (h:List Aj) (l:Ca) (k:Int) (x:Aq):Int×List Aj->Option ((Int×List Aj)⊕(Int×List Aj)):=fun (b,c)=>
 bif (decide (b<(h.length:Int))) then (
 (Af h b).bind fun g=>
 (Qp l k).bind fun v194=>
 (Lm g x (A8.mk [] v194)).bind fun f=>
 (B3 104 c [f]).bind fun i=>
 some (.inl ((Ac (b+1)),i))
 )
 else (
 some (.inr (b,c))
 )
theorem A1f {F:FS} {c:Rat} {K M:Nat} {g o:List Aj} {B:List Ef} {l:Ca} {k f:Nat} {x:Aq} (z:F2 F c K g B) (hx:rq x=(f:Rat)) (q:RB 200 x) (S:K<30000000000) (R:∀b∈B,b.1.length<=M) (N:M<=1000) (hl:o.length+g.length<=1000000000) :
  ∃T,Al (X8 g l (k:Int) x) (0,o)=some ((g.length:Int),o++T)/\F2 F c (K+202) T (B.map fun b=>(b.1++atO l k,b.2*f)):=by
 obtain ⟨e,X,T,V,U⟩:=Jy (step:=X8 g l (k:Int) x) (fun s=>∃(j:Nat) (T:List Aj),s=((j:Int),o++T)/\j<=g.length/\T.length=j/\F2 F c (K+202) T ((B.take j).map fun b=>(b.1++atO l k,b.2*f))) (fun s=>g.length-s.1.toNat)
  (fun e=>∃T,e=((g.length:Int),o++T)/\F2 F c (K+202) T (B.map fun b=>(b.1++atO l k,b.2*f))) (by
  rintro _ ⟨j,T,rfl,hj,L,y⟩
  rcases Nat.lt_or_ge j g.length with h | h
  .left
   have i:g[j]? = some g[j]:=Bu h
   generalize g[j]=t at i
   obtain ⟨b,b1,b2,Z,Y⟩:=z.get i
   have J:=R b (B4 b1)
   have:=Apb l k
   obtain ⟨u,I,G,E,D⟩:=A1e (A:=b.1) (B:=atO l k) b2 (by omega) S Y q
   refine ⟨_,?_,⟨j+1,T++[u],rfl,by omega,by simp [L],?_⟩,by simp; omega⟩
   .unfold X8
    simp only [Ak (by omega:(j:Int)<(g.length:Int)),cond_true,B6 rfl i,Ad,A1d,I,Cz h (by omega)]
    rw [Cy (by simp; omega),Ad,List.append_assoc]
   .rw [C6 b1,List.map_append]
    refine y.app (.cons G ?_ D .nil)
    rw [E,Z,hx]
    show _=c*((b.2*f:Nat):Rat)
    rw [Rat.natCast_mul]; grind
  .have:j=g.length:=by omega
   subst this
   right
   refine ⟨_,by unfold X8; simp only [Ap (by omega:¬(g.length:Int)<(g.length:Int)),cond_false],T,rfl,?_⟩
   rw [List.take_of_length_le (by rw [z.len]; exact Nat.le_refl _)] at y
   exact y) (0,o) ⟨0,[],by simp,by omega,rfl,.nil⟩
 exact ⟨T,by rw [<-V]; exact X,U⟩
end Go.Ab
namespace Go.Ab
open Go
noncomputable def Ab4 (g:List Aj) (l:Ca) (p:List Aq):Int×List Aj->Option ((Int×List Aj)⊕(Int×List Aj)):=fun (v173,b)=>
 bif (decide (v173<(p.length:Int))) then (
 (Af p v173).bind fun v175=>
 (Ho v175).bind fun c=>
 bif (c==(0:Int)) then (
 some (.inl ((Ac (v173+1)),b))
 )
 else (
 (Al (X8 g l v173 v175) (0,b)).bind fun (h,f)=>
 some (.inl ((Ac (v173+1)),f))
 )
 )
 else (
 some (.inr (v173,b))
 )
theorem A1g {F:FS} {c:Rat} {K M n:Nat} {g:List Aj} {B:List Ef} {l:Ca} {f:Nat->Nat} (z:F2 F c K g B) (I:∀k,k<n->f k<Big) (N:K<30000000000) (L:∀b∈B,b.1.length<=M) (y:M<=1000) (Y:n<=1000) (Z:g.length<=1000000) :
  ∃T,Al (Ab4 g l (Ls n f)) (0,[])=some ((n:Int),T)/\F2 F c (K+202) T (F5 B l f n):=by
 obtain ⟨e,X,T,V,S⟩:=Jy (step:=Ab4 g l (Ls n f)) (fun s=>∃(j:Nat) (T:List Aj),s=((j:Int),T)/\j<=n/\F2 F c (K+202) T (F5 B l f j)) (fun s=>n-s.1.toNat)
  (fun e=>∃T,e=((n:Int),T)/\F2 F c (K+202) T (F5 B l f n)) (by
  rintro _ ⟨j,T,rfl,hj,q⟩
  unfold Ab4
  rw [Mm]
  rcases Nat.lt_or_ge j n with h | h
  .left
   have D:=Apc B l f j
   have J:=q.len
   have R:=z.len
   have A:j*B.length<=1000*1000000:=Nat.mul_le_mul (by omega) (by omega)
   have x:j*B.length+B.length<=1000*B.length:=by
    have:(j+1)*B.length<=1000*B.length:=Nat.mul_le_mul_right _ (by omega)
    rw [Nat.add_mul] at this; omega
   have i:=I j h
   simp only [Ak (by omega:(j:Int)<(n:Int)),cond_true,B6 rfl (Kw f h),Ad,(Np.c i).sign,Cz h (by omega)]
   by_cases h0:f j=0
   .refine ⟨_,by rw [if_pos h0]; rfl,⟨j+1,T,rfl,by omega,?_⟩,by simp; omega⟩
    rw [R5,if_pos h0,List.append_nil]; exact q
   .have u:RB 200 (cR (f j)):=(Np.c i).rb
    obtain ⟨U,G,E⟩:=A1f (o:=T) (l:=l) (k:=j) (f:=f j) z (Ur (f j)) u N L y (by omega)
    refine ⟨_,by rw [if_neg h0,G]; rfl,⟨j+1,T++U,rfl,by omega,?_⟩,by simp; omega⟩
    rw [R5,if_neg h0]
    exact q.app E
  .have:j=n:=by omega
   subst this
   right
   exact ⟨_,by simp only [Ap (by omega:¬(j:Int)<(j:Int)),cond_false],T,rfl,q⟩) (0,[]) ⟨0,[],rfl,by omega,.nil⟩
 exact ⟨T,by rw [<-V]; exact X,S⟩
def Pw (l:Ca) (N:Nat) (f:Nat->Nat) (g:List Ba):Prop:=(l.Terms.length≠0/\PwN g N f)\/(l.Terms.length=0/\N=0/\f 0=prb l.Const.toNat g)
abbrev Grp:=Ca×Nat×(Nat->Nat)
inductive Gs:List Grp->List Ba->Prop
 | nil:Gs [] []
 | cons {l:Ca} {N:Nat} {f:Nat->Nat} {g rest:List Ba} {gs:List Grp}:g≠[]->(∀a∈g,a.Lin=l)->(∀a∈rest,Fg l a.Lin<0)->Pw l N f g->Gs gs rest->Gs ((l,N,f)::gs) (g++rest)
def R6 (B:List Ef):List Grp->List Ef
 | []=>B
 | q::gs=>R6 (F5 B q.1 q.2.2 (q.2.1+1)) gs
structure Atk (A:List Ba):Prop where
 deg:∀a∈A,0<=a.Deg
 lin:∀a∈A,Fm a.Lin=true
 sum:C1 A<=12
 len:A.length<=12
theorem Uv {a:Ca} (h:Fm a=true):a.Terms.length<=16/\-1048576<=a.Const/\a.Const<=1048576:=by
 unfold Fm at h
 simp only [Dx,decide_eq_true_eq] at h
 exact ⟨h.1.2.2,h.1.1,h.1.2.1⟩
theorem Atk.sub {A B:List Ba} (h:Atk (A++B)):Atk A/\Atk B:=by
 have h1:=h.sum
 have h2:=h.len
 rw [R3] at h1
 rw [List.length_append] at h2
 exact ⟨⟨fun a ha=>h.deg a (by simp [ha]),fun a ha=>h.lin a (by simp [ha]),by omega,by omega⟩,⟨fun a ha=>h.deg a (by simp [ha]),fun a ha=>h.lin a (by simp [ha]),by omega,by omega⟩⟩
theorem A1h {l:Ca} {g:List Ba} (hk:Atk g) (b:g≠[]) (j:∀a∈g,a.Lin=l):∃N f,Ln g=some (Ls (N+1) f)/\Pw l N f g/\N<=C1 g/\∀k,k<N+1->f k<Big:=by
 have s:=hk.len
 have q:=hk.sum
 obtain ⟨a,ha⟩:∃a,a∈g:=by
  cases g with
  | nil=>exact (b rfl).elim
  | cons a _=>exact ⟨a,by simp⟩
 have c:=hk.lin a ha
 rw [j a ha] at c
 have hc:=(Uv c).2.2
 by_cases h:l.Terms.length=0
 .have h1:=A08 g hc (fun a ha=>by rw [j a ha]; exact ⟨h,rfl⟩) hk.deg hk.sum (by omega)
  exact ⟨0,fun _=>prb l.Const.toNat g,h1,.inr ⟨h,rfl,rfl⟩,by omega,fun k _=>R4 (by omega) q⟩
 .obtain ⟨N,f,h1,h2⟩:=A06 g b (fun a ha=>by rw [j a ha]; exact h) hk.deg hk.sum (by omega)
  refine ⟨N,f,h1,.inl ⟨h,h2⟩,by rw [h2.1]; exact Nat.le_refl _,fun k i=>Nat.lt_of_le_of_lt (h2.le i) (R4 ?_ q)⟩
  have:=h2.1
  omega
noncomputable def Ab5 (r:List Ba) (l:Ca):Int->Option (Int⊕Int):=fun b=>
 bif (decide (b<(r.length:Int))) then (
 (Af r b).bind fun v117=>
 (Kj v117.Lin l).bind fun c=>
 bif (c==(0:Int)) then (
 some (.inl (Ac (b+1)))
 )
 else (
 some (.inr b)
 )
 )
 else (
 some (.inr b)
 )
theorem A1i {r:List Ba} {a:Ba} (h0:r[0]? = some a) (ht:∀b∈r,b.Lin.Terms.length<1099511627776) (q:r.length<=1000) :
  ∃n:Nat,Al (Ab5 r a.Lin) 1=some (n:Int)/\1<=n/\n<=r.length/\(∀b∈r.take n,b.Lin=a.Lin)/\∀b,r[n]? = some b->b.Lin≠a.Lin:=by
 have hpos:=Dn h0
 obtain ⟨e,l,n,k,i⟩:=Jy (step:=Ab5 r a.Lin) (fun s=>∃n:Nat,s=(n:Int)/\1<=n/\n<=r.length/\∀b∈r.take n,b.Lin=a.Lin) (fun s=>r.length-s.toNat)
  (fun e=>∃n:Nat,e=(n:Int)/\1<=n/\n<=r.length/\(∀b∈r.take n,b.Lin=a.Lin)/\∀b,r[n]? = some b->b.Lin≠a.Lin) (by
  rintro _ ⟨j,rfl,g,f,c⟩
  unfold Ab5
  rcases Nat.lt_or_ge j r.length with h | h
  .have hx:r[j]? = some r[j]:=Bu h
   have hm:=List.getElem_mem h
   generalize r[j]=b at hx hm
   simp only [Ak (by omega:(j:Int)<(r.length:Int)),cond_true,B6 rfl hx,Ad,Abi _ _ (ht b hm),Cz h (by omega)]
   by_cases hc:b.Lin=a.Lin
   .left
    rw [Ea ((Ka.zero _ _ trivial trivial).2 hc)]
    refine ⟨_,rfl,⟨j+1,rfl,by omega,by omega,fun d hd=>?_⟩,by omega⟩
    rw [C6 hx] at hd
    rcases List.mem_append.1 hd with hd | hd
    .exact c d hd
    .simp only [List.mem_singleton] at hd
     rw [hd]; exact hc
   .right
    rw [Cm (fun h=>hc ((Ka.zero _ _ trivial trivial).1 h))]
    exact ⟨_,rfl,j,rfl,g,f,c,fun d hd=>by rw [hx] at hd; cases hd; exact hc⟩
  .right
   refine ⟨_,by simp only [Ap (by omega:¬(j:Int)<(r.length:Int)),cond_false],j,rfl,g,f,c,fun d hd=>?_⟩
   have:=Dn hd
   omega) 1 ⟨1,rfl,by omega,by omega,fun b hb=>by
    cases r with
    | nil=>simp at hpos
    | cons x r=>simp at hb h0; rw [hb,h0]⟩
 exact ⟨n,by rw [<-k]; exact l,i⟩
noncomputable def X9:(List Aj×List Ba)->Option ((List Aj×List Ba)⊕List Aj):=fun (g,b)=>
 bif (decide ((b.length:Int)>(0:Int))) then (
 (Af b 0).bind fun f=>
 (Al (Ab5 b f.Lin) 1).bind fun c=>
 (E7 b 0 c).bind fun i=>
 (Ln i).bind fun h=>
 (Al (Ab4 g f.Lin h) (0,[])).bind fun (k,j)=>
 (E7 b c b.length).bind fun v201=>
 some (.inl (j,v201))
 )
 else (
 some (.inr g)
 )
theorem A1j (n:Nat):n+1<=2 ^ n:=by
 induction n with
 | zero=>decide
 | succ n ih=>rw [Nat.pow_succ]; omega
theorem Apd {B:List Ef} {l:Ca} {f:Nat->Nat} {n M:Nat} (c:∀b∈B,b.1.length<=M):∀b∈F5 B l f n,b.1.length<=M+1:=by
 intro b hb
 unfold F5 at hb
 rw [List.mem_flatMap] at hb
 obtain ⟨k,_,hk⟩:=hb
 split at hk
 .cases hk
 .rw [List.mem_map] at hk
  obtain ⟨d,hd,rfl⟩:=hk
  have:=c d hd
  have:=Apb l k
  simp only [List.length_append]; omega
theorem Ape {F:FS} {c:Rat}:∀(n:Nat) (rest:List Ba) (j:List Aj) (B:List Ef) (K M:Nat),rest.length<=n->Ab3 rest->Atk rest->F2 F c K j B->(∀b∈B,b.1.length<=M)->M+rest.length<=1000->K+202*rest.length<30000000000->B.length*2 ^ C1 rest<=1000000 ->
  ∃gs i,Al X9 (j,rest)=some i/\Gs gs rest/\F2 F c (K+202*rest.length) i (R6 B gs)/\i.length<=B.length*2 ^ C1 rest:=by
 intro n
 induction n with
 | zero=>
  intro rest j B K M hn _ _ A _ _ _ _
  have:rest = []:=List.length_eq_zero_iff.1 (by omega)
  subst this
  exact ⟨[],j,Ds (by unfold X9; simp),.nil,by simpa [R6] using A,by rw [A.len]; simp [C1]⟩
 | succ n ih=>
  intro rest j B K M hn hS R A hM ae hK E
  cases g:rest with
  | nil=>
   exact ⟨[],j,Ds (by unfold X9; simp),.nil,by simpa [R6] using A.mono (by omega),by rw [A.len]; simp [C1]⟩
  | cons a r'=>
   rw [<-g]
   have h0:rest[0]? = some a:=by rw [g]; rfl
   have ab:0<rest.length:=Dn h0
   have hT:∀b∈rest,b.Lin.Terms.length<1099511627776:=fun b hb=>by have:=(Uv (R.lin b hb)).1; omega
   have af:=R.len
   obtain ⟨m,m1,m2,m3,m4,m5⟩:=A1i h0 hT (by omega)
   have u:rest=rest.take m++rest.drop m:=(List.take_append_drop m rest).symm
   have L:=(u ▸ R:Atk (rest.take m++rest.drop m)).sub
   have y:rest.take m≠[]:=by
    intro h
    have:=congrArg List.length h
    rw [List.length_take] at this
    simp only [List.length_nil] at this
    omega
   obtain ⟨N,f,p1,p2,p3,p4⟩:=A1h L.1 y m4
   have Z:C1 rest=C1 (rest.take m)+C1 (rest.drop m):=by rw [<-R3,List.take_append_drop]
   have ac:=R.sum
   have U:2 ^ C1 rest=2 ^ C1 (rest.take m)*2 ^ C1 (rest.drop m):=by rw [Z,Nat.pow_add]
   have aa:B.length<=1000000:=Nat.le_trans (Nat.le_mul_of_pos_right _ (Nat.pow_pos (by decide))) E
   obtain ⟨T,t1,t2⟩:=A1g (l:=a.Lin) (n:=N+1) A p4 (by omega) hM (by omega) (by omega) (by rw [A.len]; exact aa)
   have z:X9 (j,rest)=some (.inl (T,rest.drop m)):=by
    have Y:Af rest 0=some a:=B6 (n:=0) rfl h0
    have S:E7 rest (m:Int) (rest.length:Int)=some (rest.drop m):=by
     unfold E7
     simp [List.drop_take]
     omega
    unfold X9
    simp only [Ak (by omega:(rest.length:Int)>0),cond_true,Y,Ad,m1,Xb rfl m3,p1,t1,S]
   have ad:(rest.drop m).length+m=rest.length:=by rw [List.length_drop]; omega
   have a8:=Apc B a.Lin f (N+1)
   have J:(N+1)*B.length<=B.length*2 ^ C1 (rest.take m):=by
    rw [Nat.mul_comm]
    refine Nat.mul_le_mul_left _ (Nat.le_trans (A1j N) (Nat.pow_le_pow_right (by decide) p3))
   have x:(F5 B a.Lin f (N+1)).length*2 ^ C1 (rest.drop m)<=B.length*2 ^ C1 rest:=by
    rw [U,<-Nat.mul_assoc]
    exact Nat.mul_le_mul_right _ (Nat.le_trans a8 J)
   obtain ⟨gs,i,g1,g2,g3,g4⟩:=ih (rest.drop m) T (F5 B a.Lin f (N+1)) (K+202) (M+1) (by omega) (List.Pairwise.sublist (List.drop_sublist m rest) hS) L.2 t2 (Apd hM) (by omega) (by omega) (Nat.le_trans x E)
   refine ⟨(a.Lin,N,f)::gs,i,by rw [Hm z,g1],?_,g3.mono (by omega),Nat.le_trans g4 x⟩
   have X:∀b∈rest.drop m,Fg a.Lin b.Lin<0:=by
    intro b hb
    cases hd:rest.drop m with
    | nil=>rw [hd] at hb; cases hb
    | cons d D=>
     have q:rest[m]? = some d:=by
      have:=congrArg (fun l=>l[0]?) hd
      simpa using this
     have a6:=m5 d q
     have a7:¬Fg d.Lin a.Lin<0:=by
      have I:=hS
      rw [g] at I
      have a1:d∈r':=by
       have:=B4 q
       have V:m=(m-1)+1:=by omega
       rw [g,V,List.getElem?_cons_succ] at q
       exact B4 q
      exact (List.pairwise_cons.1 I).1 d a1
     have s:Fg a.Lin d.Lin<0:=by
      rcases Int.lt_trichotomy (Fg d.Lin a.Lin) 0 with k | k | k
      .exact (a7 k).elim
      .exact (a6 ((Ka.zero _ _ trivial trivial).1 k)).elim
      .rw [Ka.anti d.Lin a.Lin trivial trivial]; omega
     rw [hd] at hb
     rcases List.mem_cons.1 hb with rfl | hb
     .exact s
     .have G:Ab3 (rest.drop m):=List.Pairwise.sublist (List.drop_sublist m rest) hS
      rw [hd] at G
      have h3:=(List.pairwise_cons.1 G).1 b hb
      rcases Int.lt_trichotomy (Fg b.Lin d.Lin) 0 with k | k | k
      .exact (h3 k).elim
      .rw [(Ka.zero _ _ trivial trivial).1 k]; exact s
      .exact Ka.trans a.Lin d.Lin b.Lin trivial trivial trivial s (by rw [Ka.anti b.Lin d.Lin trivial trivial]; omega)
   have:=Gs.cons y m4 X p2 g2
   rwa [List.take_append_drop] at this
end Go.Ab
namespace Go.Ab
open Go
def IsE (A:List Ba) (B:List Ef):Prop:=∃gs b,b.Perm A/\Ab3 b/\Gs gs b/\B=R6 [([],1)] gs
theorem A1k:N2 (fun a b:Bh=>a.Var-b.Var):=⟨fun _ h=>by omega,fun _ _ _ h1 h2=>by omega,fun _ _ _ h1 h2 h3=>by omega⟩
def Ag6 (b:List (ByteArray×List Co)):Prop:=∀p∈b,∃f:Bh,p.1=G0 f.Var f.Index/\p.2 = [⟨f.Index,cR 1⟩]
theorem A1l {data:List Az} {vars:List Ah} {res:Ah} {f:Bh} (h1:I64 f.Var/\iR f.Index/\C4 f.Index<=1048576) (h2:(tyX vars res f.Var).isSome=true) {b1:List (ByteArray×Int)} {b2:List (ByteArray×List Co)} (hm:Ag6 b2) :
  ∃q,V5 [f] b1 b2 data vars res.Kind res.Num res.Args=some ([⟨f.Index,cR 1⟩],0,q)/\Ag6 q:=by
 obtain ⟨t,ht⟩:=Option.isSome_iff_exists.1 h2
 have x:=Abu h1.2.2 ⟨h1.2.1,h1.1⟩
 have i0:Af [f] 0=some f:=rfl
 have j:Hq (G0 f.Var f.Index) []=some (((E5 f).length:Int),E5 f):=by
  have:=Ry (b:=[]) (By.fac f) (by simp; omega)
  rw [List.nil_append] at this
  exact this
 have s:Ac (0+1)=1:=by rw [Ac,Bp] <;> omega
 have l:Nat.beq (G0 f.Var f.Index).size 0=false:=by
  rw [Ay4,Xv]; rfl
 have c:E7 [f] 1 ([f].length:Int)=some []:=rfl
 have h:Ag6 (E3 b2 (G0 f.Var f.Index) [⟨f.Index,cR 1⟩]):=fun p hp=>by
  rcases Af4 _ _ _ p hp with hp | rfl
  .exact hm p hp
  .exact ⟨f,rfl,rfl⟩
 have k:Lk f.Var b1 b2 data vars res.Kind res.Num res.Args=some t:=Am6 b1 b2 data vars res ht
 unfold V5
 rw [show decide ((0:Int)<([f].length:Int))=true from rfl,cond_true,i0,Ad,Af3 _ _ h1.1 h1.2.1 h1.2.2,Ad,j,Ad,s]
 cases i:El b2 (G0 f.Var f.Index) with
 | true=>
  have u:Gv b2 (G0 f.Var f.Index) [] = [⟨f.Index,cR 1⟩]:=by
   unfold Gv
   unfold El at i
   cases hf:b2.find? fun p=>G0 f.Var f.Index==p.1 with
   | none=>
    rw [List.find?_eq_none] at hf
    obtain ⟨p,hp,e⟩:=List.any_eq_true.1 i
    exact (hf p hp e).elim
   | some p=>
    obtain ⟨g,g1,g2⟩:=hm p (List.mem_of_find?_eq_some hf)
    have e:=List.find?_some hf
    have e:G0 f.Var f.Index=p.1:=(Pa _ _).1 e
    rw [g1] at e
    obtain ⟨_,y⟩:=Amz e
    show p.2=_
    rw [g2,y]
  refine ⟨b2,?_,hm⟩
  refine bnd (a:=E5 f) (Ds rfl) ?_
  rw [Pf (By.fac f),Ad]
  have hb:bs (E5 f)=G0 f.Var f.Index:=rfl
  rw [hb,i,cond_true,u]; rfl
 | false=>
  refine ⟨_,?_,h⟩
  refine bnd (a:=E5 f) (Ds rfl) ?_
  rw [Pf (By.fac f),Ad]
  have hb:bs (E5 f)=G0 f.Var f.Index:=rfl
  rw [hb,i,cond_false,Ad]
  dsimp only
  rw [cond_false,Ad,k,Ad,Ad,Uq,Ad,c,Ad]
  refine bnd (a:=()) (Ds rfl) ?_
  unfold Aem
  rw [l,cond_false,Ad]
theorem A1m {c:Aq} {K:Nat} {A:List Ba} (hc:RB K c) (I:K<20000000000) (h0:rq c≠0) (i:Atk A) (b1:List (ByteArray×Int)) (b2:List (ByteArray×List Co)) (data:List Az) (vars:List Ah) (D z:Int) (y:List Ah) :
  ∃out B,Qd c ⟨[],A⟩ b1 b2 data vars D z y=some (out,0,b1,b2)/\IsE A B/\Rep (rq c) (K+2424) out B/\out.length<=2 ^ C1 A:=by
 have E:∀b∈A,b.Lin.Terms.length<1099511627776:=fun b hb=>by have:=(Uv (i.lin b hb)).1; omega
 have s:=i.len
 have q:=i.sum
 obtain ⟨S,x,g,u⟩:=Ao8 A E (by omega)
 have f:Atk S:=⟨fun a ha=>i.deg a (g.mem_iff.1 ha),fun a ha=>i.lin a (g.mem_iff.1 ha),by rw [Ab1 g]; exact q,by rw [g.length_eq]; exact s⟩
 have hp:2 ^ C1 S<=4096:=Nat.le_trans (Nat.pow_le_pow_right (by decide) f.sum) (by decide)
 obtain ⟨gs,out,g1,g2,g3,g4⟩:=Ape (F:=fs0) (c:=rq c) S.length S [⟨c,⟨[],[]⟩⟩] [([],1)] K 0 (Nat.le_refl _) u f (.cons rfl (by simp) hc .nil) (fun b hb=>by simp only [List.mem_singleton] at hb; subst hb; simp) (by have:=f.len; omega) (by have:=f.len; omega) (by simp only [List.length_singleton,Nat.one_mul]; omega)
 have G:=f.len
 refine ⟨out,_,?_,⟨gs,S,g,u,g2,rfl⟩,g3.mono (by omega),by rw [<-Ab1 g]; simpa using g4⟩
 unfold Qd
 have j:I5 (rq c)≠0:=by
  unfold I5
  split
  .decide
  .split
   .decide
   .rename_i h1 h2
    exact (h0 (by grind)).elim
 rw [(Nl hc (by omega)).1,Ad,Cm j,cond_false]
 have l:Qo A=some ([],A):=by
  unfold Qo Sx
  rw [Cy (by simp; omega)]; rfl
 have h:Qm []=some ([],[]):=rfl
 rw [h,Ad]
 dsimp only
 rw [A1a,Ad]
 have k:Gc (α:=Bh) ([]:List Bh).length []=some ():=rfl
 rw [k,Ad]
 refine bnd (a:=.inr ([⟨c,⟨[],[]⟩⟩],b1,b2)) (Ds (by simp)) ?_
 dsimp only
 rw [l,Ad]
 dsimp only
 rw [x,Ad,Nm g.length_eq.symm,Ad]
 exact bnd g1 rfl
end Go.Ab
namespace Go.Ab
open Go
def Ag7 (vars:List Ah) (res:Ah) (L:List Ba):Prop:=L.Pairwise (fun a b=>Fg a.Lin b.Lin<0)/\∀a∈L,1<=a.Deg/\Fm a.Lin=true/\a.Lin.Terms.length≠0/\G5 vars res a.Lin=true
theorem A1n (l m:List Ba):Dq (l++m)=Dq l+Dq m:=by unfold Dq; simp [List.sum_append]
theorem Apf {vars:List Ah} {res:Ah}:∀{u:List Grp} {rest:List Ba},Gs u rest->(∀a∈rest,Fm a.Lin=true/\G5 vars res a.Lin=true) ->
  ∀(B:List Ef) (S:Int),(∀b∈B,Ag7 vars res b.1/\Dq b.1<=S/\∀a∈b.1,∀r∈rest,Fg a.Lin r.Lin<0)->∀b∈R6 B u,Ag7 vars res b.1/\Dq b.1<=S+(C1 rest:Nat):=by
 intro u rest h
 induction h with
 | nil=>intro _ B S z b hb; have:=z b hb; exact ⟨this.1,by have:=this.2.1; omega⟩
 | @cons l N f g rest u x I E J R ih=>
  intro A B S z
  obtain ⟨a0,j⟩:∃a,a∈g:=by
   cases g with
   | nil=>exact (x rfl).elim
   | cons a _=>exact ⟨a,by simp⟩
  have s:=I a0 j
  have q:=A a0 (by simp [j])
  rw [s] at q
  have L:∀k,k<N+1->k≠0->l.Terms.length≠0/\k<=C1 g:=by
   intro k hk G
   rcases J with ⟨h1,h2⟩ | ⟨_,h2,_⟩
   .exact ⟨h1,by rw [<-h2.1]; omega⟩
   .omega
  intro b hb
  have:=ih (fun a ha=>A a (by simp [ha])) (F5 B l f (N+1)) (S+(C1 g:Nat)) (by
   intro b hb
   unfold F5 at hb
   rw [List.mem_flatMap] at hb
   obtain ⟨k,i,hk⟩:=hb
   have i:=List.mem_range.1 i
   split at hk
   .cases hk
   .rw [List.mem_map] at hk
    obtain ⟨d,hd,rfl⟩:=hk
    obtain ⟨d1,d2,d3⟩:=z d hd
    have y:∀a∈d.1,Fg a.Lin l<0:=fun a ha=>by have:=d3 a ha a0 (by simp [j]); rwa [s] at this
    unfold atO
    by_cases h0:k=0
    .rw [if_pos h0,List.append_nil]
     exact ⟨d1,by show Dq d.1<=S+((C1 g:Nat):Int); omega,fun a ha r c=>d3 a ha r (by simp [c])⟩
    .rw [if_neg h0]
     obtain ⟨D,M⟩:=L k i h0
     refine ⟨⟨List.pairwise_append.2 ⟨d1.1,List.pairwise_singleton _ _,fun a ha b hb=>?_⟩,fun a ha=>?_⟩,?_,fun a ha r c=>?_⟩
     .simp only [List.mem_singleton] at hb
      subst hb; exact y a ha
     .rcases List.mem_append.1 ha with ha | ha
      .exact d1.2 a ha
      .simp only [List.mem_singleton] at ha
       subst ha
       exact ⟨by show (1:Int)<=(k:Int); omega,q.1,D,q.2⟩
     .show Dq (d.1++[⟨l,k⟩])<=_
      rw [A1n]
      have:Dq [(⟨l,(k:Int)⟩:Ba)]=(k:Int):=by simp [Dq]
      omega
     .rcases List.mem_append.1 ha with ha | ha
      .exact d3 a ha r (by simp [c])
      .simp only [List.mem_singleton] at ha
       subst ha
       exact E r c) b hb
  refine ⟨this.1,?_⟩
  rw [R3]
  have:=this.2
  omega
theorem A1o {x:Ce} {L:List Ba} (h:Ag7 x.Vars x.Res L) (s:Dq L<=6):Hi x ⟨[],L⟩:=by
 have i:(L.length:Int)<=Dq L:=by
  have key:∀l:List Ba,(∀a∈l,1<=a.Deg)->(l.length:Int)<=Dq l:=by
   intro l
   induction l with
   | nil=>intro _; simp [Dq]
   | cons f fs ih=>
    intro c
    have h1:=c f (by simp)
    have h2:=ih (fun g u=>c g (by simp [u]))
    unfold Dq at *
    simp only [List.map_cons,List.sum_cons,List.length_cons]; omega
  exact key _ fun a ha=>(h.2 a ha).1
 constructor
 .unfold Jn
  have k:L.zipIdx.all (fun q=>Ml x.Vars x.Res L q.1 q.2)=true:=by
   rw [List.all_eq_true]
   rintro ⟨a,j⟩ hq
   have hj:L[j]? = some a:=List.mk_mem_zipIdx_iff_getElem?.1 hq
   obtain ⟨h1,h2,h3,y⟩:=h.2 a (B4 hj)
   show Ml x.Vars x.Res L a j=true
   unfold Ml
   have hp:Nj L a j=true:=by
    unfold Nj
    cases j with
    | zero=>rfl
    | succ j=>
     have c:=Dn hj
     have hy:L[j]? = some L[j]:=Bu (by omega)
     have b:=List.pairwise_iff_getElem.1 h.1 j (j+1) (by omega) c (by omega)
     have e:L[j+1]=a:=by
      have:=Bu c
      rw [hj] at this; exact (Option.some.inj this).symm
     rw [e] at b
     simp only [Nat.add_sub_cancel,hy,Bool.or_eq_true]
     exact .inr (decide_eq_true b)
   rw [hp,Ak h1,h2,y]
   simp only [Bool.true_and,Bool.and_true,Bool.not_eq_true',beq_eq_false_iff_ne,ne_eq]
   exact h3
  show (([]:List Bh).zipIdx.all _&&L.zipIdx.all (fun q=>Ml x.Vars x.Res L q.1 q.2)&&decide (Fu x.Data x.Vars x.Res []+Dq L<=6))=true
  rw [k]
  have:Fu x.Data x.Vars x.Res []=0:=rfl
  rw [this]
  simp
  exact s
 .exact ⟨by simp,by show L.length<=1048576; omega,(fun _ h=>by cases h),(fun _ h=>by cases h),fun a ha=>by have:=(Uv (h.2 a ha).2.1).1; omega⟩
def ec:List Ef->A8->Nat
 | [],_=>0
 | b::bs,m=>(if Cr ⟨[],b.1⟩ m=0 then b.2 else 0)+ec bs m
theorem Rep.cf {c:Rat} {K:Nat} {ts:List Aj} {bs:List Ef} (h:Rep c K ts bs) (m:A8):Ab.cf ts m=c*(ec bs m:Rat):=by
 induction h with
 | nil=>simp only [Ab.cf,ec]; grind
 | @cons t b ts bs a1 a2 a3 _ ih=>
  have a1:t.Mono=⟨[],b.1⟩:=a1
  simp only [Ab.cf,ec,ih,a1]
  rw [Rat.natCast_add]
  split
  .rw [a2]; grind
  .grind
theorem Rep.mem {c:Rat} {K:Nat} {ts:List Aj} {bs:List Ef} (h:Rep c K ts bs) {t:Aj} (ht:t∈ts):∃b∈bs,t.Mono=⟨[],b.1⟩/\rq t.Coef=c*(b.2:Rat)/\RB K t.Coef:=by
 obtain ⟨j,hj⟩:=List.getElem?_of_mem ht
 obtain ⟨b,b1,b2⟩:=h.get hj
 exact ⟨b,B4 b1,b2⟩
def Ag8 (L:Nat) (p:List Aj):Prop:=∀t∈p,∃z:Int,rq t.Coef=(z:Rat)/\Bf z.natAbs<=L
theorem Apg {a:Aq} {z:Int} (ha:Hg a) (h:rq a=(z:Rat)):a=A7 (decide (z<0)) z.natAbs 1:=by
 refine Agc ha (Nk _ _ _ (by decide)) ?_
 rw [h,Kv _ _ _ (by decide),Abx]
 congr 1
 unfold sg
 by_cases h:z<0
 .rw [Ak h,if_pos rfl]; omega
 .rw [Ap h,if_neg (by decide)]; omega
theorem Aph {a:Aq} {z:Int} {L:Nat} (ha:Hg a) (h:rq a=(z:Rat)) (b:Bf z.natAbs<=L):RB (L+1) a:=by
 rw [Apg ha h]
 exact Hv _ _ _ _ (by omega) (by rw [Hu]; omega) (by omega)
theorem Api {a:Aq} {z:Int} {k:Nat} (ha:Hg a) (h:rq a=(z:Rat)) (c:RB k a):Bf z.natAbs<=k+1:=by
 have h1:=c.nv
 rw [Apg ha h] at h1
 obtain ⟨b,i,g,f⟩:=Ub (decide (z<0)) z.natAbs 1 (by decide)
 rw [b] at h1
 simpa using h1
theorem Ag8.of {p:List Aj} {L:Nat} (hc:CP p) (h:∀m,∃z:Int,cf p m=(z:Rat)/\Bf z.natAbs<=L):Ag8 L p:=fun t ht=>by
 obtain ⟨z,b,z2⟩:=h t.Mono
 exact ⟨z,by rw [<-Abk hc ht]; exact b,z2⟩
structure IP (x:Ce) (n L:Nat) (f:A8->Rat) (R:List Aj):Prop where
 cp:CP R
 val:∀m,cf R m=f m
 mo:∀t∈R,Hi x t.Mono
 len:R.length<=n
 int:Ag8 L R
theorem IP.can {x:Ce} {n L:Nat} {f:A8->Rat} {R:List Aj} (h:IP x n L f R) (c:n<=1000) (g:L<=1000000):Jq x R :=
 Jq.of h.cp h.mo (fun t ht=>by
  obtain ⟨z,b,z2⟩:=h.int t ht
  exact (Aph (h.cp.coe t ht).1 b z2).mono (by omega)) (by have:=h.len; omega)
theorem IP.ext {x y:Ce} {n L b c:Nat} {f g:A8->Rat} {R S:List Aj} (h:IP x n L f R) (h':IP y b c g S) (e:∀m,f m=g m):R=S:=CP.ext h.cp h'.cp fun m=>by rw [h.val,h'.val,e]
end Go.Ab
namespace Go.Ab
open Go
def cl:List Dk->Int->Int
 | [],_=>0
 | t::l,v=>(if t.Var=v then t.Coef else 0)+cl l v
theorem Ya {l:List Dk} {v:Int} (h:∀t∈l,t.Var≠v):cl l v=0:=by
 induction l with
 | nil=>rfl
 | cons t l ih=>simp only [cl]; rw [if_neg (h t (by simp)),ih fun u hu=>h u (by simp [hu])]; rfl
structure Ag9 (L:List Dk):Prop where
 srt:L.Pairwise fun a b=>a.Var<b.Var
 nz:∀t∈L,t.Coef≠0
theorem Ag9.ext:∀{L M:List Dk},Ag9 L->Ag9 M->(∀v,cl L v=cl M v)->L=M:=by
 intro L
 induction L with
 | nil=>
  intro M _ b h
  cases M with
  | nil=>rfl
  | cons t M=>
   have:=h t.Var
   simp only [cl,if_true] at this
   rw [Ya fun u hu=>by have:=(List.pairwise_cons.1 b.srt).1 u hu; omega] at this
   exact (b.nz t (by simp) (by omega)).elim
 | cons s L ih=>
  intro M c b h
  have g:cl (s::L) s.Var=s.Coef:=by
   simp only [cl,if_true]
   rw [Ya fun u hu=>by have:=(List.pairwise_cons.1 c.srt).1 u hu; omega]; omega
  cases M with
  | nil=>
   have:=h s.Var
   rw [g] at this
   exact (c.nz s (by simp) (by simpa [cl] using this)).elim
  | cons t M=>
   have ht:cl (t::M) t.Var=t.Coef:=by
    simp only [cl,if_true]
    rw [Ya fun u hu=>by have:=(List.pairwise_cons.1 b.srt).1 u hu; omega]; omega
   have f:s.Var=t.Var:=by
    rcases Int.lt_trichotomy s.Var t.Var with k | k | k
    .have h1:=h s.Var
     rw [g,Ya (l:=t::M) fun u hu=>by
      rcases List.mem_cons.1 hu with rfl | hu
      .omega
      .have:=(List.pairwise_cons.1 b.srt).1 u hu; omega] at h1
     exact (c.nz s (by simp) h1).elim
    .exact k
    .have h1:=h t.Var
     rw [ht,Ya (l:=s::L) fun u hu=>by
      rcases List.mem_cons.1 hu with rfl | hu
      .omega
      .have:=(List.pairwise_cons.1 c.srt).1 u hu; omega] at h1
     exact (b.nz t (by simp) h1.symm).elim
   have hc:s.Coef=t.Coef:=by rw [<-g,<-ht,h,f]
   have e:s=t:=by cases s; cases t; simp only at f hc; rw [f,hc]
   subst e
   rw [ih (M:=M) ⟨(List.pairwise_cons.1 c.srt).2,fun u hu=>c.nz u (by simp [hu])⟩ ⟨(List.pairwise_cons.1 b.srt).2,fun u hu=>b.nz u (by simp [hu])⟩ fun v=>by
    have:=h v
    simp only [cl] at this; omega]
end Go.Ab
namespace Go.Ab
open Go
theorem A1p {x:Ce} {k:Nat} {ts:List Aj} (h:Col k (Hi x) ts) (hk:k<34359738000) (q:ts.length<=1000) (hi:∀m,∃z:Int,cf ts m=(z:Rat)):∃R,N8 (plc ts) ts=some (R,0)/\IP x ts.length (k+2) (cf ts) R:=by
 obtain ⟨R,j,b,f,c,i⟩:=Aoe (P:=Hi x) (fun m h=>h.cmo) (plc ts) ts h (by omega) q (fun g _ h2 h3=>Aos g h2 h3)
 refine ⟨R,j,b,f,fun t ht=>(c t ht).1,i,fun t ht=>?_⟩
 obtain ⟨z,l⟩:=hi t.Mono
 have e:rq t.Coef=(z:Rat):=by rw [<-Abk b ht,f,l]
 exact ⟨z,e,Api (b.coe t ht).1 e (c t ht).2⟩
theorem IsE.good {x:Ce} {A:List Ba} {B:List Ef} (h:IsE A B) (g:Atk A) (hi:∀a∈A,G5 x.Vars x.Res a.Lin=true) (j:C1 A<=6):∀b∈B,Hi x ⟨[],b.1⟩:=by
 obtain ⟨gs,k,c,i,f,rfl⟩:=h
 intro b hb
 obtain ⟨h1,h2⟩:=Apf (vars:=x.Vars) (res:=x.Res) f (fun a ha=>⟨g.lin a (c.mem_iff.1 ha),hi a (c.mem_iff.1 ha)⟩) [([],1)] 0 (fun b hb=>by
  simp only [List.mem_singleton] at hb
  subst hb
  exact ⟨⟨List.Pairwise.nil,fun _ h=>by cases h⟩,by simp [Dq],fun _ h=>by cases h⟩) b hb
 refine A1o h1 ?_
 rw [Ab1 c] at h2
 omega
theorem A1q {B:List Ef} {m:A8}:∃z:Int,(1:Rat)*(ec B m:Rat)=(z:Rat):=⟨(ec B m:Int),by rw [Rat.intCast_natCast]; grind⟩
theorem A1r {l:Ca} {k:Int} (b:Fm l=true) (h0:0<=k) (c:k<=6):Atk [⟨l,k⟩]/\C1 [(⟨l,k⟩:Ba)]<=6:=by
 have hd:C1 [(⟨l,k⟩:Ba)]=k.toNat:=by simp [C1]
 exact ⟨⟨fun a ha=>by simp only [List.mem_singleton] at ha; subst ha; exact h0,fun a ha=>by simp only [List.mem_singleton] at ha; subst ha; exact b,by omega,by simp⟩,by omega⟩
end Go.Ab
namespace Go.Ab
open Go
end Go.Ab
namespace Go.Ab
open Go
end Go.Ab
namespace Go.Ab
open Go
theorem A1s {x:Ce} {P:A8->Prop} (g:∀m,P m->Hi x m) {k:Nat} {ts:List Aj} (h:Col k P ts) (hk:k<34359738000) (s:ts.length<=1000) (hi:∀m,∃z:Int,cf ts m=(z:Rat)):∃R,N8 (plc ts) ts=some (R,0)/\IP x ts.length (k+2) (cf ts) R/\∀t∈R,P t.Mono:=by
 obtain ⟨R,l,c,f,b,j⟩:=Aoe (P:=P) (fun m h=>(g m h).cmo) (plc ts) ts h (by omega) s (fun i _ h2 h3=>Aos i h2 h3)
 refine ⟨R,l,⟨c,f,fun t ht=>g _ (b t ht).1,j,fun t ht=>?_⟩,fun t ht=>(b t ht).1⟩
 obtain ⟨z,q⟩:=hi t.Mono
 have e:rq t.Coef=(z:Rat):=by rw [<-Abk c ht,f,q]
 exact ⟨z,e,Api (c.coe t ht).1 e (b t ht).2⟩
def NoF (x:Ce) (D:Nat) (m:A8):Prop:=Hi x m/\m.Factors = []/\Dq m.Atoms<=(D:Nat)
theorem NoF.mono {x:Ce} {D b:Nat} {m:A8} (h:NoF x D m) (hd:D<=b):NoF x b m:=⟨h.1,h.2.1,by have:=h.2.2; omega⟩
theorem IsE.noF {x:Ce} {A:List Ba} {B:List Ef} (h:IsE A B) (f:Atk A) (hi:∀a∈A,G5 x.Vars x.Res a.Lin=true) (i:C1 A<=6):∀b∈B,NoF x (C1 A) ⟨[],b.1⟩:=by
 intro b hb
 refine ⟨h.good f hi i b hb,rfl,?_⟩
 obtain ⟨gs,k,c,j,g,rfl⟩:=h
 obtain ⟨h1,h2⟩:=Apf (vars:=x.Vars) (res:=x.Res) g (fun a ha=>⟨f.lin a (c.mem_iff.1 ha),hi a (c.mem_iff.1 ha)⟩) [([],1)] 0 (fun b hb=>by
  simp only [List.mem_singleton] at hb
  subst hb
  exact ⟨⟨List.Pairwise.nil,fun _ h=>by cases h⟩,by simp [Dq],fun _ h=>by cases h⟩) b hb
 rw [Ab1 c] at h2
 show Dq b.1<=_
 omega
theorem A1t {x:Ce} {P:A8->Prop} (E:∀m,P m->Hi x m) {A:List Ba} (U:Atk A) (N:C1 A<=6) (s:∀B,IsE A B->∀b∈B,P ⟨[],b.1⟩) (b1:List (ByteArray×Int)) (b2:List (ByteArray×List Co)) (D y:Int) (u:List Ah) :
  ∃R B,P6 ⟨[],A⟩ b1 b2 x.Data x.Vars D y u=some (R,0,b1,b2)/\IsE A B/\IP x B.length (2429+B.length*2430) (fun m=>(ec B m:Rat)) R/\∀t∈R,P t.Mono:=by
 have f:rq (cR 1)=1:=by rw [Ur]; rfl
 obtain ⟨out,B,X,G,j,V⟩:=A1m (c:=cR 1) (K:=3) (A:=A) ((Agx (k:=1) (by rw [Hu]; decide) (by decide)).mono (by decide)) (by decide) (by rw [f]; decide) U b1 b2 x.Data x.Vars D y u
 have S:out.length<=64:=Nat.le_trans V (Nat.le_trans (Nat.pow_le_pow_right (by decide) N) (by decide))
 have hm:=s B G
 obtain ⟨v,J,v2,v3,v4⟩:=Aoc (k0:=2427) (k:=2427) (P:=P) (fun m h=>(E m h).cmo) out [] (Col.nil _ _) (fun t ht=>by
  obtain ⟨b,hb,q,_,l⟩:=j.mem ht
  exact ⟨l,by rw [q]; exact hm b hb⟩) (Nat.le_refl _) (by omega) (by simp; omega)
 simp at v3
 have i:∀m,cf v m=1*(ec B m:Rat):=fun m=>by rw [v4,j.cf,f]; simp only [cf]; grind
 obtain ⟨R,M,g,L⟩:=A1s (x:=x) (P:=P) E v2 (by omega) (by omega) (fun m=>by rw [i]; exact A1q)
 refine ⟨R,B,?_,G,⟨g.cp,fun m=>by rw [g.val,i]; grind,g.mo,by have:=g.len; have:=j.len; omega,fun t ht=>by
  obtain ⟨z,I,z2⟩:=g.int t ht
  exact ⟨z,I,by rw [<-j.len]; omega⟩⟩,L⟩
 unfold P6
 rw [Uq,Ad,X,Ad]
 simp only [bne_self_eq_false,cond_false,S4,Ad]
 rw [show N7 out [] []=some (plc v,v) from J,Ad,M]; rfl
theorem Gs.nil_of {c:List Grp} {A:List Ba} (h:Gs c A):A = []->c = []:=by
 cases h with
 | nil=>exact fun _=>rfl
 | cons b _ _ _ _=>exact fun e=>absurd (List.append_eq_nil_iff.1 e).1 b
theorem IsE.one {a:Ba} {B:List Ef} (h:IsE [a] B):B.length<=1:=by
 obtain ⟨gs,G,x,I,q,rfl⟩:=h
 have E:G = [a]:=List.perm_singleton.1 x
 rw [E] at q
 generalize c:[a]=X at q
 cases q with
 | nil=>cases c
 | @cons l N f g rest gs s M J z D=>
  have L:g.length+rest.length=1:=by
   have:=congrArg List.length c
   simpa using this.symm
  have y:g.length=1:=by
   have:=List.length_pos_iff.2 s
   have:rest.length≠1\/g.length=0:=by omega
   omega
  have b:rest = []:=List.length_eq_zero_iff.1 (by omega)
  subst b
  rw [List.append_nil] at c
  subst c
  have u:=D.nil_of rfl
  subst u
  .show (F5 [([],1)] l f (N+1)).length<=1
   have key:∀n,(∀i j,i<n->j<n->f i≠0->f j≠0->i=j)->(F5 [(([],1):Ef)] l f n).length<=1/\((F5 [(([],1):Ef)] l f n).length=1->∃i,i<n/\f i≠0):=by
    intro n
    induction n with
    | zero=>intro _; simp [F5]
    | succ n ih=>
     intro h
     obtain ⟨i1,i2⟩:=ih fun i j hi hj=>h i j (by omega) (by omega)
     rw [R5,List.length_append]
     by_cases h0:f n=0
     .rw [if_pos h0]
      refine ⟨by simpa using i1,fun e=>?_⟩
      obtain ⟨i,a1,a2⟩:=i2 (by simpa using e)
      exact ⟨i,by omega,a2⟩
     .rw [if_neg h0]
      have:(F5 [(([],1):Ef)] l f n).length≠1:=fun e=>by
       obtain ⟨i,a1,a2⟩:=i2 e
       have:=h i n (by omega) (by omega) a2 h0
       omega
      refine ⟨by simp only [List.length_map,List.length_singleton]; omega,fun _=>⟨n,by omega,h0⟩⟩
   refine (key (N+1) ?_).1
   rcases z with ⟨_,h2⟩ | ⟨_,h2,_⟩
   .have e:∀k,k<N+1->f k=if k=N then 1 else 0:=by
     refine A0r fun n _=>?_
     rw [h2.2.2 n]
     have A:N=a.Deg.toNat:=by have:=h2.1; simpa [C1] using this
     rw [Aby (k:=N) (by omega) (fun j hj=>by simp [hj])]
     simp [prb,A]
    intro i j hi hj h1 h2
    rw [e i hi] at h1
    rw [e j hj] at h2
    split at h1
    .split at h2
     .omega
     .exact (h2 rfl).elim
    .exact (h1 rfl).elim
   .intro i j hi hj _ _
    omega
theorem IsE.oneA {a:Ba} {B:List Ef} (h:IsE [a] B):∀b∈B,b.1.length<=1:=by
 obtain ⟨gs,A,q,x,k,rfl⟩:=h
 have j:=q.length_eq
 cases k with
 | nil=>intro b hb; simp only [R6,List.mem_singleton] at hb; subst hb; simp
 | @cons l N f g rest gs c y i z u=>
  rw [List.length_append] at j
  simp only [List.length_singleton] at j
  have s:=List.length_pos_iff.2 c
  have i:rest = []:=List.length_eq_zero_iff.1 (by omega)
  subst i
  have:=u.nil_of rfl
  subst this
  exact Apd (M:=0) fun b hb=>by simp only [List.mem_singleton] at hb; subst hb; simp
theorem A1u {x:Ce} (y:CSz x) (A:Ig x) {l:Ca} {k:Int} (g:Fm l=true) (h0:0<=k) (D:k<=6) (hi:G5 x.Vars x.Res l=true) :
  ∃R B,I9 x l k=some (R,0)/\IsE [⟨l,k⟩] B/\IP x 1 4900 (fun m=>(ec B m:Rat)) R/\∀t∈R,NoF x k.toNat t.Mono/\t.Mono.Atoms.length<=1:=by
 obtain ⟨q,hb,_⟩:=Agz y (ps:=[]) (fun p hp=>by cases hp) (by simp) ⟨A,fun p hp=>by cases hp⟩
 obtain ⟨a1,a2⟩:=A1r g h0 D
 obtain ⟨R,B,u,f,c,i⟩:=A1t (x:=x) (P:=fun m=>NoF x (C1 [⟨l,k⟩]) m/\m.Atoms.length<=1) (fun m h=>h.1.1) a1 a2 (fun B j b hb=>⟨j.noF a1 (fun a ha=>by simp only [List.mem_singleton] at ha; subst ha; exact hi) a2 b hb,j.oneA b hb⟩) q [] x.Res.Kind x.Res.Num x.Res.Args
 refine ⟨R,B,?_,f,⟨c.cp,c.val,c.mo,Nat.le_trans c.len f.one,fun t ht=>by
  obtain ⟨z,s,z2⟩:=c.int t ht
  have:=f.one
  exact ⟨z,s,by omega⟩⟩,fun t ht=>⟨(i t ht).1.mono (by simp [C1]),(i t ht).2⟩⟩
 unfold I9
 rw [hb]
 simp only [Ad,Dm,cond_false,Xp,g,Ap (by omega:¬k<0),Ap (by omega:¬k>6)]
 rw [Aga q [] x.Data x.Vars x.Res l (by have:=(Uv g).1; omega),Ad,hi]
 simp only [Dm,cond_false,u,Ad]
end Go.Ab
namespace Go.Ab
open Go
noncomputable def eB (A:List Ba):List Ef:=open Classical in if h:∃B,IsE A B then Classical.choose h else []
end Go.Ab
namespace Go.Ab
open Go
theorem Apj {B:List Ef} {l:Ca} {f:Nat->Nat} {m:Nat} (h:∀k,k<m->f k=0):∀n,(F5 B l f n).length<=(n-m)*B.length
 | 0=>by simp [F5]
 | n+1=>by
  have ih:=Apj (B:=B) (l:=l) h n
  rw [R5,List.length_append]
  rcases Nat.lt_or_ge n m with h' | h'
  .rw [if_pos (h n h'),show n-m=0 by omega] at *
   simp only [List.length_nil]; omega
  .have e:n+1-m=(n-m)+1:=by omega
   rw [e,Nat.add_mul,Nat.one_mul]
   have:(if f n=0 then ([]:List Ef) else B.map fun b=>(b.1++atO l n,b.2*f n)).length<=B.length:=by split <;> simp
   omega
theorem Apk {x d:Nat} (h:x<d):bc x d=0:=by
 induction x generalizing d with
 | zero=>
  cases d with
  | zero=>omega
  | succ d=>rfl
 | succ x ih=>
  cases d with
  | zero=>omega
  | succ d=>
   show bc x d+bc x (d+1)=0
   rw [ih (by omega),ih (by omega)]
theorem Apl {x:Nat} {a:Ba} (h:x<a.Deg.toNat):∀{l:List Ba},a∈l->prb x l=0
 | b::l,hm=>by
  simp only [prb]
  rcases List.mem_cons.1 hm with rfl | hm
  .rw [Apk h,Nat.zero_mul]
  .rw [Apl h hm,Nat.mul_zero]
theorem A1v {l:Ca} {N:Nat} {f:Nat->Nat} {g:List Ba} (h:PwN g N f) {a:Ba} (ha:a∈g) (b:a.Deg.toNat<=N):∀k,k<a.Deg.toNat->f k=0:=fun k hk=>by
 have:=h.le (k:=k) (by omega)
 rw [Apl hk ha] at this
 omega
end Go.Ab
namespace Go.Ab
open Go
end Go.Ab
namespace Go.Ab
open Go
theorem IP.up {x:Ce} {n b L c:Nat} {f g:A8->Rat} {R:List Aj} (h:IP x n L f R) (j:n<=b) (k:L<=c) (e:∀m,f m=g m):IP x b c g R :=
 ⟨h.cp,fun m=>by rw [h.val,e],h.mo,Nat.le_trans h.len j,fun t ht=>by
  obtain ⟨z,i,z2⟩:=h.int t ht
  exact ⟨z,i,by omega⟩⟩
def cs (K:Nat):Nat->Nat
 | 0=>0
 | j+1=>cs K j+(1+min j (K-j))
end Go.Ab
namespace Go.Ab
open Go
theorem A1w {α:Type} (f:α->Int) (l:List α) (h:∀j x,l[j]? = some x->Ku f l x j=true):l.Pairwise fun a b=>f a<f b:=by
 have step:∀j x y,l[j]? = some x->l[j+1]? = some y->f x<f y:=by
  intro j x y hx hy
  have:=h (j+1) y hy
  unfold Ku at this
  rw [Nat.add_sub_cancel,hx] at this
  simpa using this
 have c:∀d j x y,l[j]? = some x->l[j+d+1]? = some y->f x<f y:=by
  intro d
  induction d with
  | zero=>exact fun j x y h1 h2=>step j x y h1 h2
  | succ d ih=>
   intro j x y h1 h2
   have g:l[j+d+1]? = some (l[j+d+1]'(by have:=Dn h2; omega)):=Bu _
   have a1:=ih j x _ h1 g
   have a2:=step _ _ _ g h2
   omega
 rw [List.pairwise_iff_getElem]
 intro i j hi hj k
 obtain ⟨d,hd⟩:∃d,j=i+d+1:=⟨j-i-1,by omega⟩
 subst hd
 exact c d i _ _ (Bu hi) (Bu hj)
end Go.Ab
namespace Go.Ab
open Go
theorem Apm (x:Rat):I5 x<0↔x<0:=by
 unfold I5
 split
 .rename_i h; exact ⟨fun _=>h,fun _=>by decide⟩
 .rename_i h
  split <;> exact ⟨fun h'=>absurd h' (by decide),fun h'=>absurd h' h⟩
end Go.Ab
namespace Go.Ab
open Go
end Go.Ab
namespace Go.Ab
open Go
end Go.Ab
namespace Go.Ab
open Go
def A1x (x:Ce) (m:A8):Int:=Fu x.Data x.Vars x.Res m.Factors+Dq m.Atoms
structure A1y (x:Ce) (m:A8):Prop where
 fac:∀f∈m.Factors,1<=D4 x.Data x.Vars x.Res f
 asc:m.Factors.Pairwise fun a b=>a.Var<b.Var
 atm:∀a∈m.Atoms,1<=a.Deg/\Fm a.Lin=true/\a.Lin.Terms.length≠0/\G5 x.Vars x.Res a.Lin=true
 srt:m.Atoms.Pairwise fun a b=>Fg a.Lin b.Lin<0
 deg:A1x x m<=6
theorem Hi.f {x:Ce} {m:A8} (h:Hi x m):A1y x m:=by
 have hc:=h.1
 unfold Jn at hc
 rw [Dx,Dx,decide_eq_true_eq] at hc
 obtain ⟨⟨h1,h2⟩,h3⟩:=hc
 have g1:∀j f,m.Factors[j]? = some f->1<=D4 x.Data x.Vars x.Res f/\Ku (·.Var) m.Factors f j=true:=fun j f hj=>by
  have:=Jj h1 hj
  unfold Pc at this
  rw [Dx,decide_eq_true_eq] at this
  exact this
 have g2:∀j a,m.Atoms[j]? = some a->(1<=a.Deg/\Fm a.Lin=true/\a.Lin.Terms.length≠0/\G5 x.Vars x.Res a.Lin=true)/\Nj m.Atoms a j=true:=fun j a hj=>by
  have:=Jj h2 hj
  unfold Ml at this
  simp only [Dx,decide_eq_true_eq,Bool.not_eq_true',beq_eq_false_iff_ne,ne_eq] at this
  exact ⟨⟨this.1.1.1.1,this.1.1.1.2,this.1.1.2,this.1.2⟩,this.2⟩
 refine ⟨fun f hf=>?_,A1w _ _ fun j f hj=>(g1 j f hj).2,fun a ha=>?_,?_,h3⟩
 .obtain ⟨j,hj⟩:=List.getElem?_of_mem hf
  exact (g1 j f hj).1
 .obtain ⟨j,hj⟩:=List.getElem?_of_mem ha
  exact (g2 j a hj).1
 .have step:∀j x y,m.Atoms[j]? = some x->m.Atoms[j+1]? = some y->Fg x.Lin y.Lin<0:=by
   intro j x y hx hy
   have:=(g2 (j+1) y hy).2
   unfold Nj at this
   rw [Nat.add_sub_cancel,hx] at this
   simpa using this
  have b:∀d j x y,m.Atoms[j]? = some x->m.Atoms[j+d+1]? = some y->Fg x.Lin y.Lin<0:=by
   intro d
   induction d with
   | zero=>exact fun j x y h1 h2=>step j x y h1 h2
   | succ d ih=>
    intro j x y h1 h2
    have c:m.Atoms[j+d+1]? = some (m.Atoms[j+d+1]'(by have:=Dn h2; omega)):=Bu _
    exact Ab2.trs _ _ _ (ih j x _ h1 c) (step _ _ _ c h2)
  rw [List.pairwise_iff_getElem]
  intro i j hi hj g
  obtain ⟨d,hd⟩:∃d,j=i+d+1:=⟨j-i-1,by omega⟩
  subst hd
  exact b d i _ _ (Bu hi) (Bu hj)
end Go.Ab
namespace Go.Ab
open Go
end Go.Ab
namespace Go.Ab
open Go
structure PX (x:Ce) (n k:Nat) (R:List Aj):Prop where
 cp:CP R
 mo:∀t∈R,Hi x t.Mono
 rb:∀t∈R,RB k t.Coef
 len:R.length<=n
theorem PX.can {x:Ce} {n k:Nat} {R:List Aj} (h:PX x n k R) (b:n<=1000) (hk:k<=1048576):Jq x R :=
 Jq.of h.cp h.mo (fun t ht=>(h.rb t ht).mono hk) (Nat.le_trans h.len b)
theorem PX.up {x:Ce} {n b k c:Nat} {R:List Aj} (h:PX x n k R) (f:n<=b) (hk:k<=c):PX x b c R:=⟨h.cp,h.mo,fun t ht=>(h.rb t ht).mono hk,Nat.le_trans h.len f⟩
theorem IP.px {x:Ce} {n L:Nat} {f:A8->Rat} {R:List Aj} (h:IP x n L f R):PX x n (L+1) R:=⟨h.cp,h.mo,fun t ht=>by
 obtain ⟨z,b,z2⟩:=h.int t ht
 exact Aph (h.cp.coe t ht).1 b z2,h.len⟩
theorem IP.noF {x:Ce} {n L:Nat} {f:A8->Rat} {R:List Aj} (h:IP x n L f R) (b:∀m:A8,m.Factors≠[]->f m=0):∀u∈R,u.Mono.Factors = []:=fun u hu=>by
 rcases Classical.em (u.Mono.Factors = []) with e | e
 .exact e
 .exact absurd (b _ e) (by rw [<-h.val,Abk h.cp hu]; exact (h.cp.coe u hu).2)
end Go.Ab
namespace Go.Ab
open Go
theorem Apn (m:A8) (b:MSz m):T5 m=some (m,m.Factors,m.Atoms):=by
 have f:=b.nf
 have c:=b.na
 unfold T5
 refine Fi m.Factors (fun j=>((j:Int),(m.Factors.take j))) rfl (by omega) ?_ ?_
 .intro j x hj hx h1 h2 h3
  have hm:=B4 hx
  have:=b.fi x hm
  simp only [h1,h2,h3,cond_true,Ad,Aoj 4000000 x.Index (by omega) (by omega)]
  rw [Cy (by simp; omega),Ad,C6 hx]
 .intro h1
  refine ⟨m.Factors,by simp,?_⟩
  dsimp only
  refine Fi m.Atoms (fun j=>((j:Int),(m.Atoms.take j))) rfl (by omega) ?_ ?_
  .intro j x hj hx h1 h2 h3
   have hm:=B4 hx
   have:=b.al x hm
   simp only [h1,h2,h3,cond_true,Ad,Tk]
   rw [Cy (by simp; omega),Ad,Ad,Cy (by simp; omega),Ad,C6 hx]; rfl
  .intro h1
   exact ⟨m.Atoms,by simp,rfl⟩
theorem A1z {α:Type} (b:List α) (z:α):C5 b b.length [z]=b++[z]:=by
 unfold C5
 simp
theorem Apo {α:Type} (b:List α) (k:Nat) (z x:α) (hk:k<=b.length) (hb:b.length<=1000000) :
  ∃o:List α,((Hb (b++[z]).length (Ac ((k:Int)+1)) (((b++[z]).length:Nat):Int)).bind fun v8=>
    match v8 with
    | .inl v9=>
     (Gu (b++[z]).length (k:Int) (((b++[z]).length:Nat):Int)).bind fun c=>
     (I8 (b++[z]) (0+v9.1) (v9.2-v9.1) (0+c.1) (c.2-c.1)).bind fun f=>some f
    | .inr _=>(Gu (b++[z]).length (k:Int) (((b++[z]).length:Nat):Int)).bind fun v12=>some (b++[z]))=some o/\o.length=b.length+1/\o.set k x=b.take k++x::b.drop k:=by
 obtain ⟨o,h1,h2,h3⟩:=Aol b b.length k z x (Nat.le_refl _) hk hb
 rw [A1z] at h1
 have g:(b++[z]).length=b.length+1:=by simp
 rw [Nat.max_eq_right (by omega)] at h2
 refine ⟨o,?_,h2,?_⟩
 .rw [g]; exact h1
 .rw [List.take_length,List.take_of_length_le (by rw [List.length_set]; omega)] at h3
  exact h3
open Classical in
theorem App {R:List Aj} {m:A8} (h:CP R) (hv:∀a,cf R a=if m=a then (1:Rat) else 0):R = [⟨cR 1,m⟩]:=by
 have h1:rq (cR 1)=1:=by rw [Ur]; rfl
 refine CP.ext h ⟨List.pairwise_singleton _ _,fun t ht=>by simp only [List.mem_singleton] at ht; subst ht; exact ⟨Ag1 1,by show rq (cR 1)≠0; rw [h1]; decide⟩⟩ fun a=>?_
 rw [hv]
 simp only [cf,h1]
 by_cases e:m=a
 .rw [if_pos e,if_pos (Hx.2 e)]; grind
 .rw [if_neg e,if_neg (fun h=>e (Hx.1 h))]; grind
theorem Apq (K:Nat):PSt K 0 []:=⟨by simp,by simpa using CP.nil,fun t ht=>by simp at ht⟩
theorem No:RB 3 (cR 1):=(Agx (k:=1) (by rw [Hu]; decide) (by decide)).mono (by decide)
theorem R7:rq (cR 1)=1:=by rw [Ur]; rfl
open Classical in
theorem Apr {m:A8} (hm:MSz m):∃n o,My 0 m (cR 1) []=some (n,o)/\Ms o n=some [⟨cR 1,m⟩]:=by
 obtain ⟨n,o,h1,h2,h3,h4⟩:=Aon (Apq 0) No hm (by decide) (by simp)
 refine ⟨n,o,h1,?_⟩
 have hle:=h3.le
 have e:Ms o n=some (o.take n):=by
  unfold Ms
  rw [if_pos hle]
 rw [e,App (m:=m) h3.cp fun a=>by
  rw [h4]
  simp only [List.take_nil,cf,R7]
  split <;> grind]
theorem A10 {x:Ce} (D:CSz x) (G:Ig x) {F:List Bh} {v:Int} {i:A9} (hm:MSz ⟨F++[⟨v,i⟩],[]⟩) (hd:1<=D4 x.Data x.Vars x.Res ⟨v,i⟩) (k:∀f∈F,f.Var<v) (I:F.length<=1000) :
  P9 x [⟨cR 1,⟨F,[]⟩⟩] v i=some [⟨cR 1,⟨F++[⟨v,i⟩],[]⟩⟩]:=by
 have b:=G.ctx D
 have N:=hm.nf
 have g:MSz ⟨F,[]⟩:=⟨by show F.length<=1048576; omega,by simp,fun f h=>hm.fi f (List.mem_append_left _ h),fun f h=>hm.fr f (List.mem_append_left _ h),fun a h=>by cases h⟩
 cases ht:tyX x.Vars x.Res v with
 | none=>
  unfold D4 at hd
  rw [show (⟨v,i⟩:Bh).Var=v from rfl,ht] at hd
  exact absurd (show (1:Int)<=-1 from hd) (by decide)
 | some t=>
  have l:D4 x.Data x.Vars x.Res ⟨v,i⟩=Gb (Gy x.Data i t):=by
   unfold D4
   rw [show (⟨v,i⟩:Bh).Var=v from rfl,ht]
  rw [l] at hd
  have hi:C4 i<=1048576:=hm.fi ⟨v,i⟩ (by simp)
  obtain ⟨o,B,M,u⟩:=Apo F F.length ⟨0,⟨0,[]⟩⟩ ⟨v,i⟩ (Nat.le_refl _) (by omega)
  obtain ⟨n,q,A,z⟩:=Apr hm
  have hx:o[F.length]? = some (o[F.length]'(by omega)):=Bu _
  generalize o[F.length]'_=w at hx
  rw [List.take_length,List.drop_length] at u
  unfold P9
  rw [Un,ht,Ad]
  dsimp only
  rw [Amo b.vd b.sh t i (b.sz v t ht) hi,Ad,Cm (by omega),cond_false]
  refine bnd (a:=(n,q)) ?_ (by dsimp only; rw [z]; rfl)
  refine (Hm (s':=(n,1,q)) ?_).trans (Ds (by rfl))
  have it:Af [(⟨cR 1,⟨F,[]⟩⟩:Aj)] 0=some ⟨cR 1,⟨F,[]⟩⟩:=rfl
  have y:Ac (0+1)=1:=by rw [Ac,Bp] <;> omega
  have c:Al (S:=Int) (E:=Int) (fun v66=>
    bif (decide (v66<(F.length:Int))) then (
    (Af F v66).bind fun v67=>
    bif (decide (v67.Var<v)) then (
    some (.inl (Ac (v66+1))))
    else (some (.inr v66)))
    else (some (.inr v66))) 0=some (F.length:Int):=by
   obtain ⟨e,L,J⟩:=Jy (step:=(fun v66:Int=>
    bif (decide (v66<(F.length:Int))) then (
    (Af F v66).bind fun v67=>
    bif (decide (v67.Var<v)) then (
    some (.inl (Ac (v66+1))))
    else (some (.inr v66)))
    else (some (.inr v66)):Int->Option (Int⊕Int))) (fun s=>∃j:Nat,s=(j:Int)/\j<=F.length) (fun s=>F.length-s.toNat) (fun e=>e=(F.length:Int)) (by
    rintro s ⟨j,rfl,hj⟩
    rcases Nat.lt_or_ge j F.length with h | h
    .have hy:F[j]? = some F[j]:=Bu h
     generalize F[j]=f at hy
     rw [Ak (by omega),cond_true,B6 rfl hy,Ad,Ak (k f (B4 hy)),cond_true,Cz h (by omega)]
     exact .inl ⟨_,rfl,⟨j+1,rfl,by omega⟩,by simp only [Int.toNat_natCast]; omega⟩
    .have:j=F.length:=by omega
     subst this
     exact .inr ⟨_,by rw [Ap (by omega),cond_false],rfl⟩) 0 ⟨0,rfl,by omega⟩
   rw [L,J]
  dsimp only
  rw [Ak (by simp),cond_true,it,Ad]
  refine bnd c ?_
  dsimp only
  rw [Ap (by omega),cond_false,Ad,cond_false,Apn _ g,Ad]
  dsimp only
  rw [Cy (by simp; omega),Ad]
  refine bnd B ?_
  rw [B6 rfl hx,Ad,Fb (n:=F.length) rfl,u,A,Ad,y]
theorem A11 {F:List Bh} {L:List Ba} {l:Ca} {k:Int} (hm:MSz ⟨F,L++[⟨l,k⟩]⟩) (hk:k≠0) (R:l.Terms.length≠0) (u:∀a∈L,Fg a.Lin l<0) (D:L.length<=1000) :
  N6 [⟨cR 1,⟨F,L⟩⟩] l k=some [⟨cR 1,⟨F,L++[⟨l,k⟩]⟩⟩]:=by
 have N:=hm.na
 have M:F.length<=1048576:=hm.nf
 have i:MSz ⟨F,L⟩:=⟨hm.nf,by show L.length<=1048576; omega,hm.fi,hm.fr,fun a h=>hm.al a (List.mem_append_left _ h)⟩
 obtain ⟨o,B,J,x⟩:=Apo L L.length ⟨⟨0,[]⟩,0⟩ ⟨l,k⟩ (Nat.le_refl _) (by omega)
 obtain ⟨n,q,A,z⟩:=Apr hm
 have hx:o[L.length]? = some (o[L.length]'(by omega)):=Bu _
 generalize o[L.length]'_=w at hx
 rw [List.take_length,List.drop_length] at x
 unfold N6
 rw [Cm hk,cond_false]
 refine bnd (a:=(n,q)) ?_ (by dsimp only; rw [z]; rfl)
 refine (Hm (s':=(n,1,q)) ?_).trans (Ds (by rfl))
 have it:Af [(⟨cR 1,⟨F,L⟩⟩:Aj)] 0=some ⟨cR 1,⟨F,L⟩⟩:=rfl
 have y:Ac (0+1)=1:=by rw [Ac,Bp] <;> omega
 have g:Al (S:=Int) (E:=Int) (fun b=>
   bif (decide (b<(L.length:Int))) then (
   (Af L b).bind fun c=>
   (M0 c.Lin l).bind fun v91=>
   bif (decide (v91<(0:Int))) then (
   some (.inl (Ac (b+1))))
   else (some (.inr b)))
   else (some (.inr b))) 0=some (L.length:Int):=by
  obtain ⟨e,I,G⟩:=Jy (step:=(fun b:Int=>
   bif (decide (b<(L.length:Int))) then (
   (Af L b).bind fun c=>
   (M0 c.Lin l).bind fun v91=>
   bif (decide (v91<(0:Int))) then (
   some (.inl (Ac (b+1))))
   else (some (.inr b)))
   else (some (.inr b)):Int->Option (Int⊕Int))) (fun s=>∃j:Nat,s=(j:Int)/\j<=L.length) (fun s=>L.length-s.toNat) (fun e=>e=(L.length:Int)) (by
   rintro s ⟨j,rfl,hj⟩
   rcases Nat.lt_or_ge j L.length with h | h
   .have hy:L[j]? = some L[j]:=Bu h
    generalize L[j]=f at hy
    have hf:=B4 hy
    have:=i.al f hf
    rw [Ak (by omega),cond_true,B6 rfl hy,Ad,Am3 f.Lin l (by omega),Ad,Ak (u f hf),cond_true,Cz h (by omega)]
    exact .inl ⟨_,rfl,⟨j+1,rfl,by omega⟩,by simp only [Int.toNat_natCast]; omega⟩
   .have:j=L.length:=by omega
    subst this
    exact .inr ⟨_,by rw [Ap (by omega),cond_false],rfl⟩) 0 ⟨0,rfl,by omega⟩
  rw [I,G]
 dsimp only
 rw [Ak (by simp),cond_true,it,Ad,Cm (by omega),cond_false]
 refine bnd g ?_
 dsimp only
 rw [Ap (by omega),cond_false,Ad,cond_false,Apn _ i,Ad]
 dsimp only
 rw [Cy (by simp; omega),Ad]
 refine bnd B ?_
 rw [B6 rfl hx,Ad,Fb (n:=L.length) rfl,x,A,Ad,y]
end Go.Ab
namespace Go.Ab
open Go
theorem A12 {α:Type} {o:List α} {n:Nat} (h:n<=o.length):Ms o n=some (o.take n):=by
 unfold Ms
 rw [if_pos h]
end Go.Ab
namespace Go.Ab
open Go
end Go.Ab
namespace Go.Ab
open Go
theorem Ab6:MSz ⟨[],[]⟩:=⟨by simp,by simp,(fun f h=>by cases h),(fun f h=>by cases h),fun a h=>by cases h⟩
theorem Aha {R:List Aj} {k:Nat} (b:R.length<=1000) (h:∀t∈R,MSz t.Mono/\RB k t.Coef) (hk:k<=34359738000):Ja R R=some true :=
 Agy R (by omega) fun t ht=>⟨(h t ht).1,(h t ht).2.mono hk⟩
theorem Aps (r:Aq) {k:Nat} (b:RB k r) (hk:k<=1048576):∃R,P4 r=some R/\N5 r=some R/\(∀t∈R,MSz t.Mono/\RB (k+1) t.Coef)/\R.length<=1:=by
 obtain ⟨c,l,j,s,q,i⟩:=Agd b (by omega)
 obtain ⟨g,f⟩:=Nl b (by omega)
 unfold P4 N5 Aep
 rw [g,f,l,j,Aok _ Ab6]
 by_cases h:I5 (rq r)=0
 .refine ⟨[],?_,?_,(fun t ht=>by cases ht),by simp⟩
  .rw [Ad,Ea h]; rfl
  .refine bnd (bnd (a:=()) (Ds rfl) ?_) rfl
   rw [Ad,Ea h]; rfl
 .refine ⟨[⟨c,⟨[],[]⟩⟩],?_,?_,fun t ht=>?_,by simp⟩
  .rw [Ad,Cm h]; rfl
  .refine bnd (bnd (a:=()) (Ds rfl) ?_) rfl
   rw [Ad,Cm h,cond_false,Cy (by simp),Ad]
   rfl
  .simp only [List.mem_singleton] at ht
   subst ht
   exact ⟨Ab6,i⟩
theorem Apt:N5 (cR 1)=some [⟨cR 1,⟨[],[]⟩⟩]:=by
 obtain ⟨R,b,f,_,_⟩:=Aps (cR 1) No (by decide)
 have h:P4 (cR 1)=some [⟨cR 1,⟨[],[]⟩⟩]:=by
  obtain ⟨c,j,l,i,g,k⟩:=Agd No (by decide)
  have:c=cR 1:=Agc i (Ag1 1) g
  unfold P4
  rw [(Nl No (by decide)).1,j,this,Ad,Cm (by rw [R7]; decide)]; rfl
 rw [h] at b
 rw [f,<-b]
theorem A13 (c:Int) (k:Nat) (hc : -1048576<=c/\c<=1048576) (hk:k<=12):∃z y,Hn c=some z/\S9 z (k:Int)=some y/\rq y=(bc c.toNat k:Rat)/\RB 200 y:=by
 have key:∀n:Nat,n<=1048576->∃y,Qs (A7 false n 1) (k:Int)=some y/\rq y=(bc n k:Rat)/\RB 200 y:=fun n s=>by
  have e:A7 false (D1 n k) (D2 k)=cR (bc n k):=by
   rw [Xz,show A7 false (D2 k*bc n k) (D2 k)=A7 false (D2 k*bc n k) (D2 k*1) by rw [Nat.mul_one],Lt _ _ _ _ (Rk k)]
   rfl
  have g:bc n k<Big:=by
   have:=R4 (x:=n) (l:=[⟨⟨0,[]⟩,(k:Int)⟩]) s (by simp [C1]; omega)
   simpa [prb] using this
  exact ⟨cR (bc n k),by rw [<-e]; exact Av5 n k (by omega) (by omega),Ur _,(Np.c g).rb⟩
 by_cases h:c<0
 .refine ⟨A7 (decide (c<0)) c.natAbs 1,?_⟩
  obtain ⟨y,q,j,i⟩:=key 0 (by omega)
  refine ⟨y,Rj c (by omega) (by omega),?_,by rw [show c.toNat=0 by omega]; exact j,i⟩
  obtain ⟨z,u,z2,z3,z4⟩:=A0m c (by omega) (by omega)
  have f:RB 3 (A7 (decide (c<0)) c.natAbs 1):=Hv _ _ _ _ (Mh (n:=c.natAbs) (by omega)) (by rw [Hu]; decide) (by decide)
  have hq:rq (A7 (decide (c<0)) c.natAbs 1)=(c:Rat):=by
   rw [Kv _ _ _ (by decide),Abx]
   congr 1
   unfold sg
   rw [Ak h,if_pos rfl]; omega
  have b:I5 (c:Rat)<0:=(Apm _).2 (by rw [<-Rat.intCast_zero]; exact Rat.intCast_lt_intCast.2 h)
  have z0:Hn 0=some (A7 false 0 1):=Rj 0 (by decide) (by decide)
  unfold S9
  rw [(Nl f (by decide)).2,Ad,hq,Ak b,cond_true,z0,Ad,q]; rfl
 .refine ⟨A7 false c.toNat 1,?_⟩
  obtain ⟨y,q,j,i⟩:=key c.toNat (by omega)
  refine ⟨y,?_,?_,j,i⟩
  .have:=Rj c (by omega) (by omega)
   rw [Ap h,show c.natAbs=c.toNat by omega] at this
   exact this
  .have f:RB 3 (A7 false c.toNat 1):=Hv _ _ _ _ (Mh (n:=c.toNat) (by omega)) (by rw [Hu]; decide) (by decide)
   have hq:rq (A7 false c.toNat 1)=(c.toNat:Rat):=Ur c.toNat
   have b:¬I5 (c.toNat:Rat)<0:=fun h=>by
    have h:=(Apm _).1 h
    have h2:(0:Rat)<=(c.toNat:Rat):=Rat.natCast_nonneg
    grind
   unfold S9
   rw [(Nl f (by decide)).2,Ad,hq,Ap b,cond_false,q]; rfl
theorem A14 {l:Ca} {k:Nat} {B:List Ef} (h:IsE [⟨l,(k:Int)⟩] B):B=if l.Terms.length=0 then (if bc l.Const.toNat k=0 then [] else [([],bc l.Const.toNat k)]) else [(atO l k,1)]:=by
 obtain ⟨gs,V,D,Y,z,rfl⟩:=h
 have S:V = [⟨l,(k:Int)⟩]:=List.perm_singleton.1 D
 subst S
 generalize q:[(⟨l,(k:Int)⟩:Ba)]=X at z
 cases z with
 | nil=>cases q
 | @cons E N f g rest gs u J Z L R=>
  have G:=congrArg List.length q
  rw [List.length_append,List.length_singleton] at G
  have I:=List.length_pos_iff.2 u
  have c:rest = []:=List.length_eq_zero_iff.1 (by omega)
  subst c
  rw [List.append_nil] at q
  subst q
  have y:=R.nil_of rfl
  subst y
  have x:l=E:=J ⟨l,(k:Int)⟩ (by simp)
  subst x
  show F5 [([],1)] l f (N+1)=_
  rcases L with ⟨h1,h2⟩ | ⟨h1,h2,h3⟩
  .have M:N=k:=by have:=h2.1; simpa [C1] using this
   subst M
   have b:=A1v (l:=l) h2 (a:=⟨l,(N:Int)⟩) (by simp) (by simp)
   have b:∀j,j<N->f j=0:=fun j hj=>b j (by simpa using hj)
   have i:f N=1:=by
    have A:=h2.2.2 N
    rw [Aby (k:=N) (by omega) (fun j hj=>by
     rcases Nat.lt_or_ge j N with h | h
     .rw [b j h,Nat.zero_mul]
     .rw [Apk (by omega),Nat.mul_zero]),Nn] at A
    simp only [prb,Int.toNat_natCast,Nn] at A
    omega
   have s:F5 [(([],1):Ef)] l f N = []:=by
    have:=Apj (B:=[([],1)]) (l:=l) b N
    exact List.length_eq_zero_iff.1 (by simpa using this)
   rw [if_neg h1,R5,s,if_neg (by omega),i]
   simp
  .subst h2
   have U:f 0=bc l.Const.toNat k:=by rw [h3]; simp [prb]
   rw [if_pos h1,R5,U]
   have s:F5 [(([],1):Ef)] l f 0 = []:=rfl
   rw [s]
   split
   .rfl
   .simp [atO]
end Go.Ab
