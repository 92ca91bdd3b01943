/- Plain laws: what the plain functions answer. -/
import Derived.Test.YtenghgogpgldaaaGreatDoorPdPl3
namespace Go.Ab
open Go
theorem Akl:∀(k:Nat) (t:Ah) (a:Int),A7 t<=k->k<1099511627776->∃r,Mh k t a=some r/\True:=by
 intro k
 induction k with
 | zero=>intro i a h; have:=Fx i; omega
 | succ k ih=>
  intro i a h hk
  have f:=Fx i
  have g:=G1 i.Args
  rw [Mh]
  refine Kt ⟨_,rfl,trivial⟩ ?_
  refine Dr (fun (v,_)=>∃j:Nat,v=j/\j<=i.Args.length) (fun (v,_)=>i.Args.length-v.toNat) (fun _=>True) ⟨0,rfl,by omega⟩ ?_ ?_
  .rintro ⟨v,b⟩ ⟨j,rfl,hj⟩
   rcases Nat.lt_or_ge j i.Args.length with h' | h'
   .have hx:i.Args[j]? = some i.Args[j]:=Br h'
    generalize i.Args[j]=x at hx
    have l:=F3 (Bu hx)
    obtain ⟨⟨y,z⟩,c,_⟩:=ih x b (by omega) (by omega)
    simp only [Aj (by omega:(j:Int)<(i.Args.length:Int)),cond_true,Cf rfl hx,Ad,c,C1 h' (by omega)]
    cases y with
    | false=>exact .inr ⟨_,rfl,trivial⟩
    | true=>exact .inl ⟨_,rfl,⟨j+1,rfl,by omega⟩,by simp only [Int.toNat_natCast]; omega⟩
   .have:j=i.Args.length:=by omega
    subst this
    exact .inr ⟨.inr b,by simp,trivial⟩
  .rintro (⟨x,y⟩ | e) _
   .exact ⟨_,rfl,trivial⟩
   .exact ⟨_,rfl,trivial⟩
theorem Akm (t:Ah) (h:A7 t<=1048576):∃b,P3 t=some b:=by
 unfold P3
 obtain ⟨r,h1,_⟩:=Akl 4000000 t 250 (by omega) (by omega)
 exact ⟨_,by rw [h1]; rfl⟩
theorem Auo (l:List Ah) (n:Int) (c:l.length<=1048576) (h:∀t∈l,A7 t<=1048576):∃b,Sk l n=some b/\True:=by
 unfold Sk
 refine Dr (fun v=>∃j:Nat,v=j/\j<=l.length) (fun v=>l.length-v.toNat) (fun _=>True) ⟨0,rfl,by omega⟩ ?_ ?_
 .rintro v ⟨j,rfl,hj⟩
  rcases Nat.lt_or_ge j l.length with h' | h'
  .have hx:l[j]? = some l[j]:=Br h'
   generalize l[j]=x at hx
   obtain ⟨b,hb⟩:=Akm x (h x (Bu hx))
   simp only [Aj (by omega:(j:Int)<(l.length:Int)),cond_true,Cf rfl hx,Ad,hb,C1 h' (by omega)]
   cases decide ((j:Int)<=n) with
   | false=>exact .inr ⟨_,rfl,trivial⟩
   | true=>
    cases b with
    | false=>exact .inr ⟨_,rfl,trivial⟩
    | true=>exact .inl ⟨_,rfl,⟨j+1,rfl,by omega⟩,by simp only [Int.toNat_natCast]; omega⟩
  .simp only [Ap (by omega:¬(j:Int)<(l.length:Int)),cond_false]
   exact .inr ⟨_,rfl,trivial⟩
 .rintro (r | r) _
  .exact ⟨_,rfl,trivial⟩
  .exact ⟨_,rfl,trivial⟩
theorem Aup (l:List Ax) (f:DSz l):∃b,Sj l=some b/\True:=by
 unfold Sj
 have B:=f.len
 refine Kt ⟨_,rfl,trivial⟩ ?_
 refine Dr (fun v=>∃j:Nat,v=j/\j<=l.length) (fun v=>l.length-v.toNat) (fun _=>True) ⟨0,rfl,by omega⟩ ?_ ?_
 .rintro v ⟨j,rfl,hj⟩
  rcases Nat.lt_or_ge j l.length with h' | h'
  .have hx:l[j]? = some l[j]:=Br h'
   generalize l[j]=x at hx
   obtain ⟨D,k⟩:=f.sz x (Bu hx)
   simp only [Aj (by omega:(j:Int)<(l.length:Int)),cond_true,Cf rfl hx,Ad,C1 h' (by omega)]
   have hq:∃q,(bif decide ((x.Name.size:Int)>40) then some true else some (decide ((x.Cons.length:Int)>10)))=some q:=by
    cases decide ((x.Name.size:Int)>40) <;> exact ⟨_,rfl⟩
   obtain ⟨q,hq⟩:=hq
   erw [hq]
   simp only [Ad]
   cases q with
   | true=>exact .inr ⟨_,rfl,trivial⟩
   | false=>
    simp only [cond_false]
    have key:∀(W:Option (Int⊕(Bool⊕Unit))),(∃r,W=some r/\(r = .inl ((j+1:Nat):Int)\/∃e,r = .inr e))->(∃s',W=some (Sum.inl s')/\(∃j:Nat,s'=(j:Int)/\j<=l.length)/\l.length-s'.toNat<l.length-((j:Int)).toNat)\/∃e,W=some (Sum.inr e)/\True:=by
     rintro W ⟨r,rfl,rfl | ⟨e,rfl⟩⟩
     .exact .inl ⟨_,rfl,⟨j+1,rfl,by omega⟩,by simp only [Int.toNat_natCast]; omega⟩
     .exact .inr ⟨_,rfl,trivial⟩
    refine key _ ?_
    refine Dr (fun v=>∃j:Nat,v=j/\j<=x.Cons.length) (fun v=>x.Cons.length-v.toNat) (fun _=>True) ⟨0,rfl,by omega⟩ ?_ ?_
    .rintro v ⟨i,rfl,hi⟩
     rcases Nat.lt_or_ge i x.Cons.length with h'' | h''
     .have hy:x.Cons[i]? = some x.Cons[i]:=Br h''
      generalize x.Cons[i]=y at hy
      have d1:=k y (Bu hy)
      have d2:=G1 y.Args
      simp only [Aj (by omega:(i:Int)<(x.Cons.length:Int)),cond_true,Cf rfl hy,Ad,C1 h'' (by omega)]
      have hq:∃q,(bif decide ((y.Name.size:Int)>40) then some true else some (decide ((y.Args.length:Int)>8)))=some q:=by
       cases decide ((y.Name.size:Int)>40) <;> exact ⟨_,rfl⟩
      obtain ⟨q,hq⟩:=hq
      erw [hq]
      simp only [Ad]
      cases q with
      | true=>exact .inr ⟨_,rfl,trivial⟩
      | false=>
       simp only [cond_false]
       have key:∀(W:Option (Int⊕(Bool⊕Int))),(∃r,W=some r/\(r = .inl ((i+1:Nat):Int)\/∃e,r = .inr e))->(∃s',W=some (Sum.inl s')/\(∃j:Nat,s'=(j:Int)/\j<=x.Cons.length)/\x.Cons.length-s'.toNat<x.Cons.length-((i:Int)).toNat)\/∃e,W=some (Sum.inr e)/\True:=by
        rintro W ⟨r,rfl,rfl | ⟨e,rfl⟩⟩
        .exact .inl ⟨_,rfl,⟨i+1,rfl,by omega⟩,by simp only [Int.toNat_natCast]; omega⟩
        .exact .inr ⟨_,rfl,trivial⟩
       refine key _ ?_
       refine Dr (fun s=>∃j:Nat,s.1=j/\j<=y.Args.length) (fun s=>y.Args.length-s.1.toNat) (fun _=>True) ⟨0,rfl,by omega⟩ ?_ ?_
       .rintro ⟨_,w⟩ ⟨u,rfl,hu⟩
        rcases Nat.lt_or_ge u y.Args.length with h3 | h3
        .have c:y.Args[u]? = some y.Args[u]:=Br h3
         generalize y.Args[u]=t at c
         have A:=F3 (Bu c)
         obtain ⟨⟨g,z⟩,h,_⟩:=Akl 4000000 t w (by omega) (by omega)
         simp only [Aj (by omega:(u:Int)<(y.Args.length:Int)),cond_true,Cf rfl c,Ad,h,C1 h3 (by omega)]
         cases g with
         | false=>exact .inr ⟨_,rfl,trivial⟩
         | true=>exact .inl ⟨_,rfl,⟨u+1,rfl,by omega⟩,by simp only [Int.toNat_natCast]; omega⟩
        .simp only [Ap (by omega:¬(u:Int)<(y.Args.length:Int)),cond_false]
         exact .inr ⟨_,rfl,trivial⟩
       .rintro (r | r) _
        .exact ⟨_,rfl,.inr ⟨_,rfl⟩⟩
        .exact ⟨_,rfl,.inl rfl⟩
     .simp only [Ap (by omega:¬(i:Int)<(x.Cons.length:Int)),cond_false]
      exact .inr ⟨_,rfl,trivial⟩
    .rintro (r | r) _
     .exact ⟨_,rfl,.inr ⟨_,rfl⟩⟩
     .exact ⟨_,rfl,.inl rfl⟩
  .simp only [Ap (by omega:¬(j:Int)<(l.length:Int)),cond_false]
   exact .inr ⟨_,rfl,trivial⟩
 .rintro (r | r) _
  .exact ⟨_,rfl,trivial⟩
  .exact ⟨_,rfl,trivial⟩
theorem Auq (x:Cm) (f:CSz x):∃b,Se x=some b:=by
 unfold Se
 obtain ⟨a,ha,_⟩:=Aup x.Data f.ds
 obtain ⟨b,hb,_⟩:=Auo x.Vars 40 f.nv f.vs
 obtain ⟨c,hc⟩:=Akm x.Res f.rs
 rw [ha,hb,hc]
 cases a <;> cases b <;> exact ⟨_,rfl⟩
theorem Aur (x:Cm) (l:CSz x) (c:List (List Ak)) (u:c.length<=1048576) (hp:∀p∈c,p.length<=1048576/\∀t∈p,TSz t) :
  ∃b,R7 x c=some b/\(b=true->∀p∈c,p.length<=10/\∀t∈p,Pf t.Mono):=by
 unfold R7
 refine Dr (fun v=>∃j:Nat,v=j/\j<=c.length/\∀p∈c.take j,p.length<=10/\∀t∈p,Pf t.Mono) (fun v=>c.length-v.toNat) (fun z=>z = .inl false\/(z = .inr ()/\∀p∈c,p.length<=10/\∀t∈p,Pf t.Mono)) ⟨0,rfl,by omega,by simp⟩ ?_ ?_
 .rintro v ⟨j,rfl,hj,f⟩
  rcases Nat.lt_or_ge j c.length with h' | h'
  .have hx:c[j]? = some c[j]:=Br h'
   generalize c[j]=p at hx
   obtain ⟨k,i⟩:=hp p (Bu hx)
   obtain ⟨b,hb,s⟩:=Aud p k i
   simp only [Aj (by omega:(j:Int)<(c.length:Int)),cond_true,Cf rfl hx,Ad,hb,C1 h' (by omega)]
   cases b with
   | false=>exact .inr ⟨_,rfl,.inl rfl⟩
   | true=>
    refine .inl ⟨_,rfl,⟨j+1,rfl,by omega,fun q hq=>?_⟩,by simp only [Int.toNat_natCast]; omega⟩
    rw [C2 hx] at hq
    rcases List.mem_append.1 hq with hq | hq
    .exact f q hq
    .rw [List.mem_singleton] at hq
     subst hq; exact s rfl
  .have:j=c.length:=by omega
   subst this
   rw [List.take_length] at f
   exact .inr ⟨.inr (),by simp,.inr ⟨rfl,f⟩⟩
 .rintro z (rfl | ⟨rfl,g⟩)
  .exact ⟨false,rfl,fun h=>by cases h⟩
  .obtain ⟨b,hb⟩:=Auq x l
   exact ⟨b,by dsimp only; rw [hb]; rfl,fun _=>g⟩
end Go.Ab
namespace Go.Ab
open Go
theorem Aus:∃r,Nv (-1)=some r/\RB 1 r/\rq r = -1:=by
 refine ⟨_,Aqm (-1) (by decide) (by decide),?_,?_⟩
 .exact Q4 _ _ _ 1 (I6 (by decide)) (I6 (by decide)) (by omega)
 .rw [Pb _ _ _ (by decide)]; decide
theorem Aut (t:Ak):(!Na t)=decide (0<=rq t.Coef):=by
 unfold Na
 rw [Ajl]
 unfold Lv
 by_cases h1:rq t.Coef<0
 .rw [if_pos h1,Ap (Rat.not_le.2 h1)]; rfl
 .rw [if_neg h1,Aj (Rat.not_lt.1 h1)]
  split <;> rfl
theorem CP.dst {p:List Ak} (h:CP p):Dst p:=h.srt.imp fun {a b} hab e=>by
 unfold ltT at hab
 rw [Kx.2 e] at hab; omega
theorem Auu {k:Nat} (hk:k<34359738000) (p:List Ak) (b:p.length<=1000000) (hp:∀t∈p,RB k t.Coef):Sd p=some (bif p.all fun t=>!Na t then true else false):=by
 unfold Sd
 refine Lk p (fun t=>!Na t) (fun j=>(j:Int)) rfl (by omega) ?_ ?_
 .intro j x hx h1 h2 h3
  have ht:=hp x (Bu hx)
  simp only [h1,h2,h3,cond_true,Ad,Ab0 _ _ ht (by omega)]
  rw [show decide (Gm (sv x.Coef) (nv x.Coef)<0)=Na x from rfl]
  cases Na x with
  | true=>exact ⟨(fun h=>by cases h),fun _=>⟨.inl false,rfl,rfl⟩⟩
  | false=>exact ⟨fun _=>rfl,fun h=>by cases h⟩
 .intro h
  exact ⟨.inr (),by simp only [h]; rfl,rfl⟩
theorem Auv {x:Cm} (j:CSz x) {p q:List Ak} (f:p.length<=1000) (c:q.length<=1000) (hp:∀t∈p,TSz t) (hq:∀t∈q,TSz t) :
  ∃b,R8 x p q=some b/\(b=true↔(H7 x/\Gq x.Data x.Vars x.Res p=true/\Gq x.Data x.Vars x.Res q=true)/\∀m,cf q m<=cf p m):=by
 unfold R8
 obtain ⟨a,a1,a2⟩:=Ajh x j p hp
 obtain ⟨b,b1,b2⟩:=Ajh x j q hq
 rw [a1,b1,Ad,Ad]
 cases a with
 | false=>exact ⟨false,rfl,fun h=>(by cases h),fun h=>(by have:=a2.2 ⟨h.1.1,h.1.2.1⟩; cases this)⟩
 | true=>
  cases b with
  | false=>exact ⟨false,rfl,fun h=>(by cases h),fun h=>(by have:=b2.2 ⟨h.1.1,h.1.2.2⟩; cases this)⟩
  | true=>
   obtain ⟨E,y⟩:=a2.1 rfl
   obtain ⟨_,u⟩:=b2.1 rfl
   obtain ⟨r,s,l,g⟩:=Aus
   obtain ⟨o,D,B,i,A⟩:=Aun p q r f c (fun t ht=>⟨(hp t ht).co,(hp t ht).mo⟩) (fun t ht=>⟨(hq t ht).co,(hq t ht).mo⟩) (l.mono (by omega))
   simp only [cond_true,s,Ad,D]
   obtain ⟨G,z⟩:=A
   rw [Auu (k:=(p.length+q.length)*1048600) (by omega) o (by omega) (fun t ht=>(z t ht).1),Ad]
   refine ⟨_,rfl,?_⟩
   have e:(bif o.all fun t=>!Na t then true else false)=o.all fun t=>decide (0<=rq t.Coef):=by
    rw [show (fun t=>!Na t)=(fun t:Ak=>decide (0<=rq t.Coef)) from funext Aut]
    cases o.all _ <;> rfl
   rw [e]
   refine (Aki B.dst).trans ?_
   constructor
   .intro h
    refine ⟨⟨E,y,u⟩,fun m=>?_⟩
    have:=h m
    rw [i,g] at this; grind
   .rintro ⟨_,h⟩ m
    have:=h m
    rw [i,g]; grind
theorem Auw (x:Cm) (p q:List Ak) (i:CSz x) (y:p.length<=1048576) (hp:∀t∈p,TSz t) (j:q.length<=1048576) (hq:∀t∈q,TSz t):Vy x p q=some true:=by
 unfold Vy
 obtain ⟨b,b1,b2⟩:=Aur x i [p,q] (by simp) (fun r g=>by
  simp only [List.mem_cons,List.not_mem_nil,or_false] at g
  rcases g with rfl | rfl
  .exact ⟨y,hp⟩
  .exact ⟨j,hq⟩)
 rw [b1,Ad]
 cases b with
 | false=>rfl
 | true=>
  have u:=(b2 rfl p (by simp)).1
  have s:=(b2 rfl q (by simp)).1
  obtain ⟨c,A,z⟩:=Auv i (by omega:p.length<=1000) (by omega:q.length<=1000) hp hq
  simp only [bnt,cond_false,A,Ad,At9]
  by_cases f:H7 x/\Gq x.Data x.Vars x.Res p=true/\Gq x.Data x.Vars x.Res q=true
  .obtain ⟨d,d1,d2⟩:=At7 i f.1 ⟨f.2.1,hp⟩ ⟨f.2.2,hq⟩
   have:d=c:=by
    cases d <;> cases c <;> simp_all
   simp only [d1,Ad,this,beq_self_eq_true,cond_true]
  .have hc:c=false:=by
    cases c with
    | false=>rfl
    | true=>exact (f (z.1 rfl).1).elim
   have hd:Nu x p q=some false:=by
    unfold Nu
    obtain ⟨r,l,k⟩:=Akh x i [p,q] (fun r g=>by
     simp only [List.mem_cons,List.not_mem_nil,or_false] at g
     rcases g with rfl | rfl <;> assumption) (by simp)
    rcases k with ⟨h,_⟩ | ⟨_,rfl⟩
    .exact (f ⟨h.1,h.2 p (by simp),h.2 q (by simp)⟩).elim
    .rw [l]; rfl
   subst hc
   simp only [hd,Ad,beq_self_eq_true,cond_true]
end Go.Ab
