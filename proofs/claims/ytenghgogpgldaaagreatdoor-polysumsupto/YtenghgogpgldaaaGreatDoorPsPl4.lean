/- Plain laws: what the plain functions answer. -/
import Derived.Test.YtenghgogpgldaaaGreatDoorPsPl3
namespace Go.Ab
open Go
structure PSt (K:Nat) (n:Nat) (b:List Aj):Prop where
 le:n<=b.length
 cp:CP (b.take n)
 tm:∀t∈b.take n,RB K t.Coef/\MSz t.Mono
open Classical in
theorem Alh {K kc:Nat} {n:Nat} {b:List Aj} (h:PSt K n b) {m:Bb} {c:A5} (hc:RB kc c) (hm:MSz m) (hK:K+kc+3<30000000000) (hb:b.length<=100000) :
  ∃(n':Nat) (o:List Aj),Qx n m c b=some (n',o)/\o.length<=b.length+1/\PSt (K+kc+3) n' o/\∀m',cf (o.take n') m'=cf (b.take n) m' + (if m=m' then rq c else 0):=by
 obtain ⟨k,k1,k2,k3,k4⟩:=Awa b n m h.le h.cp.srt (fun t ht=>(h.tm t ht).2) (by have:=h.le; omega)
 have hlen:(b.take n).length=n:=by rw [List.length_take]; have:=h.le; omega
 have hget:∀i,i<n->(b.take n)[i]? = b[i]?:=fun i hi=>by rw [List.getElem?_take,if_pos hi]
 have hbn:=h.le
 unfold Qx
 rw [k4,Ad]
 by_cases hin:∃t,k<n/\(b.take n)[k]? = some t/\Cj t.Mono m=0
 .obtain ⟨t,h1,h2,h3⟩:=hin
  have htm:=h.tm t (Bs h2)
  have hmm:t.Mono=m:=Jq.1 h3
  have hbk:b[k]? = some t:=by rw [<-hget k h1]; exact h2
  have hidx:Ey b 0 n (k:Int)=some t:=Vi rfl h1 (by rw [Nat.zero_add]; exact hbk)
  obtain ⟨s,s1,s2,s3,s4,s5⟩:=Akg htm.1 hc (by omega) (by omega)
  have hset:Cq b (((0:Nat):Int)+(k:Int)) (Aj.mk s t.Mono)=b.set k ⟨s,t.Mono⟩:=F7 (n:=k) (by omega) _
  have hbs:(b.set k ⟨s,t.Mono⟩)[k]? = some ⟨s,t.Mono⟩:=by rw [List.getElem?_set,if_pos rfl,if_pos (Di hbk)]
  have hidx2:Ey (b.set k ⟨s,t.Mono⟩) 0 n (k:Int)=some ⟨s,t.Mono⟩:=Vi rfl h1 (by rw [Nat.zero_add]; exact hbs)
  simp only [Ak (by omega:(k:Int)<(n:Int)),cond_true,hidx,Ad,Yv t.Mono m htm.2,Em h3,s2,hset,hidx2,(Ade s3 (by omega)).2]
  have htk:(b.set k ⟨s,t.Mono⟩).take n=(b.take n).set k ⟨s,t.Mono⟩:=by rw [List.take_set]
  have hlens:(b.set k ⟨s,t.Mono⟩).length=b.length:=List.length_set
  by_cases hz:rq s=0
  .rw [Em ((Y7 _).2 hz),cond_true]
   have hpre:Ss n (k:Int)=some k:=by
    unfold Ss
    rw [if_pos (by omega)]; simp
   rw [hpre,Ad]
   obtain ⟨o,d1,d2,d3,d4⟩:=Av8 104 (b.set k ⟨s,t.Mono⟩) n k (by omega) h1 (by rw [hlens]; omega) (by omega)
   have hrm:(b.set k ⟨s,t.Mono⟩).take n=(b.take n).set k ⟨s,t.Mono⟩:=htk
   have hee:((b.take n).set k ⟨s,t.Mono⟩).take k++((b.take n).set k ⟨s,t.Mono⟩).drop (k+1)=(b.take n).take k++(b.take n).drop (k+1):=by
    rw [List.take_set_of_le (Nat.le_refl _),List.drop_set_of_lt (by omega)]
   rw [hrm,hee] at d4
   refine ⟨n-1,o,d1,by omega,⟨d2,by rw [d4]; exact h.cp.remove k,fun u hu=>?_⟩,fun m'=>?_⟩
   .rw [d4,List.mem_append] at hu
    have hu':u∈b.take n:=by
     rcases hu with hu | hu
     .exact List.mem_of_mem_take hu
     .exact List.mem_of_mem_drop hu
    exact ⟨((h.tm u hu').1).mono (by omega),(h.tm u hu').2⟩
   .rw [d4,Awd h2 m',hmm]
    by_cases e:m=m'
    .rw [if_pos e,if_pos e]
     have:rq c = - rq t.Coef:=by rw [s5] at hz; grind
     rw [this]; grind
    .rw [if_neg e,if_neg e]; grind
  .rw [Cr (fun e=>hz ((Y7 _).1 e)),cond_false]
   refine ⟨n,b.set k ⟨s,t.Mono⟩,rfl,by omega,⟨by omega,?_,fun u hu=>?_⟩,fun m'=>?_⟩
   .rw [htk]
    refine ⟨?_,fun u hu=>?_⟩
    .rw [List.pairwise_iff_getElem]
     intro i j hi hj hij
     have g:∀(q:Nat) (hq:q<((b.take n).set k ⟨s,t.Mono⟩).length),(((b.take n).set k ⟨s,t.Mono⟩)[q]).Mono=((b.take n)[q]'(by rw [List.length_set] at hq; exact hq)).Mono:=by
      intro q hq
      rw [List.getElem_set]
      split
      .rename_i e
       subst e
       have:=Bx (l:=b.take n) (i:=k) (by omega)
       rw [h2] at this
       rw [<-Option.some.inj this]
      .rfl
     unfold ltT
     rw [g i hi,g j hj]
     exact (List.pairwise_iff_getElem.1 h.cp.srt) i j _ _ hij
    .rcases List.mem_or_eq_of_mem_set hu with hu | rfl
     .exact h.cp.coe u hu
     .exact ⟨s4,hz⟩
   .rw [htk] at hu
    rcases List.mem_or_eq_of_mem_set hu with hu | rfl
    .exact ⟨((h.tm u hu).1).mono (by omega),(h.tm u hu).2⟩
    .exact ⟨s3,htm.2⟩
   .rw [htk,Adu (u:=⟨s,t.Mono⟩) h2 rfl m',hmm]
    by_cases e:m=m'
    .rw [if_pos e,if_pos e]
     show cf (b.take n) m' + (rq s-rq t.Coef)=_
     rw [s5]; grind
    .rw [if_neg e,if_neg e]
 .have hne:∀t,(b.take n)[k]? = some t->Cj t.Mono m≠0:=fun t ht e=>hin ⟨t,by have:=Di ht; omega,ht,e⟩
  have hq:(bif decide ((k:Int)<(n:Int)) then (Ey b 0 n (k:Int)).bind fun v12=>(J6 v12.Mono m).bind fun v13=>some (v13==0) else some false)=some false:=by
   by_cases h1:k<n
   .have hx:b[k]? = some (b[k]'(by omega)):=Bx _
    generalize b[k]'_=x at hx
    have hLx:(b.take n)[k]? = some x:=by rw [hget k h1]; exact hx
    rw [Ak (by omega:(k:Int)<(n:Int)),cond_true,Vi (l:=b) (off:=0) (n:=n) (i:=(k:Int)) rfl h1 (by rw [Nat.zero_add]; exact hx),Ad,Yv x.Mono m (h.tm x (Bs hLx)).2,Ad,Cr (hne x hLx)]
   .rw [Ap (by omega)]; rfl
  erw [hq]
  simp only [Ad,cond_false,(Ade hc (by omega)).2]
  by_cases hz:rq c=0
  .rw [Em ((Y7 _).2 hz),cond_true]
   refine ⟨n,b,rfl,by omega,⟨h.le,h.cp,fun u hu=>⟨((h.tm u hu).1).mono (by omega),(h.tm u hu).2⟩⟩,fun m'=>?_⟩
   rw [hz]
   split <;> grind
  .rw [Cr (fun e=>hz ((Y7 _).1 e)),cond_false]
   have hap:Li 104 b n [(Aj.mk (A5.mk false [] []) (Bb.mk [] []))]=some (Cv b n [(Aj.mk (A5.mk false [] []) (Bb.mk [] []))],n+1):=by
    unfold Li
    rw [if_pos ⟨h.le,by simp; omega⟩]; rfl
   rw [hap,Ad]
   dsimp only
   obtain ⟨cc,c1,c2,c3,c4,c5⟩:=Aum hc (by omega)
   obtain ⟨o13,g1,g2,g3⟩:=Av7 b n k (Aj.mk (A5.mk false [] []) (Bb.mk [] [])) ⟨cc,m⟩ h.le k1 (by omega)
   erw [g1]
   rw [Ad,c2,Ad,Av6 m hm,Ad]
   have hk13:o13[k]? = some (o13[k]'(by omega)):=Bx _
   rw [Vi (l:=o13) (off:=0) (n:=n+1) (i:=(k:Int)) rfl (by omega) (by rw [Nat.zero_add]; exact hk13),Ad]
   have hset:Cq o13 (((0:Nat):Int)+(k:Int)) (Aj.mk cc m)=o13.set k ⟨cc,m⟩:=F7 (n:=k) (by omega) _
   rw [hset]
   refine ⟨n+1,o13.set k ⟨cc,m⟩,rfl,by rw [List.length_set]; omega,⟨by rw [List.length_set]; omega,?_,fun u hu=>?_⟩,fun m'=>?_⟩
   .rw [g3]
    refine h.cp.insert (fun i t hi ht=>k2 i t hi ht) (fun i t hi ht=>?_) c3 (by rw [c4]; exact hz)
    have g:=k3 i t hi ht
    have hnz:Cj t.Mono m≠0:=by
     by_cases e:i=k
     .subst e; exact hne t ht
     .have hkl:=Di ht
      have hx:(b.take n)[k]? = some ((b.take n)[k]'(by omega)):=Bx _
      have g5:=k3 k _ (Nat.le_refl _) hx
      have g6:=hne _ hx
      have g7:=(List.pairwise_iff_getElem.1 h.cp.srt) k i (by omega) hkl (by omega)
      rw [Bx hkl] at ht
      cases ht
      intro e2
      have:=Jq.1 e2
      unfold ltT at g7
      rw [this] at g7
      omega
    show Cj m t.Mono<0
    rw [Pw t.Mono m]; omega
   .rw [g3,List.mem_append,List.mem_cons] at hu
    rcases hu with hu | rfl | hu
    .have:=h.tm u (List.mem_of_mem_take hu)
     exact ⟨this.1.mono (by omega),this.2⟩
    .exact ⟨c5.mono (by omega),hm⟩
    .have:=h.tm u (List.mem_of_mem_drop hu)
     exact ⟨this.1.mono (by omega),this.2⟩
   .rw [g3,Awb,c4]
end Go.Ab
namespace Go.Ab
open Go
theorem PSt.mono {K c n:Nat} {b:List Aj} (h:PSt K n b) (f:K<=c):PSt c n b:=⟨h.le,h.cp,fun t ht=>⟨((h.tm t ht).1).mono f,(h.tm t ht).2⟩⟩
open Classical in
theorem Awe {kc:Nat} (p q:List Aj) (c:A5) (hl:p.length<=1000) (hl2:q.length<=1000) (hp:∀t∈p,RB 1048576 t.Coef/\MSz t.Mono) (hq:∀t∈q,RB 1048576 t.Coef/\MSz t.Mono) (hc:RB kc c) (hkc:kc<=1048576) :
  ∃r,Mo p q c=some r/\(CP r/\(∀m,cf r m=cf p m+rq c*cf q m)/\r.length<=p.length+q.length/\∀t∈r,RB ((p.length+q.length)*2097200) t.Coef/\MSz t.Mono):=by
 unfold Mo
 refine Dt (fun s=>∃(n j:Nat) (b:List Aj),s=(n,(j:Int),b)/\j<=p.length/\b.length<=j/\PSt (j*2097200) n b/\∀m,cf (b.take n) m=cf (p.take j) m) (fun s=>p.length-s.2.1.toNat)
  (fun e=>∃(n:Nat) (b:List Aj),e=(n,b)/\b.length<=p.length/\PSt (p.length*2097200) n b/\∀m,cf (b.take n) m=cf p m)
  ⟨0,0,[],rfl,by omega,by simp,⟨by simp,by simpa using CP.nil,fun t ht=>by simp at ht⟩,fun m=>rfl⟩ ?_ ?_
 .rintro s ⟨n,j,b,rfl,hj,hb,hP,hcf⟩
  rcases Nat.lt_or_ge j p.length with h | h
  .have hx:p[j]? = some p[j]:=Bx h
   generalize p[j]=t at hx
   obtain ⟨t1,t2⟩:=hp t (Bs hx)
   obtain ⟨n',o,e1,e2,e3,e4⟩:=Alh hP t1 t2 (by omega) (by omega)
   simp only [Ak (by omega:(j:Int)<(p.length:Int)),cond_true,Cg rfl hx,Ad,e1,C6 h (by omega)]
   refine .inl ⟨_,rfl,⟨n',j+1,o,rfl,by omega,by omega,e3.mono (by omega),fun m=>?_⟩,by simp only [Int.toNat_natCast]; omega⟩
   rw [e4 m,hcf m,Cz hx,Kj,L9]
   show _=_+(_+(0:Rat))
   grind
  .have:j=p.length:=by omega
   subst this
   rw [List.take_length] at hcf
   exact .inr ⟨(n,b),by simp only [Ap (by omega:¬(p.length:Int)<(p.length:Int)),cond_false],n,b,rfl,hb,hP,hcf⟩
 .rintro e ⟨n0,b0,rfl,hb0,hP0,hcf0⟩
  dsimp only
  refine Dt (fun s=>∃(n j:Nat) (b:List Aj),s=(n,(j:Int),b)/\j<=q.length/\b.length<=p.length+j/\PSt ((p.length+j)*2097200) n b/\∀m,cf (b.take n) m=cf p m+rq c*cf (q.take j) m) (fun s=>q.length-s.2.1.toNat)
   (fun e=>∃(n:Nat) (b:List Aj),e=(n,b)/\b.length<=p.length+q.length/\PSt ((p.length+q.length)*2097200) n b/\∀m,cf (b.take n) m=cf p m+rq c*cf q m)
   ⟨n0,0,b0,rfl,by omega,by omega,by simpa using hP0,fun m=>by rw [hcf0 m]; show _=_+rq c*(0:Rat); grind⟩ ?_ ?_
  .rintro s ⟨n,j,b,rfl,hj,hb,hP,hcf⟩
   rcases Nat.lt_or_ge j q.length with h | h
   .have hx:q[j]? = some q[j]:=Bx h
    generalize q[j]=t at hx
    obtain ⟨t1,t2⟩:=hq t (Bs hx)
    obtain ⟨d,d1,d2,d3,d4,d5⟩:=Akh hc t1 (by omega) (by decide)
    obtain ⟨n',o,e1,e2,e3,e4⟩:=Alh hP d3 t2 (by omega) (by omega)
    simp only [Ak (by omega:(j:Int)<(q.length:Int)),cond_true,Cg rfl hx,Ad,d2,e1,C6 h (by omega)]
    refine .inl ⟨_,rfl,⟨n',j+1,o,rfl,by omega,by omega,e3.mono (by omega),fun m=>?_⟩,by simp only [Int.toNat_natCast]; omega⟩
    rw [e4 m,hcf m,Cz hx,Kj,L9,d5]
    show _=_+rq c*(_+(_+(0:Rat)))
    split <;> grind
   .have:j=q.length:=by omega
    subst this
    rw [List.take_length] at hcf
    exact .inr ⟨(n,b),by simp only [Ap (by omega:¬(q.length:Int)<(q.length:Int)),cond_false],n,b,rfl,hb,hP,hcf⟩
  .rintro e ⟨n,b,rfl,hb,hP,hcf⟩
   refine ⟨b.take n,?_,hP.cp,hcf,by rw [List.length_take]; omega,hP.tm⟩
   show (Sr b n).bind _=_
   unfold Sr
   rw [if_pos hP.le]; rfl
end Go.Ab
namespace Go.Ab
open Go
theorem Ali:∀(k:Nat) (t:Ah) (a:Int),Ba t<=k->k<1099511627776->∃r,Mw k t a=some r/\True:=by
 intro k
 induction k with
 | zero=>intro i a h; have:=F8 i; omega
 | succ k ih=>
  intro i a h hk
  have f:=F8 i
  have g:=G8 i.Args
  rw [Mw]
  refine K9 ⟨_,rfl,trivial⟩ ?_
  refine Dt (fun (v,_)=>∃j:Nat,v=j/\j<=i.Args.length) (fun (v,_)=>i.Args.length-v.toNat) (fun _=>True) ⟨0,rfl,by omega⟩ ?_ ?_
  .rintro ⟨v,b⟩ ⟨j,rfl,hj⟩
   rcases Nat.lt_or_ge j i.Args.length with h' | h'
   .have hx:i.Args[j]? = some i.Args[j]:=Bx h'
    generalize i.Args[j]=x at hx
    have l:=Ge (Bs hx)
    obtain ⟨⟨y,z⟩,c,_⟩:=ih x b (by omega) (by omega)
    simp only [Ak (by omega:(j:Int)<(i.Args.length:Int)),cond_true,Cg rfl hx,Ad,c,C6 h' (by omega)]
    cases y with
    | false=>exact .inr ⟨_,rfl,trivial⟩
    | true=>exact .inl ⟨_,rfl,⟨j+1,rfl,by omega⟩,by simp only [Int.toNat_natCast]; omega⟩
   .have:j=i.Args.length:=by omega
    subst this
    exact .inr ⟨.inr b,by simp,trivial⟩
  .rintro (⟨x,y⟩ | e) _
   .exact ⟨_,rfl,trivial⟩
   .exact ⟨_,rfl,trivial⟩
theorem Alj (t:Ah) (h:Ba t<=1048576):∃b,Qw t=some b:=by
 unfold Qw
 obtain ⟨r,h1,_⟩:=Ali 4000000 t 250 (by omega) (by omega)
 exact ⟨_,by rw [h1]; rfl⟩
theorem Awf (l:List Ah) (n:Int) (c:l.length<=1048576) (h:∀t∈l,Ba t<=1048576):∃b,S8 l n=some b/\True:=by
 unfold S8
 refine Dt (fun v=>∃j:Nat,v=j/\j<=l.length) (fun v=>l.length-v.toNat) (fun _=>True) ⟨0,rfl,by omega⟩ ?_ ?_
 .rintro v ⟨j,rfl,hj⟩
  rcases Nat.lt_or_ge j l.length with h' | h'
  .have hx:l[j]? = some l[j]:=Bx h'
   generalize l[j]=x at hx
   obtain ⟨b,hb⟩:=Alj x (h x (Bs hx))
   simp only [Ak (by omega:(j:Int)<(l.length:Int)),cond_true,Cg rfl hx,Ad,hb,C6 h' (by omega)]
   cases decide ((j:Int)<=n) with
   | false=>exact .inr ⟨_,rfl,trivial⟩
   | true=>
    cases b with
    | false=>exact .inr ⟨_,rfl,trivial⟩
    | true=>exact .inl ⟨_,rfl,⟨j+1,rfl,by omega⟩,by simp only [Int.toNat_natCast]; omega⟩
  .simp only [Ap (by omega:¬(j:Int)<(l.length:Int)),cond_false]
   exact .inr ⟨_,rfl,trivial⟩
 .rintro (r | r) _
  .exact ⟨_,rfl,trivial⟩
  .exact ⟨_,rfl,trivial⟩
theorem Awg (l:List Ay) (f:DSz l):∃b,S7 l=some b/\True:=by
 unfold S7
 have B:=f.len
 refine K9 ⟨_,rfl,trivial⟩ ?_
 refine Dt (fun v=>∃j:Nat,v=j/\j<=l.length) (fun v=>l.length-v.toNat) (fun _=>True) ⟨0,rfl,by omega⟩ ?_ ?_
 .rintro v ⟨j,rfl,hj⟩
  rcases Nat.lt_or_ge j l.length with h' | h'
  .have hx:l[j]? = some l[j]:=Bx h'
   generalize l[j]=x at hx
   obtain ⟨D,k⟩:=f.sz x (Bs hx)
   simp only [Ak (by omega:(j:Int)<(l.length:Int)),cond_true,Cg rfl hx,Ad,C6 h' (by omega)]
   have hq:∃q,(bif decide ((x.Name.size:Int)>40) then some true else some (decide ((x.Cons.length:Int)>10)))=some q:=by
    cases decide ((x.Name.size:Int)>40) <;> exact ⟨_,rfl⟩
   obtain ⟨q,hq⟩:=hq
   erw [hq]
   simp only [Ad]
   cases q with
   | true=>exact .inr ⟨_,rfl,trivial⟩
   | false=>
    simp only [cond_false]
    have key:∀(W:Option (Int⊕(Bool⊕Unit))),(∃r,W=some r/\(r = .inl ((j+1:Nat):Int)\/∃e,r = .inr e))->(∃s',W=some (Sum.inl s')/\(∃j:Nat,s'=(j:Int)/\j<=l.length)/\l.length-s'.toNat<l.length-((j:Int)).toNat)\/∃e,W=some (Sum.inr e)/\True:=by
     rintro W ⟨r,rfl,rfl | ⟨e,rfl⟩⟩
     .exact .inl ⟨_,rfl,⟨j+1,rfl,by omega⟩,by simp only [Int.toNat_natCast]; omega⟩
     .exact .inr ⟨_,rfl,trivial⟩
    refine key _ ?_
    refine Dt (fun v=>∃j:Nat,v=j/\j<=x.Cons.length) (fun v=>x.Cons.length-v.toNat) (fun _=>True) ⟨0,rfl,by omega⟩ ?_ ?_
    .rintro v ⟨i,rfl,hi⟩
     rcases Nat.lt_or_ge i x.Cons.length with h'' | h''
     .have hy:x.Cons[i]? = some x.Cons[i]:=Bx h''
      generalize x.Cons[i]=y at hy
      have d1:=k y (Bs hy)
      have d2:=G8 y.Args
      simp only [Ak (by omega:(i:Int)<(x.Cons.length:Int)),cond_true,Cg rfl hy,Ad,C6 h'' (by omega)]
      have hq:∃q,(bif decide ((y.Name.size:Int)>40) then some true else some (decide ((y.Args.length:Int)>8)))=some q:=by
       cases decide ((y.Name.size:Int)>40) <;> exact ⟨_,rfl⟩
      obtain ⟨q,hq⟩:=hq
      erw [hq]
      simp only [Ad]
      cases q with
      | true=>exact .inr ⟨_,rfl,trivial⟩
      | false=>
       simp only [cond_false]
       have key:∀(W:Option (Int⊕(Bool⊕Int))),(∃r,W=some r/\(r = .inl ((i+1:Nat):Int)\/∃e,r = .inr e))->(∃s',W=some (Sum.inl s')/\(∃j:Nat,s'=(j:Int)/\j<=x.Cons.length)/\x.Cons.length-s'.toNat<x.Cons.length-((i:Int)).toNat)\/∃e,W=some (Sum.inr e)/\True:=by
        rintro W ⟨r,rfl,rfl | ⟨e,rfl⟩⟩
        .exact .inl ⟨_,rfl,⟨i+1,rfl,by omega⟩,by simp only [Int.toNat_natCast]; omega⟩
        .exact .inr ⟨_,rfl,trivial⟩
       refine key _ ?_
       refine Dt (fun s=>∃j:Nat,s.1=j/\j<=y.Args.length) (fun s=>y.Args.length-s.1.toNat) (fun _=>True) ⟨0,rfl,by omega⟩ ?_ ?_
       .rintro ⟨_,w⟩ ⟨u,rfl,hu⟩
        rcases Nat.lt_or_ge u y.Args.length with h3 | h3
        .have c:y.Args[u]? = some y.Args[u]:=Bx h3
         generalize y.Args[u]=t at c
         have A:=Ge (Bs c)
         obtain ⟨⟨g,z⟩,h,_⟩:=Ali 4000000 t w (by omega) (by omega)
         simp only [Ak (by omega:(u:Int)<(y.Args.length:Int)),cond_true,Cg rfl c,Ad,h,C6 h3 (by omega)]
         cases g with
         | false=>exact .inr ⟨_,rfl,trivial⟩
         | true=>exact .inl ⟨_,rfl,⟨u+1,rfl,by omega⟩,by simp only [Int.toNat_natCast]; omega⟩
        .simp only [Ap (by omega:¬(u:Int)<(y.Args.length:Int)),cond_false]
         exact .inr ⟨_,rfl,trivial⟩
       .rintro (r | r) _
        .exact ⟨_,rfl,.inr ⟨_,rfl⟩⟩
        .exact ⟨_,rfl,.inl rfl⟩
     .simp only [Ap (by omega:¬(i:Int)<(x.Cons.length:Int)),cond_false]
      exact .inr ⟨_,rfl,trivial⟩
    .rintro (r | r) _
     .exact ⟨_,rfl,.inr ⟨_,rfl⟩⟩
     .exact ⟨_,rfl,.inl rfl⟩
  .simp only [Ap (by omega:¬(j:Int)<(l.length:Int)),cond_false]
   exact .inr ⟨_,rfl,trivial⟩
 .rintro (r | r) _
  .exact ⟨_,rfl,trivial⟩
  .exact ⟨_,rfl,trivial⟩
theorem Awh (x:B5) (f:CSz x):∃b,S4 x=some b:=by
 unfold S4
 obtain ⟨a,ha,_⟩:=Awg x.Data f.ds
 obtain ⟨b,hb,_⟩:=Awf x.Vars 40 f.nv f.vs
 obtain ⟨c,hc⟩:=Alj x.Res f.rs
 rw [ha,hb,hc]
 cases a <;> cases b <;> exact ⟨_,rfl⟩
theorem Awi (x:B5) (k:CSz x) (ps:List (List Aj)) (s:ps.length<=1048576) (hp:∀p∈ps,p.length<=1048576/\∀t∈p,TSz t) :
  ∃b,Sz x ps=some b/\(b=true->∀p∈ps,p.length<=10/\∀t∈p,P0 t.Mono):=by
 unfold Sz
 refine Dt (fun v=>∃j:Nat,v=j/\j<=ps.length/\∀p∈ps.take j,p.length<=10/\∀t∈p,P0 t.Mono) (fun v=>ps.length-v.toNat) (fun z=>z = .inl false\/(z = .inr ()/\∀p∈ps,p.length<=10/\∀t∈p,P0 t.Mono)) ⟨0,rfl,by omega,by simp⟩ ?_ ?_
 .rintro v ⟨j,rfl,hj,c⟩
  rcases Nat.lt_or_ge j ps.length with h' | h'
  .have hx:ps[j]? = some ps[j]:=Bx h'
   generalize ps[j]=p at hx
   obtain ⟨i,g⟩:=hp p (Bs hx)
   obtain ⟨b,hb,l⟩:=Av4 p i g
   simp only [Ak (by omega:(j:Int)<(ps.length:Int)),cond_true,Cg rfl hx,Ad,hb,C6 h' (by omega)]
   cases b with
   | false=>exact .inr ⟨_,rfl,.inl rfl⟩
   | true=>
    refine .inl ⟨_,rfl,⟨j+1,rfl,by omega,fun q hq=>?_⟩,by simp only [Int.toNat_natCast]; omega⟩
    rw [Cz hx] at hq
    rcases List.mem_append.1 hq with hq | hq
    .exact c q hq
    .rw [List.mem_singleton] at hq
     subst hq; exact l rfl
  .have:j=ps.length:=by omega
   subst this
   rw [List.take_length] at c
   exact .inr ⟨.inr (),by simp,.inr ⟨rfl,c⟩⟩
 .rintro z (rfl | ⟨rfl,f⟩)
  .exact ⟨false,rfl,fun h=>by cases h⟩
  .obtain ⟨b,hb⟩:=Awh x k
   exact ⟨b,by dsimp only; rw [hb]; rfl,fun _=>f⟩
end Go.Ab
namespace Go.Ab
open Go
theorem Awj:∃r,Lm (-1)=some r/\RB 1 r/\rq r = -1:=by
 refine ⟨_,Ait (-1) (by decide) (by decide),?_,?_⟩
 .exact Pm _ _ _ 1 (Ic (by decide)) (Ic (by decide)) (by omega)
 .rw [Lc _ _ _ (by decide)]; decide
theorem CP.dst {p:List Aj} (h:CP p):Dst p:=h.srt.imp fun {a b} hab e=>by
 unfold ltT at hab
 rw [Jq.2 e] at hab; omega
end Go.Ab
namespace Go.Ab
open Go
theorem Alk:Age (fun t u:Aj=>Cj t.Mono u.Mono) where
 irr x:=by
  show ¬Cj x.Mono x.Mono<0
  rw [Ako]; omega
 trs x y z h1 h2:=Ns h1 h2
 ntr x y z h1 h2:=by
  show ¬Cj x.Mono z.Mono<0
  have h1:¬Cj x.Mono y.Mono<0:=h1
  have h2:¬Cj y.Mono z.Mono<0:=h2
  intro h3
  rcases Int.lt_trichotomy (Cj x.Mono y.Mono) 0 with k | k | k
  .exact h1 k
  .rw [Jq.1 k] at h3; exact h2 h3
  .exact h2 (Ns (Adh.1 k) h3)
def Y8 (b:List Aj):List Aj:=b.mergeSort fun t u=>decide (Cj t.Mono u.Mono<=0)
theorem All (b:List Aj):(Y8 b).Perm b:=List.mergeSort_perm _ _
theorem Awk (f:List Aj) (hd:Dst f):(Y8 f).Pairwise ltT:=by
 have h1:=List.pairwise_mergeSort (le:=fun t u:Aj=>decide (Cj t.Mono u.Mono<=0)) (fun a b c h1 h2=>by
  simp only [decide_eq_true_eq] at *
  have:=Alk.ntr c b a (by show ¬Cj _ _<0; rw [Pw]; omega) (by show ¬Cj _ _<0; rw [Pw]; omega)
  have this:¬Cj c.Mono a.Mono<0:=this
  rw [Pw] at this; omega) (fun a b=>by
  simp only [Bool.or_eq_true,decide_eq_true_eq]
  rw [Pw a.Mono b.Mono]; omega) f
 have h2:(Y8 f).Pairwise fun t u=>t.Mono≠u.Mono:=((All f).pairwise_iff (fun {x y} h=>h.symm)).2 hd
 refine (h1.and h2).imp fun {t u} h=>?_
 have a:=of_decide_eq_true h.1
 have b:Cj t.Mono u.Mono≠0:=fun e=>h.2 (Jq.1 e)
 unfold ltT; omega
theorem Awl (b:List Aj) (hd:Dst b) (f:∀t∈b,MSz t.Mono):∃R,Lq b=some R/\R.Perm b/\R.Pairwise ltT:=by
 rcases Nat.lt_or_ge 12 b.length with h | h
 .have e:Nat.ble b.length 12=false:=by
   cases k:Nat.ble b.length 12 with
   | false=>rfl
   | true=>have:=Nat.le_of_ble_eq_true k; omega
  unfold Lq
  rw [e,cond_false]
  obtain ⟨r,g,j,law,hc,hp,i⟩:=Apt (cmp:=Lr) (l:=b) (r:=Y8 b) ⟨_,Alk,fun x hx y _=>Adv x y (f x hx),All b,Awk b hd⟩
  refine ⟨r,g,hp,?_⟩
  refine (List.Pairwise.imp_of_mem (S:=ltT) (fun {t u} ht hu h=>?_) i)
  have c:=hc t (hp.mem_iff.1 ht) u (hp.mem_iff.1 hu)
  rw [Adv t u (f t (hp.mem_iff.1 ht))] at c
  have c:=Option.some.inj c
  unfold ltT; rw [c]; exact h
 .exact Avo b hd f h
theorem Awm:∀(k:Nat),k<1099511627776->(∀i:A8,2*Ct i<=k->Ok k i i=some true)/\(∀l:List A8,2*Eo l+1<=k->Q4 k l l=some true):=by
 intro k
 induction k with
 | zero=>exact fun _=>⟨fun i h=>(by have:=E3 i; omega),fun l h=>by omega⟩
 | succ k ih=>
  intro hk
  have ih:=ih (by omega)
  refine ⟨fun i h=>?_,fun l h=>?_⟩
  .have:=E3 i
   rw [Ok,beq_self_eq_true,cond_true,ih.2 i.Kids (by omega)]; rfl
  .have b:=Kf l
   rw [Q4,bne_self_eq_false,cond_false]
   refine E6 l (fun j=>(j:Int)) rfl (by omega) ?_ ?_
   .intro j x hj hx h1 h2 h3
    have:=Jk (Bs hx)
    simp only [h1,h2,h3,cond_true,Ad,ih.1 x (by omega),Dm,cond_false]
   .intro h
    exact ⟨.inr (),by simp only [h]; rfl,rfl⟩
theorem Awn (l:Cu) (h:l.Terms.length<=1048576):Tf l l=some true:=by
 unfold Tf
 rw [bne_self_eq_false,bne_self_eq_false]
 simp only [cond_false,Ad]
 refine E6 l.Terms (fun j=>(j:Int)) rfl (by omega) ?_ ?_
 .intro j x hj hx h1 h2 h3
  simp only [h1,h2,h3,cond_true,Ad,beq_self_eq_true,Bool.and_true,Dm,cond_false]
 .intro h
  exact ⟨.inr (),by simp only [h]; rfl,rfl⟩
theorem Awo (m:Bb) (h:MSz m):S5 m m=some true:=by
 have c:=h.nf
 have b:=h.na
 unfold S5
 rw [bne_self_eq_false,bne_self_eq_false]
 simp only [cond_false,Ad]
 refine E6 m.Factors (fun j=>(j:Int)) rfl (by omega) ?_ ?_
 .intro j x hj hx h1 h2 h3
  have:=h.fi x (Bs hx)
  simp only [h1,h2,h3,cond_true,Ad,bne_self_eq_false,(Awm 4000000 (by omega)).1 x.Index (by omega),Dm,cond_false]
 .intro h1
  refine ⟨.inr (),by simp only [h1]; rfl,?_⟩
  dsimp only
  refine E6 m.Atoms (fun j=>(j:Int)) rfl (by omega) ?_ ?_
  .intro j x hj hx h1 h2 h3
   have:=h.al x (Bs hx)
   simp only [h1,h2,h3,cond_true,Ad,bne_self_eq_false,Awn x.Lin (by omega),Dm,cond_false]
  .intro h1
   exact ⟨.inr (),by simp only [h1]; rfl,rfl⟩
theorem Alm (p:List Aj) (b:p.length<=1048576) (h:∀t∈p,MSz t.Mono/\RB 34359738000 t.Coef):I6 p p=some true:=by
 unfold I6
 rw [bne_self_eq_false]
 simp only [cond_false]
 refine E6 p (fun j=>(j:Int)) rfl (by omega) ?_ ?_
 .intro j x hj hx h1 h2 h3
  obtain ⟨a1,a2⟩:=h x (Bs hx)
  simp only [h1,h2,h3,cond_true,Ad,Av0 x.Coef (by have:=a2.nl; omega) (by have:=a2.dl; omega),Awo x.Mono a1,Dm,cond_false]
 .intro h1
  exact ⟨.inr (),by simp only [h1]; rfl,rfl⟩
end Go.Ab
namespace Go.Ab
open Go
theorem Ady {x:B5} (g:CSz x) {ps:List (List Aj)} (b:∀p∈ps,∀t∈p,TSz t) (i:ps.length<=1048576) (h:¬(Fp x/\∀p∈ps,Fo x.Data x.Vars x.Res p=true)):It x ps=some (.inr false):=by
 obtain ⟨r,f,c⟩:=Adx x g ps b i
 rcases c with ⟨h2,_⟩ | ⟨_,rfl⟩
 .exact (h h2).elim
 .exact f
theorem Awp {x:B5} (i:CSz x) {ps:List (List Aj)} (c:∀p∈ps,∀t∈p,TSz t) (k:ps.length<=1048576) (h:Fp x/\∀p∈ps,Fo x.Data x.Vars x.Res p=true):∃b,It x ps=some (.inl (true,x,b,[],x.Data,x.Vars,x.Res.Kind,x.Res.Num,x.Res.Args))/\E7 x.Data x.Vars x.Res b:=by
 obtain ⟨r,g,f⟩:=Adx x i ps c k
 rcases f with ⟨_,b,e,j⟩ | ⟨h2,_⟩
 .exact ⟨b,by rw [g,e],j⟩
 .exact (h2 h).elim
structure PR (x:B5) (n:Nat) (f:Bb->Rat) (R:List Aj):Prop where
 cp:CP R
 val:∀m,cf R m=f m
 tb:∀t∈R,Iz x t.Mono/\RB 8589934592 t.Coef
 len:R.length<=n
theorem Adz {x:B5} {k:Nat} {ts:List Aj} (h:Col k (Iz x) ts) (hk:k<8589934592) (l:ts.length<=1000):∃R,Ku (plc ts) ts=some (R,0)/\PR x ts.length (cf ts) R:=by
 obtain ⟨R,j,i,g,b,f⟩:=Avv (P:=Iz x) (fun m h=>h.cmo) (plc ts) ts h (by omega) l (fun c _ h2 h3=>Awl c h2 h3)
 exact ⟨R,j,i,g,fun t ht=>⟨(b t ht).1,(b t ht).2.mono (by omega)⟩,f⟩
theorem PR.of {x:B5} {n m:Nat} {f g:Bb->Rat} {R:List Aj} (h:PR x n f R) (b:n<=m) (c:∀a,f a=g a):PR x m g R :=
 ⟨h.cp,fun a=>by rw [h.val,c],h.tb,Nat.le_trans h.len b⟩
theorem Awq {x:B5} (s:CSz x) (y:Fp x) {p q:List Aj} (hp:Ga x p) (hq:Ga x q) (z:p.length+q.length<=1000) :
  ∃R,Oc x p q=some (R,0)/\PR x (p.length+q.length) (fun m=>cf p m+cf q m) R:=by
 obtain ⟨A,hb⟩:=Ald s y hp hq
 unfold Oc
 rw [hb]
 simp only [Ad,Dm,cond_false,Kt]
 obtain ⟨u,i,g,f,c⟩:=Vg (k0:=1048576) (k:=1048576) (P:=Iz x) (fun m h=>h.cmo) p [] (Col.nil _ _) hp.tb (Nat.le_refl _) (by omega) (by simp; omega)
 simp at f
 obtain ⟨v,b,v2,v3,v4⟩:=Vg (k:=1048576) (P:=Iz x) (fun m h=>h.cmo) q u g hq.tb (by omega) (by omega) (by omega)
 obtain ⟨R,l,j⟩:=Adz v2 (by omega) (by omega)
 rw [show H4 p [] []=some (plc u,u) from i,Ad,b,Ad,l,Ad]
 exact ⟨R,rfl,j.of (by omega) fun m=>by rw [v4,c]; simp only [cf]; grind⟩
theorem Awr {x:B5} (I:CSz x) (J:Fp x) {p q:List Aj} (hp:Ga x p) (hq:Ga x q) (L:p.length+q.length<=1000) :
  ∃R,Od x p q=some (R,0)/\PR x (p.length+q.length) (fun m=>cf p m-cf q m) R:=by
 obtain ⟨M,hb⟩:=Ald I J hp hq
 unfold Od
 rw [hb]
 simp only [Ad,Dm,cond_false,Kt]
 obtain ⟨u,l,j,i,g⟩:=Vg (k0:=1048579) (k:=1048576) (P:=Iz x) (fun m h=>h.cmo) p [] (Col.nil _ _) hp.tb (by omega) (by omega) (by simp; omega)
 simp at i
 obtain ⟨r,B,A,z⟩:=Avx
 obtain ⟨G,E,c,D,b⟩:=Ale (k:=1048576) q A (fun t ht=>(hq.tb t ht).1) (by omega) (by omega) (by omega)
 obtain ⟨v,f,v2,v3,v4⟩:=Vg (k:=1048579) (P:=Iz x) (fun m h=>h.cmo) G u j (fun t ht=>⟨(b t ht).1,by obtain ⟨w,hw,e⟩:=(b t ht).2; rw [<-e]; exact (hq.tb w hw).2⟩) (by omega) (by rw [c]; omega) (by omega)
 obtain ⟨R,y,s⟩:=Adz v2 (by rw [c]; omega) (by omega)
 rw [show H4 p [] []=some (plc u,u) from l,Ad,B,Ad,E,Ad,f,Ad,y,Ad]
 exact ⟨R,rfl,s.of (by omega) fun m=>by rw [v4,g,D,z]; simp only [cf]; grind⟩
theorem Aws {x:B5} (u:CSz x) (z:Fp x) {p:List Aj} (hp:Ga x p) {r:A5} (y:RB 1048576 r) (A:p.length<=1000) :
  ∃R,Oe x p r=some (R,0)/\PR x p.length (fun m=>rq r*cf p m) R:=by
 obtain ⟨B,hb,_⟩:=Awp u (ps:=[p]) (fun q hq=>by simp only [List.mem_singleton] at hq; subst hq; exact hp.sz) (by simp) ⟨z,fun q hq=>by simp only [List.mem_singleton] at hq; subst hq; exact hp.can⟩
 unfold Oe
 rw [hb]
 simp only [Ad,Dm,cond_false,Kt]
 obtain ⟨f,s,c,l,b⟩:=Ale (k:=1048576) p y (fun t ht=>(hp.tb t ht).1) (by omega) (by omega) (by omega)
 obtain ⟨v,g,v2,v3,v4⟩:=Vg (k0:=1048576+1048576+2) (k:=1048576+1048576+2) (P:=Iz x) (fun m h=>h.cmo) f [] (Col.nil _ _) (fun t ht=>⟨(b t ht).1,by obtain ⟨w,hw,e⟩:=(b t ht).2; rw [<-e]; exact (hp.tb w hw).2⟩) (by omega) (by rw [c]; omega) (by simp; omega)
 simp at v3
 obtain ⟨R,j,i⟩:=Adz v2 (by rw [c]; omega) (by omega)
 rw [s,Ad,show H4 f [] []=some (plc v,v) from g,Ad,j,Ad]
 exact ⟨R,rfl,i.of (by omega) fun m=>by rw [v4,l]; simp only [cf]; grind⟩
theorem Awt:∃r,Lm 1=some r/\RB 1 r/\rq r=1:=by
 refine ⟨_,Ait 1 (by decide) (by decide),?_,?_⟩
 .exact Pm _ _ _ 1 (Ic (by decide)) (Ic (by decide)) (by omega)
 .rw [Lc _ _ _ (by decide)]; decide
theorem Ad0 {x:B5} {p q:List Aj} (hp:Ga x p) (hq:Ga x q) {c:A5} {b:Nat} (hc:RB b c) (hk:b<=1048576) (k:p.length+q.length<=1000) :
  ∃R,Mo p q c=some R/\Qu R=some (R,0)/\CP R/\∀m,cf R m=cf p m+rq c*cf q m:=by
 obtain ⟨R,h,g,f,j,i⟩:=Awe p q c (by omega) (by omega) (fun t ht=>⟨(hp.tb t ht).1,(hp.sz t ht).mo⟩) (fun t ht=>⟨(hq.tb t ht).1,(hq.sz t ht).mo⟩) hc hk
 refine ⟨R,h,?_,g,f⟩
 unfold Qu
 rw [Ap (by omega)]; rfl
theorem Ga.nil (x:B5):Ga x []:=⟨Yx.2 ⟨by simp,CP.nil,fun t ht=>by cases ht⟩,fun t ht=>by cases ht⟩
theorem PR.same {x:B5} {n:Nat} {f:Bb->Rat} {R S:List Aj} (h:PR x n f R) (c:n<=1000) (b:CP S) (e:∀m,cf S m=f m):R=S/\I6 R S=some true:=by
 have:R=S:=CP.ext h.cp b fun m=>by rw [h.val,e]
 subst this
 refine ⟨rfl,Alm R (by have:=h.len; omega) fun t ht=>⟨(h.tb t ht).1.2,(h.tb t ht).2.mono (by omega)⟩⟩
theorem Ad1:I6 [] []=some true:=Alm [] (by simp) (fun t ht=>by cases ht)
theorem Awu {x:B5} (i:CSz x) {p q:List Aj} (hp:∀t∈p,TSz t) (hq:∀t∈q,TSz t) (k:p.length+q.length<=1000) :
  ∃R S e,Oc x p q=some (R,e)/\Qo x p q=some (S,e)/\I6 R S=some true:=by
 obtain ⟨a,a1,a2⟩:=Va x i p hp
 obtain ⟨b,b1,b2⟩:=Va x i q hq
 by_cases f:(Fp x/\Fo x.Data x.Vars x.Res p=true)/\(Fp x/\Fo x.Data x.Vars x.Res q=true)
 .obtain ⟨R,A,z⟩:=Awq i f.1.1 ⟨f.1.2,hp⟩ ⟨f.2.2,hq⟩ k
  obtain ⟨c,G,E,D⟩:=Awt
  obtain ⟨S,y,u,s,l⟩:=Ad0 (x:=x) ⟨f.1.2,hp⟩ ⟨f.2.2,hq⟩ E (by omega) k
  refine ⟨R,S,0,A,?_,(z.same (by omega) s fun m=>by rw [l,D]; grind).2⟩
  unfold Qo
  rw [a1,b1,a2.2 f.1,b2.2 f.2]
  simp only [Ad,Dm,cond_false,G,y,u]
 .have g:¬(Fp x/\∀r∈[p,q],Fo x.Data x.Vars x.Res r=true):=fun h=>f ⟨⟨h.1,h.2 p (by simp)⟩,h.1,h.2 q (by simp)⟩
  have B:=Ady i (ps:=[p,q]) (fun r j=>by simp only [List.mem_cons,List.not_mem_nil,or_false] at j; rcases j with rfl | rfl <;> assumption) (by simp) g
  refine ⟨[],[],1,?_,?_,Ad1⟩
  .unfold Oc
   rw [B]; rfl
  .unfold Qo
   rw [a1,b1]
   cases a with
   | false=>rfl
   | true=>
    cases b with
    | false=>rfl
    | true=>exact (f ⟨a2.1 rfl,b2.1 rfl⟩).elim
theorem Awv {x:B5} (i:CSz x) {p q:List Aj} (hp:∀t∈p,TSz t) (hq:∀t∈q,TSz t) (k:p.length+q.length<=1000) :
  ∃R S e,Od x p q=some (R,e)/\Qp x p q=some (S,e)/\I6 R S=some true:=by
 obtain ⟨a,a1,a2⟩:=Va x i p hp
 obtain ⟨b,b1,b2⟩:=Va x i q hq
 by_cases f:(Fp x/\Fo x.Data x.Vars x.Res p=true)/\(Fp x/\Fo x.Data x.Vars x.Res q=true)
 .obtain ⟨R,A,z⟩:=Awr i f.1.1 ⟨f.1.2,hp⟩ ⟨f.2.2,hq⟩ k
  obtain ⟨c,G,E,D⟩:=Awj
  obtain ⟨S,y,u,s,l⟩:=Ad0 (x:=x) ⟨f.1.2,hp⟩ ⟨f.2.2,hq⟩ E (by omega) k
  refine ⟨R,S,0,A,?_,(z.same (by omega) s fun m=>by rw [l,D]; grind).2⟩
  unfold Qp
  rw [a1,b1,a2.2 f.1,b2.2 f.2]
  simp only [Ad,Dm,cond_false,G,y,u]
 .have g:¬(Fp x/\∀r∈[p,q],Fo x.Data x.Vars x.Res r=true):=fun h=>f ⟨⟨h.1,h.2 p (by simp)⟩,h.1,h.2 q (by simp)⟩
  have B:=Ady i (ps:=[p,q]) (fun r j=>by simp only [List.mem_cons,List.not_mem_nil,or_false] at j; rcases j with rfl | rfl <;> assumption) (by simp) g
  refine ⟨[],[],1,?_,?_,Ad1⟩
  .unfold Od
   rw [B]; rfl
  .unfold Qp
   rw [a1,b1]
   cases a with
   | false=>rfl
   | true=>
    cases b with
    | false=>rfl
    | true=>exact (f ⟨a2.1 rfl,b2.1 rfl⟩).elim
theorem Aww {x:B5} (g:CSz x) {p:List Aj} {r:A5} (hp:∀t∈p,TSz t) (c:RB 1048576 r) (i:p.length<=1000) :
  ∃R S e,Oe x p r=some (R,e)/\Qq x p r=some (S,e)/\I6 R S=some true:=by
 obtain ⟨a,a1,a2⟩:=Va x g p hp
 by_cases b:Fp x/\Fo x.Data x.Vars x.Res p=true
 .obtain ⟨R,s,q⟩:=Aws g b.1 ⟨b.2,hp⟩ c i
  obtain ⟨S,l,y,k,j⟩:=Ad0 (x:=x) (p:=[]) (Ga.nil x) ⟨b.2,hp⟩ c (by omega) (by simpa using i)
  refine ⟨R,S,0,s,?_,(q.same (by omega) k fun m=>by rw [j]; show (0:Rat)+_=_; grind).2⟩
  unfold Qq
  rw [a1,a2.2 b]
  simp only [Ad,Dm,cond_false,l]
 .have f:¬(Fp x/\∀r∈[p],Fo x.Data x.Vars x.Res r=true):=fun h=>b ⟨h.1,h.2 p (by simp)⟩
  have u:=Ady g (ps:=[p]) (fun r c=>by simp only [List.mem_singleton] at c; subst c; exact hp) (by simp) f
  refine ⟨[],[],1,?_,?_,Ad1⟩
  .unfold Oe
   rw [u]; rfl
  .unfold Qq
   rw [a1]
   cases a with
   | false=>rfl
   | true=>exact (b (a2.1 rfl)).elim
theorem Awx (a:A5):∃b,Mm a=some b:=by
 unfold Mm
 cases decide ((a.Num.length:Int)<=8) <;> exact ⟨_,rfl⟩
theorem Awy (x:B5) (p q:List Aj) (r:A5) (h:CSz x) (s:p.length<=1048576) (hp:∀t∈p,TSz t) (j:q.length<=1048576) (hq:∀t∈q,TSz t) (i:RB 1048576 r):Wt x p q r=some true:=by
 unfold Wt
 obtain ⟨b,b1,b2⟩:=Awi x h [p,q] (by simp) (fun r i=>by
  simp only [List.mem_cons,List.not_mem_nil,or_false] at i
  rcases i with rfl | rfl
  .exact ⟨s,hp⟩
  .exact ⟨j,hq⟩)
 obtain ⟨c,L⟩:=Awx r
 rw [b1,Ad,L]
 cases b with
 | false=>rfl
 | true=>
  cases c with
  | false=>rfl
  | true=>
   have l:=(b2 rfl p (by simp)).1
   have k:=(b2 rfl q (by simp)).1
   obtain ⟨A,B,e,h1,h2,h3⟩:=Awu h hp hq (by omega)
   obtain ⟨C,D,f,J,I,G⟩:=Awv h hp hq (by omega)
   obtain ⟨E,F,g,z,y,u⟩:=Aww h hp i (by omega)
   simp only [Dm,cond_false,Ad,h1,h2,h3,J,I,G,z,y,u,bne_self_eq_false,beq_self_eq_true,cond_true,Avz]
end Go.Ab
