/- Plain laws: what the plain functions answer. -/
import Derived.Test.YtohelcameomopaaGreatDoorApPl3
namespace Go.Ab
open Go
theorem Aqt:∀(k:Nat) (t:Bn),Dy t<=k->k<1099511627776->Pm k t=some t:=by
 intro k;induction k with
 | zero=>intro t h; have:=Gq t; omega
 | succ k ih=>
  intro t h hk;have c:=Gq t;have b:=Oj t.Kids;rw [Pm];refine Gf t.Kids (λj=>((j:Int),(t.Kids.take j))) rfl ω ?_ ?_
  .intro j x hj hx h1 h2 h3;have:=Nh (Cd hx);simp only [h1,h2,h3,cond_true,Ad,ih x ω ω];rw [C3 (by simp; omega),Ad,C8 hx]
  .intro h1;exact ⟨t.Kids,ψ,by cases t; rfl⟩
theorem Aqu (m:Ba) (b:D9 m):Uh m=some m:=by
 have f:=b.nf;have c:=b.na;unfold Uh;refine Gf m.Factors (λj=>((j:Int),(m.Factors.take j))) rfl ω ?_ ?_
 .intro j x hj hx h1 h2 h3;have hm:=Cd hx;have:=b.fi x hm;simp only [h1,h2,h3,cond_true,Ad,Aqt 4000000 x.Index ω ω];rw [C3 (by simp; omega),Ad,C8 hx]
 .intro h1;refine ⟨m.Factors,ψ,?_⟩;dsimp only;refine Gf m.Atoms (λj=>((j:Int),(m.Atoms.take j))) rfl ω ?_ ?_
  .intro j x hj hx h1 h2 h3;have hm:=Cd hx;have:=b.al x hm;simp only [h1,h2,h3,cond_true,Ad,Ut];rw [C3 (by simp; omega),Ad,Ad,C3 (by simp; omega),Ad,C8 hx]; rfl
  .intro h1;exact ⟨m.Atoms,ψ,by cases m; rfl⟩
theorem Ait {α:Type} (b:List α) (n k:Nat) (z x:α) (B:n<=b.length) (hk:k<=n) (hb:n<=1000000) : ∃c:List α,((Hb (n+1) (Aa ((k:Int)+1)) (((n+1:Nat):Nat):Int)).bind λv8=> match v8 with
    | .inl v9=> (Gt (n+1) (k:Int) (((n+1:Nat):Nat):Int)).bind λf=> (Jk (Dd b n [z]) (0+v9.1) (v9.2-v9.1) (0+f.1) (f.2-f.1)).bind λl=>some l
    | .inr _=>(Gt (n+1) (k:Int) (((n+1:Nat):Nat):Int)).bind λv12=>some (Dd b n [z]))=some c/\c.length=max b.length (n+1) /\ (c.set k x).take (n+1)=(b.take n).take k++x::(b.take n).drop k:=by
 have g:(Dd b n [z]).length=max b.length (n+1):=by rw [Nu B]; rfl
 have s:∀i,i<n->(Dd b n [z])[i]? = b[i]?:=λi hi=>by rw [Qt B,if_pos hi]
 have E:Aa ((k:Int)+1)=((k+1:Nat):Int):=C6 (n:=n+1) ω ω;have u:Gt (n+1) (k:Int) (((n+1:Nat):Nat):Int)=some (k,n+1):=by unfold Gt;rw [if_pos ω]; simp
 have key:∃c:List α,((Hb (n+1) (Aa ((k:Int)+1)) (((n+1:Nat):Nat):Int)).bind λv8=>
    match v8 with
    | .inl v9=> (Gt (n+1) (k:Int) (((n+1:Nat):Nat):Int)).bind λf=> (Jk (Dd b n [z]) (0+v9.1) (v9.2-v9.1) (0+f.1) (f.2-f.1)).bind λl=>some l
    | .inr _=>(Gt (n+1) (k:Int) (((n+1:Nat):Nat):Int)).bind λv12=>some (Dd b n [z]))=some c/\c.length=max b.length (n+1)/\(∀i,i<k->c[i]? = b[i]?)/\∀i,k<=i->i<n->c[i+1]? = b[i]?:=by
  rw [E,u];by_cases G:k<n
  .have q:Hb (n+1) ((k+1:Nat):Int) (((n+1:Nat):Nat):Int)=some (.inl (k+1,n+1)):=(by unfold Hb;rw [if_pos ω,if_pos ω]; simp);rw [q,Ad];dsimp only;have A:Jk (Dd b n [z]) (0+(k+1)) (n+1-(k+1)) (0+k) (n+1-k)=some (Dd (Dd b n [z]) (0+(k+1)) (((Dd b n [z]).drop (0+k)).take (min (n+1-k) (n+1-(k+1))))):=(by unfold Jk;rw [if_pos ω]);rw [Ad];dsimp only;rw [A,Ad];have hd:(((Dd b n [z]).drop (0+k)).take (min (n+1-k) (n+1-(k+1)))).length=n-k:=(by rw [List.length_take,List.length_drop,g]; omega);refine ⟨_,rfl,?_,λi hi=>?_,λi hi h=>?_⟩
   .rw [Nu (by rw [g]; omega),g,hd]; omega
   .rw [Qt (by rw [g]; omega),if_pos ω,s i ω]
   .rw [Qt (by rw [g]; omega),if_neg ω,if_pos (by rw [hd]; omega),List.getElem?_take,if_pos ω,List.getElem?_drop,show 0+k+(i+1-(0+(k+1)))=i by omega,s i h]
  .have D:k=n:=ω;have q:Hb (n+1) ((k+1:Nat):Int) (((n+1:Nat):Nat):Int)=some (.inr ()):=(by unfold Hb;rw [if_pos ω,if_neg ω]);rw [q,Ad];dsimp only;rw [Ad];exact ⟨_,rfl,g,λi hi=>s i ω,λi hi h=>ω⟩
 obtain ⟨c,g1,g2,g3,g4⟩:=key;refine ⟨c,g1,g2,?_⟩;have y:((b.take n).take k).length=k:=by rw [List.length_take,List.length_take]; omega
 apply List.ext_getElem?;intro i;rw [List.getElem?_take,List.getElem?_set];by_cases h1:i<k
 .rw [if_pos ω,if_neg ω,g3 i h1,List.getElem?_append_left ω,List.getElem?_take,if_pos h1,List.getElem?_take,if_pos ω]
 .rw [List.getElem?_append_right ω,y];by_cases h2:i=k
  .subst h2;rw [if_pos ω,if_pos rfl,if_pos ω,Nat.sub_self]; rfl
  .obtain ⟨j,hj⟩:∃j,i=j+1:=⟨i-1,ω⟩;subst hj;rw [show j+1-k=(j-k)+1 by omega,List.getElem?_cons_succ,List.getElem?_drop,show k+(j-k)=j by omega,List.getElem?_take];by_cases h3:j<n
   .rw [if_pos ω,if_neg ω,g4 j ω h3,if_pos h3]
   .rw [if_neg ω,if_neg h3]
theorem Aqv {α:Type} (c:Nat) (b:List α) (n k:Nat) (u:n<=b.length) (hk:k<n) (hb:(b.length+n)*c<=140737488355328) (q:n<=1000000) : ∃o:List α,((Hb n (Aa ((k:Int)+1)) ((n:Nat):Int)).bind λv21=> match v21 with
    | .inl v22=>(Ra c b k (0+v22.1) (v22.2-v22.1)).bind λv23=>some (v23.2,v23.1)
    | .inr _=>(Kr c b k []).bind λv24=>some (v24.2,v24.1))=some (n-1,o)/\n-1<=o.length/\o.length<=b.length/\o.take (n-1)=(b.take n).take k++(b.take n).drop (k+1):=by
 have l:Aa ((k:Int)+1)=((k+1:Nat):Int):=C6 (n:=n+1) ω ω;rw [l];by_cases h:k+1<n
 .have f:Hb n ((k+1:Nat):Int) ((n:Nat):Int)=some (.inl (k+1,n)):=(by unfold Hb;rw [if_pos ω,if_pos ω]; simp);rw [f,Ad];dsimp only;have hq:Ra c b k (0+(k+1)) (n-(k+1))=some (Dd b k ((b.drop (0+(k+1))).take (n-(k+1))),k+(n-(k+1))):=(by unfold Ra;rw [if_pos ⟨ω,ω,Nat.le_trans (Nat.mul_le_mul_right _ ω) hb⟩]);rw [hq,Ad];have hd:((b.drop (0+(k+1))).take (n-(k+1))).length=n-(k+1):=(by rw [List.length_take,List.length_drop]; omega);refine ⟨_,by rw [show k+(n-(k+1))=n-1 by omega],?_,?_,?_⟩
  .rw [Nu ω,hd]; omega
  .rw [Nu ω,hd]; omega
  .have j:((b.take n).take k).length=k:=(by rw [List.length_take,List.length_take]; omega);apply List.ext_getElem?;intro i;rw [List.getElem?_take];by_cases h1:i<k
   .rw [if_pos ω,Qt ω,if_pos h1,List.getElem?_append_left ω,List.getElem?_take,if_pos h1,List.getElem?_take,if_pos ω]
   .rw [List.getElem?_append_right ω,j,List.getElem?_drop,List.getElem?_take];by_cases h2:i<n-1
    .rw [if_pos h2,Qt ω,if_neg h1,if_pos (by rw [hd]; omega),List.getElem?_take,if_pos ω,List.getElem?_drop,if_pos ω,show 0+(k+1)+(i-k)=k+1+(i-k) by omega]
    .rw [if_neg h2,if_neg ω]
 .have s:k+1=n:=ω;have f:Hb n ((k+1:Nat):Int) ((n:Nat):Int)=some (.inr ()):=(by unfold Hb;rw [if_pos ω,if_neg ω]);rw [f,Ad];dsimp only;have hq:Kr c b k []=some (Dd b k [],k):=(by unfold Kr;rw [if_pos ⟨ω,Nat.le_trans (Nat.mul_le_mul_right _ ψ) hb⟩]; rfl);rw [hq,Ad];have g:Dd b k []=b:=(by unfold Dd; simp);rw [g];refine ⟨b,by rw [show n-1=k by omega],ω,Nat.le_refl _,?_⟩;have:(b.take n).drop (k+1) = []:=(by rw [List.drop_eq_nil_iff,List.length_take]; omega);rw [this,List.append_nil,List.take_take,show min k n=n-1 by omega]
end Go.Ab
namespace Go.Ab
open Go
theorem A2g (a:Nat) (h:a<1099511627776):Fk .i64 (Aa (a:Int)) 2=some ((a / 2:Nat):Int):=by
 have h1:Aa (a:Int)=(a:Int):=by rw [Aa,Bm] <;> omega
 rw [h1];unfold Fk;rw [if_neg δ,Int.tdiv_eq_ediv_of_nonneg ω,show ((a:Int) / 2)=((a / 2:Nat):Int) from rfl,Bm ω ω]
theorem A2h (b:List Ah) (n:Nat) (m:Ba) (X:n<=b.length) (R:(b.take n).Pairwise ltT) (N:∀t∈b.take n,D9 t.Mono) (hb:n<=1000000) : ∃k:Nat,k<=n/\(∀(i:Nat) (t:Ah),i<k->(b.take n)[i]? = some t->C4 t.Mono m<0)/\(∀(i:Nat) (t:Ah),k<=i->(b.take n)[i]? = some t->0<=C4 t.Mono m) /\ Al (S:=(Int×Int)) (E:=Int) (λ(y,z)=> bif y<z then ((Fk .i64 (Aa (y+z)) 2).bind λv8=> (Ep b 0 n v8).bind λv9=> (Lg v9.Mono m).bind λA=> bif A<(0:Int) then some (.inl ((Aa (v8+1)),z)) else some (.inl (y,v8))) else some (.inr y)) (0,((n:Nat):Int))=some (k:Int):=by
 have L:(b.take n).length=n:=by rw [List.length_take]; omega
 have I:∀i,i<n->(b.take n)[i]? = b[i]?:=λi hi=>by rw [List.getElem?_take,if_pos hi]
 have D:∀(i j:Nat) (t u:Ah),i<j->(b.take n)[i]? = some t->(b.take n)[j]? = some u->C4 t.Mono u.Mono<0:=λi j t u G ht hu=>by have h1:=Dx ht;have h2:=Dx hu;have:=(List.pairwise_iff_getElem.1 R) i j h1 h2 G;rw [Bv h1] at ht;rw [Bv h2] at hu;cases ht; cases hu; exact this
 obtain ⟨e,h1,k,h2,h3,V,U⟩:=Ib (step:=(λ(y,z)=> bif y<z then ((Fk .i64 (Aa (y+z)) 2).bind λv8=> (Ep b 0 n v8).bind λv9=> (Lg v9.Mono m).bind λA=> bif A<(0:Int) then some (.inl ((Aa (v8+1)),z)) else some (.inl (y,v8))) else some (.inr y):Int×Int->Option ((Int×Int)⊕Int))) (λs=>∃i j:Nat,s=((i:Int),(j:Int))/\i<=j/\j<=n/\(∀(q:Nat) (t:Ah),q<i->(b.take n)[q]? = some t->C4 t.Mono m<0)/\(∀(q:Nat) (t:Ah),j<=q->(b.take n)[q]? = some t->0<=C4 t.Mono m)) (λs=>s.2.toNat-s.1.toNat) (λe=>∃k:Nat,e=(k:Int)/\k<=n/\(∀(i:Nat) (t:Ah),i<k->(b.take n)[i]? = some t->C4 t.Mono m<0)/\(∀(i:Nat) (t:Ah),k<=i->(b.take n)[i]? = some t->0<=C4 t.Mono m)) (by
   rintro s ⟨i,j,rfl,G,hj,h1,h2⟩;rcases Nat.lt_or_ge i j with h | h
   .obtain ⟨c,hm⟩:∃c:Nat,c=(i+j) / 2:=⟨_,rfl⟩;have hx:b[c]? = some (b[c]' ω):=Bv _;generalize b[c]'_=x at hx;have f:(b.take n)[c]? = some x:=(by rw [I c ω]; exact hx);have J:=N x (Cd f);have M:((i:Int)+(j:Int))=((i+j:Nat):Int):=ω;simp only [Aj (by omega:(i:Int)<(j:Int)),cond_true,M,A2g (i+j) ω,<-hm,Ad,Nq (l:=b) (off:=0) (n:=n) (i:=(c:Int)) rfl ω (by rw [Nat.zero_add]; exact hx),Y0 x.Mono m J];by_cases e:C4 x.Mono m<0
    .rw [Aj e,cond_true,C6 (n:=n) ω ω];refine .inl ⟨_,rfl,⟨c+1,j,rfl,ω,hj,λq t hq ht=>?_,h2⟩,by simp only [Int.toNat_natCast]; omega⟩;by_cases B:q=c
     .subst B; rw [f] at ht; cases ht; exact e
     .exact Qj (D q c t x ω ht f) e
    .rw [An e,cond_false];refine .inl ⟨_,rfl,⟨i,c,rfl,ω,ω,h1,λq t hq ht=>?_⟩,by simp only [Int.toNat_natCast]; omega⟩;by_cases B:q=c
     .subst B; rw [f] at ht; cases ht; omega
     .have g:=D c q x t ω f ht;refine Classical.byContradiction λhc=>?_;exact e (Qj g ω)
   .have:i=j:=ω;subst this;exact .inr ⟨(i:Int),by simp only [An (by omega:¬(i:Int)<(i:Int)),cond_false],i,rfl,hj,h1,h2⟩) (0,((n:Nat):Int)) ⟨0,n,rfl,ω,Nat.le_refl _,(λq t h=>ω),λq t h ht=>by have:=Dx ht; omega⟩;subst h2;exact ⟨k,h3,V,U,h1⟩
end Go.Ab
namespace Go.Ab
open Go
theorem Adq (x:Rat):Kh x=0↔x=0:=by
 unfold Kh;constructor
 .intro h;split at h
  .cases h
  .split at h
   .cases h
   .grind
 .rintro rfl;rw [if_neg (by grind),if_neg (by grind)]
theorem Aqw (L:List Ah) (k:Nat) (m:Ba):cf L m=cf (L.take k) m+cf (L.drop k) m:=by rw [<-Mq,List.take_append_drop]
theorem CP.insert {L:List Ah} {k:Nat} {x:Ah} (h:CP L) (h1:∀(i:Nat) (t:Ah),i<k->L[i]? = some t->C4 t.Mono x.Mono<0) (h2:∀(i:Nat) (t:Ah),k<=i->L[i]? = some t->C4 x.Mono t.Mono<0) (h3:Im x.Coef) (f:rq x.Coef≠0) : CP (L.take k++x::L.drop k):=by
 refine ⟨?_,λt ht=>?_⟩
 .rw [List.pairwise_append];refine ⟨h.srt.sublist (List.take_sublist _ _),?_,?_⟩
  .rw [List.pairwise_cons];refine ⟨λt ht=>?_,h.srt.sublist (List.drop_sublist _ _)⟩;obtain ⟨i,hi⟩:=List.getElem?_of_mem ht;rw [List.getElem?_drop] at hi;exact h2 (k+i) t ω hi
  .intro a ha c hc;obtain ⟨i,hi⟩:=List.getElem?_of_mem ha;rw [List.getElem?_take] at hi;split at hi
   .rename_i b;rcases List.mem_cons.1 hc with rfl | hc
    .exact h1 i a b hi
    .obtain ⟨j,hj⟩:=List.getElem?_of_mem hc;rw [List.getElem?_drop] at hj;have g1:=Dx hi;have g2:=Dx hj;have:=(List.pairwise_iff_getElem.1 h.srt) i (k+j) g1 g2 ω;rw [Bv g1] at hi;rw [Bv g2] at hj;cases hi; cases hj; exact this
   .cases hi
 .rw [List.mem_append,List.mem_cons] at ht;rcases ht with ht | rfl | ht
  .exact h.coe t (List.mem_of_mem_take ht)
  .exact ⟨h3,f⟩
  .exact h.coe t (List.mem_of_mem_drop ht)
theorem CP.remove {L:List Ah} (k:Nat) (h:CP L):CP (L.take k++L.drop (k+1)):=by
 have b:(L.take k++L.drop (k+1)).Sublist L:=by
  have:L=L.take k++L.drop k:=(List.take_append_drop k L).symm
  conv=>rhs; rw [this]
  refine List.Sublist.append (List.Sublist.refl _) ?_
  rw [show k+1=k+1 from rfl,<-List.drop_drop]
  exact List.drop_sublist _ _
 exact ⟨h.srt.sublist b,λt ht=>h.coe t (b.subset ht)⟩
open Classical in
theorem A2i (L:List Ah) (k:Nat) (x:Ah) (m:Ba):cf (L.take k++x::L.drop k) m=cf L m+(if x.Mono=m then rq x.Coef else 0):=by rw [Mq,On,Aqw L k m]; grind
theorem A2j {L:List Ah} {k:Nat} {t:Ah} (h:L[k]? = some t):L.drop k=t::L.drop (k+1):=by have hk:=Dx h;rw [List.drop_eq_getElem_cons hk];rw [Bv hk] at h;cases h; rfl
open Classical in
theorem A2k {L:List Ah} {k:Nat} {t:Ah} (h:L[k]? = some t) (m:Ba):cf (L.take k++L.drop (k+1)) m=cf L m-(if t.Mono=m then rq t.Coef else 0):=by rw [Mq,Aqw L k m,A2j h,On]; grind
end Go.Ab
namespace Go.Ab
open Go
structure PSt (K:Nat) (n:Nat) (b:List Ah):Prop where
 le:n<=b.length
 cp:CP (b.take n)
 tm:∀t∈b.take n,RB K t.Coef/\D9 t.Mono
open Classical in
theorem S9 {K kc:Nat} {n:Nat} {b:List Ah} (h:PSt K n b) {m:Ba} {c:Ar} (hc:RB kc c) (hm:D9 m) (hK:K+kc+3<30000000000) (hb:b.length<=100000) : ∃(n':Nat) (o:List Ah),Jp n m c b=some (n',o)/\o.length<=b.length+1/\PSt (K+kc+3) n' o/\∀m',cf (o.take n') m'=cf (b.take n) m' + (if m=m' then rq c else 0):=by
 obtain ⟨k,k1,k2,k3,k4⟩:=A2h b n m h.le h.cp.srt (λt ht=>(h.tm t ht).2) (by have:=h.le; omega);have hlen:(b.take n).length=n:=by rw [List.length_take]; have:=h.le; omega
 have hget:∀i,i<n->(b.take n)[i]? = b[i]?:=λi hi=>by rw [List.getElem?_take,if_pos hi]
 have hbn:=h.le;unfold Jp;rw [k4,Ad];by_cases hin:∃t,k<n/\(b.take n)[k]? = some t/\C4 t.Mono m=0
 .obtain ⟨t,h1,h2,h3⟩:=hin;have htm:=h.tm t (Cd h2);have hmm:t.Mono=m:=G4.1 h3;have hbk:b[k]? = some t:=(by rw [<-hget k h1]; exact h2);have hidx:Ep b 0 n (k:Int)=some t:=Nq rfl h1 (by rw [Nat.zero_add]; exact hbk);obtain ⟨s,s1,s2,s3,s4,s5⟩:=Apt htm.1 hc ω ω;have hset:B9 b (((0:Nat):Int)+(k:Int)) (Ah.mk s t.Mono)=b.set k ⟨s,t.Mono⟩:=Fh (n:=k) ω _;have hbs:(b.set k ⟨s,t.Mono⟩)[k]? = some ⟨s,t.Mono⟩:=(by rw [List.getElem?_set,if_pos rfl,if_pos (Dx hbk)]);have hidx2:Ep (b.set k ⟨s,t.Mono⟩) 0 n (k:Int)=some ⟨s,t.Mono⟩:=Nq rfl h1 (by rw [Nat.zero_add]; exact hbs);simp only [Aj (by omega:(k:Int)<(n:Int)),cond_true,hidx,Ad,Y0 t.Mono m htm.2,Dw h3,s2,hset,hidx2,(S5 s3 ω).2];have htk:(b.set k ⟨s,t.Mono⟩).take n=(b.take n).set k ⟨s,t.Mono⟩:=(by rw [List.take_set]);have hlens:(b.set k ⟨s,t.Mono⟩).length=b.length:=List.length_set;by_cases hz:rq s=0
  .rw [Dw ((Adq _).2 hz),cond_true];have hpre:O4 n (k:Int)=some k:=(by unfold O4;rw [if_pos ω]; simp);rw [hpre,Ad];obtain ⟨o,d1,d2,d3,d4⟩:=Aqv 104 (b.set k ⟨s,t.Mono⟩) n k ω h1 (by rw [hlens]; omega) ω;have hrm:(b.set k ⟨s,t.Mono⟩).take n=(b.take n).set k ⟨s,t.Mono⟩:=htk;have hee:((b.take n).set k ⟨s,t.Mono⟩).take k++((b.take n).set k ⟨s,t.Mono⟩).drop (k+1)=(b.take n).take k++(b.take n).drop (k+1):=(by rw [List.take_set_of_le (Nat.le_refl _),List.drop_set_of_lt ω]);rw [hrm,hee] at d4;refine ⟨n-1,o,d1,ω,⟨d2,by rw [d4]; exact h.cp.remove k,λu hu=>?_⟩,λm'=>?_⟩
   .rw [d4,List.mem_append] at hu;have hu':u∈b.take n:=by
     rcases hu with hu | hu
     .exact List.mem_of_mem_take hu
     .exact List.mem_of_mem_drop hu
    exact ⟨((h.tm u hu').1).mono ω,(h.tm u hu').2⟩
   .rw [d4,A2k h2 m',hmm];by_cases e:m=m'
    .rw [if_pos e,if_pos e];have:rq c = - rq t.Coef:=(by rw [s5] at hz; grind);rw [this]; grind
    .rw [if_neg e,if_neg e]; grind
  .rw [Ch (λe=>hz ((Adq _).1 e)),cond_false];refine ⟨n,b.set k ⟨s,t.Mono⟩,rfl,ω,⟨ω,?_,λu hu=>?_⟩,λm'=>?_⟩
   .rw [htk];refine ⟨?_,λu hu=>?_⟩
    .rw [List.pairwise_iff_getElem];intro i j hi hj hij;have g:∀(q:Nat) (hq:q<((b.take n).set k ⟨s,t.Mono⟩).length),(((b.take n).set k ⟨s,t.Mono⟩)[q]).Mono=((b.take n)[q]'(by rw [List.length_set] at hq; exact hq)).Mono:=by
      intro q hq;rw [List.getElem_set];split
      .rename_i e;subst e;have:=Bv (l:=b.take n) (i:=k) ω;rw [h2] at this;rw [<-Option.some.inj this]
      .rfl
     unfold ltT;rw [g i hi,g j hj];exact (List.pairwise_iff_getElem.1 h.cp.srt) i j _ _ hij
    .rcases List.mem_or_eq_of_mem_set hu with hu | rfl
     .exact h.cp.coe u hu
     .exact ⟨s4,hz⟩
   .rw [htk] at hu;rcases List.mem_or_eq_of_mem_set hu with hu | rfl
    .exact ⟨((h.tm u hu).1).mono ω,(h.tm u hu).2⟩
    .exact ⟨s3,htm.2⟩
   .rw [htk,Ain (u:=⟨s,t.Mono⟩) h2 rfl m',hmm];by_cases e:m=m'
    .rw [if_pos e,if_pos e];show cf (b.take n) m' + (rq s-rq t.Coef)=_;rw [s5]; grind
    .rw [if_neg e,if_neg e]
 .have hne:∀t,(b.take n)[k]? = some t->C4 t.Mono m≠0:=λt ht e=>hin ⟨t,by have:=Dx ht; omega,ht,e⟩;have hq:(bif decide ((k:Int)<(n:Int)) then (Ep b 0 n (k:Int)).bind λv12=>(Lg v12.Mono m).bind λv13=>some (v13==0) else some false)=some false:=by
   by_cases h1:k<n
   .have hx:b[k]? = some (b[k]' ω):=Bv _;generalize b[k]'_=x at hx;have hLx:(b.take n)[k]? = some x:=(by rw [hget k h1]; exact hx);rw [Aj (by omega:(k:Int)<(n:Int)),cond_true,Nq (l:=b) (off:=0) (n:=n) (i:=(k:Int)) rfl h1 (by rw [Nat.zero_add]; exact hx),Ad,Y0 x.Mono m (h.tm x (Cd hLx)).2,Ad,Ch (hne x hLx)]
   .rw [An ω]; rfl
  erw [hq];simp only [Ad,cond_false,(S5 hc ω).2];by_cases hz:rq c=0
  .rw [Dw ((Adq _).2 hz),cond_true];refine ⟨n,b,rfl,ω,⟨h.le,h.cp,λu hu=>⟨((h.tm u hu).1).mono ω,(h.tm u hu).2⟩⟩,λm'=>?_⟩;rw [hz];split <;> grind
  .rw [Ch (λe=>hz ((Adq _).1 e)),cond_false];have hap:Kr 104 b n [(Ah.mk (Ar.mk false [] []) (Ba.mk [] []))]=some (Dd b n [(Ah.mk (Ar.mk false [] []) (Ba.mk [] []))],n+1):=(by unfold Kr;rw [if_pos ⟨h.le,by simp; omega⟩]; rfl);rw [hap,Ad];dsimp only;obtain ⟨cc,c1,c2,c3,c4,c5⟩:=Apv hc ω;obtain ⟨o13,g1,g2,g3⟩:=Ait b n k (Ah.mk (Ar.mk false [] []) (Ba.mk [] [])) ⟨cc,m⟩ h.le k1 ω
   erw [g1];rw [Ad,c2,Ad,Aqu m hm,Ad];have hk13:o13[k]? = some (o13[k]' ω):=Bv _;rw [Nq (l:=o13) (off:=0) (n:=n+1) (i:=(k:Int)) rfl ω (by rw [Nat.zero_add]; exact hk13),Ad];have hset:B9 o13 (((0:Nat):Int)+(k:Int)) (Ah.mk cc m)=o13.set k ⟨cc,m⟩:=Fh (n:=k) ω _;rw [hset];refine ⟨n+1,o13.set k ⟨cc,m⟩,rfl,by rw [List.length_set]; omega,⟨by rw [List.length_set]; omega,?_,λu hu=>?_⟩,λm'=>?_⟩
   .rw [g3];refine h.cp.insert (λi t hi ht=>k2 i t hi ht) (λi t hi ht=>?_) c3 (by rw [c4]; exact hz);have g:=k3 i t hi ht;have hnz:C4 t.Mono m≠0:=by
     by_cases e:i=k
     .subst e; exact hne t ht
     .have hkl:=Dx ht;have hx:(b.take n)[k]? = some ((b.take n)[k]' ω):=Bv _;have g5:=k3 k _ (Nat.le_refl _) hx;have g6:=hne _ hx;have g7:=(List.pairwise_iff_getElem.1 h.cp.srt) k i ω hkl ω;rw [Bv hkl] at ht;cases ht;intro e2;have:=G4.1 e2;unfold ltT at g7;rw [this] at g7;omega
    show C4 m t.Mono<0;rw [S6 t.Mono m]; omega
   .rw [g3,List.mem_append,List.mem_cons] at hu;rcases hu with hu | rfl | hu
    .have:=h.tm u (List.mem_of_mem_take hu);exact ⟨this.1.mono ω,this.2⟩
    .exact ⟨c5.mono ω,hm⟩
    .have:=h.tm u (List.mem_of_mem_drop hu);exact ⟨this.1.mono ω,this.2⟩
   .rw [g3,A2i,c4]
end Go.Ab
namespace Go.Ab
open Go
theorem PSt.mono {K c n:Nat} {b:List Ah} (h:PSt K n b) (f:K<=c):PSt c n b:=⟨h.le,h.cp,λt ht=>⟨((h.tm t ht).1).mono f,(h.tm t ht).2⟩⟩
open Classical in
theorem A2l {kc:Nat} (p q:List Ah) (c:Ar) (hl:p.length<=1000) (hl2:q.length<=1000) (hp:∀t∈p,RB 1048576 t.Coef/\D9 t.Mono) (hq:∀t∈q,RB 1048576 t.Coef/\D9 t.Mono) (hc:RB kc c) (hkc:kc<=1048576) : ∃r,Ua p q c=some r/\(CP r/\(∀m,cf r m=cf p m+rq c*cf q m)/\r.length<=p.length+q.length/\∀t∈r,RB ((p.length+q.length)*2097200) t.Coef/\D9 t.Mono):=by
 unfold Ua;refine Fe (λs=>∃(n j:Nat) (b:List Ah),s=(n,(j:Int),b)/\j<=p.length/\b.length<=j/\PSt (j*2097200) n b/\∀m,cf (b.take n) m=cf (p.take j) m) (λs=>p.length-s.2.1.toNat) (λe=>∃(n:Nat) (b:List Ah),e=(n,b)/\b.length<=p.length/\PSt (p.length*2097200) n b/\∀m,cf (b.take n) m=cf p m) ⟨0,0,[],rfl,ω,ψ,⟨ψ,by simpa using CP.nil,λt ht=>by simp at ht⟩,λm=>rfl⟩ ?_ ?_
 .rintro s ⟨n,j,b,rfl,hj,hb,hP,hcf⟩;rcases Nat.lt_or_ge j p.length with h | h
  .have hx:p[j]? = some p[j]:=Bv h;generalize p[j]=t at hx;obtain ⟨t1,t2⟩:=hp t (Cd hx);obtain ⟨n',o,e1,e2,e3,e4⟩:=S9 hP t1 t2 ω ω;simp only [Aj (by omega:(j:Int)<(p.length:Int)),cond_true,Ce rfl hx,Ad,e1,C6 h ω];refine .inl ⟨_,rfl,⟨n',j+1,o,rfl,ω,ω,e3.mono ω,λm=>?_⟩,by simp only [Int.toNat_natCast]; omega⟩;rw [e4 m,hcf m,C8 hx,Mq,On];show _=_+(_+(0:Rat));grind
  .have:j=p.length:=ω;subst this;rw [List.take_length] at hcf;exact .inr ⟨(n,b),by simp only [An (by omega:¬(p.length:Int)<(p.length:Int)),cond_false],n,b,rfl,hb,hP,hcf⟩
 .rintro e ⟨n0,b0,rfl,hb0,hP0,hcf0⟩;dsimp only;refine Fe (λs=>∃(n j:Nat) (b:List Ah),s=(n,(j:Int),b)/\j<=q.length/\b.length<=p.length+j/\PSt ((p.length+j)*2097200) n b/\∀m,cf (b.take n) m=cf p m+rq c*cf (q.take j) m) (λs=>q.length-s.2.1.toNat) (λe=>∃(n:Nat) (b:List Ah),e=(n,b)/\b.length<=p.length+q.length/\PSt ((p.length+q.length)*2097200) n b/\∀m,cf (b.take n) m=cf p m+rq c*cf q m) ⟨n0,0,b0,rfl,ω,ω,by simpa using hP0,λm=>by rw [hcf0 m]; show _=_+rq c*(0:Rat); grind⟩ ?_ ?_
  .rintro s ⟨n,j,b,rfl,hj,hb,hP,hcf⟩;rcases Nat.lt_or_ge j q.length with h | h
   .have hx:q[j]? = some q[j]:=Bv h;generalize q[j]=t at hx;obtain ⟨t1,t2⟩:=hq t (Cd hx);obtain ⟨d,d1,d2,d3,d4,d5⟩:=Add hc t1 ω δ;obtain ⟨n',o,e1,e2,e3,e4⟩:=S9 hP d3 t2 ω ω;simp only [Aj (by omega:(j:Int)<(q.length:Int)),cond_true,Ce rfl hx,Ad,d2,e1,C6 h ω];refine .inl ⟨_,rfl,⟨n',j+1,o,rfl,ω,ω,e3.mono ω,λm=>?_⟩,by simp only [Int.toNat_natCast]; omega⟩;rw [e4 m,hcf m,C8 hx,Mq,On,d5];show _=_+rq c*(_+(_+(0:Rat)));split <;> grind
   .have:j=q.length:=ω;subst this;rw [List.take_length] at hcf;exact .inr ⟨(n,b),by simp only [An (by omega:¬(q.length:Int)<(q.length:Int)),cond_false],n,b,rfl,hb,hP,hcf⟩
  .rintro e ⟨n,b,rfl,hb,hP,hcf⟩;refine ⟨b.take n,?_,hP.cp,hcf,by rw [List.length_take]; omega,hP.tm⟩;show (Iu b n).bind _=_;unfold Iu;rw [if_pos hP.le]; rfl
end Go.Ab
namespace Go.Ab
open Go
end Go.Ab
namespace Go.Ab
open Go
theorem A2m:∃r,Iw (-1)=some r/\RB 1 r/\rq r = -1:=by
 refine ⟨_,Sr (-1) δ δ,?_,?_⟩
 .exact Hf _ _ _ 1 (I9 δ) (I9 δ) ω
 .rw [Lr _ _ _ δ]; decide
theorem CP.dst {p:List Ah} (h:CP p):Dst p:=h.srt.imp λ{a b} hab e=>by unfold ltT at hab;rw [G4.2 e] at hab; omega
end Go.Ab
namespace Go.Ab
open Go
theorem Aqx:O8 (λt u:Ah=>C4 t.Mono u.Mono) where
 irr x:=by
  show ¬C4 x.Mono x.Mono<0
  rw [Ah8]; omega
 trs x y z h1 h2:=Qj h1 h2
 ntr x y z h1 h2:=by
  show ¬C4 x.Mono z.Mono<0
  have h1:¬C4 x.Mono y.Mono<0:=h1
  have h2:¬C4 y.Mono z.Mono<0:=h2
  intro h3
  rcases Int.lt_trichotomy (C4 x.Mono y.Mono) 0 with k | k | k
  .exact h1 k
  .rw [G4.1 k] at h3; exact h2 h3
  .exact h2 (Qj (Ah9.1 k) h3)
def Adr (b:List Ah):List Ah:=b.mergeSort λt u=>decide (C4 t.Mono u.Mono<=0)
theorem Aqy (b:List Ah):(Adr b).Perm b:=List.mergeSort_perm _ _
theorem A2n (f:List Ah) (hd:Dst f):(Adr f).Pairwise ltT:=by
 have h1:=List.pairwise_mergeSort (le:=λt u:Ah=>decide (C4 t.Mono u.Mono<=0)) (λa b c h1 h2=>by
  simp only [decide_eq_true_eq] at *
  have:=Aqx.ntr c b a (by show ¬C4 _ _<0; rw [S6]; omega) (by show ¬C4 _ _<0; rw [S6]; omega)
  have this:¬C4 c.Mono a.Mono<0:=this
  rw [S6] at this; omega) (λa b=>by
  simp only [Bool.or_eq_true,decide_eq_true_eq]
  rw [S6 a.Mono b.Mono]; omega) f
 have h2:(Adr f).Pairwise λt u=>t.Mono≠u.Mono:=((Aqy f).pairwise_iff (λ{x y} h=>h.symm)).2 hd
 refine (h1.and h2).imp λ{t u} h=>?_
 have a:=of_decide_eq_true h.1
 have b:C4 t.Mono u.Mono≠0:=λe=>h.2 (G4.1 e)
 unfold ltT; omega
theorem Aiu (b:List Ah) (hd:Dst b) (hm:∀t∈b,D9 t.Mono):∃R,N5 b=some R/\R.Perm b/\R.Pairwise ltT:=by
 rcases Nat.lt_or_ge 12 b.length with h | h
 .have e:Nat.ble b.length 12=false:=(by cases k:Nat.ble b.length 12 with| false=>rfl| true=>have:=Nat.le_of_ble_eq_true k; omega);unfold N5;rw [e,cond_false];obtain ⟨r,f,i,law,hc,hp,g⟩:=Awa (cmp:=N6) (l:=b) (r:=Adr b) ⟨_,Aqx,λx hx y _=>Aio x y (hm x hx),Aqy b,A2n b hd⟩;refine ⟨r,f,hp,?_⟩;refine (List.Pairwise.imp_of_mem (S:=ltT) (λ{t u} ht hu h=>?_) g);have c:=hc t (hp.mem_iff.1 ht) u (hp.mem_iff.1 hu);rw [Aio t u (hm t (hp.mem_iff.1 ht))] at c;have c:=Option.some.inj c;unfold ltT; rw [c]; exact h
 .exact A13 b hd hm h
end Go.Ab
namespace Go.Ab
open Go
theorem A2o {x:Bk} (i:CSz x) {ps:List (List Ah)} (c:∀p∈ps,∀t∈p,TSz t) (j:ps.length<=1048576) (h:F0 x/\∀p∈ps,I2 x.Data x.Vars x.Res p=true):∃b,Lh x ps=some (.inl (true,x,b,[],x.Data,x.Vars,x.Res.Kind,x.Res.Num,x.Res.Args))/\F6 x.Data x.Vars x.Res b:=by
 obtain ⟨r,g,f⟩:=Aqq x i ps c j;rcases f with ⟨_,b,e,hm⟩ | ⟨h2,_⟩
 .exact ⟨b,by rw [g,e],hm⟩
 .exact (h2 h).elim
structure PR (x:Bk) (n:Nat) (f:Ba->Rat) (R:List Ah):Prop where
 cp:CP R
 val:∀m,cf R m=f m
 tb:∀t∈R,G6 x t.Mono/\RB 8589934592 t.Coef
 len:R.length<=n
theorem A2p {x:Bk} {k:Nat} {ts:List Ah} (h:Col k (G6 x) ts) (hk:k<8589934592) (l:ts.length<=1000):∃R,Ku (plc ts) ts=some (R,0)/\PR x ts.length (cf ts) R:=by obtain ⟨R,j,i,g,b,f⟩:=Aip (P:=G6 x) (λm h=>h.cmo) (plc ts) ts h ω l (λc _ h2 h3=>Aiu c h2 h3);exact ⟨R,j,i,g,λt ht=>⟨(b t ht).1,(b t ht).2.mono ω⟩,f⟩
theorem PR.of {x:Bk} {n m:Nat} {f g:Ba->Rat} {R:List Ah} (h:PR x n f R) (b:n<=m) (c:∀a,f a=g a):PR x m g R := ⟨h.cp,λa=>by rw [h.val,c],h.tb,Nat.le_trans h.len b⟩
theorem Aqz {x:Bk} (I:CSz x) (J:F0 x) {p q:List Ah} (hp:Gr x p) (hq:Gr x q) (L:p.length+q.length<=1000) : ∃R,N0 x p q=some (R,0)/\PR x (p.length+q.length) (λm=>cf p m-cf q m) R:=by obtain ⟨M,hb⟩:=Aqr I J hp hq;unfold N0;rw [hb];simp only [Ad,Dk,cond_false,Lj];obtain ⟨u,l,j,i,g⟩:=Ado (k0:=1048579) (k:=1048576) (P:=G6 x) (λm h=>h.cmo) p [] (Col.nil _ _) hp.tb ω ω (by simp; omega);simp at i;obtain ⟨r,B,A,z⟩:=A2c;obtain ⟨G,E,c,D,b⟩:=A2b (k:=1048576) q A (λt ht=>(hq.tb t ht).1) ω ω ω;obtain ⟨v,f,v2,v3,v4⟩:=Ado (k:=1048579) (P:=G6 x) (λm h=>h.cmo) G u j (λt ht=>⟨(b t ht).1,by obtain ⟨w,hw,e⟩:=(b t ht).2; rw [<-e]; exact (hq.tb w hw).2⟩) ω (by rw [c]; omega) ω;obtain ⟨R,y,s⟩:=A2p v2 (by rw [c]; omega) ω;rw [show Kt p [] []=some (plc u,u) from l,Ad,B,Ad,E,Ad,f,Ad,y,Ad];exact ⟨R,rfl,s.of ω λm=>by rw [v4,g,D,z]; simp only [cf]; grind⟩
theorem A2q {x:Bk} {p q:List Ah} (hp:Gr x p) (hq:Gr x q) {c:Ar} {b:Nat} (hc:RB b c) (hk:b<=1048576) (k:p.length+q.length<=1000) : ∃R,Ua p q c=some R/\Ri R=some (R,0)/\CP R/\∀m,cf R m=cf p m+rq c*cf q m:=by obtain ⟨R,h,g,f,j,i⟩:=A2l p q c ω ω (λt ht=>⟨(hp.tb t ht).1,(hp.sz t ht).mo⟩) (λt ht=>⟨(hq.tb t ht).1,(hq.sz t ht).mo⟩) hc hk;refine ⟨R,h,?_,g,f⟩;unfold Ri;rw [An ω]; rfl
theorem Gr.nil (x:Bk):Gr x []:=⟨Ade.2 ⟨ψ,CP.nil,λt ht=>by cases ht⟩,λt ht=>by cases ht⟩
end Go.Ab
namespace Go.Ab
open Go
theorem Aiv:∀n k,bc n k<=n ^ k
 | n,0=>by rw [Kj]; exact Nat.le_refl _
 | 0,k+1=>by simp [bc]
 | n+1,k+1=>by have h1:=Aiv n k;have h2:=Aiv n (k+1);have h3:n ^ k<=(n+1) ^ k:=Nat.pow_le_pow_left ω k;have b:n ^ (k+1)<=n*(n+1) ^ k:=(by rw [Nat.pow_succ,Nat.mul_comm]; exact Nat.mul_le_mul_left _ h3);rw [bc,Nat.pow_succ,Nat.mul_add,Nat.mul_one,Nat.mul_comm]; omega
end Go.Ab
namespace Go.Ab
open Go
def Sm (a:Nat):Prop:=a<=5000 ^ 6
theorem Sm.of {a d:Nat} (h:a<=5000 ^ d) (hd:d<=6):Sm a:=Nat.le_trans h (Nat.pow_le_pow_right δ hd)
end Go.Ab
namespace Go.Ab
open Go
theorem Zc (z:Int):mkRat z 1=(z:Rat):=by rw [Rat.mkRat_eq_div,show ((1:Nat):Rat)=1 from rfl]; grind
theorem A2r (z:Int) (h1 : -9223372036854775808<=z) (h2:z<=9223372036854775807):∃r,F3 z=some r/\RB 3 r/\Im r/\rq r=(z:Rat):=by
 have b:Bi z.natAbs<=3:=Nd (n:=z.natAbs) ω;refine ⟨_,Vm z h1 h2,Hf _ _ _ _ b (by rw [Ig]; decide) δ,Qi _ _ _ δ,?_⟩;rw [Lr _ _ _ δ,Zc];congr 1;unfold sg;by_cases h:z<0
 .rw [Aj h,if_pos rfl]; omega
 .rw [An h,if_neg δ]; omega
theorem Ta (n:Nat):rq (cR n)=(n:Rat):=by unfold cR;rw [Lr _ _ _ δ,Zc]; rfl
theorem Aiw (n:Nat):Im (cR n):=Qi _ _ _ δ
end Go.Ab
namespace Go.Ab
open Go
end Go.Ab
namespace Go.Ab
open Go
end Go.Ab
namespace Go.Ab
open Go
end Go.Ab
namespace Go.Ab
open Go
end Go.Ab
namespace Go.Ab
open Go
def sm:Nat->(Nat->Nat)->Nat
 | 0,_=>0
 | n+1,f=>sm n f+f n
theorem Zd {f g:Nat->Nat}:∀{n:Nat},(∀k,k<n->f k=g k)->sm n f=sm n g
 | 0,_=>rfl
 | n+1,h=>by rw [sm,sm,Zd (n:=n) λk hk=>h k ω,h n ω]
theorem Ze (f g:Nat->Nat):∀n,sm n (λk=>f k+g k)=sm n f+sm n g
 | 0=>rfl
 | n+1=>by simp only [sm,Ze f g n]; omega
theorem Aq0 (c:Nat) (f:Nat->Nat):∀n,sm n (λk=>c*f k)=c*sm n f
 | 0=>rfl
 | n+1=>by simp only [sm,Aq0 c f n,Nat.mul_add]
theorem Zf {f:Nat->Nat}:∀{n:Nat},(∀k,k<n->f k=0)->sm n f=0
 | 0,_=>rfl
 | n+1,h=>by rw [sm,Zf (n:=n) λk hk=>h k ω,h n ω]
theorem Aix (f:Nat->Nat):∀n,sm (n+1) f=f 0+sm n (λk=>f (k+1))
 | 0=>by simp [sm]
 | n+1=>by rw [sm,Aix f n,sm]; omega
theorem Aq1 {f:Nat->Nat} {n:Nat}:∀{m:Nat},n<=m->(∀k,n<=k->f k=0)->sm m f=sm n f
 | 0,h,_=>by rw [show n=0 by omega]
 | m+1,h,b=>by
  by_cases e:n=m+1
  .rw [e]
  .rw [sm,Aq1 (m:=m) ω b,b m ω,Nat.add_zero]
theorem Zg {f:Nat->Nat} {n k:Nat} (hk:k<n) (b:∀j,j≠k->f j=0):sm n f=f k:=by
 induction n with
 | zero=>omega
 | succ n ih=>
  rw [sm];by_cases e:k=n
  .subst e;rw [Zf λj hj=>b j ω,Nat.zero_add]
  .rw [ih ω,b n ω,Nat.add_zero]
theorem Ms:∀n,bc n n=1
 | 0=>rfl
 | n+1=>by
  rw [bc,Ms n]
  have:bc n (n+1)=0:=by have:=bc_big2 n (n+1) ω; exact this
  omega
where bc_big2:∀n k,n<k->bc n k=0
 | n,0,h=>absurd h ω
 | 0,k+1,_=>rfl
 | n+1,k+1,h=>by rw [bc,bc_big2 n k ω,bc_big2 n (k+1) ω]
theorem Vz {n k:Nat} (h:n<k):bc n k=0:=Ms.bc_big2 n k h
theorem V1 (n k:Nat):bc (n+1) (k+1)=bc n k+bc n (k+1):=by rw [bc]
def Rc (a b k:Nat):Nat:=if b<=k then bc k a*bc a (k-b) else 0
theorem Aq2 {a b k:Nat} (h:a+b<k):Rc a b k=0:=by unfold Rc;rw [if_pos ω,Vz (show a<k-b by omega),Nat.mul_zero]
theorem A2s {a b k:Nat} (h:k<a):Rc a b k=0:=by
 unfold Rc;split
 .rw [Vz h,Nat.zero_mul]
 .rfl
theorem Aq3 (b k:Nat):Rc 0 b k=if k=b then 1 else 0:=by
 unfold Rc;by_cases h:k=b
 .subst h; rw [if_pos (Nat.le_refl _),if_pos rfl,Nat.sub_self,Kj,Kj]
 .rw [if_neg h];split
  .rw [Vz (show 0<k-b by omega),Nat.mul_zero]
  .rfl
theorem Aq4 (a k:Nat):Rc a 0 k=if k=a then 1 else 0:=by
 unfold Rc;rw [if_pos (Nat.zero_le _),Nat.sub_zero];by_cases h:k=a
 .subst h; rw [if_pos rfl,Ms]
 .rw [if_neg h];rcases Nat.lt_or_ge k a with h2 | h2
  .rw [Vz h2,Nat.zero_mul]
  .rw [Vz (show a<k by omega),Nat.mul_zero]
theorem A2t (a b k:Nat):Rc (a+1) (b+1) (k+1)=Rc a (b+1) k+Rc (a+1) b k+Rc a b k:=by
 unfold Rc;by_cases h:b<=k
 .rw [if_pos ω,if_pos h,if_pos h,show k+1-(b+1)=k-b by omega,V1];by_cases h2:b+1<=k
  .rw [if_pos h2];obtain ⟨j,hj⟩:∃j,k-b=j+1:=⟨k-b-1,ω⟩;rw [hj,show k-(b+1)=j by omega,V1];simp only [Nat.add_mul,Nat.mul_add]; omega
  .rw [if_neg h2,show k-b=0 by omega,Kj,Kj]; omega
 .rw [if_neg ω,if_neg h,if_neg h,if_neg ω]
theorem A2u (a b:Nat):Rc (a+1) (b+1) 0=0:=by unfold Rc; rw [if_neg ω]
theorem A2v (f:Nat->Nat) (n N:Nat):sm (N+1) (λk=>f k*bc (n+1) k)=sm (N+1) (λk=>f k*bc n k)+sm N (λk=>f (k+1)*bc n k):=by
 rw [Aix,Aix (λk=>f k*bc n k),Kj,Kj];have:sm N (λk=>f (k+1)*bc (n+1) (k+1))=sm N (λk=>f (k+1)*bc n (k+1))+sm N (λk=>f (k+1)*bc n k):=by rw [<-Ze];exact Zd λk _=>by rw [V1,Nat.mul_add]; omega
 rw [this]; omega
theorem Zh:∀(n a b N:Nat),a+b<N->sm N (λk=>Rc a b k*bc n k)=bc n a*bc n b
 | n,0,b,N,h=>by rw [Kj,Nat.one_mul,Zg (k:=b) ω λj hj=>by rw [Aq3,if_neg hj,Nat.zero_mul],Aq3,if_pos rfl,Nat.one_mul]
 | n,a+1,0,N,h=>by rw [Kj,Nat.mul_one,Zg (k:=a+1) ω λj hj=>by rw [Aq4,if_neg hj,Nat.zero_mul],Aq4,if_pos rfl,Nat.one_mul]
 | 0,a+1,b+1,N,h=>by rw [show bc 0 (a+1)=0 from rfl,Nat.zero_mul];refine Zf λk _=>?_;cases k with| zero=>rw [A2u,Nat.zero_mul]| succ k=>rw [show bc 0 (k+1)=0 from rfl,Nat.mul_zero]
 | n+1,a+1,b+1,N,h=>by obtain ⟨N,rfl⟩:∃M,N=M+1:=⟨N-1,ω⟩;rw [A2v,Zh n (a+1) (b+1) (N+1) h];have h1:=Zh n a (b+1) N ω;have h2:=Zh n (a+1) b N ω;have h3:=Zh n a b N ω;have c:sm N (λk=>Rc (a+1) (b+1) (k+1)*bc n k)=sm N (λk=>Rc a (b+1) k*bc n k)+sm N (λk=>Rc (a+1) b k*bc n k)+sm N (λk=>Rc a b k*bc n k):=(by rw [<-Ze,<-Ze];exact Zd λk _=>by rw [A2t,Nat.add_mul,Nat.add_mul]);rw [c,h1,h2,h3,V1,V1,Nat.add_mul,Nat.mul_add,Nat.mul_add]; omega
theorem Aiy {f g:Nat->Nat} {N:Nat} (h:∀n,n<N->sm N (λk=>f k*bc n k)=sm N (λk=>g k*bc n k)):∀k,k<N->f k=g k:=by
 intro k;induction k using Nat.strongRecOn with
 | ind k ih=>
  intro hk;have cut:∀F:Nat->Nat,sm N (λj=>F j*bc k j)=sm k (λj=>F j*bc k j)+F k:=by
   intro F;have e:sm N (λj=>F j*bc k j)=sm (k+1) (λj=>F j*bc k j):=Aq1 ω λj hj=>by rw [Vz ω,Nat.mul_zero]
   rw [e,sm,Ms,Nat.mul_one]
  have:=h k hk;rw [cut f,cut g,Zd (f:=λj=>f j*bc k j) (g:=λj=>g j*bc k j) λj hj=>by rw [ih j hj ω]] at this;omega
end Go.Ab
namespace Go.Ab
open Go
noncomputable def V2 {α:Type} (cmp:α->α->Option Int) (a0:Int):Int×List α->Option ((Int×List α)⊕(Int×List α)):=λ(v31,b)=> (show OB from bif v31>a0 then ((Ae b v31).bind λv33=> (Ae b (Aa (v31-1))).bind λg=> (cmp v33 g).bind λv35=> some (decide (v35<(0:Int)))) else some false).bind λf=>
 bif f then ((Ae b (Aa (v31-1))).bind λv37=> (Ae b v31).bind λc=> (Ae b v31).bind λv39=> (Ae (B9 b v31 v37) (Aa (v31-1))).bind λv40=> some (.inl ((Aa (v31-1)),(B9 (B9 b v31 v37) (Aa (v31-1)) c)))) else some (.inr (v31,b))
noncomputable def Zi {α:Type} (cmp:α->α->Option Int) (a0 a1:Int) (g:List α):Option (List α) := (Al (S:=(Int×(List α))) (E:=(List α)) (λ(v21,b)=> bif v21<a1 then ((Al (V2 cmp a0) (v21,b)).bind λ(v41,f)=> some (.inl ((Aa (v21+1)),f))) else (some (.inr b))) ((Aa (a0+1)),g)).bind λc=> some c
theorem A2w {α:Type} (A R:List α) (x y:α):((A++y::x::R).set (A.length+1) y).set A.length x=A++x::y::R:=by induction A with| nil=>rfl| cons a A ih=>simp only [List.cons_append,List.length_cons,List.set_cons_succ,ih]
theorem Aiz {α:Type} (A R:List α) (x:α):(A++x::R)[A.length]? = some x:=ψ
theorem A2x {α:Type} (A R:List α) (x y:α):(A++y::x::R)[A.length+1]? = some x:=by induction A with| nil=>rfl| cons a A ih=>simp
theorem A2y {α:Type} (cmp:α->α->Option Int) (y:α) (R:List α):V2 cmp 0 (0,y::R)=some (.inr (0,y::R)):=by unfold V2;simp only [An (by omega:¬(0:Int)>0),cond_false,Ad]
theorem A2z {α:Type} {cmp:α->α->Option Int} {c:α->α->Int} {N:Nat} (i:N<=1099511627776) (A R:List α) (u y:α) (b:cmp u y=some (c u y)) (f:(A++y::u::R).length<=N):V2 cmp 0 (((A.length+1:Nat):Int),A++y::u::R) = if c u y<0 then some (.inl ((A.length:Int),A++u::y::R)) else some (.inr (((A.length+1:Nat):Int),A++y::u::R)):=by
 have h:A.length+1<N:=by simp at f; omega
 have g:Aa (((A.length+1:Nat):Int)-1)=(A.length:Int):=by rw [Aa,Bm] <;> omega
 unfold V2;simp only [Aj (by omega:((A.length+1:Nat):Int)>0),cond_true,g,Ce (n:=A.length+1) rfl (A2x A R u y),Ce (n:=A.length) rfl (Aiz A (u::R) y),Ad,b];by_cases hc:c u y<0
 .rw [Aj hc,if_pos hc];simp only [cond_true];rw [Fh (n:=A.length+1) rfl,Fh (n:=A.length) rfl,A2w];have:Ae ((A++y::u::R).set (A.length+1) y) (A.length:Int)=some y:=(by refine Ce rfl ?_;rw [List.getElem?_set_ne ω]; exact Aiz A (u::R) y);rw [this]; rfl
 .rw [An hc,if_neg hc]; rfl
theorem A20 {α:Type} {cmp:α->α->Option Int} {c:α->α->Int} {N:Nat} (q:N<=1099511627776) : ∀(n:Nat) (A R:List α) (x:α),A.length=n->(∀t∈A,cmp x t=some (c x t))->(A++x::R).length<=N -> ∃f i,Al (V2 cmp 0) ((A.length:Int),A++x::R)=some ((f.length:Int),f++x::(i++R))/\A=f++i/\(∀a∈i,c x a<0)/\∀k y,f=k++[y]->¬c x y<0:=by
 intro n;induction n with
 | zero=>intro A R x g _ _;have:A = []:=List.length_eq_zero_iff.1 g;subst this;exact ⟨[],[],Cz (A2y cmp x R),rfl,(λ_ h=>by cases h),(λk y h=>by simp at h)⟩
 | succ n ih=>
  intro A R x g hm b;obtain ⟨B,y,rfl⟩:∃B y,A=B++[y]:=by
   rcases List.eq_nil_or_concat A with h | ⟨B,y,h⟩
   .rw [h] at g; cases g
   .exact ⟨B,y,by simpa using h⟩
  have s:B.length=n:=(by simpa using g);have D:(B++[y])++x::R=B++y::x::R:=ψ;have el:(((B++[y]).length:Nat):Int)=((B.length+1:Nat):Int):=ψ;rw [D] at b ⊢;rw [el];have j:=A2z (cmp:=cmp) (c:=c) q B R x y (hm y ψ) b;by_cases hc:c x y<0
  .rw [if_pos hc] at j;obtain ⟨f,i,h1,h2,h3,u⟩:=ih B (y::R) x s (λt ht=>hm t (by simp [ht])) (by simpa using b);refine ⟨f,i++[y],?_,by rw [h2]; simp,?_,u⟩
   .rw [Ft j,h1]; simp
   .intro a ha;rcases List.mem_append.1 ha with ha | ha
    .exact h3 a ha
    .simp only [List.mem_singleton] at ha;subst ha; exact hc
  .rw [if_neg hc] at j;refine ⟨B++[y],[],?_,ψ,(λ_ h=>by cases h),?_⟩
   .rw [Cz j]; simp
   .intro k z l;have:=List.append_inj' l rfl;have e:y=z:=(by simpa using this.2);subst e; exact hc
theorem A21 {α:Type} {c:α->α->Int} (L:O8 c) {f j:List α} {x:α} (s:(f++j).Pairwise (λa b=>¬c b a<0)) (h2:∀a∈j,c x a<0) (h1:∀g y,f=g++[y]->¬c x y<0):(f++x::j).Pairwise (λa b=>¬c b a<0):=by
 obtain ⟨i,l,k⟩:=List.pairwise_append.1 s;have hx:∀a∈f,¬c x a<0:=by
  intro a ha;rcases List.eq_nil_or_concat f with h | ⟨g,y,h⟩
  .rw [h] at ha; cases ha
  .have h:f=g++[y]:=(by simpa using h);have q:=h1 g y h;rw [h] at ha i;rcases List.mem_append.1 ha with ha | ha
   .exact L.ntr x y a q ((List.pairwise_append.1 i).2.2 a ha y ψ)
   .simp only [List.mem_singleton] at ha;subst ha; exact q
 refine List.pairwise_append.2 ⟨i,List.pairwise_cons.2 ⟨λa ha h=>L.irr x (L.trs x a x (h2 a ha) h),l⟩,λa ha b hb=>?_⟩;rcases List.mem_cons.1 hb with rfl | hb
 .exact hx a ha
 .exact k a ha b hb
theorem Aq5 {α:Type} {cmp:α->α->Option Int} {c:α->α->Int} (L:O8 c) (f:List α) (A:∀x∈f,∀y∈f,cmp x y=some (c x y)) (J:f.length<=1099511627776) : ∃R,Zi cmp 0 (f.length:Int) f=some R/\R.Perm f/\R.Pairwise (λa b=>¬c b a<0):=by
 unfold Zi;cases f with
 | nil=>refine ⟨[],?_,List.Perm.refl _,List.Pairwise.nil⟩;refine Ie 0 (λ_=>((1:Int),([]:List α))) (by simp [Aa,Bm]) (λj hj=>ω) ⟨[],?_,rfl⟩;simp
 | cons z0 B=>
 generalize k:z0::B=f at *;have hpos:1<=f.length:=by rw [<-k]; simp
 refine Fe (λs=>∃(i:Nat) (S:List α),s=((i:Int),S++f.drop i)/\1<=i/\i<=f.length/\S.length=i/\S.Perm (f.take i)/\S.Pairwise (λa b=>¬c b a<0)) (λs=>f.length-s.1.toNat) (λR=>R.Perm f/\R.Pairwise (λa b=>¬c b a<0)) ⟨1,[z0],by rw [<-k]; simp [Aa,Bm],ω,hpos,rfl,by rw [<-k]; simp,List.pairwise_singleton _ _⟩ ?_ ?_
 .rintro _ ⟨i,S,rfl,G,hi,E,g,l⟩;rcases Nat.lt_or_ge i f.length with h | h
  .have hx:f[i]? = some f[i]:=Bv h;have hxm:f[i]∈f:=List.getElem_mem h;generalize f[i]=x at hx hxm;have D:f.drop i=x::f.drop (i+1):=Ij hx;have z:(S++x::f.drop (i+1)).length=f.length:=(by simp; omega);simp only [Aj (by omega:(i:Int)<(f.length:Int)),cond_true,C6 h ω];rw [D];left;obtain ⟨u,q,h1,h2,h3,I⟩:=A20 (cmp:=cmp) (c:=c) (N:=f.length) ω S.length S (f.drop (i+1)) x rfl (λt ht=>A x hxm t (List.mem_of_mem_take (g.mem_iff.1 ht))) (by rw [z]; exact Nat.le_refl _);rw [E] at h1;have hp:(u++x::q).Perm (f.take (i+1)):=(by rw [C8 hx];have:(u++x::q).Perm ((u++q)++[x]):=(by rw [List.append_assoc];exact List.Perm.append_left u (List.perm_append_singleton x q).symm);exact this.trans (by rw [<-h2]; exact g.append_right [x]));refine ⟨(((i+1:Nat):Int),(u++x::q)++f.drop (i+1)),Dl h1 ψ,⟨i+1,u++x::q,rfl,ω,ω,?_,hp,?_⟩,by simp; omega⟩
   .rw [hp.length_eq,List.length_take]; omega
   .rw [h2] at l;exact A21 L l h3 I
  .have:i=f.length:=ω;subst this;rw [List.take_length] at g;simp only [An (by omega:¬(f.length:Int)<(f.length:Int)),cond_false,List.drop_length,List.append_nil];exact .inr ⟨S,rfl,g,l⟩
 .rintro R ⟨h1,h2⟩;exact ⟨R,rfl,h1,h2⟩
noncomputable def Aq6 {α:Type} (B:Nat) (gr:Int->Option (List α)) (a0:List (List α)):Option (List α) := (Al (S:=(Int×Int)) (E:=Int) (λ(v2,v3)=> bif v3<(a0.length:Int) then ((Ae a0 v3).bind λv4=> bif (Aa (v2+(v4.length:Int)))<(0:Int) then (none) else (some (.inl ((Aa (v2+(v4.length:Int))),(Aa (v3+1)))))) else (some (.inr v2))) (0,0)).bind λv5=> (gr v5).bind λi=> (Al (S:=(Int×(List α))) (E:=(List α)) (λ(b,c)=> bif b<(a0.length:Int) then ((Ae a0 b).bind λf=> (Ca B c f).bind λh=> some (.inl ((Aa (b+1)),h))) else (some (.inr c))) (0,i)).bind λg=> some g
theorem Ai0 {α:Type} {B:Nat} (g:B<=1024) {gr:Int->Option (List α)} (l:∀n:Nat,n<=1000000->gr (n:Int)=some []) (a b:List α) (h:a.length+b.length<=1000000):Aq6 B gr [a,b]=some (a++b):=by
 have m1:a.length*B<=1000000*1024:=Nat.mul_le_mul ω g;have m2:(a.length+b.length)*B<=1000000*1024:=Nat.mul_le_mul h g;have f:Aa 1=1:=by rw [Aa,Bm] <;> omega
 have c:Aa 2=2:=by rw [Aa,Bm] <;> omega
 have k:Aa (a.length:Int)=(a.length:Int):=by rw [Aa,Bm] <;> omega
 have i:Aa ((a.length:Int)+(b.length:Int))=((a.length:Int)+(b.length:Int)):=by rw [Aa,Bm] <;> omega
 have i0:Ae [a,b] 0=some a:=rfl;have i1:Ae [a,b] 1=some b:=rfl;have s:Ca B [] a=some a:=by rw [C3 (by simp; omega)]; rfl
 have q:Ca B a b=some (a++b):=C3 ω;unfold Aq6;refine Ie 2 (λj=>if j=0 then (0,0) else if j=1 then ((a.length:Int),1) else (((a.length+b.length:Nat):Int),2)) rfl ?_ ⟨((a.length+b.length:Nat):Int),?_,?_⟩
 .intro j hj;rcases (by omega:j=0\/j=1) with rfl | rfl
  .have:¬((a.length:Int)<0):=ω;simp [i0,k,f,this]
  .have:¬((a.length:Int)+(b.length:Int)<0):=ω;simp [i1,i,c,this]
 .simp
 .rw [l _ h,Ad];refine Ie 2 (λj=>if j=0 then (0,[]) else if j=1 then (1,a) else (2,a++b)) rfl ?_ ⟨a++b,?_,rfl⟩
  .intro j hj;rcases (by omega:j=0\/j=1) with rfl | rfl
   .simp [i0,f,s]
   .simp [i1,c,q]
  .simp
end Go.Ab
namespace Go.Ab
open Go
def Big:Nat:=1000000000 ^ 100
structure Np (x:Ar) (a:Nat):Prop where
 rb:RB 200 x
 s:sv x=false
 n:nv x=a
 d:dv x=1
theorem Ai1 {a:Nat} (h:a<Big):Bi a<=100:=I9 h
theorem Np.cR {a:Nat} (h:Bi a<=200):Np (cR a) a:=⟨Ais h δ,(Air a).1,(Air a).2.1,(Air a).2.2⟩
theorem Np.c {a:Nat} (h:a<Big):Np (Ab.cR a) a:=Np.cR (by have:=Ai1 h; omega)
theorem Np.z:Np ⟨false,[],[]⟩ 0:=⟨A02 200,by unfold sv; simp,by unfold nv; simp [Ak],by unfold dv; simp [Ak]⟩
theorem Np.add {x y:Ar} {a b:Nat} (hx:Np x a) (hy:Np y b):N3 x y=some (Ab.cR (a+b)):=by rw [Ag4 _ _ 200 200 hx.rb hy.rb ω ω,hx.s,hx.n,hx.d,hy.s,hy.n,hy.d];simp [Ke,Hz,Ab.cR]
theorem Np.mul {x y:Ar} {a b:Nat} (hx:Np x a) (hy:Np y b):Hj x y=some (Ab.cR (a*b)):=by rw [Yq _ _ 200 200 hx.rb hy.rb ω ω,hx.s,hx.n,hx.d,hy.s,hy.n,hy.d];simp [Ab.cR]
theorem Np.sign {x:Ar} {a:Nat} (hx:Np x a):Ix x=some (if a=0 then 0 else 1):=by rw [Ag2 _ 200 hx.rb ω,hx.s,hx.n];simp [I0]
theorem Np.can {x:Ar} {a:Nat} (hx:Np x a):M4 x=some (Ab.cR a):=by rw [Aci _ 200 hx.rb ω,hx.s,hx.n,hx.d]; rfl
def Ls (n:Nat) (f:Nat->Nat):List Ar:=(List.range n).map λk=>cR (f k)
theorem Mt (n:Nat) (f:Nat->Nat):(Ls n f).length=n:=by simp [Ls]
theorem K7 {n k:Nat} (f:Nat->Nat) (h:k<n):(Ls n f)[k]? = some (cR (f k)):=by simp [Ls,h]
theorem Zj {n:Nat} {l:List Ar} {f:Nat->Nat} (b:l.length=n) (h:∀k,k<n->l[k]? = some (cR (f k))):l=Ls n f:=by
 apply List.ext_getElem?;intro k;rcases Nat.lt_or_ge k n with hk | hk
 .rw [h k hk,K7 f hk]
 .rw [List.getElem?_eq_none ω,List.getElem?_eq_none (by rw [Mt]; omega)]
theorem Ads {α R:Type} {step:Int×List α->Option ((Int×List α)⊕List α)} {J:List α->Option R} {r:R} {i n:Nat} (o:List α) (g:Nat->α) (hi:i<=n) (q:o.length=n)
  (l:∀(j:Nat) (o':List α),i<=j->j<n->o'.length=n->step ((j:Int),o')=some (.inl (((j+1:Nat):Int),o'.set j (g j))))
  (y:∀o',o'.length=n->step ((n:Int),o')=some (.inr o'))
  (z:∀o',o'.length=n->(∀k,k<i->o'[k]? = o[k]?)->(∀k,i<=k->k<n->o'[k]? = some (g k))->J o'=some r):(Al step ((i:Int),o)).bind J=some r:=by
 obtain ⟨e,A,f⟩:=Ib (step:=step) (λs=>∃(j:Nat) (o':List α),s=((j:Int),o')/\i<=j/\j<=n/\o'.length=n/\(∀k,k<i->o'[k]? = o[k]?)/\∀k,i<=k->k<j->o'[k]? = some (g k)) (λs=>n-s.1.toNat)
  (λo'=>o'.length=n/\(∀k,k<i->o'[k]? = o[k]?)/\∀k,i<=k->k<n->o'[k]? = some (g k)) (by
  rintro _ ⟨j,o',rfl,c,x,h1,h2,h3⟩
  rcases Nat.lt_or_ge j n with h | h
  .refine .inl ⟨_,l j o' c h h1,⟨j+1,o'.set j (g j),rfl,ω,ω,by simp [h1],λk hk=>?_,λk b u=>?_⟩,by simp; omega⟩
   .rw [List.getElem?_set_ne ω]; exact h2 k hk
   .rcases Nat.lt_or_ge k j with h' | h'
    .rw [List.getElem?_set_ne ω]; exact h3 k b h'
    .have:k=j:=ω
     subst this
     rw [List.getElem?_set_self ω]
  .have:j=n:=ω
   subst this
   exact .inr ⟨o',y o' h1,h1,h2,h3⟩) ((i:Int),o) ⟨i,o,rfl,ω,hi,q,λ_ _=>rfl,λk h1 h2=>ω⟩
 rw [A,Ad]
 exact z e f.1 f.2.1 f.2.2
theorem A22 (n:Nat) (b:n<=1000):Yf (n:Int)=some (Ls n λ_=>0):=by
 unfold Yf;rw [Ju rfl rfl (Nat.le_refl _) ω ω,Ad];refine Ads (i:=0) (n:=n) _ (λ_=>cR 0) ω ψ ?_ ?_ ?_
 .intro j o' _ h2 h3;have hx:o'[j]? = some o'[j]:=Bv ω;simp only [List.length_replicate,Aj (by omega:(j:Int)<(n:Int)),cond_true,A2d,Ad,Ce rfl hx,C6 h2 ω,Fh (n:=j) rfl]
 .intro o' h;simp only [List.length_replicate,An (by omega:¬(n:Int)<(n:Int)),cond_false]
 .intro o' h1 _ h3;rw [Zj h1 (f:=λ_=>0) λk hk=>h3 k ω hk]
theorem Aq7 (n k:Nat) (b:n<1000000000) (hk:k<=64):Abu (n:Int) (k:Int)=some (cR (bc n k)):=by
 have h:U7 (n:Int) (k:Int)=some (cR (bc n k)):=by rw [An5 n k b hk,Za,show A9 false (D1 k*bc n k) (D1 k)=A9 false (D1 k*bc n k) (D1 k*1) by rw [Nat.mul_one],Mm _ _ _ _ (Ss k)];rfl
 exact h
theorem Aq8 {n k:Nat} (h:n<=40):bc n k<Big:=by refine Nat.lt_of_le_of_lt (Zb n k) ?_;exact Nat.lt_of_le_of_lt (Nat.pow_le_pow_right δ h) δ
theorem A23 (a b:Nat) (ha:a<=16) (hb:b<=16):U8 (a:Int) (b:Int)=some (Ls (a+b+1) (Rc a b)):=by
 unfold U8;have q:Aa ((a:Int)+(b:Int))=((a+b:Nat):Int):=by rw [Aa,Bm] <;> omega
 have l:Aa (((a+b:Nat):Int)+1)=((a+b+1:Nat):Int):=by rw [Aa,Bm] <;> omega
 have e:(if (b:Int)>(a:Int) then (b:Int) else (a:Int))=((max a b:Nat):Int):=by split <;> omega
 rw [q,l,A22 _ ω,Ad,e];refine Ads (i:=max a b) (n:=a+b+1) _ (λk=>cR (Rc a b k)) ω (by simp [Mt]) ?_ ?_ ?_
 .intro j o' h1 h2 h3;have hx:o'[j]? = some o'[j]:=Bv ω;have g:Aa ((j:Int)-(b:Int))=((j-b:Nat):Int):=(by rw [Aa,Bm] <;> omega);have s:Rc a b j=bc j a*bc a (j-b):=(by unfold Rc; rw [if_pos ω]);simp only [Aj (by omega:(j:Int)<=((a+b:Nat):Int)),cond_true,Aq7 j a ω ω,g,Aq7 a (j-b) ω ω,Ad,(Np.c (Aq8 (by omega:j<=40))).mul (Np.c (Aq8 (k:=j-b) (by omega:a<=40))),Ce rfl hx,C6 h2 ω,Fh (n:=j) rfl,s]
 .intro o' h;simp only [An (by omega:¬((a+b+1:Nat):Int)<=((a+b:Nat):Int)),cond_false]
 .intro o' h1 h2 h3;rw [Zj h1 (f:=Rc a b) λk hk=>?_];rcases Nat.lt_or_ge k (max a b) with h | h
  .rw [h2 k h,K7 _ hk];have:Rc a b k=0:=by
    rcases (by omega:k<a\/k<b) with h | h
    .exact A2s h
    .unfold Rc; rw [if_neg ω]
   rw [this]
  .exact h3 k h hk
end Go.Ab
namespace Go.Ab
open Go
theorem A24 {m n:Nat} {f g:Nat->Nat} {c:Nat} (hm:m<=1000) (D:n<=1000) (B:∀k,k<m->f k<Big) (q:∀k,k<n->g k<Big) (hc:c<Big) : R8 (Ls m f) (Ls n g) (cR c)=some (Ls (max m n) λk=>(if k<m then f k else 0)+(if k<n then g k else 0)*c):=by
 unfold R8;rw [Mt,Mt];have e:(if (n:Int)>(m:Int) then (n:Int) else (m:Int))=((max m n:Nat):Int):=by split <;> omega
 rw [e,Ju rfl rfl (Nat.le_refl _) ω ω,Ad];refine Ads (i:=0) (n:=max m n) _ (λk=>cR ((if k<m then f k else 0)+(if k<n then g k else 0)*c)) ω ψ ?_ ?_ ?_
 .intro j o' _ h2 h3;have hx:o'[j]? = some o'[j]:=Bv ω;obtain ⟨x,A,u⟩:∃x:Ar,(bif decide ((j:Int)<(m:Int)) then ((Ae (Ls m f) (j:Int)).bind λb=>some (b.Neg,b.Num,b.Den)) else some (false,[],[]))=some (x.Neg,x.Num,x.Den)/\Np x (if j<m then f j else 0):=by
   by_cases h:j<m
   .rw [Aj ω,cond_true,Ce rfl (K7 f h),if_pos h];exact ⟨_,rfl,Np.c (B j h)⟩
   .rw [An ω,cond_false,if_neg h];exact ⟨⟨false,[],[]⟩,rfl,Np.z⟩
  obtain ⟨y,s,l⟩:∃x:Ar,(bif decide ((j:Int)<(n:Int)) then ((Ae (Ls n g) (j:Int)).bind λb=>some (b.Neg,b.Num,b.Den)) else some (false,[],[]))=some (x.Neg,x.Num,x.Den)/\Np x (if j<n then g j else 0)/\(if j<n then g j else 0)<Big:=by
   by_cases h:j<n
   .rw [Aj ω,cond_true,Ce rfl (K7 g h),if_pos h];exact ⟨_,rfl,Np.c (q j h),q j h⟩
   .rw [An ω,cond_false,if_neg h];exact ⟨⟨false,[],[]⟩,rfl,Np.z,δ⟩
  have hq:Bi ((if j<n then g j else 0)*c)<=200:=(by have:=Gy (if j<n then g j else 0) c;have:=Ai1 l.2;have:=Ai1 hc;omega);have hb:X8 x y (cR c)=some (cR ((if j<m then f j else 0)+(if j<n then g j else 0)*c)):=(by unfold X8;rw [(Np.c hc).mul l.1,Ad,Nat.mul_comm c,u.add (Np.cR hq)]; rfl);simp only [List.length_replicate,Aj (by omega:(j:Int)<((max m n:Nat):Int)),cond_true]
  erw [A,Ad,s,Ad];dsimp only;rw [hb,Ad,Ce rfl hx,Ad,C6 h2 ω,Fh (n:=j) rfl]
 .intro o' h;simp only [List.length_replicate,An (by omega:¬((max m n:Nat):Int)<((max m n:Nat):Int)),cond_false]
 .intro o' h1 _ h3;rw [Zj h1 (f:=λk=>(if k<m then f k else 0)+(if k<n then g k else 0)*c) λk hk=>h3 k ω hk]
theorem Ai2 {p:List Ar} {n:Nat} {f:Nat->Nat} (u:n<1000) (s:p.length=n+1) (hp:∀k,k<n+1->∃x,p[k]? = some x/\Np x (f k)) (b:f n≠0):M9 p=some (Ls (n+1) f):=by
 unfold M9;obtain ⟨x,q,l⟩:=hp n ω;have w:Aa (((n+1:Nat):Int)-1)=(n:Int):=by rw [Aa,Bm] <;> omega
 refine Dl (a:=((n+1:Nat):Int)) (Cz ?_) ?_
 .rw [s];simp only [Aj (by omega:((n+1:Nat):Int)>0),cond_true,w,Ce rfl q,Ad,l.sign,if_neg b];rfl
 .rw [Ju rfl rfl (Nat.le_refl _) ω ω,Ad];refine Ads (i:=0) (n:=n+1) _ (λk=>cR (f k)) ω ψ ?_ ?_ ?_
  .intro j o' _ h2 h3;have hx:o'[j]? = some o'[j]:=Bv ω;obtain ⟨y,g,c⟩:=hp j h2;simp only [List.length_replicate,Aj (by omega:(j:Int)<((n+1:Nat):Int)),cond_true,Ce rfl g,c.can,Ad,Ce rfl hx,C6 h2 ω,Fh (n:=j) rfl]
  .intro o' h;simp only [List.length_replicate,An (by omega:¬((n+1:Nat):Int)<((n+1:Nat):Int)),cond_false]
  .intro o' h1 _ h3;rw [Zj h1 (f:=f) λk hk=>h3 k ω hk]
def Gg (n d:Nat) (f:Nat->Nat) (k:Nat):Nat:=sm n λa=>f a*Rc a d k
theorem Aq9 (a d:Nat):0<Rc a d (a+d):=by
 unfold Rc;rw [if_pos ω,show a+d-d=a by omega,Ms];have:0<bc (a+d) a:=by
  have h:∀d,0<bc (a+d) a:=by
   intro d;induction d with
   | zero=>rw [Nat.add_zero,Ms]; decide
   | succ d ih=>cases a with| zero=>rw [Kj]; decide| succ a=>rw [show a+1+(d+1)=(a+1+d)+1 by omega,V1]; omega
  exact h d
 omega
theorem A25 {n d:Nat} {f:Nat->Nat} {p q:List Ar} (a1:n+d<=12) (hp:p=Ls (n+1) f) (i:f n≠0) (hq:q.length=d+1) (R:∀k,k<d+1->∃x,q[k]? = some x/\Np x (if k=d then 1 else 0))
  (U:∀k,k<n+1->f k<Big) (Y:∀a k,a<=n+1->Gg a d f k<Big):Xw p q=some (Ls (n+d+1) (Gg (n+1) d f),true):=by
 unfold Xw
 have l:p.length=n+1:=by rw [hp,Mt]
 rw [l,hq,An ω,An ω]
 simp only [cond_false,Ad]
 have c1:M9 p=some (Ls (n+1) f):=Ai2 ω l (λk hk=>⟨_,by rw [hp]; exact K7 f hk,Np.c (U k hk)⟩) i
 have c2:M9 q=some (Ls (d+1) λk=>if k=d then 1 else 0):=Ai2 ω hq R ψ
 have w:Aa (((n+1:Nat):Int)+((d+1:Nat):Int))=((n+d+2:Nat):Int):=by rw [Aa,Bm] <;> omega
 rw [c1,Ad,c2,Ad,Mt,Mt,Ch ω,Ch ω]
 simp only [cond_false,Ad]
 rw [w,An ω,cond_false]
 obtain ⟨r,r1,Z⟩:=Fe (J:=λB=>(M9 B).bind λA=>some (A,true)) (Q:=λr=>r=(Ls (n+d+1) (Gg (n+1) d f),true)) (step:=λ(x:List Ar×Int)=>match x with
  | (v25,v26)=>
   bif v26<((n+1:Nat):Int) then (
   (Ae (Ls (n+1) f) v26).bind λM=>
   (Al (S:=((List Ar)×Int)) (E:=((List Ar)×Int)) (λ(g,v37)=>
   bif v37<((d+1:Nat):Int) then (
   (Ae (Ls (d+1) λk=>if k=d then 1 else 0) v37).bind λI=>
   (Hj M I).bind λv40=>
   (Ix v40).bind λG=>
   bif (G==(0:Int)) then (
   some (.inl (g,(Aa (v37+1))))
   )
   else (
   (U8 v26 v37).bind λD=>
   (R8 g D v40).bind λv44=>
   some (.inl (v44,(Aa (v37+1))))
   )
   )
   else (
   some (.inr (g,v37))
   )
    ) (v25,0)).bind λ(v45,v46)=>
   some (.inl (v45,(Aa (v26+1))))
   )
   else (
   some (.inr v25)
   )) (s:=([],0))
  (λs=>∃(a L:Nat) (h:Nat->Nat),s=(Ls L h,(a:Int))/\a<=n+1/\L<=a+d/\(∀k,(if k<L then h k else 0)=Gg a d f k)/\(a=n+1->L=n+d+1)) (λs=>n+1-s.2.toNat)
  (λe=>e=Ls (n+d+1) (Gg (n+1) d f)) ⟨0,0,λ_=>0,rfl,ω,ω,λk=>by simp [Gg,sm],ω⟩ (by
  rintro _ ⟨a,L,h,rfl,ha,hL,z,y⟩
  rcases Nat.lt_or_ge a (n+1) with h1 | h1
  .left
   have N:Np (cR 0) 0:=Np.c δ
   have b:∀k,Gg (a+1) d f k=Gg a d f k+f a*Rc a d k:=λk=>rfl
   have hh:∀k,k<L->h k<Big:=λk hk=>by
    have:=z k
    rw [if_pos hk] at this
    rw [this]; exact Y a k ω
   by_cases h0:f a=0
   .refine ⟨(Ls L h,((a+1:Nat):Int)),?_,⟨a+1,L,h,rfl,ω,ω,λk=>by rw [b,h0,z]; simp,λe=>?_⟩,by simp; omega⟩
    .simp only [Aj (by omega:(a:Int)<((n+1:Nat):Int)),cond_true,Ce rfl (K7 f h1),Ad,h0]
     refine Ie (d+1) (λj=>(Ls L h,(j:Int))) rfl ?_ ⟨(Ls L h,((d+1:Nat):Int)),?_,?_⟩
     .intro j hj
      have hy:Np (cR (if j=d then 1 else 0)) (if j=d then 1 else 0):=Np.c (by split <;> decide)
      simp only [Aj (by omega:(j:Int)<((d+1:Nat):Int)),cond_true,Ce rfl (K7 _ hj),Ad,N.mul hy,Nat.zero_mul,N.sign,if_true,C6 hj ω]
      rfl
     .simp only [An (by omega:¬((d+1:Nat):Int)<((d+1:Nat):Int)),cond_false]
     .rw [C6 h1 ω]
    .have:a=n:=ω
     subst this; exact (i h0).elim
   .have u:=Np.c (U a h1)
    have V:R8 (Ls L h) (Ls (a+d+1) (Rc a d)) (cR (f a))=some (Ls (a+d+1) λk=>(if k<L then h k else 0)+(if k<a+d+1 then Rc a d k else 0)*f a):=by
     rw [A24 ω ω hh (λk hk=>?_) (U a h1),show max L (a+d+1)=a+d+1 by omega]
     unfold Rc
     split
     .refine Nat.lt_of_le_of_lt (Nat.mul_le_mul (Zb k a) (Zb a (k-d))) ?_
      rw [<-Nat.pow_add]
      exact Nat.lt_of_le_of_lt (Nat.pow_le_pow_right δ (by omega:k+a<=40)) δ
     .decide
    refine ⟨(Ls (a+d+1) λk=>(if k<L then h k else 0)+(if k<a+d+1 then Rc a d k else 0)*f a,((a+1:Nat):Int)),?_,⟨a+1,a+d+1,_,rfl,ω,ω,λk=>?_,λe=>ω⟩,by simp; omega⟩
    .simp only [Aj (by omega:(a:Int)<((n+1:Nat):Int)),cond_true,Ce rfl (K7 f h1),Ad]
     refine Ie (d+1) (λj=>if j<=d then (Ls L h,(j:Int)) else (Ls (a+d+1) λk=>(if k<L then h k else 0)+(if k<a+d+1 then Rc a d k else 0)*f a,(j:Int))) ψ ?_ ⟨((Ls (a+d+1) λk=>(if k<L then h k else 0)+(if k<a+d+1 then Rc a d k else 0)*f a),((d+1:Nat):Int)),?_,?_⟩
     .intro j hj
      have hy:Np (cR (if j=d then 1 else 0)) (if j=d then 1 else 0):=Np.c (by split <;> decide)
      rw [if_pos ω]
      simp only [Aj (by omega:(j:Int)<((d+1:Nat):Int)),cond_true,Ce rfl (K7 _ hj),Ad,u.mul hy,C6 hj ω]
      rcases Nat.lt_or_ge j d with h2 | h2
      .rw [if_neg (by omega:¬j=d),Nat.mul_zero,N.sign,Ad,if_pos (by omega:j+1<=d)]
       rfl
      .have:j=d:=ω
       subst this
       rw [if_pos rfl,Nat.mul_one,u.sign,Ad,if_neg h0,A23 a j ω ω,Ad,V,if_neg ω]
       rfl
     .rw [if_neg ω]
      simp only [An (by omega:¬((d+1:Nat):Int)<((d+1:Nat):Int)),cond_false]
     .rw [C6 h1 ω]
    .rw [b,<-z]
     by_cases hk:k<a+d+1
     .rw [if_pos hk,if_pos hk,Nat.mul_comm (Rc a d k)]
     .rw [if_neg hk,if_neg ω,Aq2 ω]; simp
  .have:a=n+1:=ω
   subst this
   right
   have X:=y rfl
   refine ⟨Ls L h,?_,?_⟩
   .simp only [An (by omega:¬((n+1:Nat):Int)<((n+1:Nat):Int)),cond_false]
   .subst X
    refine Zj (Mt _ _) λk hk=>?_
    have:=z k
    rw [if_pos hk] at this
    rw [K7 _ hk,this]) (by
  rintro _ rfl
  refine ⟨_,Dl (Ai2 (n:=n+d) (f:=Gg (n+1) d f) ω (Mt _ _) (λk hk=>⟨_,K7 _ hk,Np.c (Y _ _ ω)⟩) ?_) rfl,rfl⟩
  have e:Gg (n+1) d f (n+d)=Gg n d f (n+d)+f n*Rc n d (n+d):=rfl
  have:=Nat.mul_pos (Nat.pos_of_ne_zero i) (Aq9 n d)
  omega)
 rw [<-Z]
 exact r1
end Go.Ab
namespace Go.Ab
open Go
theorem A26 (d x N:Nat) (f:Nat->Nat):∀M,(∀a,a<M->a+d<N)->sm N (λk=>Gg M d f k*bc x k)=sm M (λa=>f a*bc x a)*bc x d:=by
 intro M;induction M with
 | zero=>intro _; rw [Zf (λk _=>by simp [Gg,sm])]; simp [sm]
 | succ M ih=>
  intro h;have e:∀k,Gg (M+1) d f k*bc x k=Gg M d f k*bc x k+f M*(Rc M d k*bc x k):=λk=>by show (Gg M d f k+f M*Rc M d k)*bc x k=_;rw [Nat.add_mul,Nat.mul_assoc]
  rw [Zd (λk _=>e k),Ze,ih (λa ha=>h a ω),Aq0,Zh x M d N (h M ω)];show _=(sm M (λa=>f a*bc x a)+f M*bc x M)*bc x d;rw [Nat.add_mul,Nat.mul_assoc (f M)]
theorem A27 (d:Nat) (f:Nat->Nat) (k:Nat):∀{m n:Nat},m<=n->Gg m d f k<=Gg n d f k:=by
 intro m n h;induction n with
 | zero=>have:m=0:=ω;subst this; exact Nat.le_refl _
 | succ n ih=>
  rcases Nat.lt_or_ge m (n+1) with h' | h'
  .have:=ih ω;have e:Gg (n+1) d f k=Gg n d f k+f n*Rc n d k:=rfl;omega
  .have:m=n+1:=ω;subst this; exact Nat.le_refl _
def En (x:Nat):List A7->Nat
 | []=>1
 | a::l=>bc x a.Deg.toNat*En x l
def Cm:List A7->Nat
 | []=>0
 | a::l=>a.Deg.toNat+Cm l
theorem Ara (x:Nat) (l m:List A7):En x (l++m)=En x l*En x m:=by induction l with| nil=>simp [En]| cons a l ih=>simp only [List.cons_append,En,ih,Nat.mul_assoc]
theorem Nr (l m:List A7):Cm (l++m)=Cm l+Cm m:=by induction l with| nil=>simp [Cm]| cons a l ih=>simp only [List.cons_append,Cm,ih,Nat.add_assoc]
theorem Ai3 (x:Nat) {l m:List A7} (h:l.Perm m):En x l=En x m:=by induction h with| nil=>rfl| cons a _ ih=>simp only [En,ih]| swap a b l=>simp only [En]; rw [<-Nat.mul_assoc,<-Nat.mul_assoc,Nat.mul_comm (bc x b.Deg.toNat)]| trans _ _ h1 h2=>exact h1.trans h2
theorem V3 {l m:List A7} (h:l.Perm m):Cm l=Cm m:=by induction h with| nil=>rfl| cons a _ ih=>simp only [Cm,ih]| swap a b l=>simp only [Cm]; omega| trans _ _ h1 h2=>exact h1.trans h2
theorem A28 (x d:Nat):bc x d<=(x+1) ^ d:=Nat.le_trans (Aiv x d) (Nat.pow_le_pow_left ω d)
theorem Arb (x:Nat):∀l:List A7,En x l<=(x+1) ^ Cm l
 | []=>by simp [En,Cm]
 | a::l=>by simp only [En,Cm,Nat.pow_add];exact Nat.mul_le_mul (A28 x _) (Arb x l)
theorem Tb {x:Nat} {l:List A7} (hx:x<=1048576) (hd:Cm l<=12):En x l<Big:=by refine Nat.lt_of_le_of_lt (Arb x l) ?_;refine Nat.lt_of_le_of_lt (Nat.pow_le_pow_left (by omega:x+1<=1048577) _) ?_;exact Nat.lt_of_le_of_lt (Nat.pow_le_pow_right δ hd) δ
def PwN (l:List A7) (N:Nat) (f:Nat->Nat):Prop:=N=Cm l/\f N≠0/\∀x,sm (N+1) (λk=>f k*bc x k)=En x l
theorem PwN.le {l:List A7} {N:Nat} {f:Nat->Nat} (h:PwN l N f) {k:Nat} (hk:k<N+1):f k<=En k l:=by
 have h1:=h.2.2 k;have h2:f k*bc k k<=sm (N+1) (λj=>f j*bc k j):=by
  have:∀n,k<n->f k*bc k k<=sm n (λj=>f j*bc k j):=by
   intro n;induction n with
   | zero=>intro h; omega
   | succ n ih=>
    intro h;show _<=sm n _+f n*bc k n;rcases Nat.lt_or_ge k n with h' | h'
    .have:=ih h'; omega
    .have:k=n:=ω;subst this; omega
  exact this _ hk
 rw [Ms,Nat.mul_one] at h2;omega
theorem PwN.uniq {l m:List A7} {N M:Nat} {f g:Nat->Nat} (h:PwN l N f) (h':PwN m M g) (hp:l.Perm m):N=M/\∀k,k<N+1->f k=g k:=by
 have e:N=M:=by rw [h.1,h'.1,V3 hp]
 subst e;exact ⟨rfl,Aiy λn _=>by rw [h.2.2 n,h'.2.2 n,Ai3 n hp]⟩
theorem PwN.step {l:List A7} {N:Nat} {f:Nat->Nat} (h:PwN l N f) (a:A7):PwN (l++[a]) (N+a.Deg.toNat) (Gg (N+1) a.Deg.toNat f):=by
 refine ⟨by rw [Nr,h.1]; simp [Cm],?_,λx=>?_⟩
 .have e:Gg (N+1) a.Deg.toNat f (N+a.Deg.toNat)=Gg N a.Deg.toNat f (N+a.Deg.toNat)+f N*Rc N a.Deg.toNat (N+a.Deg.toNat):=rfl;have:=Nat.mul_pos (Nat.pos_of_ne_zero h.2.1) (Aq9 N a.Deg.toNat);omega
 .rw [A26 _ x _ f (N+1) (λb ha=>ω),h.2.2 x,Ara];simp [En]
theorem A29 (l:List A7) (x:l≠[]) (ht:∀a∈l,a.Lin.Terms.length≠0) (hd:∀a∈l,0<=a.Deg) (L:Cm l<=12) (M:l.length<=1000) : ∃N f,Me l=some (Ls (N+1) f)/\PwN l N f:=by
 have h0:Abx l=false:=by cases l with| nil=>exact (x rfl).elim| cons a J=>have:=ht a ψ;show (a.Lin.Terms.length==0)=false;simpa using this
 have h1:∃N f,Abw l=some (Ls (N+1) f)/\PwN l N f:=by
  unfold Abw;rw [Adp,Ad]
  suffices h:∃r,_/\∃N f,r=Ls (N+1) f/\PwN l N f by obtain ⟨r,E,N,f,D,B⟩:=h;exact ⟨N,f,by rw [<-D]; exact E,B⟩
  refine Fe (λs=>∃(i N:Nat) (f:Nat->Nat),s=(Ls (N+1) f,(i:Int))/\i<=l.length/\PwN (l.take i) N f) (λs=>l.length-s.2.toNat) (λe=>∃N f,e=Ls (N+1) f/\PwN l N f) ⟨0,0,λ_=>1,rfl,ω,by simp [PwN,Cm,En,sm,Kj]⟩ ?_ ?_
  .rintro _ ⟨i,N,f,rfl,hi,g⟩;rcases Nat.lt_or_ge i l.length with h | h
   .left;have hx:l[i]? = some l[i]:=Bv h;have b:=List.getElem_mem h;generalize l[i]=a at hx b;have R:=ht a b;have I:=hd a b;have A:Cm l=Cm (l.take i)+(a.Deg.toNat+Cm (l.drop (i+1))):=(by have:=Nr (l.take i) (l.drop i);rw [List.take_append_drop] at this;rw [this,Ij hx]; rfl);have S:=g.1;have w:Aa (a.Deg+1)=((a.Deg.toNat+1:Nat):Int):=(by rw [Aa,Bm] <;> omega);have G:Ae (List.replicate (a.Deg.toNat+1) (⟨false,[],[]⟩:Ar)) a.Deg=some ⟨false,[],[]⟩:=Ce (n:=a.Deg.toNat) ω ψ;have u:=g.step a;have hb:∀y k,y<=N+1->Gg y a.Deg.toNat f k<Big:=by
     intro y k ha';refine Nat.lt_of_le_of_lt (A27 _ f k ha') ?_;rcases Nat.lt_or_ge k (N+a.Deg.toNat+1) with hk | hk
     .refine Nat.lt_of_le_of_lt (u.le hk) (Tb ω ?_);rw [Nr]; simp only [Cm]; omega
     .have:Gg (N+1) a.Deg.toNat f k=0:=Zf λj hj=>by rw [Aq2 ω]; rfl
      rw [this]; decide
    have hm:=A25 (n:=N) (d:=a.Deg.toNat) (f:=f) (p:=Ls (N+1) f) (q:=B9 (List.replicate (a.Deg.toNat+1) ⟨false,[],[]⟩) a.Deg (cR 1)) ω rfl g.2.1 (by rw [Fh (n:=a.Deg.toNat) ω]; simp) (λk hk=>by
     rw [Fh (n:=a.Deg.toNat) ω];by_cases e:k=a.Deg.toNat
     .subst e;rw [if_pos rfl];exact ⟨_,List.getElem?_set_self ψ,Np.c δ⟩
     .rw [if_neg e,List.getElem?_set_ne ω];exact ⟨⟨false,[],[]⟩,by simp [hk],Np.z⟩) (λk hk=>Nat.lt_of_le_of_lt (g.le hk) (Tb ω ω)) hb
    refine ⟨(Ls (N+a.Deg.toNat+1) (Gg (N+1) a.Deg.toNat f),((i+1:Nat):Int)),?_,⟨i+1,_,_,rfl,ω,by rw [C8 hx]; exact u⟩,by simp; omega⟩;simp only [Aj (by omega:(i:Int)<(l.length:Int)),cond_true,Ce rfl hx,Ad,Ch (by omega:¬(a.Lin.Terms.length:Int)=0),cond_false,w,Ju rfl rfl (Nat.le_refl _) (by omega:56*(a.Deg.toNat+1)<=281474976710656) ω,Adp,G,hm,C6 h ω]
   .have:i=l.length:=ω;subst this;rw [List.take_length] at g;right;exact ⟨_,by simp only [An (by omega:¬(l.length:Int)<(l.length:Int)),cond_false],_,_,rfl,g⟩
  .rintro _ ⟨N,f,rfl,h⟩;exact ⟨_,rfl,N,f,rfl,h⟩
 obtain ⟨N,f,h2,h3⟩:=h1;refine ⟨N,f,?_,h3⟩;unfold Me;rw [h0,cond_false];exact h2
theorem A3a {c:Int} {d:Int} (hc:c<=1048576) (hd:0<=d) (b:d<=64):Oc c d=some (cR (bc c.toNat d.toNat),true):=by
 have h:=A2f c.toNat d.toNat ω ω;have e:((d.toNat:Nat):Int)=d:=ω;rw [e] at h;rw [<-h];unfold Oc;have f:(if c>(0:Int) then c else 0)=(if ((c.toNat:Nat):Int)>(0:Int) then ((c.toNat:Nat):Int) else 0):=by split <;> split <;> omega
 rw [f]
theorem A3b (l:List A7) {c:Int} (hc:c<=1048576) (ht:∀a∈l,a.Lin.Terms.length=0/\a.Lin.Const=c) (hd:∀a∈l,0<=a.Deg) (G:Cm l<=12) (I:l.length<=1000) :
  Me l=some [cR (En c.toNat l)]:=by
 have h1:Abv l=some [cR (En c.toNat l)]:=by
  unfold Abv
  rw [Adp,Ad]
  obtain ⟨r,B,A⟩:∃r,_/\r = [cR (En c.toNat l)]:=Fe (λs=>∃i:Nat,s=((i:Int),[cR (En c.toNat (l.take i))])/\i<=l.length) (λs=>l.length-s.1.toNat) (λe=>e = [cR (En c.toNat l)]) (J:=λo=>some o)
   (step:=λ(x:Int×List Ar)=>match x with
    | (g,f)=>
     bif g<(l.length:Int) then (
     (Ae l g).bind λb=>
     bif ((b.Lin.Terms.length:Int)==(0:Int)) then (
     (Oc b.Lin.Const b.Deg).bind λk=>
     (Ae f 0).bind λv20=>
     (Hj v20 k.1).bind λv21=>
     (Ae f 0).bind λv22=>
     some (.inl ((Aa (g+1)),(B9 f 0 v21)))
     )
     else (
     (Fj 56 (Aa (b.Deg+1)) (Aa (b.Deg+1)) ((Ar.mk false [] []):Ar)).bind λq=>
     (F3 1).bind λv25=>
     (Ae q b.Deg).bind λv26=>
     none
     )
     )
     else (
     some (.inr f)
     )) (s:=(0,[cR 1]))
   ⟨0,rfl,ω⟩ (by
   rintro _ ⟨i,rfl,hi⟩
   rcases Nat.lt_or_ge i l.length with h | h
   .left
    have hx:l[i]? = some l[i]:=Bv h
    have j:=List.getElem_mem h
    generalize l[i]=a at hx j
    obtain ⟨L,D⟩:=ht a j
    have y:=hd a j
    have e:Cm l=Cm (l.take i)+(a.Deg.toNat+Cm (l.drop (i+1))):=by
     have:=Nr (l.take i) (l.drop i)
     rw [List.take_append_drop] at this
     rw [this,Ij hx]; rfl
    have hb:En c.toNat (l.take i)<Big:=Tb ω ω
    have z:bc c.toNat a.Deg.toNat<Big:=by
     have:=Tb (x:=c.toNat) (l:=[a]) ω (by simp only [Cm]; omega)
     simpa [En] using this
    have u:Ae [cR (En c.toNat (l.take i))] 0=some (cR (En c.toNat (l.take i))):=rfl
    refine ⟨_,?_,⟨i+1,rfl,ω⟩,by simp; omega⟩
    simp only [Aj (by omega:(i:Int)<(l.length:Int)),cond_true,Ce rfl hx,Ad,Dw (by omega:(a.Lin.Terms.length:Int)=0),D,A3a hc y (by omega:a.Deg<=64),u,(Np.c hb).mul (Np.c z),C6 h ω]
    rw [C8 hx,Ara]
    simp [En,B9]
   .have:i=l.length:=ω
    subst this
    right
    exact ⟨[cR (En c.toNat (List.take l.length l))],by simp only [An (by omega:¬(l.length:Int)<(l.length:Int)),cond_false],by rw [List.take_length]⟩) (by
   rintro _ rfl
   exact ⟨_,rfl,rfl⟩)
  rw [<-A]
  exact B
 have h0:Abx l=true:=by
  cases l with
  | nil=>rfl
  | cons a E=>
   have:=(ht a ψ).1
   show (a.Lin.Terms.length==0)=true
   simpa using this
 unfold Me
 rw [h0,cond_true,h1]
end Go.Ab
namespace Go.Ab
open Go
noncomputable def Adt {α:Type} (cmp:α->α->Option Int) (a0:Int) (g:List α):Option (List α) := (Al (S:=(Int×Int×(List α))) (E:=(Int×Int×(List α))) (λ(v3,v4,i)=> bif v4<=a0 then ((Zi cmp v3 v4 i).bind λh=> (Gd g.length h).bind λl=> some (.inl (v4,(Aa (v4+20)),h))) else (some (.inr (v3,v4,i)))) (0,20,g)).bind λ(v8,v9,f)=> (Zi cmp v8 a0 f).bind λc=> (Gd g.length c).bind λv12=> (Al (S:=(Int×Int×Int)) (E:=Unit) (λ(b,k,j)=> bif b<a0 then ((Al (S:=Unit) (E:=Unit) (λ_=> bif (Aa (2*b))<=a0 then (none) else (some (.inr ()))) ()).bind λ_=> bif (Aa (0+b))<a0 then (none) else (some (.inl ((Aa (b*2)),0,(Aa (2*b)))))) else (some (.inr ()))) (20,v8,v9)).bind λ_=> some c
theorem Arc {α:Type} {cmp:α->α->Option Int} {c:α->α->Int} (L:O8 c) (f:List α) (g:∀x∈f,∀y∈f,cmp x y=some (c x y)) (h:f.length<20) : ∃R,Adt cmp (f.length:Int) f=some R/\R.Perm f/\R.Pairwise (λa b=>¬c b a<0):=by
 obtain ⟨R,h1,h2,h3⟩:=Aq5 L f g ω;refine ⟨R,?_,h2,h3⟩;unfold Adt;refine Dl (a:=(0,20,f)) (Cz ?_) ?_
 .simp only [An (by omega:¬(20:Int)<=(f.length:Int)),cond_false]
 .dsimp only;rw [h1,Ad,Oo h2.length_eq.symm,Ad];refine Dl (a:=()) (Cz ?_) rfl;simp only [An (by omega:¬(20:Int)<(f.length:Int)),cond_false]
theorem Qk:O8 E8 where
 irr x:=by rw [(H6.zero x x trivial trivial).2 rfl]; omega
 trs x y z h1 h2:=H6.trans x y z trivial trivial trivial h1 h2
 ntr x y z h1 h2 h3:=by
  rcases Int.lt_trichotomy (E8 x y) 0 with k | k | k
  .exact h1 k
  .have:=(H6.zero x y trivial trivial).1 k
   subst this; exact h2 h3
  .have b:E8 y x<0:=by rw [H6.anti x y trivial trivial]; omega
   exact h2 (H6.trans y x z trivial trivial trivial b h3)
theorem A3c:O8 (λa b:A7=>E8 a.Lin b.Lin):=⟨λ_=>Qk.irr _,λ_ _ _=>Qk.trs _ _ _,λ_ _ _=>Qk.ntr _ _ _⟩
def Adu (l:List A7):Prop:=l.Pairwise λa b=>¬E8 b.Lin a.Lin<0
theorem A3d (b:List A7) (ht:∀a∈b,a.Lin.Terms.length<1099511627776) (c:b.length<20):∃R,Uy b=some R/\R.Perm b/\Adu R:=by obtain ⟨R,h1,h2,h3⟩:=Arc (cmp:=Uz) A3c b (λx hx y _=>by unfold Uz;rw [Ac9 x.Lin y.Lin (ht x hx)]; rfl) c;refine ⟨R,?_,h2,h3⟩;unfold Uy;have e:Abj (b.length:Int) b=Adt Uz (b.length:Int) b:=rfl;rw [e,h1,Ad,Oo h2.length_eq.symm]; rfl
theorem A3e:Uw []=some []:=by obtain ⟨R,h1,h2,h3⟩:=Arc (cmp:=Xo) (c:=λ_ _=>0) ⟨λ_=>ω,λ_ _ _ h=>ω,λ_ _ _ _ _=>ω⟩ ([]:List B7) (λx hx=>by cases hx) ψ;have b:R = []:=List.Perm.eq_nil h2;subst b;unfold Uw;have e:Abi ((([]:List B7).length:Nat):Int) []=Adt Xo ((([]:List B7).length:Nat):Int) []:=rfl;rw [e,h1]; rfl
theorem Ai4 {α:Type} (n:Nat) (h:n<=1000000):M0 (α:=α) (n:Int)=some []:=by unfold M0;rw [Aj ω,Aj ω]; rfl
theorem A3f (a b:List A7) (h:a.length+b.length<=1000000):Abc [a,b]=some (a++b) := Ai0 (B:=40) δ (gr:=Abl) (λn h=>Ai4 n h) a b h
theorem A3g (a b:List B7) (h:a.length+b.length<=1000000):Abb [a,b]=some (a++b) := Ai0 (B:=40) δ (gr:=Abk) (λn h=>Ai4 n h) a b h
theorem Ard (m n:Ba) (h1:m.Factors.length+n.Factors.length<=1000000) (h2:m.Atoms.length+n.Atoms.length<=1000000):Pj m n=some ⟨m.Factors++n.Factors,m.Atoms++n.Atoms⟩:=by unfold Pj;rw [A3g _ _ h1,Ad,A3f _ _ h2]; rfl
def atO (l:Bb) (k:Nat):List A7:=if k=0 then [] else [⟨l,k⟩]
theorem A3h (l:Bb) (k:Nat):Rw l (k:Int)=some (atO l k):=by
 unfold Rw atO;by_cases h:k=0
 .rw [Dw ω,if_pos h]; rfl
 .rw [Ch ω,if_neg h]; rfl
theorem Are (l:Bb) (k:Nat):(atO l k).length<=1:=by unfold atO; split <;> simp
abbrev FS:={F:List B7 // F.length<=1000}
theorem A3i {t:Ah} {x:Ar} {K:Nat} {A B:List A7} {F:FS} (hm:t.Mono=⟨F.1,A⟩) (b:A.length+B.length<=1000000) (i:K<30000000000) (h1:RB K t.Coef) (h2:RB 200 x) : ∃u,N8 t x ⟨[],B⟩=some u/\u.Mono=⟨F.1,A++B⟩/\rq u.Coef=rq t.Coef*rq x/\RB (K+202) u.Coef:=by obtain ⟨c,h,g,_,f⟩:=Ah5 h1 h2 ω ω;refine ⟨⟨c,⟨F.1,A++B⟩⟩,?_,rfl,f,g⟩;unfold N8;have:=F.2;rw [h,Ad,hm,Ard _ _ (by simp; omega) b,List.append_nil]; rfl
abbrev Du:=List A7×Nat
inductive Gb (F:FS) (c:Rat) (K:Nat):List Ah->List Du->Prop
 | nil:Gb F c K [] []
 | cons {t:Ah} {b:Du} {ts:List Ah} {bs:List Du}:t.Mono=⟨F.1,b.1⟩->rq t.Coef=c*(b.2:Rat)->RB K t.Coef->Gb F c K ts bs->Gb F c K (t::ts) (b::bs)
theorem Gb.len {F:FS} {c:Rat} {K:Nat} {ts:List Ah} {bs:List Du} (h:Gb F c K ts bs):ts.length=bs.length:=by induction h with| nil=>rfl| cons _ _ _ _ ih=>simp [ih]
theorem Gb.app {F:FS} {c:Rat} {K:Nat} {ts f:List Ah} {bs cs:List Du} (h:Gb F c K ts bs) (h':Gb F c K f cs):Gb F c K (ts++f) (bs++cs):=by induction h with| nil=>exact h'| cons a b d _ ih=>exact .cons a b d ih
theorem Gb.mono {F:FS} {c:Rat} {K f:Nat} {ts:List Ah} {bs:List Du} (h:Gb F c K ts bs) (hk:K<=f):Gb F c f ts bs:=by induction h with| nil=>exact .nil| cons a b d _ ih=>exact .cons a b (d.mono hk) ih
theorem Gb.get {F:FS} {c:Rat} {K:Nat} {ts:List Ah} {bs:List Du} (h:Gb F c K ts bs):∀{j:Nat} {t:Ah},ts[j]? = some t->∃b,bs[j]? = some b/\t.Mono=⟨F.1,b.1⟩/\rq t.Coef=c*(b.2:Rat)/\RB K t.Coef:=by
 induction h with
 | nil=>intro j t h; simp at h
 | @cons t b ts bs a1 a2 a3 _ ih=>intro j u hj;cases j with| zero=>simp only [List.getElem?_cons_zero,Option.some.injEq] at hj;subst hj;exact ⟨b,rfl,a1,a2,a3⟩| succ j=>simp only [List.getElem?_cons_succ] at hj;simpa using ih hj
def fs0:FS:=⟨[],δ⟩
abbrev Rep (c:Rat) (K:Nat):List Ah->List Du->Prop:=Gb fs0 c K
def D7 (B:List Du) (l:Bb) (f:Nat->Nat) (n:Nat):List Du:=(List.range n).flatMap λk=>if f k=0 then [] else B.map λb=>(b.1++atO l k,b.2*f k)
theorem Lt (B:List Du) (l:Bb) (f:Nat->Nat) (n:Nat):D7 B l f (n+1)=D7 B l f n++(if f n=0 then [] else B.map λb=>(b.1++atO l n,b.2*f n)):=by unfold D7;rw [List.range_succ,List.flatMap_append]; simp
theorem Adv (B:List Du) (l:Bb) (f:Nat->Nat) (n:Nat):(D7 B l f n).length<=n*B.length:=by induction n with| zero=>simp [D7]| succ n ih=>rw [Lt,List.length_append,Nat.add_mul,Nat.one_mul];have:(if f n=0 then ([]:List Du) else B.map λb=>(b.1++atO l n,b.2*f n)).length<=B.length:=(by split <;> simp);omega
noncomputable def Zk (h:List Ah) (l:Bb) (k:Int) (x:Ar):Int×List Ah->Option ((Int×List Ah)⊕(Int×List Ah)):=λ(b,c)=> bif b<(h.length:Int) then ((Ae h b).bind λg=> (Rw l k).bind λv194=> (N8 g x (Ba.mk [] v194)).bind λf=> (Ca 104 c [f]).bind λi=> some (.inl ((Aa (b+1)),i))) else (some (.inr (b,c)))
theorem A3j {F:FS} {c:Rat} {K M:Nat} {g o:List Ah} {B:List Du} {l:Bb} {k f:Nat} {x:Ar} (z:Gb F c K g B) (hx:rq x=(f:Rat)) (q:RB 200 x) (S:K<30000000000) (R:∀b∈B,b.1.length<=M) (N:M<=1000) (hl:o.length+g.length<=1000000000) :
  ∃T,Al (Zk g l (k:Int) x) (0,o)=some ((g.length:Int),o++T)/\Gb F c (K+202) T (B.map λb=>(b.1++atO l k,b.2*f)):=by
 obtain ⟨e,X,T,V,U⟩:=Ib (step:=Zk g l (k:Int) x) (λs=>∃(j:Nat) (T:List Ah),s=((j:Int),o++T)/\j<=g.length/\T.length=j/\Gb F c (K+202) T ((B.take j).map λb=>(b.1++atO l k,b.2*f))) (λs=>g.length-s.1.toNat)
  (λe=>∃T,e=((g.length:Int),o++T)/\Gb F c (K+202) T (B.map λb=>(b.1++atO l k,b.2*f))) (by
  rintro _ ⟨j,T,rfl,hj,L,y⟩
  rcases Nat.lt_or_ge j g.length with h | h
  .left
   have i:g[j]? = some g[j]:=Bv h
   generalize g[j]=t at i
   obtain ⟨b,b1,b2,Z,Y⟩:=z.get i
   have J:=R b (Cd b1)
   have:=Are l k
   obtain ⟨u,I,G,E,D⟩:=A3i (A:=b.1) (B:=atO l k) b2 ω S Y q
   refine ⟨_,?_,⟨j+1,T++[u],rfl,ω,by simp [L],?_⟩,by simp; omega⟩
   .unfold Zk
    simp only [Aj (by omega:(j:Int)<(g.length:Int)),cond_true,Ce rfl i,Ad,A3h,I,C6 h ω]
    rw [C3 (by simp; omega),Ad,List.append_assoc]
   .rw [C8 b1,List.map_append]
    refine y.app (.cons G ?_ D .nil)
    rw [E,Z,hx]
    show _=c*((b.2*f:Nat):Rat)
    rw [Rat.natCast_mul]; grind
  .have:j=g.length:=ω
   subst this
   right
   refine ⟨_,by unfold Zk; simp only [An (by omega:¬(g.length:Int)<(g.length:Int)),cond_false],T,rfl,?_⟩
   rw [List.take_of_length_le (by rw [z.len]; exact Nat.le_refl _)] at y
   exact y) (0,o) ⟨0,[],ψ,ω,rfl,.nil⟩
 exact ⟨T,by rw [<-V]; exact X,U⟩
end Go.Ab
namespace Go.Ab
open Go
noncomputable def Adw (g:List Ah) (l:Bb) (p:List Ar):Int×List Ah->Option ((Int×List Ah)⊕(Int×List Ah)):=λ(v173,b)=> bif v173<(p.length:Int) then ((Ae p v173).bind λv175=> (Ix v175).bind λc=> bif (c==(0:Int)) then (some (.inl ((Aa (v173+1)),b))) else ((Al (Zk g l v173 v175) (0,b)).bind λ(h,f)=> some (.inl ((Aa (v173+1)),f)))) else (some (.inr (v173,b)))
theorem A3k {F:FS} {c:Rat} {K M n:Nat} {g:List Ah} {B:List Du} {l:Bb} {f:Nat->Nat} (z:Gb F c K g B) (I:∀k,k<n->f k<Big) (N:K<30000000000) (L:∀b∈B,b.1.length<=M) (y:M<=1000) (Y:n<=1000) (Z:g.length<=1000000) :
  ∃T,Al (Adw g l (Ls n f)) (0,[])=some ((n:Int),T)/\Gb F c (K+202) T (D7 B l f n):=by
 obtain ⟨e,X,T,V,S⟩:=Ib (step:=Adw g l (Ls n f)) (λs=>∃(j:Nat) (T:List Ah),s=((j:Int),T)/\j<=n/\Gb F c (K+202) T (D7 B l f j)) (λs=>n-s.1.toNat)
  (λe=>∃T,e=((n:Int),T)/\Gb F c (K+202) T (D7 B l f n)) (by
  rintro _ ⟨j,T,rfl,hj,q⟩
  unfold Adw
  rw [Mt]
  rcases Nat.lt_or_ge j n with h | h
  .left
   have D:=Adv B l f j
   have J:=q.len
   have R:=z.len
   have A:j*B.length<=1000*1000000:=Nat.mul_le_mul ω ω
   have x:j*B.length+B.length<=1000*B.length:=by
    have:(j+1)*B.length<=1000*B.length:=Nat.mul_le_mul_right _ ω
    rw [Nat.add_mul] at this; omega
   have i:=I j h
   simp only [Aj (by omega:(j:Int)<(n:Int)),cond_true,Ce rfl (K7 f h),Ad,(Np.c i).sign,C6 h ω]
   by_cases h0:f j=0
   .refine ⟨_,by rw [if_pos h0]; rfl,⟨j+1,T,rfl,ω,?_⟩,by simp; omega⟩
    rw [Lt,if_pos h0,List.append_nil]; exact q
   .have u:RB 200 (cR (f j)):=(Np.c i).rb
    obtain ⟨U,G,E⟩:=A3j (o:=T) (l:=l) (k:=j) (f:=f j) z (Ta (f j)) u N L y ω
    refine ⟨_,by rw [if_neg h0,G]; rfl,⟨j+1,T++U,rfl,ω,?_⟩,by simp; omega⟩
    rw [Lt,if_neg h0]
    exact q.app E
  .have:j=n:=ω
   subst this
   right
   exact ⟨_,by simp only [An (by omega:¬(j:Int)<(j:Int)),cond_false],T,rfl,q⟩) (0,[]) ⟨0,[],rfl,ω,.nil⟩
 exact ⟨T,by rw [<-V]; exact X,S⟩
def Pw (l:Bb) (N:Nat) (f:Nat->Nat) (g:List A7):Prop:=(l.Terms.length≠0/\PwN g N f)\/(l.Terms.length=0/\N=0/\f 0=En l.Const.toNat g)
abbrev Grp:=Bb×Nat×(Nat->Nat)
inductive Gs:List Grp->List A7->Prop
 | nil:Gs [] []
 | cons {l:Bb} {N:Nat} {f:Nat->Nat} {g rest:List A7} {gs:List Grp}:g≠[]->(∀a∈g,a.Lin=l)->(∀a∈rest,E8 l a.Lin<0)->Pw l N f g->Gs gs rest->Gs ((l,N,f)::gs) (g++rest)
def Kk (B:List Du):List Grp->List Du
 | []=>B
 | q::gs=>Kk (D7 B q.1 q.2.2 (q.2.1+1)) gs
structure Atk (A:List A7):Prop where
 deg:∀a∈A,0<=a.Deg
 lin:∀a∈A,C2 a.Lin=true
 sum:Cm A<=12
 len:A.length<=12
theorem Kl {a:Bb} (h:C2 a=true):a.Terms.length<=16/\-1048576<=a.Const/\a.Const<=1048576:=by unfold C2 at h;simp only [Dj,decide_eq_true_eq] at h;exact ⟨h.1.2.2,h.1.1,h.1.2.1⟩
theorem Atk.sub {A B:List A7} (h:Atk (A++B)):Atk A/\Atk B:=by have h1:=h.sum;have h2:=h.len;rw [Nr] at h1;rw [List.length_append] at h2;exact ⟨⟨λa ha=>h.deg a (by simp [ha]),λa ha=>h.lin a (by simp [ha]),ω,ω⟩,⟨λa ha=>h.deg a (by simp [ha]),λa ha=>h.lin a (by simp [ha]),ω,ω⟩⟩
theorem A3l {l:Bb} {g:List A7} (hk:Atk g) (b:g≠[]) (j:∀a∈g,a.Lin=l):∃N f,Me g=some (Ls (N+1) f)/\Pw l N f g/\N<=Cm g/\∀k,k<N+1->f k<Big:=by
 have s:=hk.len;have q:=hk.sum;obtain ⟨a,ha⟩:∃a,a∈g:=by cases g with| nil=>exact (b rfl).elim| cons a _=>exact ⟨a,ψ⟩
 have c:=hk.lin a ha;rw [j a ha] at c;have hc:=(Kl c).2.2;by_cases h:l.Terms.length=0
 .have h1:=A3b g hc (λa ha=>by rw [j a ha]; exact ⟨h,rfl⟩) hk.deg hk.sum ω;exact ⟨0,λ_=>En l.Const.toNat g,h1,.inr ⟨h,rfl,rfl⟩,ω,λk _=>Tb ω q⟩
 .obtain ⟨N,f,h1,h2⟩:=A29 g b (λa ha=>by rw [j a ha]; exact h) hk.deg hk.sum ω;refine ⟨N,f,h1,.inl ⟨h,h2⟩,by rw [h2.1]; exact Nat.le_refl _,λk i=>Nat.lt_of_le_of_lt (h2.le i) (Tb ?_ q)⟩;have:=h2.1;omega
noncomputable def Adx (r:List A7) (l:Bb):Int->Option (Int⊕Int):=λb=> bif b<(r.length:Int) then ((Ae r b).bind λv117=> (Lk v117.Lin l).bind λc=> bif (c==(0:Int)) then (some (.inl (Aa (b+1)))) else (some (.inr b))) else (some (.inr b))
theorem A3m {r:List A7} {a:A7} (h0:r[0]? = some a) (ht:∀b∈r,b.Lin.Terms.length<1099511627776) (q:r.length<=1000) :
  ∃n:Nat,Al (Adx r a.Lin) 1=some (n:Int)/\1<=n/\n<=r.length/\(∀b∈r.take n,b.Lin=a.Lin)/\∀b,r[n]? = some b->b.Lin≠a.Lin:=by
 have hpos:=Dx h0
 obtain ⟨e,l,n,k,i⟩:=Ib (step:=Adx r a.Lin) (λs=>∃n:Nat,s=(n:Int)/\1<=n/\n<=r.length/\∀b∈r.take n,b.Lin=a.Lin) (λs=>r.length-s.toNat)
  (λe=>∃n:Nat,e=(n:Int)/\1<=n/\n<=r.length/\(∀b∈r.take n,b.Lin=a.Lin)/\∀b,r[n]? = some b->b.Lin≠a.Lin) (by
  rintro _ ⟨j,rfl,g,f,c⟩
  unfold Adx
  rcases Nat.lt_or_ge j r.length with h | h
  .have hx:r[j]? = some r[j]:=Bv h
   have hm:=List.getElem_mem h
   generalize r[j]=b at hx hm
   simp only [Aj (by omega:(j:Int)<(r.length:Int)),cond_true,Ce rfl hx,Ad,Ac9 _ _ (ht b hm),C6 h ω]
   by_cases hc:b.Lin=a.Lin
   .left
    rw [Dw ((H6.zero _ _ trivial trivial).2 hc)]
    refine ⟨_,rfl,⟨j+1,rfl,ω,ω,λd hd=>?_⟩,ω⟩
    rw [C8 hx] at hd
    rcases List.mem_append.1 hd with hd | hd
    .exact c d hd
    .simp only [List.mem_singleton] at hd
     rw [hd]; exact hc
   .right
    rw [Ch (λh=>hc ((H6.zero _ _ trivial trivial).1 h))]
    exact ⟨_,rfl,j,rfl,g,f,c,λd hd=>by rw [hx] at hd; cases hd; exact hc⟩
  .right
   refine ⟨_,by simp only [An (by omega:¬(j:Int)<(r.length:Int)),cond_false],j,rfl,g,f,c,λd hd=>?_⟩
   have:=Dx hd
   omega) 1 ⟨1,rfl,ω,ω,λb hb=>by
    cases r with
    | nil=>simp at hpos
    | cons x r=>simp at hb h0; rw [hb,h0]⟩
 exact ⟨n,by rw [<-k]; exact l,i⟩
noncomputable def Zl:(List Ah×List A7)->Option ((List Ah×List A7)⊕List Ah):=λ(g,b)=> bif (b.length:Int)>(0:Int) then ((Ae b 0).bind λf=> (Al (Adx b f.Lin) 1).bind λc=> (Fy b 0 c).bind λi=> (Me i).bind λh=> (Al (Adw g f.Lin h) (0,[])).bind λ(k,j)=> (Fy b c b.length).bind λv201=> some (.inl (j,v201))) else (some (.inr g))
theorem A3n (n:Nat):n+1<=2 ^ n:=by induction n with| zero=>decide| succ n ih=>rw [Nat.pow_succ]; omega
theorem Arf {B:List Du} {l:Bb} {f:Nat->Nat} {n M:Nat} (c:∀b∈B,b.1.length<=M):∀b∈D7 B l f n,b.1.length<=M+1:=by
 intro b hb;unfold D7 at hb;rw [List.mem_flatMap] at hb;obtain ⟨k,_,hk⟩:=hb;split at hk
 .cases hk
 .rw [List.mem_map] at hk;obtain ⟨d,hd,rfl⟩:=hk;have:=c d hd;have:=Are l k;simp only [List.length_append]; omega
theorem A3o {F:FS} {c:Rat}:∀(n:Nat) (rest:List A7) (j:List Ah) (B:List Du) (K M:Nat),rest.length<=n->Adu rest->Atk rest->Gb F c K j B->(∀b∈B,b.1.length<=M)->M+rest.length<=1000->K+202*rest.length<30000000000->B.length*2 ^ Cm rest<=1000000 -> ∃gs i,Al Zl (j,rest)=some i/\Gs gs rest/\Gb F c (K+202*rest.length) i (Kk B gs)/\i.length<=B.length*2 ^ Cm rest:=by
 intro n;induction n with
 | zero=>intro rest j B K M hn _ _ A _ _ _ _;have:rest = []:=List.length_eq_zero_iff.1 ω;subst this;exact ⟨[],j,Cz (by unfold Zl; simp),.nil,by simpa [Kk] using A,by rw [A.len]; simp [Cm]⟩
 | succ n ih=>
  intro rest j B K M hn hS R A hM ae hK E;cases g:rest with
  | nil=>exact ⟨[],j,Cz (by unfold Zl; simp),.nil,by simpa [Kk] using A.mono ω,by rw [A.len]; simp [Cm]⟩
  | cons a r'=>
   rw [<-g];have h0:rest[0]? = some a:=(by rw [g]; rfl);have ab:0<rest.length:=Dx h0;have hT:∀b∈rest,b.Lin.Terms.length<1099511627776:=λb hb=>by have:=(Kl (R.lin b hb)).1; omega
   have af:=R.len;obtain ⟨m,m1,m2,m3,m4,m5⟩:=A3m h0 hT ω;have u:rest=rest.take m++rest.drop m:=(List.take_append_drop m rest).symm;have L:=(u ▸ R:Atk (rest.take m++rest.drop m)).sub;have y:rest.take m≠[]:=(by intro h;have:=congrArg List.length h;rw [List.length_take] at this;simp only [List.length_nil] at this;omega);obtain ⟨N,f,p1,p2,p3,p4⟩:=A3l L.1 y m4;have Z:Cm rest=Cm (rest.take m)+Cm (rest.drop m):=(by rw [<-Nr,List.take_append_drop]);have ac:=R.sum;have U:2 ^ Cm rest=2 ^ Cm (rest.take m)*2 ^ Cm (rest.drop m):=(by rw [Z,Nat.pow_add]);have aa:B.length<=1000000:=Nat.le_trans (Nat.le_mul_of_pos_right _ (Nat.pow_pos δ)) E;obtain ⟨T,t1,t2⟩:=A3k (l:=a.Lin) (n:=N+1) A p4 ω hM ω ω (by rw [A.len]; exact aa);have z:Zl (j,rest)=some (.inl (T,rest.drop m)):=(by have Y:Ae rest 0=some a:=Ce (n:=0) rfl h0;have S:Fy rest (m:Int) (rest.length:Int)=some (rest.drop m):=(by unfold Fy;simp [List.drop_take];omega);unfold Zl;simp only [Aj (by omega:(rest.length:Int)>0),cond_true,Y,Ad,m1,Yl rfl m3,p1,t1,S]);have ad:(rest.drop m).length+m=rest.length:=(by rw [List.length_drop]; omega);have a8:=Adv B a.Lin f (N+1);have J:(N+1)*B.length<=B.length*2 ^ Cm (rest.take m):=(by rw [Nat.mul_comm];refine Nat.mul_le_mul_left _ (Nat.le_trans (A3n N) (Nat.pow_le_pow_right δ p3)));have x:(D7 B a.Lin f (N+1)).length*2 ^ Cm (rest.drop m)<=B.length*2 ^ Cm rest:=(by rw [U,<-Nat.mul_assoc];exact Nat.mul_le_mul_right _ (Nat.le_trans a8 J));obtain ⟨gs,i,g1,g2,g3,g4⟩:=ih (rest.drop m) T (D7 B a.Lin f (N+1)) (K+202) (M+1) ω (List.Pairwise.sublist (List.drop_sublist m rest) hS) L.2 t2 (Arf hM) ω ω (Nat.le_trans x E);refine ⟨(a.Lin,N,f)::gs,i,by rw [Ft z,g1],?_,g3.mono ω,Nat.le_trans g4 x⟩;have X:∀b∈rest.drop m,E8 a.Lin b.Lin<0:=by
    intro b hb;cases hd:rest.drop m with
    | nil=>rw [hd] at hb; cases hb
    | cons d D=>
     have q:rest[m]? = some d:=(by have:=congrArg (λl=>l[0]?) hd;simpa using this);have a6:=m5 d q;have a7:¬E8 d.Lin a.Lin<0:=(by have I:=hS;rw [g] at I;have a1:d∈r':=(by have:=Cd q;have V:m=(m-1)+1:=ω;rw [g,V,List.getElem?_cons_succ] at q;exact Cd q);exact (List.pairwise_cons.1 I).1 d a1);have s:E8 a.Lin d.Lin<0:=by
      rcases Int.lt_trichotomy (E8 d.Lin a.Lin) 0 with k | k | k
      .exact (a7 k).elim
      .exact (a6 ((H6.zero _ _ trivial trivial).1 k)).elim
      .rw [H6.anti d.Lin a.Lin trivial trivial]; omega
     rw [hd] at hb;rcases List.mem_cons.1 hb with rfl | hb
     .exact s
     .have G:Adu (rest.drop m):=List.Pairwise.sublist (List.drop_sublist m rest) hS;rw [hd] at G;have h3:=(List.pairwise_cons.1 G).1 b hb;rcases Int.lt_trichotomy (E8 b.Lin d.Lin) 0 with k | k | k
      .exact (h3 k).elim
      .rw [(H6.zero _ _ trivial trivial).1 k]; exact s
      .exact H6.trans a.Lin d.Lin b.Lin trivial trivial trivial s (by rw [H6.anti b.Lin d.Lin trivial trivial]; omega)
   have:=Gs.cons y m4 X p2 g2;rwa [List.take_append_drop] at this
end Go.Ab
namespace Go.Ab
open Go
theorem Ai5 {B:List Du} {l:Bb} {f g:Nat->Nat}:∀{n:Nat},(∀k,k<n->f k=g k)->D7 B l f n=D7 B l g n
 | 0,_=>rfl
 | n+1,h=>by rw [Lt,Lt,Ai5 λk hk=>h k ω,h n ω]
theorem Pw.uniq {l:Bb} {N M:Nat} {f g:Nat->Nat} {A b:List A7} (h:Pw l N f A) (h':Pw l M g b) (hp:A.Perm b):N=M/\∀k,k<N+1->f k=g k:=by
 rcases h with ⟨a1,a2⟩ | ⟨a1,a2,a3⟩
 .rcases h' with ⟨_,b2⟩ | ⟨b1,_,_⟩
  .exact a2.uniq b2 hp
  .exact (a1 b1).elim
 .rcases h' with ⟨b1,_⟩ | ⟨_,b2,c⟩
  .exact (b1 a1).elim
  .refine ⟨ω,λk hk=>?_⟩;have:k=0:=ω;subst this;rw [a3,c,Ai3 _ hp]
theorem Ai6 (l:Bb):¬E8 l l<0:=Qk.irr l
theorem A3p {α:Type} {p:α->Bool} {g r c b:List α} (h:(g++r).Perm (c++b)) (h1:∀a∈g,p a=true) (h2:∀a∈r,p a=false) (h3:∀a∈c,p a=true) (j:∀a∈b,p a=false):g.Perm c/\r.Perm b:=by
 have s:(g++r).filter p=g:=by rw [List.filter_append,List.filter_eq_self.2 h1,List.filter_eq_nil_iff.2 (λa ha=>by rw [h2 a ha]; decide),List.append_nil]
 have q:(c++b).filter p=c:=by rw [List.filter_append,List.filter_eq_self.2 h3,List.filter_eq_nil_iff.2 (λa ha=>by rw [j a ha]; decide),List.append_nil]
 have l:(g++r).filter (λa=>!p a)=r:=by have i:g.filter (λa=>!p a) = []:=List.filter_eq_nil_iff.2 (λa ha=>by rw [h1 a ha]; decide);have f:r.filter (λa=>!p a)=r:=List.filter_eq_self.2 (λa ha=>by rw [h2 a ha]; rfl);rw [List.filter_append,i,f,List.nil_append]
 have k:(c++b).filter (λa=>!p a)=b:=by have i:c.filter (λa=>!p a) = []:=List.filter_eq_nil_iff.2 (λa ha=>by rw [h3 a ha]; decide);have f:b.filter (λa=>!p a)=b:=List.filter_eq_self.2 (λa ha=>by rw [j a ha]; rfl);rw [List.filter_append,i,f,List.nil_append]
 refine ⟨?_,?_⟩
 .rw [<-s,<-q]; exact h.filter p
 .rw [<-l,<-k]; exact h.filter _
theorem Gs.det:∀{u:List Grp} {A:List A7},Gs u A->∀{c:List Grp} {y:List A7},Gs c y->A.Perm y->∀B,Kk B u=Kk B c:=by
 intro u A h;induction h with
 | nil=>intro c y h' hp B;cases h' with| nil=>rfl| cons i _ _ _ _=>exact (i (List.append_eq_nil_iff.1 hp.symm.eq_nil).1).elim
 | @cons l N f g rest u i x I M V ih=>
  intro c y h' hp B;cases h' with
  | nil=>exact (i (List.append_eq_nil_iff.1 hp.eq_nil).1).elim
  | @cons J X R E k c s j q z D=>
   have L:l=J:=by
    obtain ⟨a,ha⟩:∃a,a∈g:=(by cases g with| nil=>exact (i rfl).elim| cons a _=>exact ⟨a,ψ⟩);obtain ⟨b,hb⟩:∃b,b∈E:=(by cases E with| nil=>exact (s rfl).elim| cons a _=>exact ⟨a,ψ⟩);have ha':a∈E++k:=hp.mem_iff.1 (by simp [ha]);have hb':b∈g++rest:=hp.mem_iff.2 (by simp [hb]);rcases List.mem_append.1 ha' with ha' | ha'
    .rw [<-x a ha,j a ha']
    .rcases List.mem_append.1 hb' with hb' | hb'
     .rw [<-x b hb',j b hb]
     .have h1:=q a ha';have h2:=I b hb';rw [x a ha] at h1;rw [j b hb] at h2;exact (Ai6 l (Qk.trs _ _ _ h2 h1)).elim
   subst L;have G:=A3p (p:=λa:A7=>decide (E8 a.Lin l=0)) hp (λa ha=>by rw [x a ha]; exact decide_eq_true ((H6.zero l l trivial trivial).2 rfl))
    (λa ha=>decide_eq_false λh=>by have h1:=I a ha; rw [(H6.zero _ _ trivial trivial).1 h] at h1; exact Ai6 l h1)
    (λa ha=>by rw [j a ha]; exact decide_eq_true ((H6.zero l l trivial trivial).2 rfl)) (λa ha=>decide_eq_false λh=>by have h1:=q a ha; rw [(H6.zero _ _ trivial trivial).1 h] at h1; exact Ai6 l h1);obtain ⟨U,S⟩:=M.uniq z G.1;subst U;show Kk (D7 B l f (N+1)) u=Kk (D7 B l R (N+1)) c;rw [Ai5 S];exact ih D G.2 _
def IsE (A:List A7) (B:List Du):Prop:=∃gs b,b.Perm A/\Adu b/\Gs gs b/\B=Kk [([],1)] gs
theorem IsE.det {A c:List A7} {B b:List Du} (h:IsE A B) (h':IsE c b) (hp:A.Perm c):B=b:=by obtain ⟨gs,C,j,_,i,rfl⟩:=h;obtain ⟨k,l,g,_,f,rfl⟩:=h';exact i.det f (j.trans (hp.trans g.symm)) _
theorem Ai7 {c:Ar} {K:Nat} {A:List A7} (hc:RB K c) (I:K<20000000000) (h0:rq c≠0) (i:Atk A) (b1:List (ByteArray×Int)) (b2:List (ByteArray×List Cs)) (data:List A3) (vars:List Ai) (D z:Int) (y:List Ai) : ∃out B,Uo c ⟨[],A⟩ b1 b2 data vars D z y=some (out,0,b1,b2)/\IsE A B/\Rep (rq c) (K+2424) out B/\out.length<=2 ^ Cm A:=by
 have E:∀b∈A,b.Lin.Terms.length<1099511627776:=λb hb=>by have:=(Kl (i.lin b hb)).1; omega
 have s:=i.len;have q:=i.sum;obtain ⟨S,x,g,u⟩:=A3d A E ω;have f:Atk S:=⟨λa ha=>i.deg a (g.mem_iff.1 ha),λa ha=>i.lin a (g.mem_iff.1 ha),by rw [V3 g]; exact q,by rw [g.length_eq]; exact s⟩;have hp:2 ^ Cm S<=4096:=Nat.le_trans (Nat.pow_le_pow_right δ f.sum) δ;obtain ⟨gs,out,g1,g2,g3,g4⟩:=A3o (F:=fs0) (c:=rq c) S.length S [⟨c,⟨[],[]⟩⟩] [([],1)] K 0 (Nat.le_refl _) u f (.cons rfl ψ hc .nil) (λb hb=>by simp only [List.mem_singleton] at hb; subst hb; simp) (by have:=f.len; omega) (by have:=f.len; omega) (by simp only [List.length_singleton,Nat.one_mul]; omega);have G:=f.len;refine ⟨out,_,?_,⟨gs,S,g,u,g2,rfl⟩,g3.mono ω,by rw [<-V3 g]; simpa using g4⟩;unfold Uo;have j:Kh (rq c)≠0:=by
  unfold Kh;split
  .decide
  .split
   .decide
   .rename_i h1 h2;exact (h0 (by grind)).elim
 rw [(S5 hc ω).1,Ad,Ch j,cond_false];have l:Ux A=some ([],A):=by unfold Ux Nz;rw [C3 (by simp; omega)]; rfl
 have h:Xn []=some ([],[]):=rfl;rw [h,Ad];dsimp only;rw [A3e,Ad];have k:Gd (α:=B7) ([]:List B7).length []=some ():=rfl;rw [k,Ad];refine Dl (a:=.inr ([⟨c,⟨[],[]⟩⟩],b1,b2)) (Cz ψ) ?_;dsimp only;rw [l,Ad];dsimp only;rw [x,Ad,Oo g.length_eq.symm,Ad];exact Dl g1 rfl
end Go.Ab
namespace Go.Ab
open Go
def Ai8 (vars:List Ai) (res:Ai) (L:List A7):Prop:=L.Pairwise (λa b=>E8 a.Lin b.Lin<0)/\∀a∈L,1<=a.Deg/\C2 a.Lin=true/\a.Lin.Terms.length≠0/\Ea vars res a.Lin=true
theorem Ady (l m:List A7):Cb (l++m)=Cb l+Cb m:=by unfold Cb; simp [List.sum_append]
theorem Arg {vars:List Ai} {res:Ai}:∀{u:List Grp} {rest:List A7},Gs u rest->(∀a∈rest,C2 a.Lin=true/\Ea vars res a.Lin=true) -> ∀(B:List Du) (S:Int),(∀b∈B,Ai8 vars res b.1/\Cb b.1<=S/\∀a∈b.1,∀r∈rest,E8 a.Lin r.Lin<0)->∀b∈Kk B u,Ai8 vars res b.1/\Cb b.1<=S+(Cm rest:Nat):=by
 intro u rest h;induction h with
 | nil=>intro _ B S z b hb; have:=z b hb; exact ⟨this.1,by have:=this.2.1; omega⟩
 | @cons l N f g rest u x I E J R ih=>
  intro A B S z;obtain ⟨a0,j⟩:∃a,a∈g:=(by cases g with| nil=>exact (x rfl).elim| cons a _=>exact ⟨a,ψ⟩);have s:=I a0 j;have q:=A a0 (by simp [j]);rw [s] at q;have L:∀k,k<N+1->k≠0->l.Terms.length≠0/\k<=Cm g:=by
   intro k hk G;rcases J with ⟨h1,h2⟩ | ⟨_,h2,_⟩
   .exact ⟨h1,by rw [<-h2.1]; omega⟩
   .omega
  intro b hb;have:=ih (λa ha=>A a (by simp [ha])) (D7 B l f (N+1)) (S+(Cm g:Nat)) (by
   intro b hb;unfold D7 at hb;rw [List.mem_flatMap] at hb;obtain ⟨k,i,hk⟩:=hb;have i:=List.mem_range.1 i;split at hk
   .cases hk
   .rw [List.mem_map] at hk;obtain ⟨d,hd,rfl⟩:=hk;obtain ⟨d1,d2,d3⟩:=z d hd;have y:∀a∈d.1,E8 a.Lin l<0:=λa ha=>by have:=d3 a ha a0 (by simp [j]); rwa [s] at this
    unfold atO;by_cases h0:k=0
    .rw [if_pos h0,List.append_nil];exact ⟨d1,by show Cb d.1<=S+((Cm g:Nat):Int); omega,λa ha r c=>d3 a ha r (by simp [c])⟩
    .rw [if_neg h0];obtain ⟨D,M⟩:=L k i h0;refine ⟨⟨List.pairwise_append.2 ⟨d1.1,List.pairwise_singleton _ _,λa ha b hb=>?_⟩,λa ha=>?_⟩,?_,λa ha r c=>?_⟩
     .simp only [List.mem_singleton] at hb;subst hb; exact y a ha
     .rcases List.mem_append.1 ha with ha | ha
      .exact d1.2 a ha
      .simp only [List.mem_singleton] at ha;subst ha;exact ⟨by show (1:Int)<=(k:Int); omega,q.1,D,q.2⟩
     .show Cb (d.1++[⟨l,k⟩])<=_;rw [Ady];have:Cb [(⟨l,(k:Int)⟩:A7)]=(k:Int):=(by simp [Cb]);omega
     .rcases List.mem_append.1 ha with ha | ha
      .exact d3 a ha r (by simp [c])
      .simp only [List.mem_singleton] at ha;subst ha;exact E r c) b hb
  refine ⟨this.1,?_⟩;rw [Nr];have:=this.2;omega
theorem A3q {x:Bk} {L:List A7} (h:Ai8 x.Vars x.Res L) (s:Cb L<=6):G6 x ⟨[],L⟩:=by
 have i:(L.length:Int)<=Cb L:=by have key:∀l:List A7,(∀a∈l,1<=a.Deg)->(l.length:Int)<=Cb l:=(by intro l;induction l with| nil=>intro _; simp [Cb]| cons f fs ih=>intro c;have h1:=c f ψ;have h2:=ih (λg u=>c g (by simp [u]));unfold Cb at *;simp only [List.map_cons,List.sum_cons,List.length_cons]; omega);exact key _ λa ha=>(h.2 a ha).1
 constructor
 .unfold Hh;have k:L.zipIdx.all (λq=>Ik x.Vars x.Res L q.1 q.2)=true:=(by rw [List.all_eq_true];rintro ⟨a,j⟩ hq;have hj:L[j]? = some a:=List.mk_mem_zipIdx_iff_getElem?.1 hq;obtain ⟨h1,h2,h3,y⟩:=h.2 a (Cd hj);show Ik x.Vars x.Res L a j=true;unfold Ik;have hp:Nm L a j=true:=(by unfold Nm;cases j with| zero=>rfl| succ j=>have c:=Dx hj;have hy:L[j]? = some L[j]:=Bv ω;have b:=List.pairwise_iff_getElem.1 h.1 j (j+1) ω c ω;have e:L[j+1]=a:=(by have:=Bv c;rw [hj] at this; exact (Option.some.inj this).symm);rw [e] at b;simp only [Nat.add_sub_cancel,hy,Bool.or_eq_true];exact .inr (decide_eq_true b));rw [hp,Aj h1,h2,y];simp only [Bool.true_and,Bool.and_true,Bool.not_eq_true',beq_eq_false_iff_ne,ne_eq];exact h3);show (([]:List B7).zipIdx.all _&&L.zipIdx.all (λq=>Ik x.Vars x.Res L q.1 q.2)&&decide (D4 x.Data x.Vars x.Res []+Cb L<=6))=true;rw [k];have:D4 x.Data x.Vars x.Res []=0:=rfl;rw [this];simp;exact s
 .exact ⟨ψ,by show L.length<=1048576; omega,(λ_ h=>by cases h),(λ_ h=>by cases h),λa ha=>by have:=(Kl (h.2 a ha).2.1).1; omega⟩
def ec:List Du->Ba->Nat
 | [],_=>0
 | b::bs,m=>(if C4 ⟨[],b.1⟩ m=0 then b.2 else 0)+ec bs m
theorem Rep.cf {c:Rat} {K:Nat} {ts:List Ah} {bs:List Du} (h:Rep c K ts bs) (m:Ba):Ab.cf ts m=c*(ec bs m:Rat):=by
 induction h with
 | nil=>simp only [Ab.cf,ec]; grind
 | @cons t b ts bs a1 a2 a3 _ ih=>
  have a1:t.Mono=⟨[],b.1⟩:=a1;simp only [Ab.cf,ec,ih,a1];rw [Rat.natCast_add];split
  .rw [a2]; grind
  .grind
theorem Rep.mem {c:Rat} {K:Nat} {ts:List Ah} {bs:List Du} (h:Rep c K ts bs) {t:Ah} (ht:t∈ts):∃b∈bs,t.Mono=⟨[],b.1⟩/\rq t.Coef=c*(b.2:Rat)/\RB K t.Coef:=by obtain ⟨j,hj⟩:=List.getElem?_of_mem ht;obtain ⟨b,b1,b2⟩:=h.get hj;exact ⟨b,Cd b1,b2⟩
def Zm (L:Nat) (p:List Ah):Prop:=∀t∈p,∃z:Int,rq t.Coef=(z:Rat)/\Bi z.natAbs<=L
theorem Arh {a:Ar} {z:Int} (ha:Im a) (h:rq a=(z:Rat)):a=A9 (decide (z<0)) z.natAbs 1:=by
 refine Ah4 ha (Qi _ _ _ δ) ?_;rw [h,Lr _ _ _ δ,Zc];congr 1;unfold sg;by_cases h:z<0
 .rw [Aj h,if_pos rfl]; omega
 .rw [An h,if_neg δ]; omega
theorem V4 {a:Ar} {z:Int} {L:Nat} (ha:Im a) (h:rq a=(z:Rat)) (b:Bi z.natAbs<=L):RB (L+1) a:=by rw [Arh ha h];exact Hf _ _ _ _ ω (by rw [Ig]; omega) ω
theorem Ari {a:Ar} {z:Int} {k:Nat} (ha:Im a) (h:rq a=(z:Rat)) (c:RB k a):Bi z.natAbs<=k+1:=by have h1:=c.nv;rw [Arh ha h] at h1;obtain ⟨b,i,g,f⟩:=Sn (decide (z<0)) z.natAbs 1 δ;rw [b] at h1;simpa using h1
theorem Arj {p:List Ah} {L:Nat} (h:Zm L p) (hc:CP p) (m:Ba):∃z:Int,cf p m=(z:Rat)/\Bi z.natAbs<=L:=by
 by_cases hm:∃t∈p,C4 t.Mono m=0
 .obtain ⟨t,ht,e⟩:=hm;obtain ⟨z,b,z2⟩:=h t ht;refine ⟨z,?_,z2⟩;rw [<-b,<-Y4 hc ht,G4.1 e]
 .exact ⟨0,by rw [Ap2 λt ht e=>hm ⟨t,ht,e⟩]; rfl,by simp [Ym]⟩
theorem Zm.of {p:List Ah} {L:Nat} (hc:CP p) (h:∀m,∃z:Int,cf p m=(z:Rat)/\Bi z.natAbs<=L):Zm L p:=λt ht=>by obtain ⟨z,b,z2⟩:=h t.Mono;exact ⟨z,by rw [<-Y4 hc ht]; exact b,z2⟩
structure IP (x:Bk) (n L:Nat) (f:Ba->Rat) (R:List Ah):Prop where
 cp:CP R
 val:∀m,cf R m=f m
 mo:∀t∈R,G6 x t.Mono
 len:R.length<=n
 int:Zm L R
theorem IP.can {x:Bk} {n L:Nat} {f:Ba->Rat} {R:List Ah} (h:IP x n L f R) (c:n<=1000) (g:L<=1000000):Gr x R := Gr.of h.cp h.mo (λt ht=>by obtain ⟨z,b,z2⟩:=h.int t ht;exact (V4 (h.cp.coe t ht).1 b z2).mono ω) (by have:=h.len; omega)
theorem IP.ext {x y:Bk} {n L b L':Nat} {f g:Ba->Rat} {R S:List Ah} (h:IP x n L f R) (h':IP y b L' g S) (e:∀m,f m=g m):R=S:=CP.ext h.cp h'.cp λm=>by rw [h.val,h'.val,e]
theorem Ark (y z:Int) {L M:Nat} (hy:Bi y.natAbs<=L) (b:Bi z.natAbs<=L) (h:L+1<=M):Bi (y+z).natAbs<=M:=by have h1:=Aca y.natAbs z.natAbs;have h2:Bi (y+z).natAbs<=Bi (y.natAbs+z.natAbs):=Hy ω;omega
theorem Ai9 {x:Bk} (l:CSz x) (A:F0 x) {n m L:Nat} {f g:Ba->Rat} {p q:List Ah} (hp:IP x n L f p) (hq:IP x m L g q) (B:n+m<=1000) (c:L<=1000000) : ∃R,N0 x p q=some (R,0)/\IP x (n+m) (L+1) (λa=>f a-g a) R:=by have u:=hp.len;have s:=hq.len;obtain ⟨R,k,b⟩:=Aqz l A (hp.can ω c) (hq.can ω c) ω;refine ⟨R,k,b.cp,λa=>by rw [b.val,hp.val,hq.val],λt ht=>(b.tb t ht).1,by have:=b.len; omega,Zm.of b.cp λa=>?_⟩;obtain ⟨y,j,i⟩:=Arj hp.int hp.cp a;obtain ⟨z,h,z2⟩:=Arj hq.int hq.cp a;refine ⟨y + -z,?_,Ark y (-z) i (by rw [Int.natAbs_neg]; exact z2) (Nat.le_refl _)⟩;rw [b.val,j,h,Rat.intCast_add,Rat.intCast_neg,Rat.sub_eq_add_neg]
end Go.Ab
namespace Go.Ab
open Go
theorem A3r (a b:A5):N2 a b=some (D2 a.Var b.Var):=by unfold N2;rw [Nj]; rfl
theorem Ql {a b:Int}:D2 a b<0↔a<b:=by unfold D2; split <;> (try split) <;> omega
theorem A3s:O8 (λa b:A5=>D2 a.Var b.Var) := ⟨λx h=>by have:=Ql.1 h; omega,λx y z h1 h2=>by have:=Ql.1 h1; have:=Ql.1 h2; exact Ql.2 ω,λx y z h1 h2 h=>by have:=Ql.1 h;have:=mt Ql.2 h1;have:=mt Ql.2 h2;omega⟩
theorem A3t (c:List A5) (g:c.length<=12):∃R,Uj c=some R/\R.Perm c/\R.Pairwise (λa b=>a.Var<=b.Var):=by
 obtain ⟨R,h1,h2,h3⟩:=Aq5 (cmp:=N2) A3s c (λx _ y _=>A3r x y) ω;obtain ⟨v,f⟩:=Aqp (n:=c.length) ω;refine ⟨R,?_,h2,h3.imp λ{a b} h=>?_⟩
 .unfold Uj;rw [Nat.ble_eq_true_of_le g,cond_true];unfold Agh;rw [f,Ad];have hp:Xg 0 (c.length:Int) v c=some R:=(by unfold Xg;have e:Abe 0 (c.length:Int) c=Zi N2 0 (c.length:Int) c:=rfl;have w:Aa ((c.length:Int)-0)=(c.length:Int):=(by rw [Aa,Bm] <;> omega);refine Dl (a:=R) (Cz ?_) rfl;rw [w,Aj ω,cond_true,e,h1,Ad,Oo h2.length_eq.symm]; rfl);rw [hp,Ad,Oo h2.length_eq.symm]; rfl
 .have:=mt Ql.2 h;omega
def cl:List A5->Int->Int
 | [],_=>0
 | t::l,v=>(if t.Var=v then t.Coef else 0)+cl l v
theorem Mu (l m:List A5) (v:Int):cl (l++m) v=cl l v+cl m v:=by induction l with| nil=>simp [cl]| cons t l ih=>simp only [List.cons_append,cl,ih]; omega
theorem A3u {l m:List A5} (h:l.Perm m) (v:Int):cl l v=cl m v:=by induction h with| nil=>rfl| cons t _ ih=>simp only [cl,ih]| swap a b l=>simp only [cl]; omega| trans _ _ h1 h2=>exact h1.trans h2
theorem Qm {l:List A5} {v:Int} (h:∀t∈l,t.Var≠v):cl l v=0:=by induction l with| nil=>rfl| cons t l ih=>simp only [cl]; rw [if_neg (h t ψ),ih λu hu=>h u (by simp [hu])]; rfl
structure Jd (L:List A5):Prop where
 srt:L.Pairwise λa b=>a.Var<b.Var
 nz:∀t∈L,t.Coef≠0
theorem Jd.ext:∀{L M:List A5},Jd L->Jd M->(∀v,cl L v=cl M v)->L=M:=by
 intro L;induction L with
 | nil=>intro M _ b h;cases M with| nil=>rfl| cons t M=>have:=h t.Var;simp only [cl,if_true] at this;rw [Qm λu hu=>by have:=(List.pairwise_cons.1 b.srt).1 u hu; omega] at this;exact (b.nz t ψ ω).elim
 | cons s L ih=>
  intro M c b h;have g:cl (s::L) s.Var=s.Coef:=(by simp only [cl,if_true];rw [Qm λu hu=>by have:=(List.pairwise_cons.1 c.srt).1 u hu; omega]; omega);cases M with
  | nil=>have:=h s.Var;rw [g] at this;exact (c.nz s ψ (by simpa [cl] using this)).elim
  | cons t M=>
   have ht:cl (t::M) t.Var=t.Coef:=(by simp only [cl,if_true];rw [Qm λu hu=>by have:=(List.pairwise_cons.1 b.srt).1 u hu; omega]; omega);have f:s.Var=t.Var:=by
    rcases Int.lt_trichotomy s.Var t.Var with k | k | k
    .have h1:=h s.Var;rw [g,Qm (l:=t::M) λu hu=>by
      rcases List.mem_cons.1 hu with rfl | hu
      .omega
      .have:=(List.pairwise_cons.1 b.srt).1 u hu; omega] at h1
     exact (c.nz s ψ h1).elim
    .exact k
    .have h1:=h t.Var;rw [ht,Qm (l:=s::L) λu hu=>by
      rcases List.mem_cons.1 hu with rfl | hu
      .omega
      .have:=(List.pairwise_cons.1 c.srt).1 u hu; omega] at h1
     exact (b.nz t ψ h1.symm).elim
   have hc:s.Coef=t.Coef:=(by rw [<-g,<-ht,h,f]);have e:s=t:=(by cases s; cases t; simp only at f hc; rw [f,hc]);subst e;rw [ih (M:=M) ⟨(List.pairwise_cons.1 c.srt).2,λu hu=>c.nz u (by simp [hu])⟩ ⟨(List.pairwise_cons.1 b.srt).2,λu hu=>b.nz u (by simp [hu])⟩ λv=>by have:=h v;simp only [cl] at this; omega]
noncomputable def Adz (r:List A5) (f:Int):Int×Int->Option ((Int×Int)⊕(Int×Int)):=λ(v44,v45)=> (show OB from bif v44<(r.length:Int) then ((Ae r v44).bind λv46=> some (v46.Var==f)) else (some false)).bind λc=>
 bif c then ((Ae r v44).bind λb=> some (.inl ((Aa (v44+1)),(Aa (v45+b.Coef))))) else (some (.inr (v44,v45)))
def LBd (l:List A5):Prop:=∀t∈l,-1099511627776<=t.Coef/\t.Coef<=1099511627776
theorem A3v {l:List A5} (h:LBd l) (v:Int) : -(l.length*1099511627776:Int)<=cl l v/\cl l v<=(l.length*1099511627776:Int):=by induction l with| nil=>simp [cl]| cons t l ih=>have h1:=h t ψ;have h2:=ih λu hu=>h u (by simp [hu]);simp only [cl,List.length_cons];split <;> omega
theorem A3w {r:List A5} {k:Nat} {t:A5} (hk:r[k]? = some t) (E:r.length<=1000) (hb:LBd r) :
  ∃n:Nat,Al (Adz r t.Var) ((k:Int),0)=some ((n:Int),cl ((r.take n).drop k) t.Var)/\k<n/\n<=r.length/\(∀u∈(r.take n).drop k,u.Var=t.Var)/\∀u,r[n]? = some u->u.Var≠t.Var:=by
 have q:=Dx hk
 obtain ⟨e,D,n,B,A⟩:=Ib (step:=Adz r t.Var) (λs=>∃n:Nat,s=((n:Int),cl ((r.take n).drop k) t.Var)/\k<=n/\n<=r.length/\∀u∈(r.take n).drop k,u.Var=t.Var) (λs=>r.length-s.1.toNat)
  (λe=>∃n:Nat,e=((n:Int),cl ((r.take n).drop k) t.Var)/\k<n/\n<=r.length/\(∀u∈(r.take n).drop k,u.Var=t.Var)/\∀u,r[n]? = some u->u.Var≠t.Var) (by
  rintro _ ⟨j,rfl,x,g,c⟩
  unfold Adz
  rcases Nat.lt_or_ge j r.length with h | h
  .have hx:r[j]? = some r[j]:=Bv h
   have hm:=List.getElem_mem h
   generalize r[j]=b at hx hm
   have z:=hb b hm
   have y:=A3v (l:=(r.take j).drop k) (λu hu=>hb u (List.mem_of_mem_take (List.mem_of_mem_drop hu))) t.Var
   have i:((r.take j).drop k).length<=1000:=by simp; omega
   have hw:Aa (cl ((r.take j).drop k) t.Var+b.Coef)=cl ((r.take j).drop k) t.Var+b.Coef:=by
    have G:(((r.take j).drop k).length:Int)*1099511627776<=1000*1099511627776:=Int.mul_le_mul_of_nonneg_right ω δ
    rw [Aa,Bm] <;> omega
   have f:(r.take (j+1)).drop k=(r.take j).drop k++[b]:=by
    rw [C8 hx,List.drop_append_of_le_length (by simp; omega)]
   simp only [Aj (by omega:(j:Int)<(r.length:Int)),cond_true,Ce rfl hx,Ad,C6 h ω,hw]
   by_cases hc:b.Var=t.Var
   .left
    rw [Dw hc]
    refine ⟨_,rfl,⟨j+1,?_,ω,ω,λd hd=>?_⟩,by simp; omega⟩
    .rw [f,Mu]
     simp [cl,hc]
    .rw [f] at hd
     rcases List.mem_append.1 hd with hd | hd
     .exact c d hd
     .simp only [List.mem_singleton] at hd
      rw [hd]; exact hc
   .right
    rw [Ch hc]
    refine ⟨_,rfl,j,rfl,?_,g,c,λd hd=>by rw [hx] at hd; cases hd; exact hc⟩
    rcases Nat.lt_or_ge k j with h' | h'
    .exact h'
    .have:j=k:=ω
     subst this
     rw [hk] at hx; cases hx
     exact (hc rfl).elim
  .right
   refine ⟨_,by simp only [An (by omega:¬(j:Int)<(r.length:Int)),cond_false,Ad],j,rfl,ω,g,c,λd hd=>?_⟩
   have:=Dx hd
   omega) ((k:Int),0) ⟨k,by simp [cl],ω,ω,λu hu=>by simp at hu⟩
 exact ⟨n,by rw [<-B]; exact D,A⟩
noncomputable def Aja (r:List A5):Int×List A5->Option ((Int×List A5)⊕List A5):=λ(v37,b)=> bif v37<((r.length:Nat):Int) then ((Ae r v37).bind λv39=> (Al (Adz r v39.Var) (v37,0)).bind λ(v49,v50)=> bif (v50 != (0:Int)) then ((Ca 16 b [(A5.mk v39.Var v50)]).bind λc=> some (.inl (v49,c))) else (some (.inl (v49,b)))) else (some (.inr b))
theorem A3x {r:List A5} (J:r.Pairwise λa b=>a.Var<=b.Var) (M:r.length<=1000) (hb:LBd r):∃L,Al (Aja r) (0,[])=some L/\Jd L/\(∀v,cl L v=cl r v)/\L.length<=r.length:=by
 obtain ⟨L,S,R⟩:=Ib (step:=Aja r) (λs=>∃(k:Nat) (L:List A5),s=((k:Int),L)/\k<=r.length/\Jd L/\L.length<=k/\(∀v,cl L v=cl (r.take k) v)/\∀t∈L,∀u∈r.drop k,t.Var<u.Var) (λs=>r.length-s.1.toNat)
  (λL=>Jd L/\(∀v,cl L v=cl r v)/\L.length<=r.length) (by
  rintro _ ⟨k,L,rfl,hk,y,N,g,hd⟩
  unfold Aja
  rcases Nat.lt_or_ge k r.length with h | h
  .left
   have hx:r[k]? = some r[k]:=Bv h
   generalize r[k]=t at hx
   obtain ⟨n,I,G,D,n4,E⟩:=A3w hx M hb
   have c:r.take n=r.take k++(r.take n).drop k:=by
    have h:=(List.take_append_drop k (r.take n)).symm
    rwa [List.take_take,Nat.min_eq_left ω] at h
   have x:∀v,v≠t.Var->cl ((r.take n).drop k) v=0:=λv g=>Qm λu hu e=>g (by rw [<-e,n4 u hu])
   have j:∀u∈r.drop n,u∈r.drop k:=λu hu=>by
    have:r.drop n=(r.drop k).drop (n-k):=by rw [List.drop_drop]; congr 1; omega
    rw [this] at hu
    exact List.mem_of_mem_drop hu
   have A:t∈r.drop k:=by rw [Ij hx]; simp
   have f:∀u∈r.drop n,t.Var<u.Var:=by
    intro u hu
    rcases Nat.lt_or_ge n r.length with h' | h'
    .have hy:r[n]? = some r[n]:=Bv h'
     generalize r[n]=w at hy
     have hw:=E w hy
     have hp:=List.pairwise_append.1 (by rw [List.take_append_drop]; exact J:(r.take n++r.drop n).Pairwise λa b=>a.Var<=b.Var)
     have B:t∈r.take n:=by
      rw [c]
      have:(r.take n).drop k=t::(r.take n).drop (k+1):=Ij (by rw [List.getElem?_take_of_lt G]; exact hx)
      rw [this]; simp
     have z:w∈r.drop n:=by rw [Ij hy]; simp
     have a1:=hp.2.2 t B w z
     have i:=hp.2.1
     rw [Ij hy] at i hu
     rcases List.mem_cons.1 hu with rfl | hu
     .omega
     .have:=(List.pairwise_cons.1 i).1 u hu; omega
    .rw [List.drop_eq_nil_of_le h'] at hu; cases hu
   simp only [Aj (by omega:(k:Int)<(r.length:Int)),cond_true,Ce rfl hx,Ad,I]
   by_cases h0:cl ((r.take n).drop k) t.Var=0
   .refine ⟨((n:Int),L),?_,⟨n,L,rfl,D,y,ω,λv=>?_,λa ha u hu=>hd a ha u (j u hu)⟩,by simp; omega⟩
    .rw [h0]; rfl
    .have q:cl (r.take n) v=cl (r.take k) v+cl ((r.take n).drop k) v:=(congrArg (λl=>cl l v) c).trans (Mu _ _ _)
     rw [q,g]
     by_cases e:v=t.Var
     .rw [e,h0]; omega
     .rw [x v e]; omega
   .refine ⟨((n:Int),L++[⟨t.Var,cl ((r.take n).drop k) t.Var⟩]),?_,⟨n,_,rfl,D,⟨?_,?_⟩,by simp; omega,λv=>?_,λa ha u hu=>?_⟩,by simp; omega⟩
    .rw [Dh h0,cond_true,C3 (by simp; omega)]; rfl
    .refine List.pairwise_append.2 ⟨y.srt,List.pairwise_singleton _ _,λa ha b hb=>?_⟩
     simp only [List.mem_singleton] at hb
     subst hb
     exact hd a ha t A
    .intro a ha
     rcases List.mem_append.1 ha with ha | ha
     .exact y.nz a ha
     .simp only [List.mem_singleton] at ha
      subst ha; exact h0
    .have q:cl (r.take n) v=cl (r.take k) v+cl ((r.take n).drop k) v:=(congrArg (λl=>cl l v) c).trans (Mu _ _ _)
     rw [q,Mu,g]
     simp only [cl]
     by_cases e:t.Var=v
     .rw [if_pos e,<-e]; omega
     .rw [if_neg e,x v (λh=>e h.symm)]; omega
    .rcases List.mem_append.1 ha with ha | ha
     .exact hd a ha u (j u hu)
     .simp only [List.mem_singleton] at ha
      subst ha; exact f u hu
  .right
   have:k=r.length:=ω
   subst this
   rw [List.take_length] at g
   exact ⟨L,by simp only [An (by omega:¬(r.length:Int)<(r.length:Int)),cond_false],y,g,N⟩) (0,[]) ⟨0,[],rfl,ω,⟨List.Pairwise.nil,λ_ h=>by cases h⟩,ψ,λv=>by simp [cl],λ_ h=>by cases h⟩
 exact ⟨L,S,R⟩
def Qo (c:Int) (L:List A5):Bb×Int:=if C2 ⟨c,L⟩=true then (⟨c,L⟩,0) else (⟨0,[]⟩,9)
theorem Arl (c:Int) (ts:List A5) (l:ts.length<=12) (hb:LBd ts):∃L,Ue c ts=some (Qo c L)/\Jd L/\∀v,cl L v=cl ts v:=by
 obtain ⟨R,h,b,g⟩:=A3t ts l;obtain ⟨L,k,j,i,q⟩:=A3x g (by rw [b.length_eq]; omega) (λt ht=>hb t (b.mem_iff.1 ht));refine ⟨L,?_,j,λv=>by rw [i,A3u b]⟩;unfold Ue;have f:Sj ts=some ([],ts):=by unfold Sj Nz;rw [C3 (by simp; omega)]; rfl
 rw [f,Ad];dsimp only;rw [h,Ad,Oo b.length_eq.symm,Ad,<-b.length_eq];refine Dl k ?_;rw [Lq,Ad];unfold Qo;cases C2 ⟨c,L⟩ <;> rfl
end Go.Ab
namespace Go.Ab
open Go
theorem A3y {a:Ar} {z:Int} {k:Nat} (b:RB k a) (h:rq a=(z:Rat)):Bi z.natAbs<=k+1:=by
 have h1:=b.nv;refine Nat.le_trans (Hy ?_) h1;unfold rq at h;have e:mkRat (sg (sv a) (nv a)) (dv a)=mkRat z 1:=by rw [h,Zc]
 rw [Rat.mkRat_eq_iff (Es a) δ] at e;have f:(sg (sv a) (nv a)).natAbs=nv a:=by unfold sg; split <;> omega
 have c:(sg (sv a) (nv a)).natAbs=z.natAbs*dv a:=by have:=congrArg Int.natAbs e;rw [Int.natAbs_mul,Int.natAbs_mul] at this;simpa using this
 have:=Es a;rw [<-f,c];exact Nat.le_mul_of_pos_right _ ω
theorem Arm {L:Nat} (m:Ba):∀(l:List Ah),(∀t∈l,∃z:Int,rq t.Coef=(z:Rat)/\Bi z.natAbs<=L)->∃z:Int,cf l m=(z:Rat)/\Bi z.natAbs<=L+l.length
 | [],_=>⟨0,rfl,by simp [Ym]⟩
 | t::l,h=>by
  obtain ⟨y,b,f⟩:=Arm m l λu hu=>h u (by simp [hu]);obtain ⟨z,c,z2⟩:=h t ψ;simp only [cf];split
  .refine ⟨z+y,by rw [c,b,Rat.intCast_add],Ark z y (L:=L+l.length) ω f (by simp; omega)⟩
  .exact ⟨y,by rw [b]; grind,by simp; omega⟩
theorem Gb.listI {F:FS} {c:Rat} {z:Int} {K:Nat} {ts:List Ah} {bs:List Du} (h:Gb F c K ts bs) (f:c=(z:Rat)):∀t∈ts,∃z:Int,rq t.Coef=(z:Rat)/\Bi z.natAbs<=K+1:=λt ht=>by
 obtain ⟨j,hj⟩:=List.getElem?_of_mem ht;obtain ⟨b,b1,b2,i,g⟩:=h.get hj;have e:rq t.Coef=((z*(b.2:Int):Int):Rat):=by rw [i,f,Rat.intCast_mul,Rat.intCast_natCast]
 exact ⟨_,e,A3y g e⟩
theorem Arn {x:Bk} {k:Nat} {ts:List Ah} (h:Col k (G6 x) ts) (hk:k<34359738000) (q:ts.length<=1000) (hi:∀m,∃z:Int,cf ts m=(z:Rat)):∃R,Ku (plc ts) ts=some (R,0)/\IP x ts.length (k+2) (cf ts) R:=by
 obtain ⟨R,j,b,f,c,i⟩:=Aip (P:=G6 x) (λm h=>h.cmo) (plc ts) ts h ω q (λg _ h2 h3=>Aiu g h2 h3);refine ⟨R,j,b,f,λt ht=>(c t ht).1,i,λt ht=>?_⟩;obtain ⟨z,l⟩:=hi t.Mono;have e:rq t.Coef=(z:Rat):=by rw [<-Y4 b ht,f,l]
 exact ⟨z,e,Ari (b.coe t ht).1 e (c t ht).2⟩
theorem IsE.good {x:Bk} {A:List A7} {B:List Du} (h:IsE A B) (g:Atk A) (hi:∀a∈A,Ea x.Vars x.Res a.Lin=true) (j:Cm A<=6):∀b∈B,G6 x ⟨[],b.1⟩:=by obtain ⟨gs,k,c,i,f,rfl⟩:=h;intro b hb;obtain ⟨h1,h2⟩:=Arg (vars:=x.Vars) (res:=x.Res) f (λa ha=>⟨g.lin a (c.mem_iff.1 ha),hi a (c.mem_iff.1 ha)⟩) [([],1)] 0 (λb hb=>by simp only [List.mem_singleton] at hb;subst hb;exact ⟨⟨List.Pairwise.nil,λ_ h=>by cases h⟩,by simp [Cb],λ_ h=>by cases h⟩) b hb;refine A3q h1 ?_;rw [V3 c] at h2;omega
theorem A3z {B:List Du} {m:Ba}:∃z:Int,(1:Rat)*(ec B m:Rat)=(z:Rat):=⟨(ec B m:Int),by rw [Rat.intCast_natCast]; grind⟩
theorem A30 {l:Bb} {k:Int} (b:C2 l=true) (h0:0<=k) (c:k<=6):Atk [⟨l,k⟩]/\Cm [(⟨l,k⟩:A7)]<=6:=by
 have hd:Cm [(⟨l,k⟩:A7)]=k.toNat:=by simp [Cm]
 exact ⟨⟨λa ha=>by simp only [List.mem_singleton] at ha; subst ha; exact h0,λa ha=>by simp only [List.mem_singleton] at ha; subst ha; exact b,ω,ψ⟩,ω⟩
theorem Aro (x:Bk) (l:Bb) (k:l.Terms.length<=1048576) (i:x.Vars.length<=1048576):T2 x l=some (Ea x.Vars x.Res l):=by
 unfold T2;have f:Ea x.Vars x.Res l=l.Terms.zipIdx.all (λq=>Gk x.Vars x.Res q.1):=by
  unfold Ea;rw [Bool.eq_iff_iff,List.all_eq_true,List.all_eq_true];constructor
  .rintro h ⟨a,j⟩ hq;exact h a (Cd (List.mk_mem_zipIdx_iff_getElem?.1 hq))
  .intro h a ha;obtain ⟨j,hj⟩:=List.getElem?_of_mem ha;exact h (a,j) (List.mk_mem_zipIdx_iff_getElem?.2 hj)
 rw [f];refine (Od l.Terms (λq=>Gk x.Vars x.Res q.1) (λj=>(j:Int)) rfl ω (rt:=true) (rf:=false) ?_ ?_).trans (by rw [Ml])
 .intro j t ht _ h1 h2 h3;simp only [h1,h2,h3,cond_true,Ad];by_cases e:t.Var = -1
  .rw [Dw e,cond_true];have:Gk x.Vars x.Res t=(x.Res.Kind==1):=(by unfold Gk tyX; rw [if_pos e]);rw [this];by_cases hk:x.Res.Kind=1
   .rw [De hk,Dw hk];exact ⟨λ_=>rfl,λh=>by cases h⟩
   .rw [Dh hk,Ch hk];exact ⟨(λh=>by cases h),λ_=>⟨.inl false,rfl,rfl⟩⟩
  .rw [Ch e,cond_false];have b:Gk x.Vars x.Res t=(match Ae x.Vars t.Var with | some u=>u.Kind==1 | none=>false):=by unfold Gk tyX; rw [if_neg e]; cases Ae x.Vars t.Var <;> rfl
   rw [b];by_cases c:t.Var<0
   .rw [Aj c,Ab6 (.inl c)];exact ⟨(λh=>by cases h),λ_=>⟨.inl false,rfl,rfl⟩⟩
   .rw [An c,cond_false];by_cases g:(x.Vars.length:Int)<=t.Var
    .rw [Aj ω,Ab6 (.inr g)];exact ⟨(λh=>by cases h),λ_=>⟨.inl false,rfl,rfl⟩⟩
    .rw [An ω,cond_false];have hx:x.Vars[t.Var.toNat]? = some x.Vars[t.Var.toNat]:=Bv ω;generalize x.Vars[t.Var.toNat]' ω=u at hx;rw [Ce (n:=t.Var.toNat) ω hx];simp only [Ad];by_cases hk:u.Kind=1
     .rw [De hk,Dw hk];exact ⟨λ_=>rfl,λh=>by cases h⟩
     .rw [Dh hk,Ch hk];exact ⟨(λh=>by cases h),λ_=>⟨.inl false,rfl,rfl⟩⟩
 .intro h _;exact ⟨.inr (),by simp only [h]; rfl,rfl⟩
end Go.Ab
