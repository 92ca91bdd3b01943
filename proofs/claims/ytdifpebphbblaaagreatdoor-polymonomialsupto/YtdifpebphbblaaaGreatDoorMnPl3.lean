/- Plain laws. -/
import Derived.Test.YtdifpebphbblaaaGreatDoorMnPl2
open List
namespace Go.Ab
open Go
variable {x:Ae} {t:Ai} {y:Bj} {b c:List (ByteArray×Int)} {L:List (List Ae)} {M l:List Ae} {data:List Ao} {K a d k m p q:Nat} {F:Nat->List (List Ae)} {el f s:Nat->List Ae} {E R S α β γ:Type} {J:List (List Ae)->Option R} {g:Nat->List α} {X:Option (List (List α)×Bool)} {Q:R->Prop} {s0:S} {D:α->Option Nat}
theorem Tm.nil (x:B0):Tm x []:=⟨Afu.2 ⟨ψ,CP.nil,λt e=>by cases e⟩,λt e=>by cases e⟩
structure Np (x:Bj) (a:Nat):Prop where
 rb:RB 200 x
 s:sv x=false
 n:nv x=a
 d:dv x=1
theorem Np.cR (h:Cq a<=200):Np (cR a) a:=⟨Aya h δ,(Afo a).1,(Afo a).2.1,(Afo a).2.2⟩
theorem Np.add {x:Bj} {b:Nat} (hx:Np x a) (hy:Np y b):P7 x y=some (Ab.cR (a+b)):=by rw[Ax1 _ _ 200 200 hx.rb hy.rb ω ω,hx.s,hx.n,hx.d,hy.s,hy.n,hy.d];simp[Aab,Aac,Ab.cR]
theorem Np.mul {x:Bj} {b:Nat} (hx:Np x a) (hy:Np y b):Ky x y=some (Ab.cR (a*b)):=by rw[Ax0 _ _ 200 200 hx.rb hy.rb ω ω,hx.s,hx.n,hx.d,hy.s,hy.n,hy.d];simp[Ab.cR]
theorem Np.can {x:Bj} (hx:Np x a):Ni x=some (Ab.cR a):=by rw[Anj _ 200 hx.rb ω,hx.s,hx.n,hx.d];rfl
def prb (x:Nat):List B8->Nat
 | []=>1
 | a::l=>bc x a.P.toNat*prb x l
def Aog:List B8->Nat
 | []=>0
 | a::l=>a.P.toNat+Aog l
def PwN (l:List B8) (N:Nat) (f:Nat->Nat):Prop:=N=Aog l/\f N≠0/\∀x,sm (N+1) (λk=>f k*bc x k)=prb x l
theorem PwN.le {l:List B8} {N:Nat} {f:Nat->Nat} (h:PwN l N f) (hk:k<N+1):f k<=prb k l:=by
 have h1:=h.2.2 k;have h2:f k*bc k k<=sm (N+1) (λj=>f j*bc k j):=by
  have:∀n,k<n->f k*bc k k<=sm n (λj=>f j*bc k j):=by
   intro n;induction n with
   | zero=>intro h;omega
   | succ n ih=>
    intro h;show _<=sm n _+f n*bc k n;rcases C9 k n with h'|h'
    .have:=ih h';omega
    .have:k=n:=ω;subst this;omega
  exact this _ hk
 rw[Aoc,Nat.mul_one]at h2;omega
theorem Af0 (n:Nat) (h:n<=1000000):Mb (α:=α) (n:Int)=some []:=by unfold Mb;rw[Ap ω,Ap ω];rfl
theorem Ay6 (a b:List B8) (h:a.length+b.length<=1000000):Ys [a,b]=some (a++b) := Afz (B:=40) δ (gr:=Yx) (λn h=>Af0 n h) a b h
theorem Ay7 (a b:List Cn) (h:a.length+b.length<=1000000):Yr [a,b]=some (a++b) := Afz (B:=40) δ (gr:=Yw) (λn h=>Af0 n h) a b h
theorem Ay8 (m n:Aq) (e:m.F.length+n.F.length<=1000000) (h:m.A.length+n.A.length<=1000000):R8 m n=some ⟨m.F++n.F,m.A++n.A⟩:=by unfold R8;rw[Ay7 _ _ e,Ag,Ay6 _ _ h];rfl
abbrev FS:={F:List Cn // F.length<=1000}
abbrev Ent:=List B8×Nat
inductive Jx (F:FS) (c:Rat) (K:Nat):List Bu->List Ent->Prop
 | nil:Jx F c K [] []
 | cons {t:Bu} {b:Ent} {ts:List Bu} {bs:List Ent}:t.M=⟨F.1,b.1⟩->rq t.C=c*(b.2:Rat)->RB K t.C->Jx F c K ts bs->Jx F c K (t::ts) (b::bs)
theorem Jx.len {F:FS} {c:Rat} {b:List Bu} {bs:List Ent} (h:Jx F c K b bs):b.length=bs.length:=by induction h with| nil=>rfl| cons _ _ _ _ ih=>simp[ih]
theorem Jx.app {F:FS} {c:Rat} {f us:List Bu} {bs cs:List Ent} (h:Jx F c K f bs) (h':Jx F c K us cs):Jx F c K (f++us) (bs++cs):=by induction h with| nil=>exact h'| cons a b d _ ih=>exact .cons a b d ih
theorem Jx.mono {F:FS} {c:Rat} {i:Nat} {f:List Bu} {bs:List Ent} (h:Jx F c K f bs) (hk:K<=i):Jx F c i f bs:=by induction h with| nil=>exact .nil| cons a b d _ ih=>exact .cons a b (d.mono hk) ih
theorem Jx.get {F:FS} {c:Rat} {f:List Bu} {bs:List Ent} (h:Jx F c K f bs):∀{j:Nat} {t:Bu},f[j]? = some t->∃b,bs[j]? = some b/\t.M=⟨F.1,b.1⟩/\rq t.C=c*(b.2:Rat)/\RB K t.C:=by
 induction h with
 | nil=>intro j t h;simp at h
 | @cons t b f bs i n o _ ih=>intro j u e;cases j with| zero=>simp only[getElem?_cons_zero,Option.some.injEq]at e;subst e;exact⟨b,rfl,i,n,o⟩| succ j=>simp only[getElem?_cons_succ]at e;simpa using ih e
theorem La {step:S->Option (S⊕E)} {J:E->Option R} (n:Nat) (I:Nat->S->Prop) (Q:R->Prop) (h0:I 0 s0) (c:∀j s,j<n->I j s->∃r,step s=some r/\((∃h,r = .inl h/\I (j+1) h)\/∃e,r = .inr e/\∃q,J e=some q/\Q q)) (f:∀s,I n s->∃e,step s=some (.inr e)/\∃q,J e=some q/\Q q):∃q,(Ak step s0).bind J=some q/\Q q:=by
 have o:∀m j s,j+m=n->I j s->∃q,(Ak step s).bind J=some q/\Q q:=by
  intro m;induction m with
  | zero=>intro j s z b;have:j=n:=ω;subst this;obtain⟨e,u,q,k,i⟩:=f s b;exact⟨q,by rw[F5 u];exact k,i⟩
  | succ m ih=>
   intro j s z b;obtain⟨r,w,⟨h,rfl,v⟩|⟨e,rfl,q,v,A⟩⟩:=c j s ω b
   .rw[Kr w];exact ih (j+1) h ω v
   .exact⟨q,by rw[F5 w];exact v,A⟩
 exact o n 0 s0 ω h0
theorem Gb {step:S->Option (S⊕E)} {J:E->Option R} (l:List α) (I:Nat->S->Prop) (Q:R->Prop) (h0:I 0 s0) (c:l.length<4611686018427387904) (b:∀(j:Nat) (x:α) (s:S),j<l.length->l[j]? = some x->decide ((j:Int)<(l.length:Int))=true->Af l (j:Int)=some x->Ac ((j:Int)+1)=((j+1:Nat):Int)->I j s -> ∃r,step s=some r/\((∃n,r = .inl n/\I (j+1) n)\/∃e,r = .inr e/\∃q,J e=some q/\Q q)) (f:decide ((l.length:Int)<(l.length:Int))=false->∀s,I l.length s->∃e,step s=some (.inr e)/\∃q,J e=some q/\Q q):∃q,(Ak step s0).bind J=some q/\Q q := La l.length I Q h0 (λj s h i=>by have o:l[j]? = some l[j]:=Cs h;exact b j _ s h o (Ap ω) (Cp rfl o) (En h c) i) (f ψ)
theorem Aam (d:Nat):A8 d (λ_=>([]:List α))=0:=by unfold A8;rw[List.flatMap_eq_nil_iff.2 λ_ _=>rfl];rfl
theorem Ay9 {f:Nat->List α} (h:∀m,m<=d->f m=g m):A8 d f=A8 d g:=by unfold A8;rw[List.flatMap_def,List.flatMap_def,map_congr_left λm e=>h m (by simp at e;omega)]
theorem Tn (d:Nat) (f:Nat->List α):A8 (d+1) f=A8 d f+(f (d+1)).length:=by unfold A8;rw[range_succ,flatMap_append,Ew,List.flatMap_singleton]
theorem To (f:Nat->List α):A8 0 f=(f 0).length:=by unfold A8;rw[show range (0+1) = [0] from rfl,List.flatMap_singleton]
theorem My {α:Type} {f:Nat->List α}:∀{d m:Nat},m<=d->(f m).length<=A8 d f
 | 0,m,h=>by have:m=0:=ω;subst this;rw[To];exact Nat.le_refl _
 | d+1,m,h=>by
  rw[Tn];rcases C9 m (d+1) with e|e
  .have:=My (f:=f) (d:=d) (m:=m) ω;omega
  .have:m=d+1:=ω;subst this;omega
theorem Aan {α:Type} {f:Nat->List α} {B:Nat}:∀{d:Nat},(∀m,m<=d->(f m).length<=B)->A8 d f<=(d+1)*B
 | 0,h=>by rw[To];have:=h 0 ω;omega
 | d+1,h=>by rw[Tn];have e:=Aan (f:=f) (B:=B) (d:=d) λm i=>h m ω;have j:=h (d+1) ω;rw[Nat.add_mul (d+1) 1 B,Nat.one_mul];omega
theorem Ww {α:Type} {f:Nat->List α} {n:Nat} {z:List α}:∀{d:Nat},n<=d->A8 d (Aj f n (f n++z))=A8 d f+z.length
 | 0,h=>by have:n=0:=ω;subst this;rw[To,To,Ba,Ew]
 | d+1,h=>by
  rw[Tn,Tn];rcases C9 n (d+1) with e|e
  .rw[Ww (d:=d) ω,Be _ _ ω];omega
  .have:n=d+1:=ω;subst this;rw[Ba,Ew,Ay9 (d:=d) (g:=f) λm i=>Be _ _ ω];omega
def Snu (D:α->Option Nat) (d:Nat) (f:Nat->List α):Prop:=∀m,m<=d->(f m).Nodup/\∀x∈f m,D x=some m
theorem Et.snu {f:Nat->List α} (h:Et D d f):Snu D d f:=λm hm=>⟨(h m hm).1,λx hx=>((h m hm).2 x).1 hx⟩
theorem Snu.big {f:Nat->List α} (h:Snu D d f) (hb:500<A8 d f):Dv D d:=by
 refine⟨_,Pa List.nodup_range (λm hm=>(h m (by simp at hm;omega)).1) λa ha b hb c x hx hy=>?_,hb,λx hx=>?_⟩
 .rw[mem_range]at ha hb;have j:=(h a ω).2 x hx;have i:=(h b ω).2 x hy;rw[j]at i;cases i;exact c rfl
 .obtain⟨m,hm,hx⟩:=mem_flatMap.1 hx;rw[mem_range]at hm;exact⟨m,ω,(h m ω).2 x hx⟩
theorem Snu.sub {f:Nat->List α} (h:Snu D d f) (b:∀m,m<=d->(g m).Sublist (f m)):Snu D d g:=λm hm=> ⟨(h m hm).1.sublist (b m hm),λx hx=>(h m hm).2 x ((b m hm).subset hx)⟩
theorem Tp {l b:List α} (f:α->List β) (h:l.Sublist b):(l.flatMap f).Sublist (b.flatMap f):=by induction h with| slnil=>exact List.Sublist.refl _| cons a _ ih=>rw[flatMap_cons];exact ih.trans (List.sublist_append_right _ _)| cons_cons a _ ih=>rw[flatMap_cons,flatMap_cons];exact (List.Sublist.refl _).append ih
theorem Af1 {n:Nat} (h:m<=n):(range m).Sublist (range n):=List.range_sublist.2 h
theorem Af2 (xs:List α) (a b:α):Bk (xs++[a]) ((xs.length:Nat):Int) b=xs++[b]:=by rw[Ir rfl];simp
theorem Af3 (xs:List α) (a:α):Af (xs++[a]) ((xs.length:Nat):Int)=some a:=Cp rfl ψ
theorem Aza {r:List Ae} (h:r.length<=1000):Sh r=some ([],r):=by unfold Sh Ma;rw[Cy ζ];rfl
def nxF (F:Nat->List (List Ae)) (s:Nat->List Ae) (q m:Nat):List (List Ae) := (range q).flatMap λj=>if j<=m then (F j).flatMap λe=>(s (m-j)).map λi=>e++[i] else []
theorem Azb {k:List Ai} (D:Et (λr=>Bv data r k) d F) (A:Et (λi=>B3 data i t) d s) : Et (λr=>Bv data r (k++[t])) d (nxF F s (d+1)):=by
 have c:∀j,j<=d->∀r∈F j,Bv data r k=some j:=λj o r q=>((D j o).2 r).1 q;intro m O;constructor
 .refine Pa List.nodup_range (λj o=>?_) (λa v b w f x h n=>?_)
  .rw[mem_range]at o;split
   .refine Pa (D j ω).1 (λr q=>Lx (λa _ b _ e=>by simpa using e) (A (m-j) ω).1) λa v b w f x h n=>?_;obtain⟨i,_,rfl⟩:=mem_map.1 h;obtain⟨J,_,e⟩:=mem_map.1 n;have I:=Mx (c j ω a v);have G:=Mx (c j ω b w);exact f (List.append_inj e ω).1.symm
   .exact List.nodup_nil
  .rw[mem_range]at v w;split at h
   .split at n
    .obtain⟨r,q,h⟩:=mem_flatMap.1 h;obtain⟨E,B,n⟩:=mem_flatMap.1 n;obtain⟨i,_,rfl⟩:=mem_map.1 h;obtain⟨J,_,e⟩:=mem_map.1 n;have y:=c a ω r q;have u:=c b ω E B;have I:=Mx y;have G:=Mx u;have:=(List.append_inj e ω).1;rw[this,y]at u;cases u;exact f rfl
    .cases n
   .cases h
 .intro x;constructor
  .intro h;obtain⟨j,o,h⟩:=mem_flatMap.1 h;rw[mem_range]at o;split at h
   .rename_i L;obtain⟨r,q,h⟩:=mem_flatMap.1 h;obtain⟨i,N,rfl⟩:=mem_map.1 h;have y:=c j ω r q;have u:B3 data i t=some (m-j):=((A (m-j) ω).2 i).1 N;show Bv data (r++[i]) (k++[t])=some m;rw[Ws data _ _ _ _ (Mx y),y,Afq,u];simp;omega
   .cases h
  .intro h;have h:Bv data x (k++[t])=some m:=h;have z:=Mx h;rw[Ew,length_singleton]at z;rcases eq_nil_or_concat x with rfl|⟨r,i,rfl⟩
   .simp at z
   .rw[concat_eq_append]at h z ⊢;rw[Ew,length_singleton]at z;rw[Ws data _ _ _ _ ω,Afq]at h;cases C:Bv data r k with
    | none=>rw[C]at h;cases h
    | some a=>rw[C,Ag]at h;cases H:B3 data i t with| none=>rw[H]at h;cases h| some b=>rw[H]at h;have e:a+b=m:=Fe h;refine mem_flatMap.2 ⟨a,mem_range.2 ω,?_⟩;rw[Bc ω];refine mem_flatMap.2 ⟨r,((D a ω).2 r).2 C,mem_map.2 ⟨i,((A (m-a) ω).2 i).2 ?_,rfl⟩⟩;rw[show m-a=b by omega];exact H
def UpR (X:Option (List (List α)×Bool)) (D:α->Option Nat) (d:Nat):Prop := (∃F,X=some (Cg d F,true)/\Et D d F/\A8 d F<=500)\/(∃L,X=some (L,false)/\Dv D d)
def Nz (X:Option (List (List α)×Bool)) (D:α->Option Nat) (d:Nat):Prop := (∃F,X=some (Cg d F,true)/\Et D d F/\A8 d F<=500)\/(X=some ([],false)/\Dv D d)
theorem Nz.up (h:Nz X D d):UpR X D d:=h.imp id λ⟨a,b⟩=>⟨_,a,b⟩
theorem Wx {b:Nat} (h:a+b<=1000000):Ac ((a:Int)+(b:Int))=((a+b:Nat):Int):=by rw[Ac,B6] <;> omega
theorem Kh (h:a<=1000000):Ac ((a:Int)+1)=((a+1:Nat):Int):=by rw[Ac,B6] <;> omega
theorem Azc (j:q<=d):(nxF F s q m++if q<=m then ((F q).take p).flatMap λe=>(s (m-q)).map λi=>e++[i] else []).Sublist (nxF F s (d+1) m):=by
 have h:(nxF F s (q+1) m).Sublist (nxF F s (d+1) m):=Tp _ (Af1 ω);refine List.Sublist.trans ?_ h;unfold nxF;rw[range_succ,flatMap_append,List.flatMap_singleton];refine (List.Sublist.refl _).append ?_;split
 .exact Tp _ (List.take_sublist _ _)
 .exact List.Sublist.refl _
theorem Azd {H:List Ai} (hd:d<=6) (hF:Et (λr=>Bv data r H) d F) (hs:Et (λi=>B3 data i t) d s) (b4:A8 d s<=500) (b8:A8 d F<=500) (b3:H.length<=900) {J:((List (List (List Ae))×Bool)⊕(Int×Int×List (List (List Ae))))->Option R} (b7:Dv (λr=>Bv data r (H++[t])) d->∃r,J (.inl ([],false))=some r/\Q r) (b6:∀(n:Int) (m:Int) (G:Nat->List (List Ae)),Et (λr=>Bv data r (H++[t])) d G->A8 d G<=500->∃r,J (.inr (n,m,Cg d G))=some r/\Q r) :
  ∃r,(Ak (S:=(Int×Int×(List (List (List Ae))))) (E:=(((List (List (List Ae)))×Bool)⊕(Int×Int×(List (List (List Ae)))))) (λ(Y,j,a6)=>
  bif j<((Cg d F).length:Int) then (
  (Af (Cg d F) j).bind λX=>
  (Ak (S:=(Int×Int×(List (List (List Ae))))) (E:=(((List (List (List Ae)))×Bool)⊕(Int×Int×(List (List (List Ae)))))) (λ(V,y,a1)=>
  bif y<(X.length:Int) then (
  (Af X y).bind λaf=>
  (Ak (S:=(Int×Int×(List (List (List Ae))))) (E:=(Int×Int×(List (List (List Ae))))) (λ(U,k,Z)=>
  bif (Ac (j+k))<=(d:Int) then (
  (Af (Cg d s) k).bind λO=>
  (Ak (S:=(Int×Int×(List (List (List Ae))))) (E:=(Int×Int×(List (List (List Ae))))) (λ(N,x,A)=>
  bif x<(O.length:Int) then (
  (Af O x).bind λae=>
  (Af A (Ac (j+k))).bind λad=>
  (Sh af).bind λac=>
  (Bl 32 ac.2 [ae]).bind λao=>
  (Bl 24 ad [ao]).bind λam=>
  some (.inl ((Ac (N+1)),(Ac (x+1)),(Bk A (Ac (j+k)) am)))
  )
  else (
  some (.inr (N,x,A))
  )
   ) (U,0,Z)).bind λ(ab,bb,ak)=>
  some (.inl (ab,(Ac (k+1)),ak))
  )
  else (
  some (.inr (U,k,Z))
  )
   ) (V,0,a1)).bind λ(M,ba,aj)=>
  bif M>(500:Int) then (
  some (.inr (.inl ([],false)))
  )
  else (
  some (.inl (M,(Ac (y+1)),aj))
  )
  )
  else (
  some (.inr (.inr (V,y,a1)))
  )
   ) (Y,0,a6)).bind λz=>
  match z with
  | .inl (ah,ag)=>(
  some (.inr (.inl (ah,ag)))
  )
  | .inr (aa,b9,ai)=>(
  some (.inl (aa,(Ac (j+1)),ai))
  )
  )
  else (
  some (.inr (.inr (Y,j,a6)))
  )
   ) (0,0,Cg d λ_=>[])).bind J=some r/\Q r:=by
 have hn:=Azb hF hs
 have av:∀q,q<=d->∀h∈F q,h.length<=900:=λq W h hr=>by
  have:Bv data h H=some q:=((hF q W).2 h).1 hr
  rw[Mx this];exact b3
 have ar:∀m,m<=d->(s m).length<=500:=λm o=>Nat.le_trans (My o) b4
 refine Gb (Cg d F) (λq C=>∃f,C=(((A8 d f:Nat):Int),(q:Int),Cg d f)/\(∀m,m<=d->f m=nxF F s q m)/\A8 d f<=500) Q ⟨λ_=>[],by rw[Aam];rfl,λ_ _=>rfl,by rw[Aam];omega⟩ (by rw[Ij];omega) ?_ ?_
 .rintro q Fq _ W az h1 h2 h3 ⟨f,rfl,hf,a8⟩
  rw[Ij]at W
  have v:q<=d:=ω
  rw[Tj v]at az
  cases az
  simp only[h1,h2,Am,Ag]
  have bg:(F q).length<=500:=Nat.le_trans (My v) b8
  refine Gb (F q) (λp C=>∃g,C=(((A8 d g:Nat):Int),(p:Int),Cg d g)/\(∀m,m<=d->g m=nxF F s q m++if q<=m then ((F q).take p).flatMap λh=>(s (m-q)).map λi=>h++[i] else [])/\A8 d g<=500) _ ⟨f,rfl,λm o=>by rw[hf m o];simp,a8⟩ ω ?_ ?_
  .rintro p h _ hp au g1 g2 g3 ⟨g,rfl,hg,a7⟩
   have be:=av q v h (B4 au)
   simp only[g1,g2,Am,Ag]
   have b5:∀m,m<=d->(g m).length<=500:=λm o=>Nat.le_trans (My o) a7
   refine La (d-q+1) (λc C=>∃u,C=(((A8 d u:Nat):Int),(c:Int),Cg d u)/\∀m,m<=d->u m=g m++if q<=m/\m<q+c then (s (m-q)).map λi=>h++[i] else []) _ ⟨g,rfl,λm _=>by rw[Bb ω,append_nil]⟩ ?_ ?_
   .rintro c _ hc ⟨u,rfl,P⟩
    have ap:∀m,m<=d->(u m).length<=1000:=λm o=>by
     rw[P m o,Ew]
     have:=b5 m o
     split
     .rw[Er];have:=ar (m-q) ω;omega
     .simp;omega
    simp only[Wx (a:=q) (b:=c) ω,Ap (show ((q+c:Nat):Int)<=(d:Int) by omega),Am,Mw (f:=s) rfl (show c<=d by omega),Ag]
    have bf:=ar c ω
    refine Gb (s c) (λe C=>∃w,C=(((A8 d w:Nat):Int),(e:Int),Cg d w)/\(∀m,m<=d->m≠q+c->w m=u m)/\w (q+c)=u (q+c)++((s c).take e).map λi=>h++[i]) _ ⟨u,rfl,λ_ _ _=>rfl,ψ⟩ ω ?_ ?_
    .rintro e i _ he hi e1 e2 e3 ⟨w,rfl,T,I⟩
     have b0:(w (q+c)).length<=1500:=by
      rw[I,Ew,Er,length_take]
      have:=ap (q+c) ω;omega
     have bd:A8 d w<=7*1500:=by
      refine Nat.le_trans (Aan (B:=1500) λm o=>?_) (Nat.mul_le_mul_right 1500 (show d+1<=7 by omega))
      by_cases D:m=q+c
      .rw[D];exact b0
      .rw[T m o D];have:=ap m o;omega
     simp only[e1,e2,e3,Am,Ag,Mw (f:=w) rfl (show q+c<=d by omega),Aza (show h.length<=1000 by omega)]
     rw[Cy ζ,Ag,Cy ζ,Ag,Ny rfl,Kh ω]
     refine⟨_,rfl,.inl ⟨_,rfl,Aj w (q+c) (w (q+c)++[h++[i]]),?_,λm o ax=>?_,?_⟩⟩
     .rw[Ww (show q+c<=d by omega)];rfl
     .rw[Be _ _ ax];exact T m o ax
     .rw[Ba,I,C5 hi,map_append,append_assoc];rfl
    .rintro e1 _ ⟨w,rfl,T,I⟩
     refine⟨_,by simp only[e1];rfl,_,rfl,.inl ⟨_,rfl,w,by rw[Kh ω],λm o=>?_⟩⟩
     by_cases D:m=q+c
     .subst D
      rw[I,P _ o,Bb ω,Bc ω,append_nil,Dr,show q+c-q=c by omega]
     .rw[T m o D,P m o]
      congr 1
      by_cases ay:q<=m/\m<q+c
      .rw[Bc ay,Bc ω]
      .rw[Bb ay,Bb ω]
   .rintro _ ⟨u,rfl,P⟩
    have aq:∀m,m<=d->u m=nxF F s q m++if q<=m then ((F q).take (p+1)).flatMap λh=>(s (m-q)).map λi=>h++[i] else []:=by
     intro m o
     rw[P m o,hg m o,append_assoc]
     congr 1
     by_cases L:q<=m
     .rw[Bc L,Bc ω,Bc L,C5 au,flatMap_append,List.flatMap_singleton]
     .rw[Bb L,Bb ω,Bb L];rfl
    refine⟨_,by rw[show (((d-q+1:Nat):Int))=((d-q+1:Nat):Int) from rfl];simp only[Wx (a:=q) (b:=d-q+1) ω,Ax (show ¬((q+(d-q+1):Nat):Int)<=(d:Int) by omega),Av];rfl,?_⟩
    dsimp only
    by_cases h5:500<A8 d u
    .rw[Ap (show ((A8 d u:Nat):Int)>500 by omega)]
     refine⟨_,rfl,.inr ⟨_,rfl,_,rfl,.inr ⟨_,rfl,b7 (Snu.big ((hn.snu).sub (g:=u) λm o=>?_) h5)⟩⟩⟩
     rw[aq m o];exact Azc v
    .rw[Ax (show ¬((A8 d u:Nat):Int)>500 by omega)]
     exact⟨_,rfl,.inl ⟨_,rfl,u,by rw[g3],aq,ω⟩⟩
  .rintro g1 _ ⟨g,rfl,hg,a7⟩
   refine⟨_,by simp only[g1];rfl,_,rfl,.inl ⟨_,rfl,g,by rw[h3],λm o=>?_,a7⟩⟩
   rw[hg m o,Dr]
   unfold nxF
   rw[range_succ,flatMap_append,List.flatMap_singleton]
 .rintro h1 _ ⟨f,rfl,hf,a8⟩
  refine⟨_,by simp only[h1];rfl,b6 _ _ f (hn.of_eq λm o=>?_) a8⟩
  rw[hf m o,Ij]
theorem Af4 {e:Ae} (h:Fs data e t=some a):1<=a:=by
 unfold Fs at h;cases i:Fr data t e.U with
 | none=>rw[i]at h;cases h
 | some c=>rw[i,Ag]at h;cases j:Bv data e.K c with| none=>rw[j]at h;cases h| some b=>rw[j]at h;have:1+b=a:=Fe h;omega
theorem Pb (e:t.G=5) (x:Ae):B3 data x t=if x.U=0 then Fb data x.K t else none:=by rw[Jw,Bb ω,Bb ω,Bc e]
theorem Mz (j:t.G=5) (h:B3 data x t=some d):x=⟨0,x.K⟩/\Fb data x.K t=some d/\x.K.length<=d:=by
 rw[Pb j]at h;split at h
 .rename_i i;cases x with| mk n e=>have i:n=0:=i;subst i;exact⟨rfl,h,We data e t d h⟩
 .cases h
def sqP (el f:Nat->List Ae) (k j:Nat):List Ae:=(range j).flatMap λa=>(el (a+1)).flatMap λe=>(f (k-(a+1))).map λr=>(⟨0,e::r.K⟩:Ae)
theorem Aze (v:t.G=5) (P:1<=k) (A:k<=d) (q:Et (λe=>Fs data e t) d el) (w:∀m,m<k->(f m).Nodup/\∀x,x∈f m↔B3 data x t=some m) : (sqP el f k k).Nodup/\∀x,x∈sqP el f k k↔B3 data x t=some k:=by
 constructor
 .refine Pa List.nodup_range (λa C=>?_) (λa C b O s x n G=>?_)
  .rw[mem_range]at C;refine Pa (q (a+1) ω).1 (λe _=>Lx (λr z u y h=>?_) (w _ ω).1) (λe _ I _ s x n G=>?_)
   .have j:=(Mz v (((w _ ω).2 r).1 z)).1;have c:=(Mz v (((w _ ω).2 u).1 y)).1;injection h with _ h;injection h with _ h;rw[j,c,h]
   .obtain⟨r,_,rfl⟩:=mem_map.1 n;obtain⟨u,_,h⟩:=mem_map.1 G;injection h with _ h;injection h with h _;exact s h.symm
  .rw[mem_range]at C O;obtain⟨e,o,n⟩:=mem_flatMap.1 n;obtain⟨I,H,G⟩:=mem_flatMap.1 G;obtain⟨r,_,rfl⟩:=mem_map.1 n;obtain⟨u,_,h⟩:=mem_map.1 G;injection h with _ h;injection h with h _;have j:Fs data e t=some (a+1):=((q _ ω).2 e).1 o;have c:Fs data I t=some (b+1):=((q _ ω).2 I).1 H;rw[h,j]at c;have:=Fe c;omega
 .intro x;constructor
  .intro n;obtain⟨a,C,n⟩:=mem_flatMap.1 n;rw[mem_range]at C;obtain⟨e,o,n⟩:=mem_flatMap.1 n;obtain⟨r,z,rfl⟩:=mem_map.1 n;have j:Fs data e t=some (a+1):=((q _ ω).2 e).1 o;have c:=(Mz v (((w _ ω).2 r).1 z)).2.1;rw[Pb v,Bc rfl,Tc,j,c];simp;omega
  .intro n;obtain⟨j,c,_⟩:=Mz v n;cases i:x.K with
   | nil=>rw[i]at c;simp only[Fb]at c;have:=Fe c;omega
   | cons e N=>
    rw[i,Tc]at c;cases o:Fs data e t with
    | none=>rw[o]at c;cases c
    | some a=>
     rw[o,Ag]at c;cases H:Fb data N t with
     | none=>rw[H]at c;cases c
     | some b=>
      rw[H]at c;have B:a+b=k:=Fe c;have hp:=Af4 o;refine mem_flatMap.2 ⟨a-1,mem_range.2 ω,mem_flatMap.2 ⟨e,((q _ ω).2 e).2 (show Fs data e t=_ by rw[o];congr 1;omega),mem_map.2 ⟨⟨0,N⟩,((w _ ω).2 _).2 ?_,?_⟩⟩⟩
      .rw[Pb v,Bc rfl,H];congr 1;omega
      .rw[j,i]
theorem Azf {j:Nat} (i:j<k):(sqP el f k j++((el (j+1)).take p).flatMap λe=>(f (k-(j+1))).map λr=>(⟨0,e::r.K⟩:Ae)).Sublist (sqP el f k k):=by have h:(sqP el f k (j+1)).Sublist (sqP el f k k):=Tp _ (Af1 ω);refine List.Sublist.trans ?_ h;unfold sqP;rw[range_succ,flatMap_append,List.flatMap_singleton];exact (List.Sublist.refl _).append (Tp _ (List.take_sublist _ _))
theorem Azg (a:Ae) (l:List Ae) (h:l.length<=999999):Si [[a],l]=some (a::l) := Afz (B:=32) δ (gr:=Y5) (λn h=>Af0 n h) [a] l ζ
theorem Aoh (W:t.G=5) (hd:d<=6) (he:Et (λe=>Fs data e t) d el) (bb:∀m,m<=d->(el m).length<=4000) {J:((List (List Ae)×Bool)⊕(List (List Ae)×List (List Ae)))->Option R} (be:Dv (λi=>B3 data i t) d->∃r,J (.inl ([],false))=some r/\Q r) (bd:∀(G:Nat->List Ae),Et (λi=>B3 data i t) d G->A8 d G<=500->∃r,J (.inr (Cg d el,Cg d G))=some r/\Q r) :
  ∃r,(Ak (S:=(Int×Int×List (List Ae)×List (List Ae))) (E:=((List (List Ae)×Bool)⊕(List (List Ae)×List (List Ae)))) (λ(aq,b,ad,ac)=>
  bif b<=(d:Int) then (
  (Ak (S:=(Int×Int×List (List Ae)×List (List Ae))) (E:=((List (List Ae)×Bool)⊕(Int×Int×List (List Ae)×List (List Ae)))) (λ(a8,c,O,ab)=>
  bif c<=b then (
  (Af O c).bind λL=>
  (Ak (S:=(Int×Int×List (List Ae))) (E:=((List (List Ae)×Bool)⊕(Int×Int×List (List Ae)))) (λ(a7,A,N)=>
  bif A<((L.length:Nat):Int) then (
  (Af L A).bind λap=>
  (Af N (Ac (b-c))).bind λI=>
  (Ak (S:=(Int×Int×List (List Ae))) (E:=(Int×Int×List (List Ae))) (λ(a6,s,M)=>
  bif s<((I.length:Nat):Int) then (
  (Af I s).bind λao=>
  (neG (Ac (b-c)) b).bind λbj=>
  (Af M b).bind λD=>
  (Si [[ap],ao.K]).bind λam=>
  (Bl 32 D [(Ae.mk 0 [])]).bind λaa=>
  (Af aa ((D.length:Nat):Int)).bind λbi=>
  some (.inl ((Ac (a6+1)),(Ac (s+1)),(Bk M b (Bk aa ((D.length:Nat):Int) (Ae.mk 0 am)))))
  )
  else (
  some (.inr (a6,s,M))
  )
   ) (a7,0,N)).bind λ(a1,bh,b3)=>
  bif a1>(500:Int) then (
  some (.inr (.inl ([],false)))
  )
  else (
  some (.inl (a1,(Ac (A+1)),(Bk b3 (Ac (b-c)) I)))
  )
  )
  else (
  some (.inr (.inr (a7,A,N)))
  )
   ) (a8,0,ab)).bind λz=>
  match z with
  | .inl (ax,av)=>(
  some (.inr (.inl (ax,av)))
  )
  | .inr (ak,bg,b0)=>(
  some (.inl (ak,(Ac (c+1)),(Bk O c L),b0))
  )
  )
  else (
  some (.inr (.inr (a8,c,O,ab)))
  )
   ) (aq,1,ad,ac)).bind λz=>
  match z with
  | .inl (au,ar)=>(
  some (.inr (.inl (au,ar)))
  )
  | .inr (aj,bf,az,ay)=>(
  some (.inl (aj,(Ac (b+1)),az,ay))
  )
  )
  else (
  some (.inr (.inr (ad,ac)))
  )
   ) (1,1,Cg d el,Cg d (Aj (λ_=>[]) 0 [⟨0,[]⟩]))).bind J=some r/\Q r:=by
 have t0:A8 d (Aj (λ_=>([]:List Ae)) 0 [⟨0,[]⟩])=1:=by
  have:=Ww (d:=d) (n:=0) (f:=λ_=>([]:List Ae)) (z:=[⟨0,[]⟩]) ω
  rw[nil_append,Aam]at this
  exact this
 refine La d (λP C=>∃f,C=(((A8 d f:Nat):Int),((P + 1:Nat):Int),Cg d el,Cg d f)/\(∀m,m<P + 1->(f m).Nodup/\∀x,x∈f m↔B3 data x t=some m)/\(∀m,P + 1<=m->m<=d->f m = [])/\A8 d f<=500) Q
  ⟨Aj (λ_=>[]) 0 [⟨0,[]⟩],by rw[t0];rfl,λm o=>?_,λm o _=>Be _ _ ω,ω⟩ ?_ ?_
 .have:m=0:=ω
  subst this
  rw[Ba]
  refine⟨ψ,λx=>⟨λh=>?_,λh=>?_⟩⟩
  .rw[Fx.1 h,Pb W,Bc rfl];simp only[Fb]
  .obtain⟨q1,_,q3⟩:=Mz W h
   rw[q1,F9.1 (Nat.le_zero.1 q3)]
   exact Fx.2 rfl
 .rintro P _ bp ⟨f,rfl,v,V,Z⟩
  obtain⟨k,b7⟩:∃k,k=P + 1:=⟨_,rfl⟩
  rw[<-b7]at v V ⊢
  have hq:=Aze W (show 1<=k by omega) (show k<=d by omega) he v
  have b5:∀y:Nat->List Ae,(∀m,m<=d->m≠k->y m=f m)->(y k).Sublist (sqP el f k k)->Snu (λi=>B3 data i t) d y:=by
   intro y a0 b4 m o
   by_cases U:m=k
   .subst U
    exact⟨hq.1.sublist b4,λx T=>(hq.2 x).1 (b4.subset T)⟩
   .rw[a0 m o U]
    rcases C9 m k with h|h
    .exact⟨(v m h).1,λx T=>((v m h).2 x).1 T⟩
    .rw[V m h o];exact⟨List.nodup_nil,λx T=>by cases T⟩
  simp only[Ap (show ((k:Nat):Int)<=(d:Int) by omega),Am]
  have b8:∀m,m<=d->(f m).length<=500:=λm o=>Nat.le_trans (My o) Z
  refine La k (λj C=>∃u,C=(((A8 d u:Nat):Int),((j+1:Nat):Int),Cg d el,Cg d u)/\(∀m,m<=d->m≠k->u m=f m)/\u k=sqP el f k j/\A8 d u<=500) _ ⟨f,rfl,λ_ _ _=>rfl,by rw[V k (Nat.le_refl _) ω];rfl,Z⟩ ?_ ?_
  .rintro j _ hj ⟨u,rfl,hu,ah,ai⟩
   have b9:Ac ((k:Int)-((j+1:Nat):Int))=((k-(j+1):Nat):Int):=by rw[Ac,B6] <;> omega
   simp only[Ap (show ((j+1:Nat):Int)<=((k:Nat):Int) by omega),Am,Mw (f:=el) rfl (show j+1<=d by omega),Ag,b9]
   refine Gb (el (j+1)) (λp C=>∃w,C=(((A8 d w:Nat):Int),(p:Int),Cg d w)/\(∀m,m<=d->m≠k->w m=f m)/\w k=sqP el f k j++(((el (j+1)).take p).flatMap λe=>(f (k-(j+1))).map λr=>(⟨0,e::r.K⟩:Ae))/\A8 d w<=500) _ ⟨u,rfl,hu,by rw[ah];simp,ai⟩ (by have:=bb (j+1) ω;omega) ?_ ?_
   .rintro p e _ hp ba g1 g2 g3 ⟨w,rfl,hw,af,ag⟩
    simp only[g1,g2,Am,Mw (f:=w) rfl (show k-(j+1)<=d by omega),Ag,hw (k-(j+1)) ω ω]
    have bn:=b8 (k-(j+1)) ω
    have bl:(w k).length<=500:=Nat.le_trans (My ω) ag
    refine Gb (f (k-(j+1))) (λq C=>∃y,C=(((A8 d y:Nat):Int),(q:Int),Cg d y)/\(∀m,m<=d->m≠k->y m=f m)/\y k=w k++((f (k-(j+1))).take q).map λr=>(⟨0,e::r.K⟩:Ae)) _ ⟨w,rfl,hw,ψ⟩ ω ?_ ?_
    .rintro q r _ a2 hr e1 e2 e3 ⟨y,rfl,H,X⟩
     have bo:=(Mz W (((v (k-(j+1)) ω).2 r).1 (B4 hr))).2.2
     have bk:(y k).length<=1000:=by rw[X,Ew,Er,length_take];omega
     have bm:A8 d y<=7*1500:=by
      refine Nat.le_trans (Aan (B:=1500) λm o=>?_) (Nat.mul_le_mul_right 1500 (show d+1<=7 by omega))
      by_cases b6:m=k
      .rw[b6];omega
      .rw[H m o b6];have:=b8 m o;omega
     have Y:neG (((k-(j+1):Nat):Int)) (k:Int)=some ():=by
      unfold neG
      rw[D2 (show ((k-(j+1):Nat):Int)≠(k:Int) by omega)];rfl
     simp only[e1,e2,e3,Am,Ag,Y,Mw (f:=y) rfl (show k<=d by omega),Azg e r.K (show r.K.length<=999999 by omega)]
     rw[Cy ζ,Ag,Af3,Ag,Af2,Ny rfl,Kh ω]
     refine⟨_,rfl,.inl ⟨_,rfl,Aj y k (y k++[⟨0,e::r.K⟩]),?_,λm o Y=>?_,?_⟩⟩
     .rw[Ww (show k<=d by omega)];rfl
     .rw[Be _ _ Y];exact H m o Y
     .rw[Ba,X,C5 hr,map_append,append_assoc];rfl
    .rintro e1 _ ⟨y,rfl,H,X⟩
     refine⟨_,by simp only[e1];rfl,?_⟩
     dsimp only
     have ae:y k=sqP el f k j++((el (j+1)).take (p+1)).flatMap λe=>(f (k-(j+1))).map λr=>(⟨0,e::r.K⟩:Ae):=by
      rw[X,af,Dr,C5 ba,flatMap_append,List.flatMap_singleton,append_assoc]
     by_cases h5:500<A8 d y
     .rw[Ap (show ((A8 d y:Nat):Int)>500 by omega)]
      refine⟨_,rfl,.inr ⟨_,rfl,_,rfl,.inr ⟨_,rfl,_,rfl,.inr ⟨_,rfl,be (Snu.big (b5 y H ?_) h5)⟩⟩⟩⟩
      rw[ae];exact Azf ω
     .rw[Ax (show ¬((A8 d y:Nat):Int)>500 by omega)]
      refine⟨_,rfl,.inl ⟨_,rfl,y,?_,H,ae,ω⟩⟩
      rw[g3,Ny rfl,<-H (k-(j+1)) ω ω,Ans]
   .rintro g1 _ ⟨w,rfl,hw,af,ag⟩
    refine⟨_,by simp only[g1];rfl,_,rfl,.inl ⟨_,rfl,w,?_,hw,?_,ag⟩⟩
    .rw[Kh ω,Ny rfl,Ans]
    .rw[af,Dr]
     unfold sqP
     rw[range_succ,flatMap_append,List.flatMap_singleton]
  .rintro _ ⟨u,rfl,hu,ah,ai⟩
   refine⟨_,by simp only[Ax (show ¬((k+1:Nat):Int)<=((k:Nat):Int) by omega)];rfl,_,rfl,.inl ⟨_,rfl,u,by rw[b7,Kh ω],λm o=>?_,λm o h=>?_,ai⟩⟩
   .by_cases U:m=k
    .subst U;rw[ah];exact hq
    .rw[hu m ω U];exact v m ω
   .rw[hu m h ω];exact V m ω h
 .rintro _ ⟨f,rfl,v,V,Z⟩
  refine⟨_,by simp only[Ax (show ¬((d+1:Nat):Int)<=(d:Int) by omega)];rfl,bd f (λm o=>v m ω) Z⟩
theorem Aao (i:G4 data) (n:Dk data 0 t=true) {c:Int} {b:List Ai} (h:Fr data t c=some b):∀a∈b,Dk data 0 a=true/\Bi a<=200:=by unfold Fr at h;cases e:I8 data t c with| none=>rw[e]at h;cases h| some l=>rw[e]at h;cases h;intro a j;unfold Gx at j;obtain⟨p,f,rfl⟩:=mem_map.1 j;exact Ax9 i n e _ (of_mem_zip (mem_filter.1 f).1).1
theorem Aap (h:Dk data 0 t=true) (j:t.G=5):∃d,Af data t.U=some d:=by rw[S7,Dt]at h;have h:=h.1;unfold I6 at h;rw[Bb ω,Bb ω,Bc j,Dt,E8]at h;obtain⟨o,e⟩:=h;cases i:data[t.U.toNat]? with| none=>rw[i]at e;cases e| some d=>exact⟨d,Cp (n:=t.U.toNat) ω i⟩
theorem Aoi (hd:d<=6) (N:A8 d F<=500) (L:∃r,J (Cg d λm=>(F m).map λr=>(⟨0,r⟩:Ae))=some r/\Q r) : ∃r,(Ak (S:=(Int×List (List Ae))) (E:=(List (List Ae))) (λ(e,j)=> bif e<((Cg d F).length:Int) then ((Af (Cg d F) e).bind λC=> (Ak (S:=(Int×List (List Ae))) (E:=(Int×List (List Ae))) (λ(h,c)=> bif h<(C.length:Int) then ((Af C h).bind λz=> (Af c e).bind λo=> (Bl 32 o [(Ae.mk 0 [])]).bind λi=> (Af i ((o.length:Nat):Int)).bind λV=> some (.inl ((Ac (h+1)),(Bk c e (Bk i ((o.length:Nat):Int) (Ae.mk 0 z)))))) else (some (.inr (h,c)))) (0,j)).bind λ(W,B)=> some (.inl ((Ac (e+1)),B))) else (some (.inr j))) (0,Cg d λ_=>[])).bind J=some r/\Q r:=by
 refine Gb (Cg d F) (λq A=>∃u,A=((q:Int),Cg d u)/\∀m,m<=d->u m=if m<q then (F m).map λr=>(⟨0,r⟩:Ae) else []) Q ⟨λ_=>[],rfl,λm _=>by rw[Bb ω]⟩ (by rw[Ij];omega) ?_ ?_
 .rintro q O _ hq y P h2 h3 ⟨u,rfl,H⟩;rw[Ij]at hq;have n:q<=d:=ω;rw[Tj n]at y;cases y;have M:(F q).length<=500:=Nat.le_trans (My n) N;simp only[P,h2,Am,Ag];refine Gb (F q) (λp A=>∃w,A=((p:Int),Cg d w)/\(∀m,m<=d->m≠q->w m=u m)/\w q=((F q).take p).map λr=>(⟨0,r⟩:Ae)) _ ⟨u,rfl,λ_ _ _=>rfl,by rw[H q n,Bb ω];rfl⟩ ω ?_ ?_
  .rintro p T _ hp I U g2 g3 ⟨w,rfl,D,b⟩;have G:(w q).length<=500:=(by rw[b,Er,length_take];omega);simp only[U,g2,g3,Am,Ag,Mw (f:=w) rfl n];rw[Cy ζ,Ag,Af3,Ag,Af2,Ny rfl];refine⟨_,rfl,.inl ⟨_,rfl,Aj w q (w q++[⟨0,T⟩]),rfl,λm v k=>?_,?_⟩⟩
   .rw[Be _ _ k];exact D m v k
   .rw[Ba,b,C5 I,map_append];rfl
  .rintro U _ ⟨w,rfl,D,b⟩;refine⟨_,by simp only[U];rfl,_,rfl,.inl ⟨_,rfl,w,by rw[h3],λm v=>?_⟩⟩;by_cases s:m=q
   .subst s;rw[b,Dr,Bc ω]
   .rw[D m v s,H m v];by_cases x:m<q
    .rw[Bc x,Bc ω]
    .rw[Bb x,Bb ω]
 .rintro P _ ⟨u,rfl,H⟩;refine⟨_,by simp only[P];rfl,?_⟩;rw[show Cg d u=Cg d λm=>(F m).map λr=>(⟨0,r⟩:Ae) from Afp λm v=>by rw[H m v,Ij,Bc ω]];exact L
theorem Azh (hd:d+1<=6) (c:Int) {G:Nat->List (List Ae)} (Y:A8 d G<=500) (hf:∀m,m<=d+1->(f m).length<=4000) {J:(Int×List (List Ae))->Option R} (V:∀n,∃r,J (n,Cg (d+1) λm=>f m++if 1<=m then (G (m-1)).map λr=>(⟨c,r⟩:Ae) else [])=some r/\Q r) : ∃r,(Ak (S:=(Int×List (List Ae))) (E:=(Int×List (List Ae))) (λ(e,s)=> bif e<((Cg d G).length:Int) then ((Af (Cg d G) e).bind λv=> (Ak (S:=(Int×List (List Ae))) (E:=(Int×List (List Ae))) (λ(b,i)=> bif b<(v.length:Int) then ((Af v b).bind λx=> (Af i (Ac (e+1))).bind λo=> (Bl 32 o [(Ae.mk 0 [])]).bind λk=> (Af k ((o.length:Nat):Int)).bind λN=> some (.inl ((Ac (b+1)),(Bk i (Ac (e+1)) (Bk k ((o.length:Nat):Int) (Ae.mk c x)))))) else (some (.inr (b,i)))) (0,s)).bind λ(M,y)=> some (.inl ((Ac (e+1)),y))) else (some (.inr (e,s)))) (0,Cg (d+1) f)).bind J=some r/\Q r:=by
 refine Gb (Cg d G) (λq I=>∃u,I=((q:Int),Cg (d+1) u)/\∀m,m<=d+1->u m=f m++if 1<=m/\m<q+1 then (G (m-1)).map λr=>(⟨c,r⟩:Ae) else []) Q ⟨f,rfl,λm _=>by rw[Bb ω,append_nil]⟩ (by rw[Ij];omega) ?_ ?_
 .rintro q Z _ hq D T h2 h3 ⟨u,rfl,P⟩;rw[Ij]at hq;have H:q<=d:=ω;rw[Tj H]at D;cases D;have X:(G q).length<=500:=Nat.le_trans (My H) Y;simp only[T,h2,h3,Am,Ag];refine Gb (G q) (λp I=>∃w,I=((p:Int),Cg (d+1) w)/\(∀m,m<=d+1->m≠q+1->w m=u m)/\w (q+1)=f (q+1)++((G q).take p).map λr=>(⟨c,r⟩:Ae)) _ ⟨u,rfl,λ_ _ _=>rfl,by rw[P (q+1) ω,Bb ω];rfl⟩ ω ?_ ?_
  .rintro p W _ hp U g1 g2 g3 ⟨w,rfl,L,j⟩;have O:(w (q+1)).length<=4500:=(by rw[j,Ew,Er,length_take];have:=hf (q+1) ω;omega);simp only[g1,g2,g3,Am,Ag,Mw (f:=w) rfl (show q+1<=d+1 by omega)];rw[Cy ζ,Ag,Af3,Ag,Af2,Ny rfl];refine⟨_,rfl,.inl ⟨_,rfl,Aj w (q+1) (w (q+1)++[⟨c,W⟩]),rfl,λm C z=>?_,?_⟩⟩
   .rw[Be _ _ z];exact L m C z
   .rw[Ba,j,C5 U,map_append,append_assoc];rfl
  .rintro g1 _ ⟨w,rfl,L,j⟩;refine⟨_,by simp only[g1];rfl,_,rfl,.inl ⟨_,rfl,w,rfl,λm C=>?_⟩⟩;by_cases A:m=q+1
   .subst A;rw[j,Dr,Bc ω];rfl
   .rw[L m C A,P m C];by_cases B:1<=m/\m<q+1
    .rw[Bc B,Bc ω]
    .rw[Bb B,Bb ω]
 .rintro T _ ⟨u,rfl,P⟩;refine⟨_,by simp only[T];rfl,?_⟩;rw[show Cg (d+1) u=Cg (d+1) λm=>f m++if 1<=m then (G (m-1)).map λr=>(⟨c,r⟩:Ae) else [] from Afp λm C=>by
   rw[P m C,Ij];by_cases h:1<=m
   .rw[Bc ω,Bc h]
   .rw[Bb ω,Bb h]];exact V _
theorem Aoj (hz:Szv data) (hs:Ht data) (hk:t.G=5) (ht:Bi t<=200) {x:Ao} (hx:Af data t.U=some x) (h8:x.O.length<=8) (hd:d<=6) (N:∀(c:Int) (A:List Ai) (z:Nat),Fr data t c=some A->d=z+1->Nz (Lo K data A (z:Int)) (λr=>Bv data r A) z) {J:((List (List Ae)×Bool)⊕List (List Ae))->Option R} (a8:Dv (λi=>B3 data i t) d->∃r,J (.inl ([],false))=some r/\Q r) (a7:∀el:Nat->List Ae,Et (λe=>Fs data e t) d el->(∀m,m<=d->(el m).length<=4000)->∃r,J (.inr (Cg d el))=some r/\Q r) : ∃r,(Ak (S:=(Int×List (List Ae))) (E:=((List (List Ae)×Bool)⊕List (List Ae))) (λ(q,M)=> bif q<(x.O.length:Int) then ((P2 data t q).bind λO=> (show OB from bif (!O.2) then (some true) else (some ((d:Int)==(0:Int)))).bind λa6=> bif a6 then (some (.inl ((Ac (q+1)),M))) else ((Lo K data O.1 (Ac ((d:Int)-1))).bind λT=> bif (!T.2) then (some (.inr (.inl ([],false)))) else ((Ak (S:=(Int×List (List Ae))) (E:=(Int×List (List Ae))) (λ(v,D)=> bif v<(T.1.length:Int) then ((Af T.1 v).bind λP=> (Ak (S:=(Int×List (List Ae))) (E:=(Int×List (List Ae))) (λ(k,s)=> bif k<(P.length:Int) then ((Af P k).bind λU=> (Af s (Ac (v+1))).bind λw=> (Bl 32 w [(Ae.mk 0 [])]).bind λB=> (Af B ((w.length:Nat):Int)).bind λac=> some (.inl ((Ac (k+1)),(Bk s (Ac (v+1)) (Bk B ((w.length:Nat):Int) (Ae.mk q U)))))) else (some (.inr (k,s)))
   ) (0,D)).bind λ(ab,X)=> some (.inl ((Ac (v+1)),X))) else (some (.inr (v,D)))) (0,M)).bind λ(aa,V)=> some (.inl ((Ac (q+1)),V))))) else (some (.inr (.inr M)))) (0,Cg d λ_=>[])).bind J=some r/\Q r:=by
 have h0:∀e,Fs data e t≠some 0:=λe h=>by have:=Af4 h;omega
 have I:∀e a,Fs data e t=some a->0<=e.U/\e.U<x.O.length:=by intro e a h;unfold Fs at h;cases W:Fr data t e.U with| none=>rw[W]at h;cases h| some A=>obtain⟨_,y,hy,h2,h3⟩:=S9 W;rw[hx]at hy;cases hy;exact⟨h2,h3⟩
 refine Gb x.O (λc st=>∃f,st=((c:Int),Cg d f)/\(∀m,m<=d->(f m).Nodup/\∀e,e∈f m↔Fs data e t=some m/\e.U<c)/\∀m,m<=d->(f m).length<=500*c) Q ⟨λ_=>[],rfl,λm _=>⟨List.nodup_nil,λe=>⟨nofun,λh=>by have:=(I e m h.1).1;have h2:e.U<((0:Nat):Int):=h.2;omega⟩⟩,λ_ _=>ψ⟩ ω ?_ ?_
 .rintro c ae _ hc ad W h2 h3 ⟨f,rfl,C,u⟩;have skip:(∀e,Fs data e t≠none->e.U≠(c:Int))\/d=0->(∃s',(Sum.inl (((c+1:Nat):Int),Cg d f):(Int×List (List Ae))⊕((List (List Ae)×Bool)⊕List (List Ae))) = .inl s'/\∃f,s'=(((c+1:Nat):Int),Cg d f)/\(∀m,m<=d->(f m).Nodup/\∀e,e∈f m↔Fs data e t=some m/\e.U<((c+1:Nat):Int))/\∀m,m<=d->(f m).length<=500*(c+1)):=by
   intro H;refine⟨_,rfl,f,rfl,λm o=>⟨(C m o).1,λe=>((C m o).2 e).trans ⟨λh=>⟨h.1,ω⟩,λh=>⟨h.1,?_⟩⟩⟩,λm o=>by have:=u m o;omega⟩;rcases H with H|H
   .have:=H e (by rw[h.1];exact λh=>by cases h);have:=h.2;omega
   .have:m=0:=ω;subst this;exact (h0 e h.1).elim
  simp only[W,h3,Am,Awv hz hs t ht,Ag];cases hp:Fr data t (c:Int) with
  | none=>refine⟨_,rfl,.inl (skip (.inl λe he Y=>he ?_))⟩;unfold Fs;rw[Y,hp];rfl
  | some A=>
   simp only[okL,Dn,Av,Ag];rcases Nat.eq_zero_or_pos d with a0|a0
   .rw[E5 (show (d:Int)=0 by omega)];exact⟨_,rfl,.inl (skip (.inr a0))⟩
   .obtain⟨z,rfl⟩:∃z,d=z+1:=⟨d-1,ω⟩;rw[Da (show ((z+1:Nat):Int)≠0 by omega)];simp only[Av];rw[show Ac (((z+1:Nat):Int)-1)=(z:Int) by rw[Ac,B6] <;> omega];rcases N c A z hp rfl with⟨G,hG,a1,Z⟩|⟨hG,hB⟩
    .rw[hG];simp only[Ag,Dn,Av];refine Azh hd (c:Int) Z (λm o=>by have:=u m o;omega) λn=>?_;have L:∀m,1<=m->m<=z+1->∀r,r∈G (m-1)↔Fs data ⟨c,r⟩ t=some m:=(by intro m j o r;rw[(a1 (m-1) ω).2 r];unfold Fs;show Bv data r A=some (m-1)↔(Fr data t (c:Int)).bind (λA=>(Bv data r A).map (1 + ·))=some m;rw[hp,Ag];cases Bv data r A with| none=>simp| some a=>simp;omega);refine⟨_,rfl,.inl ⟨_,rfl,_,rfl,λm o=>⟨?_,λe=>?_⟩,λm o=>?_⟩⟩
     .by_cases j:1<=m
      .rw[Bc j];refine nodup_append.2 ⟨(C m o).1,Lx (λa _ b _ e=>by cases e;rfl) (a1 (m-1) ω).1,?_⟩;intro a ha b hb e;subst e;obtain⟨r,_,rfl⟩:=mem_map.1 hb;have:=(((C m o).2 _).1 ha).2;simp only at this;omega
      .rw[Bb j,append_nil];exact (C m o).1
     .rw[Fi];by_cases j:1<=m
      .rw[Bc j,(C m o).2 e,mem_map];constructor
       .rintro (h|⟨r,hr,rfl⟩)
        .exact⟨h.1,by have:=h.2;omega⟩
        .exact⟨(L m j o r).1 hr,by simp only;omega⟩
       .rintro⟨h4,h5⟩;by_cases Y:e.U<(c:Int)
        .exact .inl ⟨h4,Y⟩
        .refine .inr ⟨e.K,?_,?_⟩
         .rw[L m j o,show (⟨(c:Int),e.K⟩:Ae)=e by cases e;simp only[Ae.mk.injEq,and_true];simp only at Y h5;omega];exact h4
         .cases e;simp only[Ae.mk.injEq,and_true];simp only at Y h5;omega
      .rw[Bb j,(C m o).2 e];have:m=0:=ω;subst this;exact⟨λh=>h.elim (λh=>(h0 e h.1).elim) nofun,λh=>(h0 e h.1).elim⟩
     .rw[Ew];have:=u m o;split
      .rw[Er];have:(G (m-1)).length<=500:=Nat.le_trans (My ω) Z;omega
      .simp;omega
    .rw[hG];simp only[Ag,Bool.not_false,Am];exact⟨_,rfl,.inr ⟨_,rfl,a8 (Dv.dat hk hp hB)⟩⟩
 .rintro W _ ⟨f,rfl,C,u⟩;refine⟨_,by simp only[W];rfl,a7 f (λm o=>⟨(C m o).1,λe=>((C m o).2 e).trans ⟨λh=>h.1,λh=>⟨h,(I e m h).2⟩⟩⟩) λm o=>by have:=u m o;omega⟩
theorem Wy {f:Nat->α}:Af (Cg d f) 0=some (f 0):=Mw (m:=0) rfl (Nat.zero_le d)
theorem Wz {f:Nat->α} {x:α}:Bk (Cg d f) 0 x=Cg d (Aj f 0 x):=Ny (m:=0) rfl x
theorem UpR.of (h:∃r,X=some r/\((∃F,r=(Cg d F,true)/\Et D d F/\A8 d F<=500)\/∃L,r=(L,false)/\Dv D d)):UpR X D d:=by
 obtain⟨r,h1,⟨F,rfl,h2⟩|⟨L,rfl,h2⟩⟩:=h
 .exact .inl ⟨F,h1,h2⟩
 .exact .inr ⟨L,h1,h2⟩
theorem Nz.of (h:∃r,X=some r/\((∃F,r=(Cg d F,true)/\Et D d F/\A8 d F<=500)\/(r=([],false)/\Dv D d))):Nz X D d:=by
 obtain⟨r,h1,⟨F,rfl,h2⟩|⟨rfl,h2⟩⟩:=h
 .exact .inl ⟨F,h1,h2⟩
 .exact .inr ⟨h1,h2⟩
theorem Af5 {α β:Type} (g:α->β) (f:Nat->List α):∀d,A8 d (λm=>(f m).map g)=A8 d f
 | 0=>by rw[To,To,Er]
 | d+1=>by rw[Tn,Tn,Af5 g f d,Er]
theorem Aok (f:t.G=6) (h:Et (λr=>Bv data r t.R) d F):Et (λi=>B3 data i t) d (λm=>(F m).map λr=>(⟨0,r⟩:Ae)):=by
 intro m j;refine⟨Lx (λa _ b _ e=>by cases e;rfl) (h m j).1,λx=>?_⟩;rw[mem_map];show _↔B3 data x t=some m;rw[Jw,Bc f];constructor
 .rintro⟨r,c,rfl⟩;rw[Bc rfl];exact ((h m j).2 r).1 c
 .intro n;split at n
  .rename_i o;exact⟨x.K,((h m j).2 _).2 n,by cases x;simp only at o;rw[o]⟩
  .cases n
theorem Af6 (b:t.G=7) (r:d<=6):Et (λi=>B3 data i t) d (λm=>[(⟨(m:Int),[]⟩:Ae)]):=by
 intro m u;refine⟨ψ,λx=>?_⟩;rw[Fx];show _↔B3 data x t=some m;rw[Jw,Bb ω,Bc b];constructor
 .rintro rfl;rw[Bc ⟨by simp only;omega,by simp only;omega,rfl⟩];simp
 .intro h;split at h
  .rename_i j;have e:=Fe h;obtain⟨n,o⟩:=x;simp only at j e;rw[F9.1 j.2.2,show n=(m:Int) by omega]
  .cases h
theorem Af7 (c:t.G≠6) (b:t.G≠7) (f:t.G≠5) (d:Nat):Et (λi=>B3 data i t) d (Aj (λ_=>[]) 0 [(⟨0,[]⟩:Ae)]):=by
 have e:∀x:Ae,B3 data x t=if x.U=0/\x.K.length=0 then some 0 else none:=λx=>by rw[Jw,Bb c,Bb b,Bb f]
 intro m u;rcases Nat.eq_zero_or_pos m with rfl|hp
 .rw[Ba];refine⟨ψ,λx=>?_⟩;rw[Fx];show _↔B3 data x t=some 0;rw[e];constructor
  .rintro rfl;rw[Bc ⟨rfl,rfl⟩]
  .intro o;split at o
   .rename_i j;obtain⟨n,r⟩:=x;simp only at j;rw[j.1,F9.1 j.2]
   .cases o
 .rw[Be _ _ ω];refine⟨List.nodup_nil,λx=>⟨nofun,λh=>?_⟩⟩;have h:B3 data x t=some m:=h;rw[e]at h;split at h
  .have:=Fe h;omega
  .cases h
theorem Af8 (d:Nat) (x:α):A8 d (Aj (λ_=>[]) 0 [x])=1:=by have:=Ww (d:=d) (n:=0) (f:=λ_=>([]:List α)) (z:=[x]) ω;rw[nil_append,Aam]at this;exact this
theorem Aol (e:d<=6):A8 d (λm=>[(⟨(m:Int),[]⟩:Ae)])<=500:=by have:=Aan (d:=d) (f:=λm=>[(⟨(m:Int),[]⟩:Ae)]) (B:=1) λm _=>ψ;omega
theorem Aom (data:List Ao) (d:Nat):Et (λr=>Bv data r []) d (Aj (λ_=>[]) 0 [([]:List Ae)]):=by
 intro m j;have e:∀x:List Ae,Bv data x []=some m↔x = []/\m=0:=by intro x;cases x with| nil=>rw[show Bv data [] []=some 0 by simp only[Bv]];exact⟨λh=>⟨rfl,(Fe h).symm⟩,λh=>by rw[h.2]⟩| cons i is=>simp[Bv]
 rcases Nat.eq_zero_or_pos m with rfl|hp
 .rw[Ba];refine⟨ψ,λx=>?_⟩;rw[Fx];exact⟨λh=>(e x).2 ⟨h,rfl⟩,λh=>((e x).1 h).1⟩
 .rw[Be _ _ ω];exact⟨List.nodup_nil,λx=>⟨nofun,λh=>by have:=((e x).1 h).2;omega⟩⟩
theorem Aon (B:d<=6) (k:∃r,J (Cg d λm=>[(⟨(m:Int),[]⟩:Ae)])=some r/\Q r) : ∃r,(Ak (S:=(Int×List (List Ae))) (E:=(List (List Ae))) (λ(n,b)=> bif n<(((Cg d λ_=>([]:List Ae)).length:Nat):Int) then ((Af b n).bind λc=> some (.inl ((Ac (n+1)),(Bk b n [(Ae.mk n [])])))) else (some (.inr b))) (0,Cg d λ_=>[])).bind J=some r/\Q r:=by
 refine Gb (Cg d λ_=>([]:List Ae)) (λq i=>∃u,i=((q:Int),Cg d u)/\∀m,m<=d->m<q->u m = [(⟨(m:Int),[]⟩:Ae)]) Q ⟨_,rfl,λm _ h=>ω⟩ (by rw[Ij];omega) ?_ ?_
 .rintro q x _ z C o G A ⟨u,rfl,v⟩;rw[Ij]at z;simp only[o,A,Am,Mw (f:=u) rfl (show q<=d by omega),Ag,Ny rfl];refine⟨_,rfl,.inl ⟨_,rfl,_,rfl,λm w j=>?_⟩⟩;by_cases e:m=q
  .subst e;rw[Ba]
  .rw[Be _ _ e];exact v m w ω
 .rintro o _ ⟨u,rfl,v⟩;refine⟨_,by simp only[o];rfl,?_⟩;rw[show Cg d u=Cg d λm=>[(⟨(m:Int),[]⟩:Ae)] from Afp λm w=>v m w (by rw[Ij];omega)];exact k
theorem Aoo (R:G4 data) (W:Ht data):∀k:Nat, (∀(d:Nat) (t:Ai),d<=6->2*Bi t+3000*d<=k->Dk data 0 t=true->Bi t<=200->UpR (Vy k data t (d:Int)) (λi=>B3 data i t) d) /\ (∀(d:Nat) (f:List Ai),d<=6->2*Cl f+1+3000*d<=k->f.length<=900->(∀t∈f,Dk data 0 t=true/\Bi t<=200)->Nz (Lo k data f (d:Int)) (λr=>Bv data r f) d) /\ (∀(d:Nat) (t:Ai),d<=6->t.G=5->1+3000*d<=k->Dk data 0 t=true->Bi t<=200->Nz (Vz k data t (d:Int)) (λi=>B3 data i t) d):=by
 have J:=R.szv;intro k;induction k with
 | zero=>exact⟨λd t _ v=>by have:=Ke t;omega,λd f _ v=>ω,λd t _ _ v=>ω⟩
 | succ k ih=>
  obtain⟨N,D,O⟩:=ih;refine⟨λd t h v b o=>?_,λd f h v Y b=>?_,λd t h z v b o=>?_⟩
  .have a1:=G3 t;have a6:=Hs t.R;rw[Vy,Wr h δ,Ag];by_cases I:t.G=6
   .simp only[E5 I,Am];rcases D d t.R h ω ω (λa T=>⟨Wq b a T,by have:=G6 T;omega⟩) with⟨F,u,B,q⟩|⟨u,y⟩
    .rw[u,Ag];exact UpR.of (Aoi h q ⟨_,rfl,.inl ⟨_,rfl,Aok I B,by rw[Af5];exact q⟩⟩)
    .rw[u,Ag,F5 (e:=Cg d λ_=>[]) rfl];exact .inr ⟨_,rfl,y.tup I⟩
   .simp only[Da I,Av];by_cases M:t.G=7
    .simp only[E5 M,Am];exact UpR.of (Aon h ⟨_,rfl,.inl ⟨_,rfl,Af6 M h,Aol h⟩⟩)
    .simp only[Da M,Av];by_cases z:t.G=5
     .simp only[E5 z,Am];rcases O d t h z ω b o with⟨F,u,B⟩|⟨u,y⟩
      .rw[u];exact .inl ⟨F,rfl,B⟩
      .rw[u];exact .inr ⟨_,rfl,y⟩
     .simp only[Da z,Av];rw[Wy,Ag,Wz];exact .inl ⟨_,rfl,Af7 I M z d,by rw[Af8];omega⟩
  .rw[Lo,Wr h δ,Ag,Wy,Ag,Wz];refine Nz.of (Gb f (λj Z=>∃F,Z=(Cg d F,(j:Int))/\Et (λr=>Bv data r (f.take j)) d F/\A8 d F<=500) _ ⟨_,rfl,Aom data d,by rw[Af8];omega⟩ ω ?_ ?_)
   .rintro j t _ hj o w h2 h3 ⟨F,rfl,u,q⟩;have C:=B4 o;have:=G6 C;have E:f=f.take j++([t]++f.drop (j+1)):=(by rw[singleton_append,<-Mt o,take_append_drop]);simp only[w,h2,Am,Ag];rcases N d t h ω (b t C).1 (b t C).2 with⟨s,A,U,S⟩|⟨L,A,y⟩
    .rw[A];simp only[Ag,Dn,Av];refine Azd h u U S q (by rw[length_take];omega) (λy=>⟨_,rfl,.inr ⟨_,rfl,_,rfl,.inr ⟨rfl,?_⟩⟩⟩) λn m G X V=>⟨_,rfl,.inl ⟨_,rfl,G,by rw[h3],by rw[C5 o];exact X,V⟩⟩;rw[E,<-append_assoc];exact y.pre
    .rw[A];refine⟨_,rfl,.inr ⟨_,rfl,_,rfl,.inr ⟨rfl,?_⟩⟩⟩;rw[E];exact y.one.pre.suf
   .rintro w _ ⟨F,rfl,u,q⟩;refine⟨_,by simp only[w];rfl,_,rfl,.inl ⟨F,rfl,by rw[Dr]at u;exact u,q⟩⟩
  .obtain⟨x,H⟩:=Aap b z;obtain⟨_,_,_,P⟩:=E9 H;rw[Vz,Wr h δ,Ag,H,Ag];refine Nz.of (Aoj J W z o H (R.cons8 x P) h (λc f d' hp e=>D d' f ω (by have:=Tk J hp;omega) (by have:=Tk J hp;have:=Hs f;have:=Wu J hp;omega) (Aao R b hp)) (λy=>⟨_,rfl,.inr ⟨rfl,y⟩⟩) λel hE hl=>?_);change ∃r,Option.bind (some (Cg d λ_=>([]:List Ae))) _=some r/\_;rw[Ag,Wy,Ag,Wz];exact Aoh z h hE hl (λy=>⟨_,rfl,.inr ⟨rfl,y⟩⟩) λG X V=>⟨_,rfl,.inl ⟨G,rfl,X,V⟩⟩
def UpT (X:Option ((List (List Ae)×Bool)⊕((Bool×List (List Ae))⊕(Bool×List (List Ae))))) (D:Ae->Option Nat) (d:Nat):Prop := (∃F,(X=some (.inr (.inl (true,Cg d F)))\/X=some (.inr (.inr (true,Cg d F))))/\Et D d F/\A8 d F<=500) \/ (((∃L,X=some (.inl (L,false)))\/(∃L,X=some (.inr (.inl (false,L))))\/∃L,X=some (.inr (.inr (false,L))))/\Dv D d)
theorem Aop (k:G4 data) (A:Ht data) (f:Dk data 0 t=true) (P:Bi t<=200) (h:d<=6):UpT (Jg data t (d:Int)) (λi=>B3 data i t) d:=by
 have z:=k.szv;have I:=G3 t;have M:=Hs t.R;unfold Jg;rw[Wr h δ,Ag];by_cases u:t.G=6
 .simp only[E5 u,Am];rcases (Aoo k A 4000000).2.1 d t.R h ω ω (λa H=>⟨Wq f a H,by have:=G6 H;omega⟩) with⟨F,D,B,q⟩|⟨D,s⟩
  .rw[D,Ag];obtain⟨r,o,n⟩:=Aoi h q (J:=λb=>some (Sum.inr (Sum.inl (true,b)):(List (List Ae)×Bool)⊕((Bool×List (List Ae))⊕(Bool×List (List Ae))))) (Q:=λr=>r = .inr (.inl (true,Cg d λm=>(F m).map λr=>(⟨0,r⟩:Ae)))) ⟨_,rfl,rfl⟩;exact .inl ⟨_,.inl (o.trans (by rw[n])),Aok u B,by rw[Af5];exact q⟩
  .rw[D,Ag,F5 (e:=Cg d λ_=>[]) rfl];exact .inr ⟨.inr (.inl ⟨_,rfl⟩),s.tup u⟩
 .simp only[Da u,Av];by_cases y:t.G=7
  .simp only[E5 y,Am];obtain⟨r,o,n⟩:=Aon h (J:=λb=>some (Sum.inr (Sum.inl (true,b)):(List (List Ae)×Bool)⊕((Bool×List (List Ae))⊕(Bool×List (List Ae))))) (Q:=λr=>r = .inr (.inl (true,Cg d λm=>[(⟨(m:Int),[]⟩:Ae)]))) ⟨_,rfl,rfl⟩;exact .inl ⟨_,.inl (o.trans (by rw[n])),Af6 y h,Aol h⟩
  .simp only[Da y,Av];by_cases j:t.G=5
   .simp only[E5 j,Am];obtain⟨x,v⟩:=Aap f j;obtain⟨_,_,_,w⟩:=E9 v;have C:∃r,Se data t (d:Int)=some r/\((∃F,r = .inr (true,Cg d F)/\Et (λi=>B3 data i t) d F/\A8 d F<=500)\/(r = .inl ([],false)/\Dv (λi=>B3 data i t) d)):=(by unfold Se;rw[Wr h δ,Ag,v,Ag];refine Aoj z A j P v (k.cons8 x w) h (λc E S hp e=>(Aoo k A 4000000).2.1 S E ω (by have:=Tk z hp;omega) (by have:=Wu z hp;omega) (Aao k f hp)) (λs=>⟨_,rfl,.inr ⟨rfl,s⟩⟩) λel R L=>?_;change ∃r,Option.bind (some (Cg d λ_=>([]:List Ae))) _=some r/\_;rw[Ag,Wy,Ag,Wz];exact Aoh j h R L (λs=>⟨_,rfl,.inr ⟨rfl,s⟩⟩) λG O N=>⟨_,rfl,.inl ⟨G,rfl,O,N⟩⟩);obtain⟨r,o,⟨F,rfl,n⟩|⟨rfl,n⟩⟩:=C
    .rw[o];exact .inl ⟨F,.inr rfl,n⟩
    .rw[o];exact .inr ⟨.inl ⟨_,rfl⟩,n⟩
   .simp only[Da j,Av];rw[Wy,Ag,Wz];exact .inl ⟨_,.inl rfl,Af7 u y j d,by rw[Af8];omega⟩
def ExP (D:α->Option Nat) (d:Nat) (L:List α):Prop:=L.Nodup/\(∀x,x∈L↔D x=some d)/\L.length<=500
def ExR (X:Option (List α×Bool)) (D:α->Option Nat) (d:Nat):Prop:=(∃L,X=some (L,true)/\ExP D d L)\/(X=some ([],false)/\Dv D d)
theorem ExR.of {X:Option (List α×Bool)} (h:∃r,X=some r/\((∃L,r=(L,true)/\ExP D d L)\/(r=([],false)/\Dv D d))):ExR X D d:=by
 obtain⟨r,h1,⟨F,rfl,h2⟩|⟨rfl,h2⟩⟩:=h
 .exact .inl ⟨F,h1,h2⟩
 .exact .inr ⟨h1,h2⟩
theorem Dv.of {L:List α} (h:L.Nodup) (hb:500<L.length) (hm:∀x∈L,D x=some d):Dv D d:=⟨L,h,hb,λx hx=>⟨d,Nat.le_refl _,hm x hx⟩⟩
theorem Aoq {b:Nat} (i:a<=500) (hb:b<=500):Ac ((a:Int)*(b:Int))=((a*b:Nat):Int)/\a*b<=250000:=by have h:=Nat.mul_le_mul i hb;have e:(a:Int)*(b:Int)=((a*b:Nat):Int):=ψ;refine⟨?_,ω⟩;rw[e,Ac,B6] <;> omega
theorem Aor (b:List α) (f:List β) (g:α->β->γ) (c:List γ) (h:b.length<=500) (n:f.length<=500) {step:Int×List γ->Option ((Int×List γ)⊕E)} {J:E->Option R} {ex:Int->List γ->E} (k:∀(p:Nat) (x:α) (o:List γ),p<b.length->b[p]? = some x->o.length<=c.length+b.length*f.length->decide ((p:Int)<(b.length:Int))=true->Af b (p:Int)=some x->Ac ((p:Int)+1)=((p+1:Nat):Int) -> step ((p:Int),o)=some (.inl (((p+1:Nat):Int),o++f.map (g x)))) (q:∀o,decide ((b.length:Int)<(b.length:Int))=false->step ((b.length:Int),o)=some (.inr (ex (b.length:Int) o))) (s:∃r,J (ex (b.length:Int) (c++b.flatMap λx=>f.map (g x)))=some r/\Q r):∃r,(Ak step (0,c)).bind J=some r/\Q r:=by
 have i:∀p,p<=b.length->((b.take p).flatMap λx=>f.map (g x)).length<=b.length*f.length:=by intro p hp;rw[List.length_flatMap];have:((b.take p).map λx=>(f.map (g x)).length).sum<=(b.take p).length*f.length:=(by generalize b.take p=M;induction M with| nil=>simp| cons a M ih=>simp only[map_cons,sum_cons,Er,Hj,Nat.add_mul,Nat.one_mul]at ih ⊢;omega);refine Nat.le_trans this (Nat.mul_le_mul_right _ ?_);rw[length_take];omega
 refine Gb b (λp j=>j=((p:Int),c++(b.take p).flatMap λx=>f.map (g x))) Q ψ ω ?_ ?_
 .rintro p x _ hp e f1 f2 f3 rfl;refine⟨_,k p x _ hp e (by rw[Ew];have:=i p ω;omega) f1 f2 f3,.inl ⟨_,rfl,?_⟩⟩;rw[C5 e,flatMap_append,List.flatMap_singleton,append_assoc]
 .rintro f1 _ rfl;refine⟨_,q _ f1,?_⟩;rw[Dr];exact s
theorem Aos {j:List α} {i:List β} {g:α->β->γ} (r:j.Nodup) (u:i.Nodup) (s:∀a∈j,∀b∈i,∀f∈j,∀c∈i,g a b=g f c->a=f/\b=c):(j.flatMap λx=>i.map (g x)).Nodup:=by refine Pa r (λa n=>Lx (λb o c h e=>(s a n b o a n c h e).2) u) λa n f q k x v w=>?_;obtain⟨b,o,rfl⟩:=mem_map.1 v;obtain⟨c,h,e⟩:=mem_map.1 w;exact k (s f q c h a n b o e).1.symm
theorem Aot (b:List α) (c:List β) (g:α->β->γ):(b.flatMap λx=>c.map (g x)).length=b.length*c.length:=by induction b with| nil=>simp| cons a b ih=>rw[flatMap_cons,Ew,ih,Er,Hj,Nat.add_mul,Nat.one_mul,Nat.add_comm]
theorem Aou {f:List α} {c:List β} {g:α->β->γ} {x:γ}:x∈(f.flatMap λx=>c.map (g x))↔∃a∈f,∃b∈c,g a b=x:=by simp only[mem_flatMap,mem_map]
def PrS (data:List Ao) (t:Ai) (b:List Ai) (d v:Nat) (x:List Ae):Prop:=∃a f r,a<v/\B3 data f t=some a/\Bv data r b=some (d-a)/\x=f::r
theorem Azi {c:List Ai} (hd:d<=6) (N:c.length<=900) (hU:∀v,v<=d->ExR (Ml k data t (v:Int)) (λi=>B3 data i t) v) (hR:∀v,v<=d->ExR (Jh k data c (v:Int)) (λr=>Bv data r c) v) : ExR (Jh (k+1) data (t::c) (d:Int)) (λr=>Bv data r (t::c)) d:=by
 have D:Gk (t::c) 1 ((t::c).length:Int)=some c:=by unfold Gk;rw[Bc ⟨δ,by simp only[Hj];omega,ω⟩];simp
 rw[Jh];rw[Da (show ((t::c).length:Int)≠0 by simp only[Hj];omega)];simp only[Av];refine ExR.of (La (d+1) (λv st=>∃out:List (List Ae),st=((v:Int),out)/\out.Nodup/\(∀x,x∈out↔PrS data t c d v x)/\out.length<=500) _ ⟨[],rfl,List.nodup_nil,λx=>⟨nofun,λ⟨a,_,_,h,_⟩=>ω⟩,ψ⟩ ?_ ?_)
 .rintro v _ hv ⟨out,rfl,M,H,R⟩;simp only[Ap (show (v:Int)<=(d:Int) by omega),Am,show Af (t::c) 0=some t from rfl,Ag];have Y:Ac ((v:Int)+1)=((v+1:Nat):Int):=Kh ω;rcases hU v ω with⟨u,A,n1,P,l1⟩|⟨A,X⟩
  .simp only[A,Ag,Dn,Av];cases u with
   | nil=>refine⟨_,rfl,.inl ⟨_,rfl,out,by rw[Y],M,λx=>(H x).trans ⟨λ⟨a,f,r,q⟩=>⟨a,f,r,ω,q.2⟩,λ⟨a,f,r,q,j,y⟩=>⟨a,f,r,?_,j,y⟩⟩,R⟩⟩;have:a≠v:=(by rintro rfl;exact absurd ((P f).2 j) ψ);omega
   | cons f0 J=>
    rw[Da (show (((f0::J).length:Nat):Int)≠0 by simp only[Hj];omega),D];simp only[Av,Ag];rw[show Ac ((d:Int)-(v:Int))=((d-v:Nat):Int) by rw[Ac,B6] <;> omega];have S:B3 data f0 t=some v:=(P f0).1 ψ;generalize a8:f0::J=u at *;rcases hR (d-v) ω with⟨s,z,n2,T,l2⟩|⟨z,X⟩
    .simp only[z,Ag,Dn,Av];obtain⟨w1,w2⟩:=Aoq l1 l2;have U:=Aos (g:=λf r=>f::r) n1 n2 (λa _ b _ a' _ b' _ e=>by cases e;exact⟨rfl,rfl⟩);have I:∀x,x∈(u.flatMap λf=>s.map (f :: ·))↔∃f r,B3 data f t=some v/\Bv data r c=some (d-v)/\x=f::r:=(by intro x;rw[Aou];exact⟨λ⟨a,w,b,C,W⟩=>⟨a,b,(P a).1 w,(T b).1 C,W.symm⟩,λ⟨a,b,w,C,W⟩=>⟨a,(P a).2 w,b,(T b).2 C,W.symm⟩⟩);have V:=Aot u s (λf r=>f::r);have E:(out++u.flatMap λf=>s.map (f :: ·)).Nodup:=(by refine nodup_append.2 ⟨M,U,λa ha b hb e=>?_⟩;subst e;obtain⟨a0,f,r,B,j,_,L⟩:=(H _).1 ha;obtain⟨f',r',q5,_,Z⟩:=(I _).1 hb;rw[L]at Z;cases Z;rw[j]at q5;have:=Fe q5;omega);have G:∀x,x∈(out++u.flatMap λf=>s.map (f :: ·))↔PrS data t c d (v+1) x:=by
      intro x;rw[Fi,H,I];constructor
      .rintro (⟨a,f,r,B,q⟩|⟨f,r,B,j,y⟩)
       .exact⟨a,f,r,ω,q⟩
       .exact⟨v,f,r,ω,B,j,y⟩
      .rintro⟨a,f,r,B,j,y,L⟩;by_cases e:a=v
       .subst e;exact .inr ⟨f,r,j,y,L⟩
       .exact .inl ⟨a,f,r,ω,j,y,L⟩
     have O:(out++u.flatMap λf=>s.map (f :: ·)).length=out.length+u.length*s.length:=(by rw[Ew,V]);rw[w1,Wx ω];by_cases h5:500<out.length+u.length*s.length
     .rw[Ap (show ((out.length+u.length*s.length:Nat):Int)>500 by omega)];refine⟨_,rfl,.inr ⟨_,rfl,_,rfl,.inr ⟨rfl,Dv.of E ω λx hx=>?_⟩⟩⟩;obtain⟨a,f,r,B,j,y,rfl⟩:=(G x).1 hx;show Bv data (f::r) (t::c)=some d;rw[I9,j,Ag,y];simp;omega
     .rw[Ax (show ¬((out.length+u.length*s.length:Nat):Int)>500 by omega)];simp only[Av];refine Aor u s (λf r=>f::r) out l1 l2 (ex:=λn o=>(n,o)) ?_ (λo f1=>by simp only[f1];rfl) ⟨_,rfl,.inl ⟨_,rfl,_,by rw[Y],E,G,by rw[O];omega⟩⟩;intro p f o hp hf a6 f1 f2 f3;simp only[f1,f2,f3,Am,Ag];refine Ga s (λq=>((q:Int),o++(s.take q).map (f :: ·))) ψ ω ?_ ?_
      .intro q r hq hr g1 g2 g3;have a1:r.length<=900:=(by rw[Mx ((T r).1 (B4 hr))];exact N);simp only[g1,g2,g3,Am,Ag];rw[Cy ζ,Ag,Cy (by rw[Ew,Er,length_take,length_singleton];omega),Ag,C5 hr,map_append,append_assoc];rfl
      .intro g1;exact⟨_,by simp only[g1];rfl,by dsimp only;rw[Dr]⟩
    .simp only[z,Ag,Bool.not_false,Am];refine⟨_,rfl,.inr ⟨_,rfl,_,rfl,.inr ⟨rfl,X.lift (f0 :: ·) (λa b e=>by cases e;rfl) λx m a7 e=>⟨v+m,ω,?_⟩⟩⟩⟩;have e:Bv data x c=some m:=e;rw[I9,S,Ag,e];rfl
  .simp only[A,Ag,Bool.not_false,Am];exact⟨_,rfl,.inr ⟨_,rfl,_,rfl,.inr ⟨rfl,(Dv.pre (us:=c) X.one).up ω⟩⟩⟩
 .rintro _ ⟨out,rfl,M,H,R⟩;refine⟨_,by simp only[Ax (show ¬((d+1:Nat):Int)<=(d:Int) by omega)];rfl,_,rfl,.inl ⟨out,rfl,M,λx=>(H x).trans ?_,R⟩⟩;show PrS data t c d (d+1) x↔Bv data x (t::c)=some d;constructor
  .rintro⟨a,f,r,B,j,y,rfl⟩;rw[I9,j,Ag,y];simp;omega
  .intro h;cases x with
   | nil=>simp only[Bv]at h;cases h
   | cons f r=>
    rw[I9]at h;cases w:B3 data f t with
    | none=>rw[w]at h;cases h
    | some a=>rw[w,Ag]at h;cases C:Bv data r c with| none=>rw[C]at h;cases h| some b=>rw[C]at h;have e:a+b=d:=Fe h;exact⟨a,f,r,ω,w,by rw[C];congr 1;omega,rfl⟩
def ExS (data:List Ao) (t:Ai) (d p:Nat) (x:Ae):Prop:=∃a e h,a<p/\Fs data e t=some (a+1)/\Fb data h t=some (d-1-a)/\x=⟨0,e::h⟩
def ExC (data:List Ao) (t:Ai) (d p:Nat) (c:Int) (x:Ae):Prop:=ExS data t d p x\/∃e h,e.U<c/\Fs data e t=some (p+1)/\Fb data h t=some (d-1-p)/\x=⟨0,e::h⟩
theorem ExS.deg (hk:t.G=5) (hp:p<=d) (h:ExS data t d p x):B3 data x t=some d:=by obtain⟨a,e,es,h1,h2,h3,rfl⟩:=h;rw[Pb hk,Bc rfl,Tc,h2,h3];simp;omega
theorem ExC.deg (hk:t.G=5) {c:Int} (hp:p<d) (h:ExC data t d p c x):B3 data x t=some d:=by
 rcases h with h|⟨e,es,_,h2,h3,rfl⟩
 .exact h.deg hk ω
 .rw[Pb hk,Bc rfl,Tc,h2,h3];simp;omega
theorem ExS.all (hk:t.G=5) (hd:1<=d):ExS data t d d x↔B3 data x t=some d:=by
 refine⟨λh=>h.deg hk (Nat.le_refl _),λh=>?_⟩;obtain⟨i,f,_⟩:=Mz hk h;cases c:x.K with
 | nil=>rw[c]at f;simp only[Fb]at f;have:=Fe f;omega
 | cons e es=>
  rw[c,Tc]at f;cases h2:Fs data e t with
  | none=>rw[h2]at f;cases f
  | some a=>rw[h2,Ag]at f;cases h3:Fb data es t with| none=>rw[h3]at f;cases f| some b=>rw[h3]at f;have j:a+b=d:=Fe f;have hp:=Af4 h2;exact⟨a-1,e,es,ω,by rw[h2];congr 1;omega,by rw[h3];congr 1;omega,by rw[i,c]⟩
theorem Aov (hz:Szv data) (hs:Ht data) (H:t.G=5) (ht:Bi t<=200) {y:Ao} (hy:Af data t.U=some y) (h8:y.O.length<=8) (hd:d<=6) (hE:∀p,p<d->ExR (Ml K data t (p:Int)) (λi=>B3 data i t) p) (hP:∀(c:Int) (V:List Ai) (p:Nat),Fr data t c=some V->p<d->ExR (Jh K data V (p:Int)) (λr=>Bv data r V) p) {J:((List Ae×Bool)⊕List Ae)->Option R} (aa:Dv (λi=>B3 data i t) d->∃r,J (.inl ([],false))=some r/\Q r) (b0:∀L:List Ae,L.Nodup->(∀x,x∈L↔ExS data t d d x)->L.length<=500->∃r,J (.inr L)=some r/\Q r) :
  ∃r,(Ak (S:=(Int×List Ae)) (E:=((List Ae×Bool)⊕List Ae)) (λ(G,a6)=>
  bif G<(d:Int) then (
  (Ml K data t (Ac ((Ac ((d:Int)-1))-G))).bind λD=>
  bif (!D.2) then (
  some (.inr (.inl ([],false)))
  )
  else (
  (Af data t.U).bind λae=>
  (Ak (S:=(Int×List Ae)) (E:=((List Ae×Bool)⊕(Int×List Ae))) (λ(f,I)=>
  bif f<(ae.O.length:Int) then (
  (Nk data t f).bind λY=>
  bif (!Y.2) then (
  some (.inl ((Ac (f+1)),I))
  )
  else (
  (Jh K data Y.1 G).bind λB=>
  (show OB from
  bif (!B.2) then (
  some true
  )
  else (
  some (decide ((Ac (((I.length:Nat):Int)+(Ac ((B.1.length:Int)*(D.1.length:Int)))))>(500:Int)))
  )
  ).bind λad=>
  bif ad then (
  some (.inr (.inl ([],false)))
  )
  else (
  (Ak (S:=(Int×List Ae)) (E:=(Int×List Ae)) (λ(A,a1)=>
  bif A<(B.1.length:Int) then (
  (Af B.1 A).bind λac=>
  (Ak (S:=(Int×List Ae)) (E:=(Int×List Ae)) (λ(k,Z)=>
  bif k<(D.1.length:Int) then (
  (Af D.1 k).bind λab=>
  (Bl 32 [(Ae.mk f ac)] ab.K).bind λam=>
  (Bl 32 Z [(Ae.mk 0 am)]).bind λak=>
  some (.inl ((Ac (k+1)),ak))
  )
  else (
  some (.inr (k,Z))
  )
   ) (0,a1)).bind λ(b6,aj)=>
  some (.inl ((Ac (A+1)),aj))
  )
  else (
  some (.inr (A,a1))
  )
   ) (0,I)).bind λ(b5,ai)=>
  some (.inl ((Ac (f+1)),ai))
  )
  )
  )
  else (
  some (.inr (.inr (f,I)))
  )
   ) (0,a6)).bind λz=>
  match z with
  | .inl (ag,af)=>(
  some (.inr (.inl (ag,af)))
  )
  | .inr (b4,ah)=>(
  some (.inl ((Ac (G+1)),ah))
  )
  )
  )
  else (
  some (.inr (.inr a6))
  )
   ) (0,[])).bind J=some r/\Q r:=by
 have a7:∀e a,Fs data e t=some a->0<=e.U/\e.U<y.O.length:=by
  intro e a h
  unfold Fs at h
  cases w:Fr data t e.U with
  | none=>rw[w]at h;cases h
  | some V=>
   obtain⟨_,x,hx,C,h3⟩:=S9 w
   rw[hy]at hx;cases hx
   exact⟨C,h3⟩
 refine La d (λp st=>∃out:List Ae,st=((p:Int),out)/\out.Nodup/\(∀x,x∈out↔ExS data t d p x)/\out.length<=500) Q ⟨[],rfl,List.nodup_nil,λx=>⟨nofun,λ⟨a,_,_,h,_⟩=>ω⟩,ψ⟩ ?_ ?_
 .rintro p _ hp ⟨out,rfl,P,hm,hl⟩
  have wp:Ac ((p:Int)+1)=((p+1:Nat):Int):=Kh ω
  simp only[Ap (show (p:Int)<(d:Int) by omega),Am]
  rw[show Ac ((Ac ((d:Int)-1))-(p:Int))=((d-1-p:Nat):Int) by
   rw[show Ac ((d:Int)-1)=((d-1:Nat):Int) by rw[Ac,B6] <;> omega,Ac,B6] <;> omega]
  rcases hE (d-1-p) ω with⟨S,hS,nS,mS,lS⟩|⟨hS,hB⟩
  .simp only[hS,Ag,Dn,Av,hy]
   have O:∀s,s∈S↔s=⟨0,s.K⟩/\Fb data s.K t=some (d-1-p):=by
    intro s
    rw[mS s]
    constructor
    .intro h;exact⟨(Mz H h).1,(Mz H h).2.1⟩
    .rintro⟨w,C⟩
     show B3 data s t=_
     rw[Pb H,Bc (by rw[w]),C]
   refine Gb y.O (λc st=>∃o:List Ae,st=((c:Int),o)/\o.Nodup/\(∀x,x∈o↔ExC data t d p (c:Int) x)/\o.length<=500) _ ⟨out,rfl,P,λx=>(hm x).trans ⟨.inl,λh=>h.elim id λ⟨e,v,w,C,_⟩=>by have:=(a7 e _ C).1;have w:e.U<((0:Nat):Int):=w;omega⟩,hl⟩ ω ?_ ?_
   .rintro c bb _ hc b7 w C h3 ⟨o,rfl,no,mo,lo⟩
    simp only[w,h3,Am,Wd hz hs t ht,Ag]
    cases M:Fr data t (c:Int) with
    | none=>
     refine⟨_,rfl,.inl ⟨_,rfl,o,rfl,no,λx=>(mo x).trans ⟨λh=>h.imp id λ⟨e,v,X,q⟩=>⟨e,v,ω,q⟩,λh=>h.imp id λ⟨e,v,X,N,q3⟩=>⟨e,v,?_,N,q3⟩⟩,lo⟩⟩
     have:e.U≠(c:Int):=by
      intro P
      unfold Fs at N
      rw[P,M]at N
      cases N
     omega
    | some V=>
     simp only[okL,Dn,Av]
     rcases hP c V p M hp with⟨U,a8,n1,m1,l1⟩|⟨a8,hB⟩
     .simp only[a8,Ag,Dn,Av]
      obtain⟨w1,w2⟩:=Aoq l1 lS
      have ar:∀r,Fs data ⟨(c:Int),r⟩ t=some (p+1)↔r∈U:=by
       intro r
       rw[m1 r]
       unfold Fs
       show (Fr data t (c:Int)).bind (λV=>(Bv data r V).map (1 + ·))=some (p+1)↔Bv data r V=some p
       rw[M,Ag]
       cases Bv data r V with
       | none=>simp
       | some a=>simp;omega
      have ay:=Aos (g:=λr (s:Ae)=>(⟨0,(⟨(c:Int),r⟩:Ae)::s.K⟩:Ae)) n1 nS (λa _ b hb a' _ b' a2 e=>by
       injection e with _ e
       injection e with e1 e2
       injection e1 with _ e1
       exact⟨e1,by rw[((O b).1 hb).1,((O b').1 a2).1,e2]⟩)
      have au:∀x,x∈(U.flatMap λr=>S.map λs=>(⟨0,(⟨(c:Int),r⟩:Ae)::s.K⟩:Ae))↔∃e v,e.U=(c:Int)/\Fs data e t=some (p+1)/\Fb data v t=some (d-1-p)/\x=⟨0,e::v⟩:=by
       intro x
       rw[Aou (g:=λr (s:Ae)=>(⟨0,(⟨(c:Int),r⟩:Ae)::s.K⟩:Ae))]
       constructor
       .rintro⟨r,hr,s,hs,rfl⟩
        exact⟨⟨(c:Int),r⟩,s.K,rfl,(ar r).2 hr,((O s).1 hs).2,rfl⟩
       .rintro⟨⟨n,r⟩,v,X,N,q3,rfl⟩
        simp only at X
        subst X
        exact⟨r,(ar r).1 N,⟨0,v⟩,(O _).2 ⟨rfl,q3⟩,rfl⟩
      have az:=Aot U S (λr (s:Ae)=>(⟨0,(⟨(c:Int),r⟩:Ae)::s.K⟩:Ae))
      have ap:(o++U.flatMap λr=>S.map λs=>(⟨0,(⟨(c:Int),r⟩:Ae)::s.K⟩:Ae)).Nodup:=by
       refine nodup_append.2 ⟨no,ay,λa ha b hb e=>?_⟩
       subst e
       obtain⟨e',ba,X,N,q3,q4⟩:=(au _).1 hb
       rcases (mo _).1 ha with⟨a0,e0,b3,T,W,_,g4⟩|⟨e0,b3,T,W,_,g4⟩
       .rw[q4]at g4
        cases g4
        rw[N]at W
        have:=Fe W
        omega
       .rw[q4]at g4
        cases g4
        omega
      have aq:∀x,x∈(o++U.flatMap λr=>S.map λs=>(⟨0,(⟨(c:Int),r⟩:Ae)::s.K⟩:Ae))↔ExC data t d p ((c+1:Nat):Int) x:=by
       intro x
       rw[Fi,mo,au]
       constructor
       .rintro ((h|⟨e,v,X,q⟩) | ⟨e,v,X,q⟩)
        .exact .inl h
        .exact .inr ⟨e,v,ω,q⟩
        .exact .inr ⟨e,v,ω,q⟩
       .rintro (h|⟨e,v,X,q⟩)
        .exact .inl (.inl h)
        .by_cases av:e.U<(c:Int)
         .exact .inl (.inr ⟨e,v,av,q⟩)
         .exact .inr ⟨e,v,ω,q⟩
      have ax:(o++U.flatMap λr=>S.map λs=>(⟨0,(⟨(c:Int),r⟩:Ae)::s.K⟩:Ae)).length=o.length+U.length*S.length:=by rw[Ew,az]
      rw[w1,Wx ω]
      by_cases h5:500<o.length+U.length*S.length
      .rw[Ap (show ((o.length+U.length*S.length:Nat):Int)>500 by omega)]
       exact⟨_,rfl,.inr ⟨_,rfl,_,rfl,.inr ⟨_,rfl,aa (Dv.of ap ω λx hx=>((aq x).1 hx).deg H hp)⟩⟩⟩
      .rw[Ax (show ¬((o.length+U.length*S.length:Nat):Int)>500 by omega)]
       simp only[Av]
       refine Aor U S (λr (s:Ae)=>(⟨0,(⟨(c:Int),r⟩:Ae)::s.K⟩:Ae)) o l1 lS (ex:=λn o=>(n,o)) ?_ (λo f1=>by simp only[f1];rfl) ⟨_,rfl,.inl ⟨_,rfl,_,rfl,ap,aq,by rw[ax];omega⟩⟩
       intro q r u hq hr b8 f1 f2 f3
       simp only[f1,f2,f3,Am,Ag]
       refine Ga S (λj=>((j:Int),u++(S.take j).map λs=>(⟨0,(⟨(c:Int),r⟩:Ae)::s.K⟩:Ae))) ψ ω ?_ ?_
       .intro j s hj ao T W g3
        have b9:s.K.length<=6:=by
         have:=We data s.K t _ ((O s).1 (B4 ao)).2
         omega
        simp only[T,W,g3,Am,Ag]
        rw[Cy ζ,Ag,Cy (by rw[Ew,Er,length_take,length_singleton];omega),Ag,C5 ao,map_append,append_assoc];rfl
       .intro T
        exact⟨_,by simp only[T];rfl,by dsimp only;rw[Dr]⟩
     .simp only[a8,Ag,Bool.not_false,Am]
      exact⟨_,rfl,.inr ⟨_,rfl,_,rfl,.inr ⟨_,rfl,aa ((Dv.dat H M hB).up ω)⟩⟩⟩
   .rintro w _ ⟨o,rfl,no,mo,lo⟩
    refine⟨_,by simp only[w];rfl,_,rfl,.inl ⟨_,rfl,o,by rw[wp],no,λx=>(mo x).trans ?_,lo⟩⟩
    constructor
    .rintro (⟨a,e,v,X,q⟩|⟨e,v,_,q⟩)
     .exact⟨a,e,v,ω,q⟩
     .exact⟨p,e,v,ω,q⟩
    .rintro⟨a,e,v,X,N,q⟩
     by_cases ha:a=p
     .subst ha;exact .inr ⟨e,v,(a7 e _ N).2,N,q⟩
     .exact .inl ⟨a,e,v,ω,N,q⟩
  .simp only[hS,Ag,Bool.not_false,Am]
   exact⟨_,rfl,.inr ⟨_,rfl,aa (hB.up ω)⟩⟩
 .rintro _ ⟨out,rfl,P,hm,hl⟩
  exact⟨_,by simp only[Ax (show ¬(d:Int)<(d:Int) by omega)];rfl,b0 out P hm hl⟩
theorem ExP.one {x:α} (h:∀y,D y=some d↔y=x):ExP D d [x]:=⟨ψ,λy=>by rw[Fx];exact (h y).symm,ψ⟩
theorem Aow (b:t.G=7) (e:d<=6):ExP (λi=>B3 data i t) d [(⟨(d:Int),[]⟩:Ae)]:=by obtain⟨h,j⟩:=Af6 (data:=data) b e d (Nat.le_refl _);exact⟨h,j,ψ⟩
theorem Aox (c:t.G≠6) (b:t.G≠7) (f:t.G≠5) (d:Nat):ExP (λi=>B3 data i t) d (if d=0 then [(⟨0,[]⟩:Ae)] else []):=by
 obtain⟨e,j⟩:=Af7 (data:=data) c b f d d (Nat.le_refl _);by_cases h:d=0
 .subst h;rw[Bc rfl];rw[Ba]at e j;exact⟨e,j,ψ⟩
 .rw[Bb h];rw[Be _ _ h]at e j;exact⟨e,j,ψ⟩
theorem Aoy (b:t.G=5):ExP (λi=>B3 data i t) 0 [(⟨0,[]⟩:Ae)]:=ExP.one λy=>by
 show B3 data y t=some 0↔_;constructor
 .intro h;obtain⟨f,_,c⟩:=Mz b h;rw[f,F9.1 (Nat.le_zero.1 c)]
 .rintro rfl;rw[Pb b,Bc rfl];simp only[Fb]
theorem Aoz (f:t.G=6) (h:ExP (λr=>Bv data r t.R) d L):ExP (λi=>B3 data i t) d (L.map λr=>(⟨0,r⟩:Ae)):=by
 refine⟨Lx (λa _ b _ e=>by cases e;rfl) h.1,λx=>?_,by rw[Er];exact h.2.2⟩;rw[mem_map];show _↔B3 data x t=some d;rw[Jw,Bc f];constructor
 .rintro⟨r,c,rfl⟩;rw[Bc rfl];exact (h.2.1 r).1 c
 .intro j;split at j
  .rename_i n;exact⟨x.K,(h.2.1 _).2 j,by cases x;simp only at n;rw[n]⟩
  .cases j
theorem Aaq (k:L.length<=500) {J:List Ae->Option R} {r:R} (i:J (L.map λr=>(⟨0,r⟩:Ae))=some r) : (Ak (S:=(Int×List Ae)) (E:=(List Ae)) (λ(b,c)=> bif b<(L.length:Int) then ((Af L b).bind λe=> (Bl 32 c [(Ae.mk 0 e)]).bind λf=> some (.inl ((Ac (b+1)),f))) else (some (.inr c))) (0,[])).bind J=some r:=by
 refine Ga L (λj=>((j:Int),(L.take j).map λr=>(⟨0,r⟩:Ae))) ψ ω ?_ ?_
 .intro j x v n h o u;simp only[h,o,u,Am,Ag];rw[Cy ζ,Ag,C5 n,map_append];rfl
 .intro h;exact⟨_,by simp only[h];rfl,by rw[Dr];exact i⟩
theorem Af9 (E:G4 data) (O:Ht data):∀k:Nat, (∀(d:Nat) (t:Ai),d<=6->2*Bi t+3000*d<=k->Dk data 0 t=true->Bi t<=200->ExR (Ml k data t (d:Int)) (λi=>B3 data i t) d) /\ (∀(d:Nat) (f:List Ai),d<=6->2*Cl f+1+3000*d<=k->f.length<=900->(∀t∈f,Dk data 0 t=true/\Bi t<=200)->ExR (Jh k data f (d:Int)) (λr=>Bv data r f) d):=by
 have B:=E.szv;intro k;induction k with
 | zero=>exact⟨λd t _ C=>by have:=Ke t;omega,λd f _ C=>ω⟩
 | succ k ih=>
  obtain⟨u,q⟩:=ih;refine⟨λd t h C b P=>?_,λd f h C y b=>?_⟩
  .have N:=G3 t;have U:=Hs t.R;rw[Ml];by_cases z:t.G=6
   .simp only[E5 z,Am];rcases q d t.R h ω ω (λa n=>⟨Wq b a n,by have:=G6 n;omega⟩) with⟨L,I,M⟩|⟨I,J⟩
    .rw[I,Ag];exact .inl ⟨_,Aaq M.2.2 rfl,Aoz z M⟩
    .rw[I,Ag];exact .inr ⟨Aaq (L:=[]) ψ rfl,J.tup z⟩
   .simp only[Da z,Av];by_cases A:t.G=7
    .simp only[E5 A,Am];exact .inl ⟨_,rfl,Aow A h⟩
    .simp only[Da A,Av];by_cases s:t.G=5
     .simp only[E5 s,Am];rcases Nat.eq_zero_or_pos d with rfl|hp
      .exact .inl ⟨_,rfl,Aoy s⟩
      .rw[Da (show (d:Int)≠0 by omega)];simp only[Av];obtain⟨x,T⟩:=Aap b s;obtain⟨_,_,_,H⟩:=E9 T;exact ExR.of (Aov B O s P T (E.cons8 x H) h (λp hp=>u p t ω ω b P) (λc f p j hp=>q p f ω (by have:=Tk B j;omega) (by have:=Wu B j;omega) (Aao E b j)) (λJ=>⟨_,rfl,.inr ⟨rfl,J⟩⟩) λL R V S=>⟨_,rfl,.inl ⟨L,rfl,R,λx=>(V x).trans (ExS.all s hp),S⟩⟩)
     .simp only[Da s,Av];have G:=Aox (data:=data) z A s d;rcases Nat.eq_zero_or_pos d with rfl|hp
      .exact .inl ⟨_,rfl,G⟩
      .rw[Ap (show (d:Int)>0 by omega)];rw[Bb ω]at G;exact .inl ⟨_,rfl,G⟩
  .cases f with
   | nil=>
    rw[Jh];simp only[length_nil];obtain⟨o,w⟩:=Aom data d d (Nat.le_refl _);rcases Nat.eq_zero_or_pos d with rfl|hp
    .rw[Ba]at o w;exact .inl ⟨_,rfl,o,w,ψ⟩
    .rw[Be _ _ ω]at o w;rw[Ap (show (d:Int)>0 by omega)];exact .inl ⟨_,rfl,o,w,ψ⟩
   | cons t f=>have e:Cl (t::f)=Bi t+Cl f:=(by simp only[Cl]);have:=Ke t;rw[Hj]at y;exact Azi h ω (λv D=>u v t ω ω (b t ψ).1 (b t ψ).2) (λv D=>q v f ω ω ω λa n=>b a (by simp[n]))
def ExT (X:Option ((Bool×Ai×List Ae)⊕(List Ae×Bool))) (D:Ae->Option Nat) (d:Nat):Prop := (∃L,((∃e,X=some (.inl (true,e,L)))\/(X=some (.inr ([],true))/\L = []))/\ExP D d L)\/(((∃e L,X=some (.inl (false,e,L)))\/∃L,X=some (.inr (L,false)))/\Dv D d)
theorem Azj (k:G4 data) (A:Ht data) (f:Dk data 0 t=true) (v:Bi t<=200) (e:d<=6):ExT (Sb data t (d:Int)) (λi=>B3 data i t) d:=by
 have D:=k.szv;have O:=G3 t;have U:=Hs t.R;unfold Sb;by_cases y:t.G=6
 .simp only[E5 y,Am];rcases (Af9 k A 4000000).2 d t.R e ω ω (λa w=>⟨Wq f a w,by have:=G6 w;omega⟩) with⟨L,G,M⟩|⟨G,I⟩
  .rw[G,Ag];exact .inl ⟨_,.inl ⟨_,Aaq M.2.2 rfl⟩,Aoz y M⟩
  .rw[G,Ag];exact .inr ⟨.inl ⟨_,_,Aaq (L:=[]) ψ rfl⟩,I.tup y⟩
 .simp only[Da y,Av];by_cases B:t.G=7
  .simp only[E5 B,Am];exact .inl ⟨_,.inl ⟨_,rfl⟩,Aow B e⟩
  .simp only[Da B,Av];by_cases j:t.G=5
   .simp only[E5 j,Am];rcases Nat.eq_zero_or_pos d with rfl|hp
    .exact .inl ⟨_,.inl ⟨_,rfl⟩,Aoy j⟩
    .rw[Da (show (d:Int)≠0 by omega)];simp only[Av];obtain⟨x,C⟩:=Aap f j;obtain⟨_,_,_,h⟩:=E9 C;have n:∃r,_=some r/\((∃L,r=Sum.inl (true,t,L)/\ExP (λi=>B3 data i t) d L)\/(r=Sum.inr ([],false)/\Dv (λi=>B3 data i t) d)) :=
      Aov D A j v C (k.cons8 x h) e (K:=4000000) (λp hp=>(Af9 k A 4000000).1 p t ω ω f v) (λc N p b hp=>(Af9 k A 4000000).2 p N ω (by have:=Tk D b;omega) (by have:=Wu D b;omega) (Aao k f b))
       (J:=λz=>match z with|.inl (s,q)=>some (.inr (s,q)) | .inr u=>some (.inl (true,t,u))) (λI=>⟨_,rfl,.inr ⟨rfl,I⟩⟩) λL R P S=>⟨_,rfl,.inl ⟨L,rfl,R,λx=>(P x).trans (ExS.all j hp),S⟩⟩
     obtain⟨r,H,⟨L,rfl,o⟩|⟨rfl,o⟩⟩:=n
     .exact .inl ⟨L,.inl ⟨_,H⟩,o⟩
     .exact .inr ⟨.inr ⟨_,H⟩,o⟩
   .simp only[Da j,Av];have E:=Aox (data:=data) y B j d;rcases Nat.eq_zero_or_pos d with rfl|hp
    .exact .inl ⟨_,.inl ⟨_,rfl⟩,E⟩
    .rw[Ap (show (d:Int)>0 by omega)];rw[Bb ω]at E;exact .inl ⟨_,.inr ⟨rfl,rfl⟩,E⟩
theorem Ao0 {a b:Ae}:Es b a = - Es a b:=Aaf.anti a b trivial trivial
theorem Aga {a b:Ae}:Es a b=0↔a=b:=Aaf.zero a b trivial trivial
theorem Agb {a b c:Ae} (h:Es a b<0) (e:Es b c<0):Es a c<0:=Aaf.trans a b c trivial trivial trivial h e
theorem W0:Rv Es where
 irr x h:=by rw[Aga.2 rfl]at h;omega
 trs _ _ _:=Agb
 ntr x y z n i h:=by
  by_cases e:x=y
  .subst e;exact i h
  .have b:Es x y≠0:=λh=>e (Aga.1 h)
   have j:Es y x<0:=by rw[Ao0];omega
   exact i (Agb j h)
theorem Ao1 {R:List Ae} (hp:R.Perm l) (f:l.Nodup) (h:R.Pairwise λa b=>¬Es b a<0):R.Pairwise λa b=>Es a b<0:=by have i:R.Nodup:=hp.nodup_iff.2 f;refine (i.and h).imp λ{a b} h=>?_;have c:Es a b≠0:=λe=>h.1 (Aga.1 e);have:=h.2;rw[Ao0]at this;omega
theorem Azk {L:List Ae} (hp:L.Perm M) (e:L.Pairwise λa b=>Es a b<0) (i:M.Pairwise λa b=>Es a b<0):L=M := Perm.eq_of_pairwise (le:=λx y=>Es x y<0) (λx y _ _ h j=>(W0.irr x (Agb h j)).elim) e i hp
theorem Azl (A:l.Nodup) (s:∀i∈l,Di i<=1048576) (E:l.length<=500):∃R,R7 l=some R/\R.Perm l/\R.Pairwise λa b=>Es a b<0:=by
 have c:∀x∈l,∀y∈l,I5 4000000 x y=some (Es x y):=λx C y _=>Ams 1048576 4000000 x y (s x C) ω ω;cases f:l with
 | nil=>refine⟨[],?_,Perm.refl _,Pairwise.nil⟩;show Zg []=some [];obtain⟨R,o,I,_⟩:=Aal (cmp:=I5 4000000) W0 [] (λx C=>by cases C) ψ;obtain⟨v,u⟩:=Ayo (n:=0) δ;have B:R = []:=Perm.eq_nil I;subst B;unfold Zg;rw[show (([]:List Ae).length:Nat)=0 from rfl,u,Ag];have hp:U5 0 ((0:Nat):Int) v []=some []:=(by unfold U5;have e:Yv 0 ((0:Nat):Int) []=Afy (I5 4000000) 0 ((([]:List Ae).length:Nat):Int) []:=rfl;have w:Ac (((0:Nat):Int)-0)=0:=ξ;refine bnd (a:=[]) (F5 ?_) rfl;rw[w,Ap ω,Am,e,o,Ag,Wv rfl];rfl);rw[hp,Ag,Wv (n:=0) (l:=[]) rfl];rfl
 | cons b t=>
  rw[<-f];obtain⟨D,_,k,s0⟩:=Aal (cmp:=I5 4000000) W0 l c ω;obtain⟨R,o,cf,_,j,hp,z⟩:=Aje (cmp:=I5 4000000) (l:=l) (r:=D) ⟨Es,W0,c,k,Ao1 k A s0⟩;refine⟨R,?_,hp,?_⟩
  .rw[f]at o ⊢;exact o
  .refine Pairwise.imp_of_mem (λ{a b} G H h=>?_) z;have q:=j a (hp.subset G) b (hp.subset H);rw[c a (hp.subset G) b (hp.subset H)]at q;rw[Fe q];exact h
theorem Azm (k:l.Nodup) (j:∀i∈l,Di i<=1048576) (q:l.length<=500):∃R,Ym l=some R/\R.Perm l/\R.Pairwise λa b=>Es a b<0:=by have c:∀x∈l,∀y∈l,Kx 4000000 x y=some (Es x y):=λx e y _=>Amt 1048576 4000000 x y (j x e) ω ω;obtain⟨R,h,f,s0⟩:=Aal (cmp:=Kx 4000000) W0 l c ω;exact⟨R,h,f,Ao1 f k s0⟩
theorem Ao2:∀k,Mg k=Nh k
 | 0=>by funext i;rfl
 | k+1=>by have ih:=Ao2 k;funext i;rw[Mg,Nh,ih]
theorem Azn (i:Ae) (h:Di i<=4000000):Mg 4000000 i=some i:=by rw[Ao2];exact An5 4000000 i h ω
def Ki (data:List Ao) (t:Ai) (d:Nat) (L:List Ae):Prop:=∃G,Et (λi=>B3 data i t) d G/\(∀m,m<=d->(G m).Pairwise λa b=>Es a b<0)/\L=(range (d+1)).flatMap G/\A8 d G<=500
theorem Ki.uniq {L:List Ae} (h:Ki data t d L) (h':Ki data t d M):L=M:=by obtain⟨G,e,i,rfl,_⟩:=h;obtain⟨f,b,c,rfl,_⟩:=h';rw[List.flatMap_def,List.flatMap_def];congr 1;refine map_congr_left λm hm=>?_;rw[mem_range]at hm;refine Azk ?_ (i m ω) (c m ω);exact (List.perm_ext_iff_of_nodup (e m ω).1 (b m ω).1).2 λx=>((e m ω).2 x).trans ((b m ω).2 x).symm
theorem Ki.not {L:List Ae} (h:Ki data t d L):¬Dv (λi=>B3 data i t) d:=by obtain⟨G,e,_,_,j⟩:=h;intro b;have:=e.big.2 b;omega
theorem Ao3 {α:Type} {G:Nat->List α} {B:Nat}:∀{q:Nat},(∀m,m<q->(G m).length<=B)->((range q).flatMap G).length<=B*q
 | 0,_=>ψ
 | q+1,h=>by rw[range_succ,flatMap_append,List.flatMap_singleton,Ew,Nat.mul_add,Nat.mul_one];have:=Ao3 (q:=q) λm e=>h m ω;have:=h q ω;omega
theorem Agc (G:Nat->List α) (S:List α):(range q).flatMap (Aj G q S)=(range q).flatMap G:=by rw[List.flatMap_def,List.flatMap_def];congr 1;exact map_congr_left λm e=>Be _ _ (by rw[mem_range]at e;omega)
theorem Ao4 (D:G4 data) (I:Ht data) (u:Dk data 0 t=true) (v:Bi t<=200) (C:d<=6) {F:Nat->List Ae} (M:Et (λi=>B3 data i t) 0 F) (y:A8 0 F<=500) {J:((List Ae×Int)⊕List (List Ae))->Option R} (c:Dv (λi=>B3 data i t) d->∃r,J (.inl ([],9))=some r/\Q r) (x:∀G:Nat->List Ae,Et (λi=>B3 data i t) d G->A8 d G<=500->∃r,J (.inr (Cg d G))=some r/\Q r) :
  ∃r,(Ak (S:=(Int×List (List Ae))) (E:=((List Ae×Int)⊕List (List Ae))) (λ(b,s)=>
 bif b<=(d:Int) then (
 (Jg data t b).bind λo=>
 match o with
 | .inl q=>(
 bif (!q.2) then (
 some (.inr (.inl ([],9)))
 )
 else (
 none
 )
 )
 | .inr (.inl e)=>(
 bif (!e.1) then (
 some (.inr (.inl ([],9)))
 )
 else (
 some (.inl ((Ac (b+1)),e.2))
 )
 )
 | .inr (.inr n)=>(
 bif (!n.1) then (
 some (.inr (.inl ([],9)))
 )
 else (
 some (.inl ((Ac (b+1)),n.2))
 )
 )
 )
 else (
 some (.inr (.inr s))
 )
  ) ((Ac (0+1)),Cg 0 F)).bind J=some r/\Q r:=by
 refine La d (λj B=>∃G,B=(((j+1:Nat):Int),Cg j G)/\Et (λi=>B3 data i t) j G/\A8 j G<=500) Q ⟨F,rfl,M,y⟩ ?_ ?_
 .rintro j _ H ⟨G,rfl,_,_⟩
  simp only[Ap (show ((j+1:Nat):Int)<=(d:Int) by omega),Am]
  have w:Ac (((j+1:Nat):Int)+1)=((j+1+1:Nat):Int):=Kh ω
  rcases Aop D I u v (show j+1<=6 by omega) with⟨A,h|h,k,f⟩|⟨⟨L,h⟩|⟨L,h⟩|⟨L,h⟩,z⟩
  .rw[h];exact⟨_,rfl,.inl ⟨_,rfl,A,by rw[w],k,f⟩⟩
  .rw[h];exact⟨_,rfl,.inl ⟨_,rfl,A,by rw[w],k,f⟩⟩
  .rw[h];exact⟨_,rfl,.inr ⟨_,rfl,c (z.up ω)⟩⟩
  .rw[h];exact⟨_,rfl,.inr ⟨_,rfl,c (z.up ω)⟩⟩
  .rw[h];exact⟨_,rfl,.inr ⟨_,rfl,c (z.up ω)⟩⟩
 .rintro _ ⟨G,rfl,k,f⟩
  exact⟨_,by simp only[Ax (show ¬((d+1:Nat):Int)<=(d:Int) by omega)];rfl,x G k f⟩
theorem Ao5 (hz:Szv data) (ht:Bi t<=200) (hd:d<=6) {F:Nat->List Ae} (N:Et (λi=>B3 data i t) d F) (V:A8 d F<=500) {J:(List (List Ae)×List Ae)->Option R} (hJ:∀o L,Ki data t d L->∃r,J (o,L)=some r/\Q r) : ∃r,(Ak (S:=(Int×List (List Ae)×List Ae)) (E:=(List (List Ae)×List Ae)) (λ(v,k,z)=> bif v<(((Cg d F).length:Nat):Int) then ((Af k v).bind λC=> (R7 C).bind λj=> (G5 C.length j).bind λY=> (Ak (S:=(Int×List Ae)) (E:=(Int×List Ae)) (λ(c,y)=> bif c<((C.length:Nat):Int) then ((Af j c).bind λH=> (Mg (4000000) H).bind λP=> (Bl 32 y [P]).bind λD=> some (.inl ((Ac (c+1)),D))) else (some (.inr (c,y)))) (0,z)).bind λ(X,B)=> some (.inl ((Ac (v+1)),(Bk k v j),B))) else (some (.inr (k,z)))) (0,Cg d F,[])).bind J=some r/\Q r:=by
 have I:∀m,m<=d->∀i∈F m,Di i<=1048576:=λm w i W=>by have:=Tl hz i t m (((N m w).2 i).1 W);omega
 have s:∀m,m<=d->(F m).length<=500:=λm w=>Nat.le_trans (My w) V;refine Gb (Cg d F) (λq O=>∃(u G:Nat->List Ae),O=((q:Int),Cg d u,(range q).flatMap G)/\(∀m,m<=d->q<=m->u m=F m)/\∀m,m<q->(G m).Perm (F m)/\(G m).Pairwise λa b=>Es a b<0) Q ⟨F,λ_=>[],rfl,λ_ _ _=>rfl,λm h=>ω⟩ (by rw[Ij];omega) ?_ ?_
 .rintro q x _ hq hx h1 h2 h3 ⟨u,G,rfl,hu,A⟩;rw[Ij]at hq;have n:q<=d:=ω;have a1:((range q).flatMap G).length<=500*q:=Ao3 λm w=>by rw[(A m w).1.length_eq];exact s m ω
  obtain⟨S,hS,U,sS⟩:=Azl (N q n).1 (I q n) (s q n);have M:=U.length_eq;simp only[h1,h3,Am,Mw (f:=u) rfl n,Ag,hu q n (Nat.le_refl _),hS];rw[Wv M.symm,Ag];refine Gb S (λp O=>O=((p:Int),(range q).flatMap G++S.take p)) _ ψ (by have:=s q n;omega) ?_ ?_
  .rintro p i _ hp W T g2 g3 rfl;have:=I q n i (U.subset (B4 W));rw[M]at T;simp only[T,g2,g3,Am,Ag,Azn i ω];have:=s q n;rw[Cy (by rw[Ew,length_take,length_singleton];omega),Ag];exact⟨_,rfl,.inl ⟨_,rfl,by rw[C5 W,append_assoc]⟩⟩
  .rintro T _ rfl;rw[M]at T;refine⟨_,by rw[M];simp only[T];rfl,_,rfl,.inl ⟨_,rfl,Aj u q S,Aj G q S,?_,λm w a6=>?_,λm w=>?_⟩⟩
   .rw[<-M,Dr,Ny rfl,range_succ,flatMap_append,List.flatMap_singleton,Ba];congr 2;congr 1;rw[Agc G S]
   .rw[Be _ _ ω];exact hu m w ω
   .by_cases e:m=q
    .subst e;rw[Ba];exact⟨U,sS⟩
    .rw[Be _ _ e];exact A m ω
 .rintro h1 _ ⟨u,G,rfl,hu,A⟩;rw[Ij]at A;have Z:Et (λi=>B3 data i t) d G:=λm w=>⟨(A m ω).1.nodup_iff.2 (N m w).1,λx=>((A m ω).1.mem_iff).trans ((N m w).2 x)⟩;refine⟨_,by simp only[h1];rfl,hJ _ _ ⟨G,Z,λm w=>(A m ω).2,by rw[Ij],?_⟩⟩;rcases C9 500 (A8 d G) with h|h
  .have:=N.big.2 (Z.big.1 h);omega
  .exact h
theorem Azo (j:G4 data) (q:Ht data) (k:Pt data t=some true) (b:Dk data 0 t=true) (e:Bi t<=200) (n:d<=6) : (∃L,J5 data t (d:Int)=some (L,0)/\Ki data t d L)\/(J5 data t (d:Int)=some ([],9)/\Dv (λi=>B3 data i t) d):=by
 have v:∃r,J5 data t (d:Int)=some r/\((∃L,r=(L,0)/\Ki data t d L)\/(r=([],9)/\Dv (λi=>B3 data i t) d)):=by
  unfold J5;rw[k];simp only[Ag,Dn,Av,Ax (show ¬(d:Int)<0 by omega),Ax (show ¬(d:Int)>6 by omega),Ap (show (0:Int)<=(d:Int) by omega),Am];rcases Aop j q b e (show 0<=6 by omega) with⟨F,h|h,y,x⟩|⟨⟨L,h⟩|⟨L,h⟩|⟨L,h⟩,f⟩
  .rw[show Jg data t 0=_ from h];refine Ao4 j q b e n y x (λf=>⟨_,rfl,.inr ⟨rfl,f⟩⟩) λG u c=>?_;exact Ao5 j.szv e n u c λo L s=>⟨_,rfl,.inl ⟨L,rfl,s⟩⟩
  .rw[show Jg data t 0=_ from h];refine Ao4 j q b e n y x (λf=>⟨_,rfl,.inr ⟨rfl,f⟩⟩) λG u c=>?_;exact Ao5 j.szv e n u c λo L s=>⟨_,rfl,.inl ⟨L,rfl,s⟩⟩
  .rw[show Jg data t 0=_ from h];exact⟨_,rfl,.inr ⟨rfl,f.up ω⟩⟩
  .rw[show Jg data t 0=_ from h];exact⟨_,rfl,.inr ⟨rfl,f.up ω⟩⟩
  .rw[show Jg data t 0=_ from h];exact⟨_,rfl,.inr ⟨rfl,f.up ω⟩⟩
 obtain⟨r,z,⟨L,rfl,w⟩|⟨rfl,w⟩⟩:=v
 .exact .inl ⟨L,z,w⟩
 .exact .inr ⟨z,w⟩
theorem Azp (O:G4 data) (H:Ht data) (z:Pv data t=some true) (A:Dk data 0 t=true) (P:Bi t<=200) (hd:d<=6) : (∃L,Kw data t (d:Int)=some (L,0)/\Ki data t d L)\/(Kw data t (d:Int)=some ([],9)/\Dv (λi=>B3 data i t) d):=by
 have Z:=O.szv;have o:∃r,Kw data t (d:Int)=some r/\((∃L,r=(L,0)/\Ki data t d L)\/(r=([],9)/\Dv (λi=>B3 data i t) d)):=by
  unfold Kw;rw[z];simp only[Ag,Dn,Av,Ax (show ¬(d:Int)<0 by omega),Ax (show ¬(d:Int)>6 by omega)];refine La (d+1) (λk X=>∃G:Nat->List Ae,X=((k:Int),(range k).flatMap G)/\(∀m,m<k->((G m).Nodup/\∀x,x∈G m↔B3 data x t=some m)/\(G m).Pairwise λa b=>Es a b<0)/\((range k).flatMap G).length<=500) _ ⟨λ_=>[],rfl,λm h=>ω,ψ⟩ ?_ ?_
  .rintro k _ hk ⟨G,rfl,q,j⟩;have w:Ac ((k:Int)+1)=((k+1:Nat):Int):=Kh ω;simp only[Ap (show (k:Int)<=(d:Int) by omega),Am];rcases Azj O H A P (show k<=6 by omega) with⟨L,f,B,n,T⟩|⟨⟨W,L,h⟩|⟨L,h⟩,R⟩
   .have n:∀x,x∈L↔B3 data x t=some k:=n;have y:∀i∈L,Di i<=1048576:=λi hi=>by have:=Tl Z i t k ((n i).1 hi);omega
    obtain⟨S,hS,u,Y⟩:=Azm B y T;have E:=u.length_eq;have M:Et (λi=>B3 data i t) k (Aj G k L):=λm D=>by
     by_cases e:m=k
     .subst e;rw[Ba];exact⟨B,n⟩
     .rw[Be _ _ e];exact (q m ω).1
    have c:A8 k (Aj G k L)=((range k).flatMap G).length+L.length:=(by unfold A8;rw[range_succ,flatMap_append,List.flatMap_singleton,Ew,Ba];rw[Agc G L]);have fin:((range k).flatMap G).length+L.length<=500->∃s,(((k+1:Nat):Int),(range k).flatMap G++S)=(((k+1:Nat):Int),(range (k+1)).flatMap s)/\(∀m,m<k+1->((s m).Nodup/\∀x,x∈s m↔B3 data x t=some m)/\(s m).Pairwise λa b=>Es a b<0)/\((range (k+1)).flatMap s).length<=500:=by
     intro U;have e:(range (k+1)).flatMap (Aj G k S)=(range k).flatMap G++S:=(by rw[range_succ,flatMap_append,List.flatMap_singleton,Ba];rw[Agc G S]);refine⟨Aj G k S,by rw[e],λm D=>?_,by rw[e,Ew];omega⟩;by_cases V:m=k
     .subst V;rw[Ba];exact⟨⟨u.nodup_iff.2 B,λx=>u.mem_iff.trans (n x)⟩,Y⟩
     .rw[Be _ _ V];exact q m ω
    have N:Ac (((((range k).flatMap G).length:Nat):Int)+((L.length:Nat):Int))=((((range k).flatMap G).length+L.length:Nat):Int):=Wx ω;rcases f with⟨W,f⟩|⟨f,J⟩
    .rw[f];simp only[Ag,Dn,Av,N];by_cases U:500<((range k).flatMap G).length+L.length
     .rw[Ap (show ((((range k).flatMap G).length+L.length:Nat):Int)>500 by omega)];exact⟨_,rfl,.inr ⟨_,rfl,_,rfl,.inr ⟨rfl,(M.big.1 (by rw[c];exact U)).up ω⟩⟩⟩
     .rw[Ax (show ¬((((range k).flatMap G).length+L.length:Nat):Int)>500 by omega)];simp only[Av,hS,Ag];rw[Wv E.symm,Ag,Cy ω,Ag,w];exact⟨_,rfl,.inl ⟨_,rfl,fin ω⟩⟩
    .subst J;have I:S = []:=Perm.eq_nil u;subst I;rw[f];simp only[Ag,Dn,Av,N];rw[Ax (show ¬((((range k).flatMap G).length+([]:List Ae).length:Nat):Int)>500 by simp only[length_nil];omega)];simp only[Av];rw[show Zi []=some () from by unfold Zi;rw[F5 (e:=()) rfl];rfl,Ag,Cy (by simp only[length_nil];omega),Ag,w];exact⟨_,rfl,.inl ⟨_,rfl,fin (by simp only[length_nil];omega)⟩⟩
   .rw[h];exact⟨_,rfl,.inr ⟨_,rfl,_,rfl,.inr ⟨rfl,R.up ω⟩⟩⟩
   .rw[h];exact⟨_,rfl,.inr ⟨_,rfl,_,rfl,.inr ⟨rfl,R.up ω⟩⟩⟩
  .rintro _ ⟨G,rfl,q,j⟩;refine⟨_,by simp only[Ax (show ¬((d+1:Nat):Int)<=(d:Int) by omega)];rfl,_,rfl,.inl ⟨_,rfl,G,λm n=>(q m ω).1,λm n=>(q m ω).2,rfl,j⟩⟩
 obtain⟨r,C,⟨L,rfl,v⟩|⟨rfl,v⟩⟩:=o
 .exact .inl ⟨L,C,v⟩
 .exact .inr ⟨C,v⟩
theorem Azq (c:G4 data) (f:Ht data) (n:Pt data t=some true) (o:Pv data t=some true) (b:Dk data 0 t=true) (i:Bi t<=200) (j:d<=6) : (∃L,J5 data t (d:Int)=some (L,0)/\Kw data t (d:Int)=some (L,0)/\Ki data t d L)\/(J5 data t (d:Int)=some ([],9)/\Kw data t (d:Int)=some ([],9)):=by
 rcases Azo c f n b i j with⟨L,h,e⟩|⟨h,e⟩ <;> rcases Azp c f o b i j with⟨M,b1,b2⟩|⟨b1,b2⟩
 .have:=e.uniq b2;subst this;exact .inl ⟨L,h,b1,e⟩
 .exact (e.not b2).elim
 .exact (b2.not e).elim
 .exact .inr ⟨h,b1⟩
theorem Ao6 (o:List (ByteArray×α)) (s t:ByteArray) (v:α):Ep (F6 o s v) t=(Ep o t||t==s):=by
 induction o with
 | nil=>simp[F6,Ep]
 | cons p o ih=>unfold F6;cases hp:(s==p.1) with| true=>have:s=p.1:=(Wa _ _).1 hp;subst this;simp only[Am,Ep,any_cons];cases t==p.1 <;> simp| false=>simp only[Ep,any_cons]at ih ⊢;simp only[Av,any_cons,ih,Bool.or_assoc]
def Ja (b c:List (ByteArray×Int)):Prop:=∀s,Ep b s=true->Ep c s=true
def Ia (b:List (ByteArray×Int)) (m:Aq):Prop:=∀f∈m.F,Ep b (Jl f.v f.I)=true
theorem Ja.refl (b:List (ByteArray×Int)):Ja b b:=λ_ h=>h
theorem Ja.trans {a:List (ByteArray×Int)} (h:Ja a b) (h':Ja b c):Ja a c:=λs q=>h' s (h s q)
theorem Ia.mono {m:Aq} (h:Ia b m) (h':Ja b c):Ia c m:=λf hf=>h' _ (h f hf)
section
variable {b1:List (ByteArray×Int)} (b2:List (ByteArray×List Dq)) {data:List Ao} {vars:List Ai} {res:Ai}
variable {m:Aq} {l:List Cn}
theorem Azr (n:Mv data vars res) (o:D4 data vars res b1) (f:Cn) (j:I64 f.v) (k:iR f.I) (hi:Di f.I<=1048576) (c:(Ek vars res f.v).isSome=true) : ∃b,J7 f.v f.I b1 b2 data vars res.G res.U res.R=some (Fy data vars res f,b)/\D4 data vars res b/\Ja b1 b/\Ep b (Jl f.v f.I)=true:=by obtain⟨b,h,r⟩:=Wk b2 n o f j k hi c;refine⟨b,h,r,?_⟩;unfold J7 at h;rw[Afb f.v f.I j k hi,Ag]at h;cases i:Ep b1 (Jl f.v f.I) with| true=>rw[i]at h;simp only[Am,Ag,Dn,Av,Option.some.injEq,Prod.mk.injEq]at h;obtain⟨_,rfl⟩:=h;exact⟨Ja.refl _,i⟩| false=>rw[i]at h;simp only[Av,Ag,Bool.not_false,Am]at h;obtain⟨t,_,h⟩:=Option.bind_eq_some_iff.1 h;obtain⟨w,_,h⟩:=Option.bind_eq_some_iff.1 h;obtain⟨z,_,h⟩:=Option.bind_eq_some_iff.1 h;have e:=(Prod.mk.inj (Fe h)).2;rw[<-e];exact⟨λs q=>by rw[Ao6,q];rfl,by rw[Ao6,(Wa _ _).2 rfl];simp⟩
theorem Azs (h:Mv data vars res) (n:D4 data vars res b1) (f:Cn) (c:I64 f.v) (i:iR f.I) (hi:Di f.I<=1048576) (b:(Ek vars res f.v).isSome=true) (o:Ep b1 (Jl f.v f.I)=true) : Zh data vars res.G res.U res.R b1 b2 f.v f.I=some (Fy data vars res f):=by obtain⟨j,e,r⟩:=Wk b2 h n f c i hi b;unfold J7 at e;unfold Zh;rw[Afb f.v f.I c i hi,Ag]at e ⊢;rw[o]at e ⊢;simp only[Am,Ag,Dn,Av,Option.some.injEq,Prod.mk.injEq]at e ⊢;exact e.1
theorem Ao7 (a b:List Cn):Db data vars res (a++b)=Db data vars res a+Db data vars res b:=by unfold Db;rw[map_append,sum_append]
theorem Ao8 (a b:List B8):Dx (a++b)=Dx a+Dx b:=by unfold Dx;rw[map_append,sum_append]
theorem Agd (h:∀f∈l,0<=Fy data vars res f):0<=Db data vars res l:=by induction l with| nil=>simp[Db]| cons f l ih=>have i:=h f ψ;have e:=ih λg b=>h g (by simp[b]);unfold Db at e ⊢;rw[map_cons,sum_cons];omega
theorem Aar {l:List B8} (h:∀a∈l,0<=a.P):0<=Dx l:=by induction l with| nil=>simp[Dx]| cons f l ih=>have i:=h f ψ;have e:=ih λg b=>h g (by simp[b]);unfold Dx at e ⊢;rw[map_cons,sum_cons];omega
theorem Age (hp:Ii data vars res m=true):(∀f∈m.F,0<=Fy data vars res f)/\∀a∈m.A,0<=a.P/\Hv vars res a.L=true:=by unfold Ii at hp;rw[Dt,H7,H7]at hp;refine⟨λf e=>of_decide_eq_true (hp.1 f e),λa h=>?_⟩;have:=hp.2 a h;rw[Dt,E8]at this;exact this
theorem Ao9 {f:Cn} (h:0<=Fy data vars res f):(Ek vars res f.v).isSome=true:=by
 unfold Fy at h;cases e:Ek vars res f.v with
 | none=>rw[e]at h;have h:(0:Int)<=-1:=h;omega
 | some t=>rfl
theorem Aas (h:∀f∈l,0<=Fy data vars res f) (j:Nat):0<=Db data vars res (l.take j)/\Db data vars res (l.take j)<=Db data vars res l:=by
 have e:Db data vars res l=Db data vars res (l.take j)+Db data vars res (l.drop j):=by rw[<-Ao7,take_append_drop]
 have n:=Agd (l:=l.take j) λf i=>h f (mem_of_mem_take i);have o:=Agd (l:=l.drop j) λf i=>h f (mem_of_mem_drop i);omega
theorem Azt {l:List B8} (h:∀a∈l,0<=a.P) (j:Nat):0<=Dx (l.take j)/\Dx (l.take j)<=Dx l:=by
 have e:Dx l=Dx (l.take j)+Dx (l.drop j):=by rw[<-Ao8,take_append_drop]
 have n:=Aar (l:=l.take j) λf i=>h f (mem_of_mem_take i);have o:=Aar (l:=l.drop j) λf i=>h f (mem_of_mem_drop i);omega
theorem Apa (k:MSz m) (hp:Ii data vars res m=true) (u:Db data vars res m.F+Dx m.A<=6) {R:Type} {J:Int->Option R} {r:R} (s:J (Db data vars res m.F+Dx m.A)=some r) : (Ak (S:=(Int×Int)) (E:=Int) (λ(c,b)=> bif b<(m.A.length:Int) then ((Af m.A b).bind λe=> bif c<=(6:Int) then (some (.inl ((Ac (c+(if (7:Int)<e.P then 7 else e.P))),(Ac (b+1))))) else (some (.inl (c,(Ac (b+1)))))) else (some (.inr c))) (Db data vars res m.F,0)).bind J=some r:=by
 have q:=k.na;obtain⟨i,f⟩:=Age hp;have A:=Agd i;have o:=λj=>Azt (λa h=>(f a h).1) j;refine Ga m.A (λj=>(Db data vars res m.F+Dx (m.A.take j),(j:Int))) (by simp[Dx]) ω ?_ ?_
 .intro j a B h n v w;have C:=(f a (B4 h)).1;have z:=Am1 h;have t1:=o j;have t2:=o (j+1);simp only[n,v,w,Am,Ag];rw[Ap (show Db data vars res m.F+Dx (m.A.take j)<=6 by omega),Bb (show ¬(7:Int)<a.P by omega),z];simp only[Am];rw[show Ac (Db data vars res m.F+Dx (m.A.take j)+a.P)=Db data vars res m.F+(Dx (m.A.take j)+a.P) by rw[Ac,B6] <;> omega]
 .intro n;exact⟨_,by simp only[n];rfl,by rw[Dr];exact s⟩
theorem Apb (H:Mv data vars res) (I:D4 data vars res b1) (i:MSz m) (hp:Ii data vars res m=true) (B:Db data vars res m.F+Dx m.A<=6) : ∃c,Mf m b1 b2 data vars res.G res.U res.R=some (Db data vars res m.F+Dx m.A,c)/\D4 data vars res c/\Ja b1 c/\Ia c m:=by
 have z:=i.nf;obtain⟨q,y⟩:=Age hp;have A:=Aar λa N=>(y a N).1;have C:∃r,Mf m b1 b2 data vars res.G res.U res.R=some r/\r.1=Db data vars res m.F+Dx m.A/\D4 data vars res r.2/\Ja b1 r.2/\Ia r.2 m:=by
  unfold Mf;refine Gb m.F (λj x=>∃o,x=(Db data vars res (m.F.take j),(j:Int),o)/\D4 data vars res o/\Ja b1 o/\∀f∈m.F.take j,Ep o (Jl f.v f.I)=true) _ ⟨b1,by simp[Db],I,Ja.refl _,λf e=>by simp at e⟩ ω ?_ ?_
  .rintro j f _ P e h n G ⟨o,rfl,u,s,w⟩;have b:=B4 e;have O:Db data vars res (m.F.take (j+1))=Db data vars res (m.F.take j)+Fy data vars res f:=Afh _ e;have t1:=Aas q j;have t2:=Aas q (j+1);obtain⟨c,d1,d2,d3,d4⟩:=Azr b2 H u f (i.fr f b).2 (i.fr f b).1 (i.fi f b) (Ao9 (q f b));simp only[h,n,G,Am,Ag];rw[Ap (show Db data vars res (m.F.take j)<=6 by omega)];simp only[Am,d1,Ag];refine⟨_,rfl,.inl ⟨_,rfl,c,?_,d2,s.trans d3,λg k=>?_⟩⟩
   .rw[O,Ac,B6] <;> omega
   .rw[C5 e,Fi,Fx]at k;rcases k with k|rfl
    .exact d3 _ (w g k)
    .exact d4
  .rintro h _ ⟨o,rfl,u,s,w⟩;rw[Dr]at w;refine⟨_,by simp only[h];rfl,(Db data vars res m.F+Dx m.A,o),?_,rfl,u,s,w⟩;rw[Dr];exact Apa i hp B rfl
 obtain⟨⟨v,c⟩,h,n,G⟩:=C;exact⟨c,by rw[h];simp only at n;rw[n],G⟩
theorem Apc (n:Mv data vars res) (o:D4 data vars res b1) (c:MSz m) (hp:Ii data vars res m=true) (u:Db data vars res m.F+Dx m.A<=6) (r:Ia b1 m) : V1 data vars res.G res.U res.R b1 b2 m=some (Db data vars res m.F+Dx m.A):=by
 have q:=c.nf;obtain⟨i,k⟩:=Age hp;have s:=Aar λa v=>(k a v).1;unfold V1;refine Ga m.F (λj=>(Db data vars res (m.F.take j),(j:Int))) (by simp[Db]) ω ?_ ?_
 .intro j f B h e w z;have b:=B4 h;have A:Db data vars res (m.F.take (j+1))=Db data vars res (m.F.take j)+Fy data vars res f:=Afh _ h;have t1:=Aas i j;have t2:=Aas i (j+1);simp only[e,w,z,Am,Ag];rw[Ap (show Db data vars res (m.F.take j)<=6 by omega)];simp only[Am,Azs b2 n o f (c.fr f b).2 (c.fr f b).1 (c.fi f b) (Ao9 (i f b)) (r f b),Ag];rw[A,show Ac (Db data vars res (m.F.take j)+Fy data vars res f)=Db data vars res (m.F.take j)+Fy data vars res f by rw[Ac,B6] <;> omega]
 .intro e;refine⟨_,by simp only[e];rfl,?_⟩;rw[Dr];exact Apa c hp u rfl
end
mutual
theorem Apd {data:List Ao} (o:∀x∈data,x.O.length<=8):∀(i:Ae) (t:Ai) (d:Nat),B3 data i t=some d->iR i
 | ⟨n,e⟩,t,d,h=>by
  rw[Jw]at h
  rw[Afa]
  simp only at h ⊢
  split at h
  .split at h
   .rename_i j;exact⟨by rw[j];unfold I64;omega,Agf o e _ d h⟩
   .cases h
  .split at h
   .split at h
    .rename_i j
     rw[F9.1 j.2.2];exact⟨by unfold I64;omega,by simp only[iRs]⟩
    .cases h
   .split at h
    .split at h
     .rename_i j;exact⟨by rw[j];unfold I64;omega,Ape o e _ d h⟩
     .cases h
    .split at h
     .rename_i j
      rw[F9.1 j.2,j.1];exact⟨by unfold I64;omega,by simp only[iRs]⟩
     .cases h
theorem Agf {data:List Ao} (n:∀x∈data,x.O.length<=8):∀(is:List Ae) (e:List Ai) (d:Nat),Bv data is e=some d->iRs is
 | [],[],d,h=>by simp only[iRs]
 | i::is,t::e,d,h=>by
  rw[I9]at h
  cases j:B3 data i t with
  | none=>rw[j]at h;cases h
  | some a=>
   rw[j,Ag]at h
   cases o:Bv data is e with
   | none=>rw[o]at h;cases h
   | some b=>simp only[iRs];exact⟨Apd n i t a j,Agf n is e b o⟩
 | [],_::_,d,h=>by simp only[Bv]at h;cases h
 | _::_,[],d,h=>by simp only[Bv]at h;cases h
theorem Ape {data:List Ao} (i:∀x∈data,x.O.length<=8):∀(es:List Ae) (t:Ai) (d:Nat),Fb data es t=some d->iRs es
 | [],t,d,h=>by simp only[iRs]
 | ⟨n,e⟩::es,t,d,h=>by
  rw[Qv]at h
  simp only at h
  cases j:Fr data t n with
  | none=>rw[j]at h;cases h
  | some u=>
   rw[j,Ag]at h
   cases o:Bv data e u with
   | none=>rw[o]at h;cases h
   | some a=>
    rw[o,Ag]at h
    cases v:Fb data es t with
    | none=>rw[v]at h;cases h
    | some b=>
     obtain⟨_,x,w,z,A⟩:=S9 j
     obtain⟨_,_,_,r⟩:=E9 w
     have:=i x r
     simp only[iRs]
     rw[Afa]
     exact⟨⟨by unfold I64;simp only;omega,Agf i e u a o⟩,Ape i es t b v⟩
end
variable {t:Ai} {x:B0} {d k:Nat}
def Ch (x:B0) (m:Aq):Int:=Db x.D x.V x.E m.F+Dx m.A
def jn (m p:Aq):Aq:=⟨m.F++p.F,m.A++p.A⟩
def Fz:Aq:=⟨[],[]⟩
structure MOk (x:B0) (d:Nat) (m:Aq):Prop where
 sz:MSz m
 pr:Ii x.D x.V x.E m=true
 dg:Ch x m<=d
 nf:((m.F.length+m.A.length:Nat):Int)<=Ch x m
theorem Agg (x:B0) (m p:Aq):Ch x (jn m p)=Ch x m+Ch x p:=by unfold Ch jn;simp only[Ao7,Ao8];omega
theorem MOk.jn (hd:d<=6) {m p:Aq} (h:MOk x d m) (h':MOk x d p) (i:Ch x m+Ch x p<=d):MOk x d (jn m p):=by
 have e:=Agg x m p;have n:=h.nf;have j:=h'.nf;refine⟨⟨?_,?_,λf hf=>?_,λf hf=>?_,λa ha=>?_⟩,?_,by rw[e];exact i,?_⟩
 .show (m.F++p.F).length<=_;rw[Ew];omega
 .show (m.A++p.A).length<=_;rw[Ew];omega
 .rcases Fi.1 hf with hf|hf
  .exact h.sz.fi f hf
  .exact h'.sz.fi f hf
 .rcases Fi.1 hf with hf|hf
  .exact h.sz.fr f hf
  .exact h'.sz.fr f hf
 .rcases Fi.1 ha with ha|ha
  .exact h.sz.al a ha
  .exact h'.sz.al a ha
 .have c:=h.pr;have b:=h'.pr;unfold Ii at c b ⊢;unfold Go.Ab.jn;simp only[all_append,Dt]at c b ⊢;exact⟨⟨c.1,b.1⟩,c.2,b.2⟩
 .rw[e];show (((m.F++p.F).length+(m.A++p.A).length:Nat):Int)<=_;rw[Ew,Ew];omega
theorem MOk.one (x:B0) (d:Nat):MOk x d Fz/\Ch x Fz=0:=by
 have e:Ch x Fz=0:=by simp[Ch,Fz,Db,Dx]
 refine⟨⟨⟨by simp[Fz],by simp[Fz],λf hf=>by simp[Fz]at hf,λf hf=>by simp[Fz]at hf,λf hf=>by simp[Fz]at hf⟩,by simp[Ii,Fz],by rw[e];omega,by rw[e];simp[Fz]⟩,e⟩
def stg (x:B0) (d:Nat) (P:List Aq) (m:Aq):List Aq:=(P.filter λp=>decide (Ch x m+Ch x p<=d)).map (jn m)
def nxP (x:B0) (d:Nat) (P b:List Aq):List Aq:=b++b.flatMap (stg x d P)
def nxR (x:B0) (d:Nat) (P b:List Aq):List Aq:=b.flatMap λm=>m::stg x d P m
theorem Apf (x:B0) (d:Nat) (P:List Aq):∀all:List Aq,(nxP x d P all).Perm (nxR x d P all)
 | []=>Perm.refl _
 | m::all=>by have ih:=Apf x d P all;unfold nxP nxR at ih ⊢;rw[flatMap_cons,flatMap_cons,G2];refine Perm.cons m ?_;refine (List.perm_append_comm_assoc _ _ _).trans ?_;exact ih.append_left _
theorem Azu {P c b:List Aq} (h:c.Perm b):(nxP x d P c).Perm (nxR x d P b):=(Apf x d P c).trans (h.flatMap_right _)
def G7 (x:B0) (d:Nat):List (Option (List Aq))->List Aq->Option (List Aq)
 | [],all=>some all
 | none::_,_=>none
 | some P::r,all=>if (nxP x d P all).length<=1000 then G7 x d r (nxP x d P all) else none
def Gf (x:B0) (d:Nat):List (Option (List Aq))->List Aq->Option (List Aq)
 | [],all=>some all
 | none::_,_=>none
 | some P::r,all=>if (nxR x d P all).length<=1000 then Gf x d r (nxR x d P all) else none
theorem Tq (x:B0) (d:Nat):∀(a b:List (Option (List Aq))) (u:List Aq),G7 x d (a++b) u=(G7 x d a u).bind (G7 x d b)
 | [],b,u=>rfl
 | none::a,b,u=>rfl
 | some P::a,b,u=>by
  rw[G2,G7,G7];split
  .exact Tq x d a b _
  .rfl
theorem Ts (x:B0) (d:Nat):∀(a b:List (Option (List Aq))) (u:List Aq),Gf x d (a++b) u=(Gf x d a u).bind (Gf x d b)
 | [],b,u=>rfl
 | none::a,b,u=>rfl
 | some P::a,b,u=>by
  rw[G2,Gf,Gf];split
  .exact Ts x d a b _
  .rfl
theorem Apg (x:B0) (d:Nat):∀(a:List (Option (List Aq))) (u b:List Aq),u.Perm b->(G7 x d a u=none/\Gf x d a b=none)\/∃w e,G7 x d a u=some w/\Gf x d a b=some e/\w.Perm e
 | [],u,b,h=>.inr ⟨u,b,rfl,rfl,h⟩
 | none::a,u,b,h=>.inl ⟨rfl,rfl⟩
 | some P::a,u,b,h=>by
  have hp:=Azu (x:=x) (d:=d) (P:=P) h;rw[G7,Gf,hp.length_eq];split
  .exact Apg x d a _ _ hp
  .exact .inl ⟨rfl,rfl⟩
noncomputable def stV (x:B0) (d:Nat) (v:Int):Option (List Aq) := match Ek x.V x.E v with
 | some t=>(match J5 x.D t (d:Int) with
  | some (L,e)=>if e=0 then some (L.tail.map λi=>⟨[⟨v,i⟩],[]⟩) else none
  | none=>none)
 | none=>none
def stF (d:Nat) (l:Cm):Option (List Aq):=some ((range d).map λk=>⟨[],[⟨l,((k+1:Nat):Int)⟩]⟩)
theorem Azv {α:Type} {l:List α} {a:α} (h:l.Nodup) (i:∀x,x∈l↔x=a):l = [a]:=by
 cases l with
 | nil=>exact absurd ((i a).2 rfl) ψ
 | cons b l=>have e:=(i b).1 ψ;subst e;cases l with| nil=>rfl| cons c l=>have e:=(i c).1 ψ;subst e;simp at h
theorem Ki.parts {data:List Ao} {L:List Ae} (h:Ki data t d L):∃f,L=Ik t::f/\f.Nodup/\(∀i∈f,∃k,1<=k/\k<=d/\B3 data i t=some k)/\f.length<=499:=by
 obtain⟨G,c,_,q,j⟩:=h;have h0:G 0 = [Ik t]:=Azv (c 0 ω).1 λi=>((c 0 ω).2 i).trans ⟨Ant data i t,λe=>by rw[e];exact Aad data t⟩;have e:(range (d+1)).flatMap G=Ik t::((range d).map Nat.succ).flatMap G:=by rw[List.range_succ_eq_map,flatMap_cons,h0];rfl
 have b:=c.flat;rw[e]at b;refine⟨_,q.trans e,(List.nodup_cons.1 b.1).2,λi hi=>?_,?_⟩
 .obtain⟨m,hm,hi⟩:=mem_flatMap.1 hi;obtain⟨k,hk,rfl⟩:=mem_map.1 hm;rw[mem_range]at hk;exact⟨k+1,ω,ω,((c (k+1) ω).2 i).1 hi⟩
 .unfold A8 at j;rw[e,Hj]at j;omega
theorem Agh (n:H9 x) (r:d<=6) {v:Int} (o:Ek x.V x.E v=some t) (j:Bi t<=200) {i:Ae} (u:1<=k) (w:k<=d) (hi:B3 x.D i t=some k) : MOk x d ⟨[⟨v,i⟩],[]⟩/\Ch x ⟨[⟨v,i⟩],[]⟩=k:=by
 have c:=n.2.1;have b:Fy x.D x.V x.E ⟨v,i⟩=k:=by unfold Fy;simp only[o,hi];exact Wf ω
 have e:Ch x ⟨[⟨v,i⟩],[]⟩=k:=by simp[Ch,Db,Dx,b]
 have s:(Ek x.V x.E v).isSome=true:=by rw[o];rfl
 rw[Amx,E8]at s;have:=n.1;have q:=Tl c.szv i t k hi;refine⟨⟨⟨ψ,ψ,λf h=>?_,λf h=>?_,λa h=>by simp at h⟩,?_,by rw[e];omega,by rw[e];simp;omega⟩,e⟩
 .rw[Fx.1 h];show Di i<=_;omega
 .rw[Fx.1 h];exact⟨Apd c.cons8 i t k hi,by unfold I64;simp only;omega⟩
 .simp[Ii,b]
theorem W1 {l:Cm} (b:Ih l=true) (hi:Hv x.V x.E l=true) (i:1<=k) (j:k<=d):MOk x d ⟨[],[⟨l,(k:Int)⟩]⟩/\Ch x ⟨[],[⟨l,(k:Int)⟩]⟩=k:=by
 have e:Ch x ⟨[],[⟨l,(k:Int)⟩]⟩=k:=by simp[Ch,Db,Dx]
 have c:l.T.length<=16:=by unfold Ih at b;simp only[Dt,E8]at b;exact b.1.2.2
 refine⟨⟨⟨ψ,ψ,λf h=>by simp at h,λf h=>by simp at h,λa h=>?_⟩,?_,by rw[e];omega,by rw[e];simp;omega⟩,e⟩
 .rw[Fx.1 h];show l.T.length<=_;omega
 .simp[Ii,hi]
end Go.Ab
