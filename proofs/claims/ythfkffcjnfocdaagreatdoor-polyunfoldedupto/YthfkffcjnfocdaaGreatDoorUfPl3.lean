/- Plain laws. -/
import Derived.Test.YthfkffcjnfocdaaGreatDoorUfPl2
open List
namespace Go.Ab
open Go
variable{x:Bx}{p:Int}{ps:Do}{b l:Aa}{j n q:Nat}{g:Nat->Nat}{R α:Type}{r:R}
def Ny(Δ:Ap)(t:Ad)(e:Ag):Ac6:=⟨e.U,e.K,Ep (B5 Δ t.U e.U),match H9 Δ t e.U with|some l=>Fq l (B5 Δ t.U e.U)|none=>[]⟩
def Kh(n:Nat)(f:Nat->Nat):Eg:=(range (n+1)).map λq=>cR (f q)
theorem Xk(n:Nat)(f:Nat->Nat):(Kh n f).length=n+1:=by simp[Kh]
theorem U7(f:Nat->Nat)(h:q<=n):(Kh n f)[q]?=some (cR (f q)):=by unfold Kh;rw[getElem?_map,getElem?_range ω];rfl
theorem Azf{x:Nat}{f:Nat->Nat}(h:q<=n)(o:g q=x)(s:∀p,p<=n->p≠q->g p=f p):Cn (Kh n f) (q:Int) (cR x)=Kh n g:=by rw[Ii (n:=q) rfl];apply ext_getElem?;intro i;rw[getElem?_set];rcases Co i (n+1)with m|m;rw[U7 f ω,U7 g ω,Xk];by_cases e:q=i;subst e;rw[Aq rfl,Aq ω,o];rw[Ao e,s i ω (Ne.symm e)];rw[Mu (by rw[Xk];exact m),Mu (by rw[Xk];exact m)];split;rw[Ao (by rw[Xk];omega)];rfl
theorem Apb{f:Nat->Nat}(h:∀p,p<=n->f p=g p):Kh n f=Kh n g:=by apply ext_getElem?;intro i;rcases Co i (n+1)with m|m;rw[U7 f ω,U7 g ω,h i ω];rw[Mu (by rw[Xk];exact m),Mu (by rw[Xk];exact m)]
theorem Bde(fl:Au)(Q:Bp)(x:Q.length=fl.length)(y:fl.length<=6){J:Int×List Int×List Ad->Ο R}(u:J ((Q.length:Int),Ep Q,Fq fl Q)=some r):(Ak (S:=(Int×List Int×List Ad)) (E:=(Int×List Int×List Ad)) (λ(m,f,c)=>bif m<(Q.length:Int)then((Ah Q m).bind λh=>bif(!h)then((Bw 8 f [m]).bind λk=>(Ah fl m).bind λg=>(Bw 40 c [g]).bind λi=>some (.inl (Ac (m+1),k,i)))else some (.inl (Ac (m+1),f,c)))else some (.inr (m,f,c))) (0,[],[])).bind J=some r:=by(have q:∀j,(Ep (Q.take j)).length<=Q.length:=λj=>by unfold Ep;rw[Cp];refine Nat.le_trans (length_filter_le _ _) ?_;simp;omega);refine Gj Q (λj=>((j:Int),Ep (Q.take j),Fq (fl.take j) (Q.take j))) (by simp[Ep,Fq]) ω ?_ ?_;intro j b C w o A B;have v:fl[j]?=some fl[j]:=Bl ω;generalize fl[j]=a at v;have s:=Zi (fl.take j) (Q.take j);have:(fl.take j).length<=6:=ζ;have hp:=q j;(have l:Ep (Q.take (j+1))=Ep (Q.take j)++bif b then[]else[(j:Int)]:=by unfold Ep;rw[Aim w,filter_append,map_append];cases b<;>rfl);simp only[o,A,B,Al,Ae,l,Ado v w];(cases b with|true=>simp|false=>simp only[Bool.not_false,Al,An];rw[D7 ζ,Ae,Br rfl v,Ae,D7 ζ];rfl);intro o;exact⟨_,by simp only[o];rfl,by rw[C6,H8 ω];exact u⟩
theorem Bdf(n:Nat)(k:n<=100){J:Eg->Ο R}(h:J (replicate n (cR 0))=some r):(Ak (S:=(Int×List Ar)) (E:=(List Ar)) (λ(b,c)=>bif b<(((replicate n (Ar.mk false [] [])).length:Nat):Int)then((E4 0).bind λf=>(Ah c b).bind λg=>some (.inl (Ac (b+1),Cn c b f)))else some (.inr c)) (0,replicate n (Ar.mk false [] []))).bind J=some r:=by refine Gj (replicate n (Ar.mk false [] [])) (λj=>((j:Int),replicate j (cR 0)++replicate (n-j) (Ar.mk false [] []))) ψ ζ ?_ ?_;intro j x o v m w s;have u:j<n:=(by simpa using o);have i:replicate (n-j) (Ar.mk false [] [])=Ar.mk false [] []::replicate (n-(j+1)) (Ar.mk false [] []):=(by rw[show n-j=(n-(j+1))+1 by omega];rfl);simp only[m,s,Al,Ajp,Ae,i];rw[Adj (replicate j (cR 0)) _ _ _ j rfl ψ,Ae,Adi _ _ _ _ _ j rfl ψ];rw[replicate_succ'];simp;intro m;exact⟨replicate n (cR 0),by simp only[m];simp,h⟩
theorem Bdg:Abn []=some []:=by kernel_rfl
theorem Bdh(l:Aa):Abn l=some (l.mergeSort λx y=>decide (x<=y)):=by cases l with|nil=>rw[Bdg];simp|cons a l=>rfl
theorem Bdi(l:Aa):(l.mergeSort λx y=>decide (x<=y)).Pairwise (·<=·):=by have:=pairwise_mergeSort (le:=λx y:Int=>decide (x<=y)) (λa b c m o=>by simp only[D2]at *;omega) (λa b=>by simp only[Bool.or_eq_true,D2];omega) l;exact this.imp (λh=>by simpa using h)
structure Asc(b:List Int)(n:Nat)(l:List Int):Prop where
 up:l.Pairwise (· < ·)
 mem:∀y,y∈l↔y∈b.take n
theorem Bdj(c:b.Pairwise (·<=·))(hp:b[q]?=some p):∀y∈b.take (q+1),y<=p:=by intro y s;obtain⟨i,h⟩:=Hw s;rw[getElem?_take]at h;split at h;rename_i f;by_cases e:i=q;subst e;rw[h]at hp;cases hp;exact Int.le_refl _;have m:=Ek h;have o:=Ek hp;have:=(pairwise_iff_getElem.1 c) i q m o ω;rw[Bl m]at h;rw[Bl o]at hp;cases h;cases hp;exact this;cases h
theorem Asc.step(g:b.Pairwise (·<=·)){x:Int}(h:Asc b (q+1) l)(hp:b[q]?=some p)(hx:b[q+1]?=some x)(j:x≠p):Asc b (q+2) (l++[x]):=by have f:=Bdj g hp;(have i:p<x:=by have h1:=Ek hp;have h2:=Ek hx;have:=(pairwise_iff_getElem.1 g) q (q+1) h1 h2 ω;rw[Bl h1]at hp;rw[Bl h2]at hx;cases hp;cases hx;omega);refine⟨?_,λy=>?_⟩;rw[pairwise_append];refine⟨h.up,ψ,λa ha c hc=>?_⟩;rw[Ee]at hc;subst hc;have:=f a ((h.mem a).1 ha);omega;rw[Cu hx,E9,E9,h.mem y]
theorem Asc.same{x:Int}(h:Asc b (q+1) l)(hp:b[q]?=some x)(hx:b[q+1]?=some x):Asc b (q+2) l:=by refine⟨h.up,λy=>?_⟩;rw[Cu hx,E9,h.mem y];constructor;exact .inl;rintro(h1|h1);exact h1;rw[Ee]at h1;subst h1;rw[Cu hp];simp
theorem Aee{l:Λ α}{off:Nat}{i:Int}{x:α}(m:i=j)(o:j<n)(h:l[off+j]?=some x):I4 l off n i=some x:=by subst m;unfold I4;rw[Aq ω];simpa using h
theorem Bdk{X:Ο (Nat×List Int)}{Q:Nat×List Int->Prop}(h:∃r,X=some r/\Q r):∃(m:Nat)(o:Aa),X=some (m,o)/\Q (m,o):=by obtain⟨⟨m,o⟩,s,u⟩:=h;exact⟨m,o,s,u⟩
theorem Bdl{X:Ο (Int⊕((Nat×List Int)⊕Unit))}{P:Nat->Aa->Prop}{b:Prop}(h:∃r,X=some r/\∃(m:Nat)(o:Aa),r=.inr (.inl (m,o))/\P m o):∃e,X=some (.inr e)/\((∃(m:Nat)(o:Aa),e=.inl (m,o)/\P m o)\/(e=.inr ()/\b)):=by obtain⟨_,s,m,o,rfl,u⟩:=h;exact⟨_,s,.inl ⟨m,o,rfl,u⟩⟩
theorem Bdm(b:Aa)(R:b.Pairwise (·<=·))(hl:b.length<=1099511627776):∃(m:Nat)(o:Aa),Yj b.length b=some (m,o)/\m<=o.length/\Asc b b.length (o.take m):=by
 unfold Yj;by_cases F:b.length<2;rw[Av ω,Al];refine⟨b.length,b,rfl,Nat.le_refl _,?_,λy=>Iff.rfl⟩;rw[C6];match b,F with|[],_=>simp|[_],_=>simp
 .rw[A6 ω,An];refine Bdk (Q:=λr:Nat×List Int=>r.1<=r.2.length/\Asc b b.length (r.2.take r.1)) ?_
  .refine Fo (Q:=λr:Nat×List Int=>r.1<=r.2.length/\Asc b b.length (r.2.take r.1)) (λv=>∃j:Nat,v=((j+1:Nat):Int)/\j+1<=b.length/\Asc b (j+1) (b.take (j+1))) (λv=>b.length-v.toNat) (λe:((Nat×List Int)⊕Unit)=>(∃(m:Nat)(o:Aa),e=.inl (m,o)/\m<=o.length/\Asc b b.length (o.take m))\/(e=.inr ()/\Asc b b.length (b.take b.length))) ?_ ?_ ?_ (J:=λz:((Nat×List Int)⊕Unit)=>match z with|.inl (G,E)=>some (G,E)|.inr _=>some (b.length,b))
   .exact⟨0,rfl,ω,by
     refine⟨?_,λy=>Iff.rfl⟩
     match b,F with
     |a::_,_=>simp
     |[],h=>simp at h⟩
   rintro v ⟨j,rfl,hj,N⟩;rcases Co (j+1) b.length with h|h;have C:b[j+1]?=some b[j+1]:=Bl h;have hp:b[j]?=some b[j]:=Bl ω;generalize b[j+1]=x at C;generalize b[j]=p at hp;have X:Ac (((j+1:Nat):Int)-1)=((j:Nat):Int):=(by rw[show(((j+1:Nat):Int)-1)=(j:Int)by omega,Ac,Ct]<;>omega);simp only[Av (ω:((j+1:Nat):Int)<(b.length:Int)),Al,Aee (l:=b) (off:=0) (n:=b.length) (i:=((j+1:Nat):Int)) rfl h (by rw[Nat.zero_add];exact C),X, Aee (l:=b) (off:=0) (n:=b.length) (i:=((j:Nat):Int)) rfl ω (by rw[Nat.zero_add];exact hp),Ae,Db h ω];by_cases e:x=p;subst e;rw[Fa rfl,Al];have A:Ts b.length ((j+1:Nat):Int) ((b.length:Nat):Int)=some (j+1,b.length):=(by unfold Ts;rw[Aq ω];simp);rw[A,Ae];dsimp only;refine .inr ?_;refine Bdl (Fo (Q:=λz:(Int⊕((Nat×List Int)⊕Unit))=>∃(m:Nat)(o:Aa),z=.inr (.inl (m,o))/\m<=o.length/\Asc b b.length (o.take m)) (λz=>∃(w k:Nat)(o:Aa),z=((w:Int),(k:Int),o)/\o.length=b.length/\w<=j+k/\1<=k/\j+1+k<=b.length/\Asc b (j+1+k) (o.take w)/\∀i,w<=i->o[i]?=b[i]?) (λz=>b.length-(j+1)-z.2.1.toNat) (λz=>∃(w k:Nat)(o:Aa),z=((w:Int),(k:Int),o)/\o.length=b.length/\w<=b.length/\Asc b b.length (o.take w)) ?_ ?_ ?_);refine⟨j+1,1,b,rfl,rfl,ω,ω,ω,?_,λ_ _=>rfl⟩;exact N.same hp C;rintro z ⟨w,k,o,rfl,D,W,hk,Z,f,c⟩;rcases Co (j+1+k) b.length with T|T;have H:b[j+1+k]?=some b[j+1+k]:=Bl T;have K:b[j+k]?=some b[j+k]:=Bl ω;generalize b[j+1+k]=y at H;generalize b[j+k]=q at K;have V:Ac ((k:Int)-1)=((k-1:Nat):Int):=(by rw[show((k:Int)-1)=((k-1:Nat):Int)by omega,Ac,Ct]<;>omega);have U:Ac ((k:Int)+1)=((k+1:Nat):Int):=Db (n:=b.length) ω ω;have S:Ac ((w:Int)+1)=((w+1:Nat):Int):=Db (n:=b.length) ω ω;have i1:I4 o (0+(j+1)) (b.length-(j+1)) (k:Int)=some y:=Aee rfl ω (by rw[Nat.zero_add,c _ ω];exact H);have i2:I4 o (0+(j+1)) (b.length-(j+1)) ((k-1:Nat):Int)=some q:=Aee rfl ω (by rw[Nat.zero_add,c _ ω,show j+1+(k-1)=j+k by omega];exact K);have I:o[w]?=some (o[w]' ω):=Bl _;have i3:I4 o 0 b.length (w:Int)=some (o[w]' ω):=Aee rfl ω (by rw[Nat.zero_add];exact I);simp only[Av (ω:(k:Int)<((b.length-(j+1):Nat):Int)),Al,i1,i2,i3,V,U,S,Ae];by_cases e:y=q;subst e;rw[Gx rfl,An];refine .inl ⟨_,rfl,⟨w,k+1,o,rfl,D,ω,ω,ω,?_,c⟩,by simp only[Int.toNat_natCast];omega⟩;have:=Asc.same (q:=j+k) (x:=y) (by rw[show j+k+1=j+1+k by omega];exact f) K (by rw[show j+k+1=j+1+k by omega];exact H);rw[show j+1+(k+1)=j+k+2 by omega];exact this;rw[Ga e,Al];have B:Cn o (((0:Nat):Int)+(w:Int)) y=o.set w y:=Ii (n:=w) ω y;have s:(o.set w y).take (w+1)=o.take w++[y]:=(by rw[Cu (x:=y) (by rw[getElem?_set,Aq rfl,Aq ω]),take_set_of_le (Nat.le_refl _)]);rw[B];refine .inl ⟨_,rfl,⟨w+1,k+1,o.set w y,rfl,by simpa using D,ω,ω,ω,?_,?_⟩,by simp only[Int.toNat_natCast];omega⟩;rw[s];have:=Asc.step R (q:=j+k) (x:=y) (p:=q) (by rw[show j+k+1=j+1+k by omega];exact f) K (by rw[show j+k+1=j+1+k by omega];exact H) e;rw[show j+1+(k+1)=j+k+2 by omega];exact this;intro i hi;rw[getElem?_set,Ao ω];exact c i ω;have L:j+1+k=b.length:=ω;refine .inr ⟨((w:Int),(k:Int),o),?_,w,k,o,rfl,D,ω,by rw[<-L];exact f⟩;simp only[A6 (ω:¬(k:Int)<((b.length-(j+1):Nat):Int)),An];rintro z ⟨w,k,o,rfl,D,W,f⟩;dsimp only;have g:Ya b.length (w:Int)=some w:=(by unfold Ya;rw[Aq ω];simp);by_cases Y:w=0\/w<b.length;have u:Vy b.length (w:Int) ((b.length:Nat):Int)=some (.inl (w,b.length)):=(by unfold Vy;rw[Aq ω,Aq ω];simp);have M:Tt o (0+w) (b.length-w) (0:Int)=some (Gg o (0+w) (replicate (b.length-w) 0)):=(by unfold Tt;rw[Aq ω]);rw[u,Ae];dsimp only;rw[M,Ae,g,Ae];have s:(Gg o (0+w) (replicate (b.length-w) (0:Int))).take w=o.take w:=(by unfold Gg;rw[Nat.zero_add,append_assoc,take_append_of_le_length ζ,take_take,Nat.min_self]);refine⟨_,rfl,w,_,rfl,?_,?_⟩;unfold Gg;simp;omega;rw[s];exact f;have u:Vy b.length (w:Int) ((b.length:Nat):Int)=some (.inr ()):=(by unfold Vy;rw[Aq ω,Ao ω]);rw[u,Ae];dsimp only;rw[g,Ae];exact⟨_,rfl,w,o,rfl,ω,f⟩;rw[Da e,An];refine .inl ⟨_,rfl,⟨j+1,rfl,ω,?_⟩,by simp only[Int.toNat_natCast];omega⟩;have:=Asc.step R N hp C e;rw[<-Cu C]at this;exact this;have:j+1=b.length:=ω;refine .inr ⟨.inr (),?_,.inr ⟨rfl,by rw[<-this];exact N⟩⟩;rw[A6 ω];rfl;rintro e (⟨m,o,rfl,P,F⟩|⟨rfl,P⟩);exact⟨(m,o),rfl,P,F⟩;exact⟨(b.length,b),rfl,Nat.le_refl _,P⟩
theorem Bdn:V2=some true:=by kernel_rfl
def Nz(l:A7):Aa:=l.flatMap λa=>a.L.T.map (·.v)
def K1(m:A4):Aa:=m.F.map (·.v)++Nz m.A
def Ia(p:A1):Aa:=p.flatMap λt=>K1 t.M
theorem Azg(F:Λ α)(g:α->Int)(o:Aa)(h:o.length+F.length<=1000000){J:Int×List Int->Ο R}(k:J ((F.length:Int),o++F.map g)=some r):(Ak (S:=(Int×List Int)) (E:=(Int×List Int)) (λ(m,b)=>bif m<(F.length:Int)then((Ah F m).bind λc=>(Bw 8 b [g c]).bind λi=>some (.inl (Ac (m+1),i)))else some (.inr (m,b))) (0,o)).bind J=some r:=by refine Gj F (λj=>((j:Int),o++(F.take j).map g)) ψ ω ?_ ?_;intro j f A u s v w;simp only[s,v,w,Al,Ae];rw[D7 ζ,Cu u];simp;intro s;exact⟨_,by simp only[s];rfl,by rw[C6];exact k⟩
theorem Bdo(f:α->Aa)(l:Λ α)(j:Nat):((l.take j).flatMap f).length<=(l.flatMap f).length:=by(have:l.flatMap f=(l.take j).flatMap f++(l.drop j).flatMap f:=by rw[<-flatMap_append,take_append_drop]);rw[this,D6];omega
theorem Azh(f:α->Aa){l:Λ α}{x:α}(h:l[j]?=some x):((l.take j).flatMap f).length+(f x).length<=(l.flatMap f).length:=by have:=Bdo f l (j+1);rw[Cu h,flatMap_append]at this;simpa using this
theorem Bdp(p:A1)(D:p.length<=1000000)(E:∀t∈p,t.M.A.length<=1000000)(hb:(Ia p).length<=1000000):∃V,Abf p=some V/\V.Pairwise (· < ·)/\V.length<=1000000/\∀y,y∈V↔y∈Ia p:=by obtain⟨m,o,F,G,v⟩:=Bdm ((Ia p).mergeSort λx y=>decide (x<=y)) (Bdi _) (by rw[length_mergeSort];omega);refine⟨o.take m,?_,v.up,?_,?_⟩;unfold Abf;refine Gj p (λj=>((j:Int),Ia (p.take j))) rfl ω ?_ ?_;intro j t K w C H I;have q:=Bu w;have B:=E t q;have c:(Ia (p.take j)).length+(K1 t.M).length<=1000000:=Nat.le_trans (Azh (λt:Aj=>K1 t.M) w) hb;unfold K1 at c;rw[D6,Cp]at c;simp only[C,H,I,Al,Ae];refine Azg t.M.F (λf=>f.v) (Ia (p.take j)) ω ?_;dsimp only;refine Gj t.M.A (λi=>((i:Int),Ia (p.take j)++t.M.F.map (λf=>f.v)++Nz (t.M.A.take i))) (by simp[Nz]) ω ?_ ?_;intro i a L g k z u;have A:(Nz (t.M.A.take i)).length+(a.L.T.map (·.v)).length<=(Nz t.M.A).length:=Azh (λa:Bh=>a.L.T.map λl:Fm=>l.v) g;rw[Cp]at A;simp only[k,z,u,Al,Ae];refine Azg a.L.T (λl=>l.v) _ (by simp only[D6,Cp];omega) ?_;show some (Sum.inl (_,_))=_;rw[Cu g];unfold Nz;rw[flatMap_append];simp;intro k;refine⟨_,by simp only[k];rw[C6];rfl,?_⟩;show some (Sum.inl (_,_))=_;rw[Cu w];unfold Ia;rw[flatMap_append];simp[K1];intro C;refine⟨Ia p,by simp only[C];rw[C6];rfl,?_⟩;rw[Bdh,Ae];unfold G2;rw[Aq (by rw[length_mergeSort]),Ae];have:Yj (Ia p).length ((Ia p).mergeSort λx y=>decide (x<=y))=some (m,o):=(by rw[<-F,length_mergeSort]);rw[this,Ae];unfold Agt;rw[Aq G];rfl;(have M:((o.take m).length:Nat)<=(Ia p).length:=by have s:(o.take m).Nodup:=v.up.imp λh=>ω;(have b:∀y∈o.take m,y∈Ia p:=λy J=>by have:=(v.mem y).1 J;rw[C6]at this;exact mem_mergeSort.1 this);exact Nodup.length_le_of_subset s b);omega;intro y;rw[v.mem y,C6,mem_mergeSort]
theorem Azi(l:Aa)(b:l.length<=1099511627776):Yg l l=some true:=by unfold Yg;rw[Gx rfl,An];refine Gj l (λj=>(j:Int)) rfl ω ?_ ?_;intro j x u v m o s;simp only[m,o,s,Al,Ae,bne_self_eq_false,An];intro h;exact⟨.inr (),by simp only[h];rfl,rfl⟩
theorem Bdq(a:Ar)(h:a.U.length<=1099511627776)(m:a.B.length<=1099511627776):Tx a a=some true:=by unfold Tx;rw[beq_self_eq_true,Al,Azi _ h,Ae,Al,Azi _ m,Ae]
structure PSt(K:Nat)(n:Nat)(b:List Aj):Prop where
 le:n<=b.length
 cp:CP (b.take n)
 tm:∀t∈b.take n,RB K t.C/\MSz t.M
theorem PSt.mono{K c:Nat}{b:A1}(h:PSt K n b)(f:K<=c):PSt c n b:=⟨h.le,h.cp,λt m=>⟨((h.tm t m).1).mono f,(h.tm t m).2⟩⟩
theorem Azj:∀(k:Nat)(t:Ad)(a:Int),Bz t<=k->k<1099511627776->∃r,T6 k t a=some r/\True:=by intro k;induction k with|zero=>intro i a h;have:=Jc i;omega|succ k ih=>intro i a h s;have f:=Jc i;have g:=Lw i.R;rw[T6];refine So ⟨_,rfl,trivial⟩ ?_;refine Fo (λ(v,_)=>∃j:Nat,v=j/\j<=i.R.length) (λ(v,_)=>i.R.length-v.toNat) (λ_=>True) ⟨0,rfl,ω⟩ ?_ ?_;rintro⟨v,b⟩ ⟨j,rfl,u⟩;rcases Co j i.R.length with m|m;have o:i.R[j]?=some i.R[j]:=Bl m;generalize i.R[j]=x at o;have w:=Kr (Bu o);obtain⟨⟨y,z⟩,c,_⟩:=ih x b ω ω;simp only[Av (ω:(j:Int)<(i.R.length:Int)),Al,Br rfl o,Ae,c,Db m ω];(cases y with|false=>exact .inr ⟨_,rfl,trivial⟩|true=>exact .inl ⟨_,rfl,⟨j+1,rfl,ω⟩,by simp only[Int.toNat_natCast];omega⟩);have:j=i.R.length:=ω;subst this;exact .inr ⟨.inr b,ψ,trivial⟩;rintro(⟨x,y⟩|e) _;exact⟨_,rfl,trivial⟩;exact⟨_,rfl,trivial⟩
theorem Azk(t:Ad)(h:Bz t<=1048576):∃b,Yh t=some b:=by unfold Yh;obtain⟨r,m,_⟩:=Azj 4000000 t 250 ω ω;exact⟨_,by rw[m];rfl⟩
theorem Bdr(l:Au)(n:Int)(c:l.length<=1048576)(h:∀t∈l,Bz t<=1048576):∃b,Abj l n=some b/\True:=by unfold Abj;refine Fo (λv=>∃j:Nat,v=j/\j<=l.length) (λv=>l.length-v.toNat) (λ_=>True) ⟨0,rfl,ω⟩ ?_ ?_;rintro v ⟨j,rfl,u⟩;rcases Co j l.length with m|m;have o:l[j]?=some l[j]:=Bl m;generalize l[j]=x at o;obtain⟨b,s⟩:=Azk x (h x (Bu o));simp only[Av (ω:(j:Int)<(l.length:Int)),Al,Br rfl o,Ae,s,Db m ω];(cases decide ((j:Int)<=n)with|false=>exact .inr ⟨_,rfl,trivial⟩|true=>cases b with|false=>exact .inr ⟨_,rfl,trivial⟩|true=>exact .inl ⟨_,rfl,⟨j+1,rfl,ω⟩,by simp only[Int.toNat_natCast];omega⟩);simp only[A6 (ω:¬(j:Int)<(l.length:Int)),An];exact .inr ⟨_,rfl,trivial⟩;rintro(r|r) _;exact⟨_,rfl,trivial⟩;exact⟨_,rfl,trivial⟩
theorem Bds(l:Ap)(f:DSz l):∃b,Abi l=some b/\True:=by unfold Abi;have z:=f.len;refine So ⟨_,rfl,trivial⟩ ?_;refine Fo (λv=>∃j:Nat,v=j/\j<=l.length) (λv=>l.length-v.toNat) (λ_=>True) ⟨0,rfl,ω⟩ ?_ ?_;rintro v ⟨j,rfl,I⟩;rcases Co j l.length with C|C;have E:l[j]?=some l[j]:=Bl C;generalize l[j]=x at E;obtain⟨J,H⟩:=f.sz x (Bu E);simp only[Av (ω:(j:Int)<(l.length:Int)),Al,Br rfl E,Ae,Db C ω];have m:∃q,(bif decide ((x.S.size:Int)>40)then some true else some (decide ((x.O.length:Int)>10)))=some q:=(by cases decide ((x.S.size:Int)>40)<;>exact⟨_,rfl⟩);obtain⟨q,m⟩:=m;erw[m];simp only[Ae];(cases q with|true=>exact .inr ⟨_,rfl,trivial⟩|false=>simp only[An];(have o:∀(W:Ο (Int⊕(Bool⊕Unit))),(∃r,W=some r/\(r=.inl ((j+1:Nat):Int)\/∃e,r=.inr e))->(∃A,W=some (Sum.inl A)/\(∃j:Nat,A=(j:Int)/\j<=l.length)/\l.length-A.toNat<l.length-((j:Int)).toNat)\/∃e,W=some (Sum.inr e)/\True:=by rintro W ⟨r,rfl,rfl|⟨e,rfl⟩⟩;exact .inl ⟨_,rfl,⟨j+1,rfl,ω⟩,by simp only[Int.toNat_natCast];omega⟩;exact .inr ⟨_,rfl,trivial⟩);refine o _ ?_;refine Fo (λv=>∃j:Nat,v=j/\j<=x.O.length) (λv=>x.O.length-v.toNat) (λ_=>True) ⟨0,rfl,ω⟩ ?_ ?_;rintro v ⟨i,rfl,K⟩;rcases Co i x.O.length with B|B;have F:x.O[i]?=some x.O[i]:=Bl B;generalize x.O[i]=y at F;have d1:=H y (Bu F);have d2:=Lw y.R;simp only[Av (ω:(i:Int)<(x.O.length:Int)),Al,Br rfl F,Ae,Db B ω];have m:∃q,(bif decide ((y.S.size:Int)>40)then some true else some (decide ((y.R.length:Int)>8)))=some q:=(by cases decide ((y.S.size:Int)>40)<;>exact⟨_,rfl⟩);obtain⟨q,m⟩:=m;erw[m];simp only[Ae];(cases q with|true=>exact .inr ⟨_,rfl,trivial⟩|false=>simp only[An];(have o:∀(W:Ο (Int⊕(Bool⊕Int))),(∃r,W=some r/\(r=.inl ((i+1:Nat):Int)\/∃e,r=.inr e))->(∃A,W=some (Sum.inl A)/\(∃j:Nat,A=(j:Int)/\j<=x.O.length)/\x.O.length-A.toNat<x.O.length-((i:Int)).toNat)\/∃e,W=some (Sum.inr e)/\True:=by rintro W ⟨r,rfl,rfl|⟨e,rfl⟩⟩;exact .inl ⟨_,rfl,⟨i+1,rfl,ω⟩,by simp only[Int.toNat_natCast];omega⟩;exact .inr ⟨_,rfl,trivial⟩);refine o _ ?_;refine Fo (λs=>∃j:Nat,s.1=j/\j<=y.R.length) (λs=>y.R.length-s.1.toNat) (λ_=>True) ⟨0,rfl,ω⟩ ?_ ?_;rintro⟨_,w⟩ ⟨u,rfl,L⟩;rcases Co u y.R.length with G|G;have c:y.R[u]?=some y.R[u]:=Bl G;generalize y.R[u]=t at c;have M:=Kr (Bu c);obtain⟨⟨g,k⟩,h,_⟩:=Azj 4000000 t w ω ω;simp only[Av (ω:(u:Int)<(y.R.length:Int)),Al,Br rfl c,Ae,h,Db G ω];(cases g with|false=>exact .inr ⟨_,rfl,trivial⟩|true=>exact .inl ⟨_,rfl,⟨u+1,rfl,ω⟩,by simp only[Int.toNat_natCast];omega⟩);simp only[A6 (ω:¬(u:Int)<(y.R.length:Int)),An];exact .inr ⟨_,rfl,trivial⟩;rintro(r|r) _;exact⟨_,rfl,.inr ⟨_,rfl⟩⟩;exact⟨_,rfl,.inl rfl⟩);simp only[A6 (ω:¬(i:Int)<(x.O.length:Int)),An];exact .inr ⟨_,rfl,trivial⟩;rintro(r|r) _;exact⟨_,rfl,.inr ⟨_,rfl⟩⟩;exact⟨_,rfl,.inl rfl⟩);simp only[A6 (ω:¬(j:Int)<(l.length:Int)),An];exact .inr ⟨_,rfl,trivial⟩;rintro(r|r) _;exact⟨_,rfl,trivial⟩;exact⟨_,rfl,trivial⟩
theorem Bdt(x:Bx)(f:CSz x):∃b,Aa9 x=some b:=by unfold Aa9;obtain⟨a,h,_⟩:=Bds x.D f.ds;obtain⟨b,m,_⟩:=Bdr x.V 40 f.nv f.vs;obtain⟨c,o⟩:=Azk x.E f.rs;rw[h,m,o];cases a<;>cases b<;>exact⟨_,rfl⟩
theorem CP.dst{p:A1}(h:CP p):Dst p:=h.srt.imp λ{a b} c e=>by unfold ltT at c;rw[Rm.2 e]at c;omega
theorem Azl:Ph (λt u:Aj=>Et t.M u.M) where
 irr x:=by
  show ¬Et x.M x.M<0
  rw[Ayn];omega
 trs x y z m h:=Zw m h
 ntr x y z m h:=by
  show ¬Et x.M z.M<0
  have m:¬Et x.M y.M<0:=m
  have h:¬Et y.M z.M<0:=h
  intro o
  rcases Int.lt_trichotomy (Et x.M y.M) 0 with k|k|k
  .exact m k
  .rw[Rm.1 k]at o;exact h o
  .exact h (Zw (Aoo.1 k) o)
def Ajq(b:A1):A1:=b.mergeSort λt u=>decide (Et t.M u.M<=0)
theorem Azm(b:A1):(Ajq b).Perm b:=mergeSort_perm _ _
theorem Bdu(f:A1)(s:Dst f):(Ajq f).Pairwise ltT:=by have m:=pairwise_mergeSort (le:=λt u:Aj=>decide (Et t.M u.M<=0)) (λa b c m o=>by simp only[D2]at *;have:=Azl.ntr c b a (by show ¬Et _ _<0;rw[Zv];omega) (by show ¬Et _ _<0;rw[Zv];omega);have this:¬Et c.M a.M<0:=this;rw[Zv]at this;omega) (λa b=>by simp only[Bool.or_eq_true,D2];rw[Zv a.M b.M];omega) f;have o:(Ajq f).Pairwise λt u=>t.M≠u.M:=((Azm f).pairwise_iff λ{x y} h=>h.symm).2 s;refine(m.and o).imp λ{t u} h=>?_;have a:=of_decide_eq_true h.1;have b:Et t.M u.M≠0:=λe=>h.2 (Rm.1 e);unfold ltT;omega
theorem Bdv(b:A1)(o:Dst b)(m:∀t∈b,MSz t.M):∃R,R8 b=some R/\R.Perm b/\R.Pairwise ltT:=by rcases Co 12 b.length with h|h;have e:Nat.ble b.length 12=false:=(by cases k:Nat.ble b.length 12 with|false=>rfl|true=>have:=Nat.le_of_ble_eq_true k;omega);unfold R8;rw[e,An];obtain⟨r,f,i,v,w,hp,g⟩:=Amq (cmp:=R9) (l:=b) (r:=Ajq b) ⟨_,Azl,λx A y _=>Ao7 x y (m x A),Azm b,Bdu b o⟩;refine⟨r,f,hp,?_⟩;refine(Pairwise.imp_of_mem (S:=ltT) (λ{t u} s B h=>?_) g);have c:=w t (hp.mem_iff.1 s) u (hp.mem_iff.1 B);rw[Ao7 t u (m t (hp.mem_iff.1 s))]at c;have c:=Fv c;unfold ltT;rw[c];exact h;exact Bc4 b o m h
theorem Azn(g:CSz x)(b:∀p∈ps,∀t∈p,TSz t)(i:ps.length<=1048576)(h:¬(Gw x/\∀p∈ps,Kf x.D x.V x.E p=true)):Pi x ps=some (.inr false):=by obtain⟨r,f,c⟩:=Aza x g ps b i;(rcases c with⟨m,_⟩|⟨_,rfl⟩);exact(h m).elim;exact f
theorem Azo(i:CSz x)(c:∀p∈ps,∀t∈p,TSz t)(j:ps.length<=1048576)(h:Gw x/\∀p∈ps,Kf x.D x.V x.E p=true):∃b,Pi x ps=some (.inl (true,x,b,[],x.D,x.V,x.E.G,x.E.U,x.E.R))/\Dz x.D x.V x.E b:=by obtain⟨r,g,f⟩:=Aza x i ps c j;(rcases f with⟨_,b,e,m⟩|⟨o,_⟩);exact⟨b,by rw[g,e],m⟩;exact(o h).elim
structure PR(x:Bx)(n:Nat)(f:A4->Rat)(R:List Aj):Prop where
 cp:CP R
 val:∀m,cf R m=f m
 tb:∀t∈R,Kg x t.M/\RB 8589934592 t.C
 len:R.length<=n
theorem PR.of{m:Nat}{f g:A4->Rat}{R:A1}(h:PR x n f R)(b:n<=m)(hf:∀a,f a=g a):PR x m g R:=⟨h.cp,λa=>by rw[h.val,hf],h.tb,Nat.le_trans h.len b⟩
theorem Lf.nil(x:Bx):Lf x []:=⟨Ad5.2 ⟨ψ,CP.nil,λt h=>by cases h⟩,λt h=>by cases h⟩
def Dh(l:Λ α)(r:Bp):Λ α:=((l.zip r).filter λp=>!p.2).map (·.1)
def Ki(Δ:Ap)(t:Ad)(c:Int):Au:=match Gv Δ t c with|some ts=>ts|none=>[]
def P5{α:Type}(b:Λ (α->Nat))(x:α)(f:Nat->Nat):Nat->Nat
 |0=>f 0
 |q+1=>f (q+1)+f q*(match b[q]? with|some w=>w x|none=>0)
def dpS(b:Λ (α->Nat))(l:Λ α):Nat->Nat:=l.foldl (λf x=>P5 b x f) (λq=>if q=0 then 1 else 0)
theorem Apc(b:Λ (α->Nat))(l:Λ α)(x:α):dpS b (l++[x])=P5 b x (dpS b l):=by unfold dpS;rw[foldl_append];rfl
mutual
def bv(Δ:List Ai):Ag->Ad->A3->Nat
 |⟨n,h⟩,t,w=>if t.G=6 then Fg Δ h t.R w.K else if t.G=7 then bc w.K.length n.toNat else if t.G=5 then dpS (bws Δ h t) (Ht Δ t.U w) h.length else 1
def Fg(Δ:List Ai):List Ag->List Ad->List A3->Nat
 |i::is,t::ts,w::h=>bv Δ i t w*Fg Δ is ts h
 |[],_,_=>1
 |_::_,[],_=>1
 |_::_,_::_,[]=>1
def bws(Δ:List Ai):List Ag->Ad->List (A3->Nat)
 |[],_=>[]
 |⟨n,h⟩::es,t=>(λx=>if x.U=n then Fg Δ h (Ki Δ t n) (Dh x.K (B5 Δ t.U n))else 0)::bws Δ es t
end
theorem P6(Δ:Ap)(i:Ag)(t:Ad)(w:A3):bv Δ i t w=if t.G=6 then Fg Δ i.K t.R w.K else if t.G=7 then bc w.K.length i.U.toNat else if t.G=5 then dpS (bws Δ i.K t) (Ht Δ t.U w) i.K.length else 1:=by cases i;simp only[bv]
theorem P7(Δ:Ap)(i:Ag)(is:A0)(t:Ad)(ts:Au)(w:A3)(b:A9):Fg Δ (i::is) (t::ts) (w::b)=bv Δ i t w*Fg Δ is ts b:=by simp only[Fg]
theorem Ro(Δ:Ap)(ts:Au)(b:A9):Fg Δ [] ts b=1:=by simp only[Fg]
def wOf(Δ:Ap)(t:Ad)(e:Ag)(x:A3):Nat:=if x.U=e.U then Fg Δ e.K (Ki Δ t e.U) (Dh x.K (B5 Δ t.U e.U))else 0
theorem Aef(Δ:Ap)(t:Ad):∀(es:A0)(q:Nat),(bws Δ es t)[q]?=(es[q]?).map (wOf Δ t)
 |[],q=>by simp[bws]
 |⟨n,b⟩::es,0=>by simp only[bws,getElem?_cons_zero,Option.map_some];rfl
 |⟨n,b⟩::es,q+1=>by simp only[bws,getElem?_cons_succ];exact Aef Δ t es q
theorem Apd(Δ:Ap):∀(is:A0)(ts:Au)(b:A9)(j:Nat)(i:Ag)(t:Ad)(w:A3),is[j]?=some i->ts[j]?=some t->b[j]?=some w->Fg Δ (is.take (j+1)) (ts.take (j+1)) (b.take (j+1))=Fg Δ (is.take j) (ts.take j) (b.take j)*bv Δ i t w
 |i'::is,t'::ts,u::b,0,i,t,w,m,o,s=>by cases m;cases o;cases s;simp only[take_succ_cons,take_zero,P7,Ro,Nat.mul_one,Nat.one_mul]
 |i'::is,t'::ts,u::b,j+1,i,t,w,m,o,s=>by have:=Apd Δ is ts b j i t w m o s;rw[take_succ_cons,take_succ_cons,take_succ_cons,take_succ_cons,take_succ_cons,take_succ_cons,P7,P7,this,Nat.mul_assoc]
 |[],_,_,_,_,_,_,h,_,_=>by simp at h
 |_::_,[],_,_,_,_,_,_,h,_=>by simp at h
 |_::_,_::_,[],_,_,_,_,_,_,h=>by simp at h
theorem Ajr:∀n k,bc n k<=n^k
 |n,0=>by rw[Kz];exact Nat.le_refl _
 |0,k+1=>by simp[bc]
 |n+1,k+1=>by have m:=Ajr n k;have o:=Ajr n (k+1);have h:n^k<=(n+1)^k:=Nat.pow_le_pow_left ω k;have s:n^(k+1)<=n*(n+1)^k:=(by rw[Nat.pow_succ,Nat.mul_comm];exact Nat.mul_le_mul_left _ h);rw[bc,Nat.pow_succ,Nat.mul_add,Nat.mul_one,Nat.mul_comm];omega
theorem Azp{α:Type}(b:Λ (α->Nat))(B:Nat)(E:Nat->Nat):∀(l:Λ α)(n:Nat)(f:Nat->Nat),(∀q,f q<=n^q*B^E q)->(∀x∈l,∀q w,b[q]?=some w->B^E q*w x<=B^E (q+1))->∀q,(l.foldl (λf x=>P5 b x f) f) q<=(n+l.length)^q*B^E q
 |[],n,f,m,_,q=>m q
 |x::l,n,f,m,o,q=>by rw[foldl_cons];have:=Azp b B E l (n+1) (P5 b x f) (λq=>?_) (λy s=>o y (by simp[s])) q;rw[D3,show n+(l.length+1)=n+1+l.length by omega];exact this;cases q with|zero=>have:=m 0;simpa[P5]using this|succ q=>have A:=m (q+1);have u:=m q;(have C:f q*(match b[q]? with|some w=>w x|none=>0)<=n^q*B^E (q+1):=by cases h:b[q]? with|none=>simp|some w=>have v:=o x ψ q w h;refine Nat.le_trans (Nat.mul_le_mul_right _ u) ?_;rw[Nat.mul_assoc];exact Nat.mul_le_mul_left _ v);have c:n^q<=(n+1)^q:=Nat.pow_le_pow_left ω q;have i:n^(q+1)+n^q<=(n+1)^(q+1):=(by rw[Nat.pow_succ,Nat.pow_succ,Nat.mul_add,Nat.mul_one];exact Nat.add_le_add (Nat.mul_le_mul_right _ c) c);have g:=Nat.mul_le_mul_right (B^E (q+1)) i;rw[Nat.add_mul]at g;show f (q+1)+_<=_;omega
theorem Azq{α:Type}(b:Λ (α->Nat))(B:Nat)(f:1<=B)(E:Nat->Nat)(l:Λ α)(m:∀x∈l,∀q w,b[q]?=some w->B^E q*w x<=B^E (q+1))(c:l.length<=B)(q:Nat):dpS b l q<=B^(q+E q):=by have h:=Azp b B E l 0 (λq=>if q=0 then 1 else 0) (λq=>by cases q with|zero=>have:0<B^E 0:=Nat.pow_pos ω;simp;omega|succ q=>simp) m q;refine Nat.le_trans h ?_;rw[Nat.zero_add,Nat.pow_add];exact Nat.mul_le_mul_right _ (Nat.pow_le_pow_left c q)
mutual
theorem Ape(Δ:List Ai)(d:Int):∀v,∀x∈Ht Δ d v,C9 x<=C9 v
 |⟨k,n,m⟩=>λx o=>by
  have h:=Azr Δ d m (B5 Δ d n)
  simp only[Ht,F0]at o
  rcases o with rfl|o
  .exact Nat.le_refl _
  .have:=h x o
   simp only[C9];omega
theorem Azr(Δ:List Ai)(d:Int):∀l r,∀x∈Ih Δ d l r,C9 x<=Ef l
 |y::m,b::bs=>λx h=>by
  have o:=Ape Δ d y
  have s:=Azr Δ d m bs
  simp only[Ih,E9]at h
  simp only[Ef]
  rcases h with h|h
  .cases b with
   |false=>simp at h
   |true=>have:=o x (by simpa using h);omega
  .have:=s x h;omega
 |[],_=>λx h=>by simp[Ih]at h
 |_::_,[]=>λx h=>by simp[Ih]at h
end
variable{t:Ad}{e i:Ag}{x y:Ar}{ts:Au}{es ps tr:A0}{Δ:Ap}{p:Eg}{l:A7}{r:Bp}{N a b d k n:Nat}{g:Nat->Nat}{R α β:Type}{cmp:α->α->Bg}
def pdg(Δ:Ap)(t:Ad)(e:Ag):Nat:=match Cj Δ e.K (Ki Δ t e.U)with|some a=>a|none=>0
def pds(Δ:Ap)(t:Ad)(es:A0):Nat:=(es.map (pdg Δ t)).sum
theorem Aeg(Δ:Ap):∀(es:A0)(t:Ad)(d:Nat),Ew Δ es t=some d->d=es.length+pds Δ t es/\∀e∈es,∃ts,Gv Δ t e.U=some ts/\Cj Δ e.K ts=some (pdg Δ t e)
 |[],t,d,h=>by simp only[Ew,Option.some.injEq]at h;subst h;exact⟨rfl,λe c=>by cases c⟩
 |e::es,t,d,h=>by rw[Sp]at h;cases m:Gv Δ t e.U with|none=>rw[m]at h;cases h|some ts=>rw[m,Ae]at h;cases o:Cj Δ e.K ts with|none=>rw[o]at h;cases h|some a=>rw[o,Ae]at h;cases s:Ew Δ es t with|none=>rw[s]at h;cases h|some b=>rw[s]at h;have h:1+a+b=d:=Fv h;obtain⟨w,v⟩:=Aeg Δ es t b s;have hp:pdg Δ t e=a:=(by unfold pdg Ki;rw[m];simp only[o]);refine⟨by unfold pds at *;simp only[map_cons,sum_cons,D3,hp];omega,λx u=>?_⟩;rcases F0.1 u with rfl|u;exact⟨ts,m,by rw[hp];exact o⟩;exact v x u
theorem Apf{q:Nat}(h:es[q]?=some e):pds Δ t (es.take (q+1))=pds Δ t (es.take q)+pdg Δ t e:=by unfold pds;rw[Cu h];simp
theorem Bdw(Δ:Ap)(t:Ad)(es:A0)(q:Nat):pds Δ t (es.take q)<=pds Δ t es:=by(have:pds Δ t es=pds Δ t (es.take q)+pds Δ t (es.drop q):=by unfold pds;rw[<-sum_append,<-map_append,take_append_drop]);omega
theorem Apg{l:Λ α}{x:α}(h:x∈Dh l r):x∈l:=by unfold Dh at h;obtain⟨p,hp,rfl⟩:=mem_map.1 h;exact(of_mem_zip (a:=p.1) (b:=p.2) (mem_filter.1 hp).1).1
theorem Zz(Δ:Ap)(B:Nat)(S:1<=B):∀n:Nat,(∀(i:Ag)(t:Ad)(w:A3)(d:Nat),Bt i<=n->Dc Δ i t=some d->C9 w<=B->bv Δ i t w<=B^d)/\(∀(is:A0)(ts:Au)(f:A9)(d:Nat),B7 is<=n->Cj Δ is ts=some d->(∀w∈f,C9 w<=B)->Fg Δ is ts f<=B^d):=by intro n;induction n with|zero=>refine⟨λi t w d h=>by have:=Er i;omega,λis ts f d h _ _=>?_⟩;have:=Ri is;have:is=[]:=Hb.1 ω;subst this;rw[Ro];exact Nat.pow_pos ω|succ n ih=>have c:∀d,1<=B^d:=λd=>Nat.pow_pos ω;(have o:∀(i:Ag)(t:Ad)(w:A3)(d:Nat),Bt i<=n+1->Dc Δ i t=some d->C9 w<=B->bv Δ i t w<=B^d:=by intro i t w d P m H;have M:=Er i;have I:=Mf w;have J:=Xc w.K;rw[P6];rw[Lx]at m;by_cases z:t.G=6;rw[Aq z]at m⊢;by_cases e:i.U=0;rw[Aq e]at m;(exact ih.2 i.K t.R w.K d ω m λx K=>by have:=M7 K;omega);rw[Ao e]at m;cases m;rw[Ao z]at m⊢;by_cases u:t.G=7;rw[Aq u]at m⊢;by_cases e:0<=i.U/\i.U<=6/\i.K.length=0;rw[Aq e]at m;have m:=Fv m;rw[m];exact Nat.le_trans (Ajr _ _) (Nat.pow_le_pow_left ω d);rw[Ao e]at m;cases m;rw[Ao u]at m⊢;by_cases A:t.G=5;rw[Aq A]at m⊢;(have m:Ew Δ i.K t=some d:=by by_cases e:i.U=0;rw[Aq e]at m;exact m;rw[Ao e]at m;cases m);obtain⟨v,C⟩:=Aeg Δ _ _ _ m;have L:=Aok Δ t.U w;have:=Azq (bws Δ i.K t) B S (λq=>pds Δ t (i.K.take q)) (Ht Δ t.U w) (λx K q wt Q=>by rw[Aef]at Q;obtain⟨e,D,rfl⟩:=Option.map_eq_some_iff.1 Q;have g:=Bu D;obtain⟨ts,l,k⟩:=C e g;have G:=Ape Δ t.U w x K;have N:=Kc g;have R:=Er e;rw[Apf D,Nat.pow_add];refine Nat.mul_le_mul_left _ ?_;unfold wOf;split;have s:Ki Δ t e.U=ts:=(by unfold Ki;rw[l]);rw[s];refine ih.2 e.K ts _ _ ω k λy F=>?_;have F:=Apg F;have E:=M7 F;have:=Mf x;omega;omega) ω i.K.length;rw[C6]at this;rw[v];exact this;rw[Ao A];exact c d);refine⟨o,?_⟩;intro is;induction is with|nil=>intro ts f d _ _ _;rw[Ro];exact c d|cons i is j=>intro ts f d P m H;cases ts with|nil=>rw[show Fg Δ (i::is) [] f=1 by simp only[Fg]];exact c d|cons t ts=>cases f with|nil=>rw[show Fg Δ (i::is) (t::ts) []=1 by simp only[Fg]];exact c d|cons w f=>simp only[B7]at P;rw[Lc]at m;cases v:Dc Δ i t with|none=>rw[v]at m;cases m|some a=>rw[v,Ae]at m;cases C:Cj Δ is ts with|none=>rw[C]at m;cases m|some b=>rw[C]at m;have m:a+b=d:=Fv m;rw[P7,<-m,Nat.pow_add];exact Nat.mul_le_mul (o i t w a ω v (H w ψ)) (j ts f b ω C λy F=>H y (by simp[F]))
def stG{α:Type}(g:Nat->α->Nat)(x:α)(f:Nat->Nat):Nat->Nat
 |0=>f 0
 |q+1=>f (q+1)+f q*g q x
def D8(g:Nat->α->Nat)(l:Λ α):Nat->Nat:=l.foldl (λf x=>stG g x f) (λq=>if q=0 then 1 else 0)
theorem Xl(g:Nat->α->Nat)(l:Λ α)(x:α):D8 g (l++[x])=stG g x (D8 g l):=by unfold D8;rw[foldl_append];rfl
theorem P8(g:Nat->α->Nat)(l:Λ α):D8 g l 0=1:=by(have h:∀R:Λ α,D8 g R.reverse 0=1:=by intro R;induction R with|nil=>rfl|cons x R ih=>rw[List.reverse_cons,Xl];exact ih);rw[<-List.reverse_reverse l];exact h _
theorem Aeh(g:Nat->α->Nat)(n:Nat):D8 g [] (n+1)=0:=rfl
def Il(n:Nat)(f:Nat->Nat):Nat:=((range n).map f).sum
theorem Mj(n:Nat)(f:Nat->Nat):Il (n+1) f=Il n f+f n:=by unfold Il;rw[range_succ,map_append,sum_append];simp
theorem Ajs(n:Nat)(f h:Nat->Nat)(e:∀k,k<n->f k=h k):Il n f=Il n h:=by induction n with|zero=>rfl|succ n ih=>rw[Mj,Mj,ih λk m=>e k ω,e n ω]
theorem Bdx(n:Nat)(f h:Nat->Nat):Il n (λk=>f k+h k)=Il n f+Il n h:=by induction n with|zero=>rfl|succ n ih=>rw[Mj,Mj,Mj,ih];omega
theorem Bdy(n:Nat)(f:Nat->Nat)(c:Nat):Il n (λk=>f k*c)=Il n f*c:=by induction n with|zero=>simp[Il]|succ n ih=>rw[Mj,Mj,ih,Nat.add_mul]
theorem Azs(n:Nat)(f:Nat->Nat):Il (n+1) f=f 0+Il n (λk=>f (k+1)):=by induction n with|zero=>rw[Mj];simp[Il]|succ n ih=>rw[Mj,ih,Mj];omega
theorem Azt(g:Nat->α->Nat)(b c:Λ α)(n:Nat):D8 g (b++c) n=Il (n+1) (λk=>D8 g b k*D8 (λq=>g (k+q)) c (n-k)):=by
 have h:∀(R:Λ α)(n:Nat),D8 g (b++R.reverse) n=Il (n+1) (λk=>D8 g b k*D8 (λq=>g (k+q)) R.reverse (n-k)):=by
  intro R;induction R with
  |nil=>
   intro n;rw[List.reverse_nil,append_nil,Mj,Nat.sub_self];have:Il n (λk=>D8 g b k*D8 (λq=>g (k+q)) [] (n-k))=Il n (λ_=>0):=Ajs _ _ _ λk o=>by obtain⟨m,s⟩:∃m,n-k=m+1:=⟨n-k-1,ω⟩;show _*D8 _ [] (n-k)=0;rw[s,Aeh,Nat.mul_zero]
   have u:∀n,Il n (λ_=>0)=0:=by intro n;induction n with
    |zero=>rfl
    |succ n ih=>rw[Mj,ih]
   rw[this,u];show _=0+D8 g b n*D8 _ [] 0;rw[P8];omega
  |cons x R ih=>
   intro n;rw[List.reverse_cons,<-append_assoc,Xl];cases n with
   |zero=>show D8 g (b++R.reverse) 0=_;rw[P8,Mj];show 1=Il 0 _+D8 g b 0*D8 _ _ 0;rw[P8,P8];simp[Il]
   |succ n=>
    show D8 g (b++R.reverse) (n+1)+D8 g (b++R.reverse) n*g n x=_;rw[ih,ih,Mj (n+1),Mj (n+1),<-Bdy];have f:Il (n+1) (λk=>D8 g b k*D8 (λq=>g (k+q)) (R.reverse++[x]) (n+1-k)) =
      Il (n+1) (λk=>D8 g b k*D8 (λq=>g (k+q)) R.reverse (n+1-k)+D8 g b k*D8 (λq=>g (k+q)) R.reverse (n-k)*g n x):=by refine Ajs _ _ _ λk o=>?_;show D8 g b k*D8 (λq=>g (k+q)) (R.reverse++[x]) (n+1-k)=_;rw[Xl,show n+1-k=(n-k)+1 by omega];show D8 g b k*(D8 _ R.reverse (n-k+1)+D8 _ R.reverse (n-k)*g (k+(n-k)) x)=_;rw[show k+(n-k)=n by omega,Nat.mul_add,Nat.mul_assoc]
    rw[f,Bdx,Nat.sub_self,P8,P8];omega
 rw[<-List.reverse_reverse c];exact h _ n
theorem Bdz(g:Nat->α->Nat)(x:α)(L:Λ α)(n:Nat):D8 g (x::L) (n+1)=D8 g L (n+1)+g 0 x*D8 (λq=>g (q+1)) L n:=by have h:=Azt g [x] L (n+1);rw[singleton_append]at h;have b:D8 g [x]=stG g x (D8 g []):=Xl g [] x;rw[h,Azs,Azs];(have m:Il n (λk=>D8 g [x] (k+1+1)*D8 (λq=>g (k+1+1+q)) L (n+1-(k+1+1)))=0:=by have:∀n f,(∀k,f k=0)->Il n f=0:=(by intro n f o;induction n with|zero=>rfl|succ n ih=>rw[Mj,ih,o]);refine this _ _ λk=>?_;have:D8 g [x] (k+1+1)=0:=(by rw[b];show D8 g [] (k+1+1)+D8 g [] (k+1)*g (k+1) x=0;rw[Aeh,Aeh];omega);rw[this,Nat.zero_mul]);rw[m];have s:D8 g [x] 0=1:=P8 g [x];(have u:D8 g [x] (0+1)=g 0 x:=by rw[b];show D8 g [] (0+1)+D8 g [] 0*g 0 x=g 0 x;rw[Aeh,P8];omega);rw[s,u,Nat.sub_zero,Nat.one_mul,Nat.add_zero];(have i:(λq=>g (0+q))=g:=by funext q;rw[Nat.zero_add]);(have c:(λq=>g (0+1+q))=λq=>g (q+1):=by funext q;congr 1;omega);rw[i,c];rfl
def I8{β:Type}:Nat->Λ β->Λ (List (List β))
 |0,[]=>[[]]
 |0,_::_=>[]
 |m+1,es=>(range (es.length+1)).flatMap λn=>(I8 m (es.drop n)).map λs=>es.take n::s
def gOf(w:β->α->Nat)(es:Λ β)(q:Nat)(x:α):Nat:=match es[q]? with|some e=>w e x|none=>0
def D(w:β->α->Nat)(es:Λ β)(L:Λ α):Nat:=D8 (gOf w es) L es.length
def P9{α β:Type}(w:β->α->Nat):Λ (List β)->Λ (List α)->Nat
 |s::b,L::Ls=>D w s L*P9 w b Ls
 |_,_=>1
theorem Azu(g h:Nat->α->Nat):∀(L:Λ α)(n:Nat),(∀q,q<n->g q=h q)->D8 g L n=D8 h L n:=by(have m:∀(R:Λ α)(n:Nat),(∀q,q<n->g q=h q)->D8 g R.reverse n=D8 h R.reverse n:=by intro R;induction R with|nil=>intro n _;rfl|cons x R ih=>intro n b;rw[List.reverse_cons,Xl,Xl];cases n with|zero=>exact ih 0 b|succ n=>show D8 g _ (n+1)+D8 g _ n*g n x=D8 h _ (n+1)+D8 h _ n*h n x;rw[ih (n+1) b,ih n λq o=>b q ω,b n ω]);intro L n b;have:=m L.reverse n b;rwa [List.reverse_reverse]at this
theorem Azv{β γ:Type}(f:γ->Nat)(h:β->Λ γ):∀l:Λ β,((l.flatMap h).map f).sum=(l.map λx=>((h x).map f).sum).sum
 |[]=>rfl
 |x::l=>by rw[flatMap_cons,map_append,sum_append,Azv f h l,map_cons,sum_cons]
theorem Aph{α β:Type}(w:β->α->Nat):∀(Ls:Λ (List α))(es:Λ β),((I8 Ls.length es).map λs=>P9 w s Ls).sum=D w es Ls.flatten
 |[],[]=>by show([[]].map _).sum=D8 _ [] 0;rw[P8];rfl
 |[],e::es=>by show(map _ []).sum=D8 _ [] (es.length+1);rw[Aeh];rfl
 |L::Ls,es=>by show((I8 (Ls.length+1) es).map _).sum=_;unfold I8;rw[Azv];unfold D;rw[List.flatten_cons,Azt];show Il (es.length+1) _=_;refine Ajs _ _ _ λk o=>?_;rw[map_map];have h:((λs=>P9 w s (L::Ls))∘λs=>es.take k::s)=λs=>D w (es.take k) L*P9 w s Ls:=rfl;rw[h];have g:∀l:Λ (List (List β)),(l.map λs=>D w (es.take k) L*P9 w s Ls).sum=D w (es.take k) L*(l.map λs=>P9 w s Ls).sum:=(by intro l;induction l with|nil=>rfl|cons s l ih=>rw[map_cons,sum_cons,ih,map_cons,sum_cons,Nat.mul_add]);rw[g,Aph w Ls (es.drop k)];have b:k<=es.length:=ω;have f:D w (es.take k) L=D8 (gOf w es) L k:=(by unfold D;rw[length_take,Nat.min_eq_left b];refine Azu _ _ _ _ λq m=>?_;funext x;unfold gOf;rw[getElem?_take_of_lt m]);have c:D w (es.drop k) Ls.flatten=D8 (λq=>gOf w es (k+q)) Ls.flatten (es.length-k):=(by unfold D;rw[length_drop];refine Azu _ _ _ _ λq m=>?_;funext x;unfold gOf;rw[getElem?_drop]);rw[f,c]
theorem Api{α:Type}:∀(l:Λ α)(r:Bp)(s:Nat)(n:Nat)(p:Int)(L:Nat->Ο α),l.length=r.length->(∀j,L (s+j)=l[j]?)->(((r.zipIdx s).filter λq=>!q.1).map λq=>(q.2:Int))[n]?=some p->∃(m:Nat)(a:α),p=m/\L m=some a/\(Dh l r)[n]?=some a
 |[],[],s,n,p,L,_,_,h=>by simp at h
 |a::l,b::r,s,n,p,L,i,g,h=>by have c:l.length=r.length:=(by simpa using i);(have f:∀j,L (s+1+j)=l[j]?:=λj=>by rw[show s+1+j=s+(j+1)by omega,g];rfl);cases b with|true=>simp only[zipIdx_cons,filter_cons,bnt]at h;obtain⟨m,x,o,u,v⟩:=Api l r (s+1) n p L c f (by simpa using h);exact⟨m,x,o,u,by simpa[Dh]using v⟩|false=>simp only[zipIdx_cons,filter_cons,Bool.not_false,if_true,map_cons]at h;cases n with|zero=>simp only[getElem?_cons_zero,Option.some.injEq]at h;exact⟨s,a,h.symm,by have:=g 0;simpa using this,by simp[Dh]⟩|succ n=>simp only[getElem?_cons_succ]at h;obtain⟨m,x,o,u,v⟩:=Api l r (s+1) n p L c f h;exact⟨m,x,o,u,by simpa[Dh]using v⟩
 |[],_::_,_,_,_,_,h,_,_=>by simp at h
 |_::_,[],_,_,_,_,h,_,_=>by simp at h
theorem Bd0{l:Λ α}(b:l.length=r.length){p:Int}(h:(Ep r)[n]?=some p):∃(m:Nat)(a:α),p=m/\l[m]?=some a/\(Dh l r)[n]?=some a:=Api l r 0 n p (λj=>l[j]?) b (λj=>ψ) (by unfold Ep at h;exact h)
theorem Apj{K:Nat}(m:Cq a<=K)(hb:Cq b<=K)(c:1<=K)(h:K<60000000000):Fz (cR a) (cR b)=some (cR (a*b)):=by obtain⟨o,s,u⟩:=U6 a;obtain⟨v,w,f⟩:=U6 b;rw[Ai9 _ _ K K (Nx m c) (Nx hb c) ω ω,o,s,u,v,w,f];simp[cR]
def Sm(a:Nat):Prop:=a<=5000^6
theorem Sm.lg(h:Sm a):Cq a<=3:=Lu (Nat.lt_of_le_of_lt h δ)
theorem Sm.of(h:a<=5000^d)(hd:d<=6):Sm a:=Nat.le_trans h (Nat.pow_le_pow_right δ hd)
theorem Aei(Δ:Ap):∀(is:A0)(ts:Au)(d j:Nat),Cj Δ is ts=some d->∃e,Cj Δ (is.take j) (ts.take j)=some e/\e<=d
 |[],[],d,j,_=>⟨0,by simp[Cj],ω⟩
 |i::is,t::ts,d,0,_=>⟨0,by simp[Cj],ω⟩
 |i::is,t::ts,d,j+1,h=>by rw[Lc]at h;cases m:Dc Δ i t with|none=>rw[m]at h;cases h|some a=>rw[m,Ae]at h;cases o:Cj Δ is ts with|none=>rw[o]at h;cases h|some b=>rw[o]at h;have h:a+b=d:=Fv h;obtain⟨e,c,f⟩:=Aei Δ is ts b j o;refine⟨a+e,?_,ω⟩;rw[take_succ_cons,take_succ_cons,Lc,m,Ae,c];rfl
 |[],_::_,_,_,h=>by simp only[Cj]at h;cases h
 |_::_,[],_,_,h=>by simp only[Cj]at h;cases h
theorem Bd1{is:A0}{b:A9}(h:Cj Δ is ts=some d)(s:d<=6)(m:∀w∈b,C9 w<=5000)(j:Nat):Sm (Fg Δ (is.take j) (ts.take j) (b.take j)):=by obtain⟨e,c,f⟩:=Aei Δ is ts d j h;exact Sm.of ((Zz Δ 5000 δ _).2 _ _ _ e (Nat.le_refl _) c λw o=>m w (mem_of_mem_take o)) ω
theorem Bd2(R:Szv Δ)(C:t.G=5){x:A3}(v:Hs Δ x t=true)(z:x.U=e.U)(b:Gv Δ t e.U=some ts):(Ny Δ t e).types=ts/\(Ep (B5 Δ t.U e.U)).length=ts.length/\ts.length<=6/\(∀a∈ts,Bz a<=200)/\∀(j:Nat)(s:Int),(Ep (B5 Δ t.U e.U))[j]?=some s->∃(m:Nat)(a:Ad)(w:A3),s=m/\ts[j]?=some a/\x.K[m]?=some w/\(Dh x.K (B5 Δ t.U e.U))[j]?=some w/\Hs Δ w a=true/\C9 w<=C9 x:=by have D:=b;unfold Gv at b;cases o:H9 Δ t e.U with|none=>rw[o]at b;cases b|some fl=>rw[o]at b;have b:Fq fl (B5 Δ t.U e.U)=ts:=Fv b;have g:=M6 o;have c:Ik Δ x.K fl=true:=(by rw[Sx,Ao ω,Ao ω,Ao ω,Ao ω,Aq C]at v;rw[z,o]at v;simp only[C5]at v;exact v.2);(have u:x.K.length=fl.length:=by by_cases I:x.K.length=fl.length;exact I;rw[Ad0 Δ _ _ I]at c;cases c);have J:fl.length<=6:=(by obtain⟨M,y,_,A,_,F,E,_⟩:=Lb o;obtain⟨L,_⟩:=R M (Gb A).2.2.2 y (Gb F).2.2.2;rw[E];simpa using L);have U:=Zi fl (B5 Δ t.U e.U);have h:=Bdd fl (B5 Δ t.U e.U) g.symm;have S:=Mf x;refine⟨by unfold Ny;simp only[o,b],by rw[h,b],by rw[<-b];omega,(Ain D).1,λj s k=>?_⟩;obtain⟨m,a,rfl,G,q⟩:=Bdc g.symm k;obtain⟨N,w,H,f,B⟩:=Bd0 (l:=x.K) ω k;obtain rfl:m=N:=ω;rw[b]at q;refine⟨m,a,w,rfl,q,f,B,?_,?_⟩;rw[Zt Δ _ _ u]at c;exact Hx.1 c (w,a) (Bu (i:=m) (by rw[getElem?_zip_eq_some];exact⟨f,G⟩));have:=M7 (Bu f);omega
theorem Bd3(hz:Szv Δ)(hk:t.G=5)(l:A0)(hp:∀e∈l,∃ts,Gv Δ t e.U=some ts/\Cj Δ e.K ts=some (pdg Δ t e))(bi:l.length+pds Δ t l<=6)(k:Nat)(b7:∀e∈l,∀(i':Ag)(t':Ad)(w:A3)(d:Nat),i'∈e.K->Dc Δ i' t'=some d->d<=6->Bz t'<=200->Hs Δ w t'=true->C9 w<=5000->Pk k Δ t' i' w=some (cR (bv Δ i' t' w)))(x:A3)(W:Hs Δ x t=true)(bb:C9 x<=5000)(f:Nat->Nat)(hf:∀q,q<=l.length->f q<=5000^(q+pds Δ t (l.take q)))(b5:∀q,q<=l.length->P5 (bws Δ l t) x f q<=5000^(q+pds Δ t (l.take q))){J:Int×List Ar->Ο R}{r:R}(hJ:J (0,Kh l.length (P5 (bws Δ l t) x f))=some r):(Ak (S:=(Int×List Ar)) (E:=(Int×List Ar)) (λ(c,u)=>bif c>(0:Int)then((Ah (l.map (Ny Δ t)) (Ac (c-1))).bind λz=>(show OB from bif(z.con != x.U)then some true else((Ah u (Ac (c-1))).bind λaf=>(Jq af).bind λae=>some (ae==(0:Int)))).bind λad=>bif ad then some (.inl (Ac (c-1),u))else((Ah u (Ac (c-1))).bind λI=>(Ak (S:=(Int×Bool×List Int×List Int)) (E:=(Int×Bool×List Int×List Int)) (λ(y,X,o,v)=>bif y<(z.places.length:Int)then((Ah z.places y).bind λC=>(Ah z.types y).bind λF=>(Ah z.kids y).bind λac=>(Ah x.K C).bind λab=>(Pk k Δ F ac ab).bind λH=>(Fz (Ar.mk X o v) H).bind λm=>some (.inl (Ac (y+1),m.N,m.U,m.B)))else some (.inr (y,X,o,v))) (0,I.N,I.U,I.B)).bind λ(a3,aa,K,a8)=>(Ah u c).bind λG=>(J7 G (Ar.mk aa K a8)).bind λa7=>(Ah u c).bind λb9=>some (.inl (Ac (c-1),Cn u c a7))))else some (.inr (c,u))) ((l.length:Int),Kh l.length f)).bind J=some r:=by generalize hg:P5 (bws Δ l t) x f=g at hJ b5;(have sm:∀q,q<=l.length->q+pds Δ t (l.take q)<=6:=λq hq=>by have:=Bdw Δ t l q;omega);refine Lv l.length (λi=>(((l.length-i:Nat):Int),Kh l.length λp=>if l.length-i<p then g p else f p)) ?_ ?_ ?_;simp only[Nat.sub_zero,Int.ofNat_eq_natCast];congr 1;exact Apb (λp hp=>by rw[Ao ω]);intro i hi;obtain⟨q,hq⟩:∃q:Nat,l.length-i=q+1:=⟨l.length-i-1,ω⟩;have a0:l.length-(i+1)=q:=ω;have U:q+1<=l.length:=ω;have P:l[q]?=some l[q]:=Bl ω;generalize l[q]=e at P;have ap:=Bu P;have w1:Ac (((q+1:Nat):Int)-1)=((q:Nat):Int):=(by rw[show(((q+1:Nat):Int)-1)=(q:Int)by omega,Ac,Ct]<;>omega);have b6:Ah (l.map (Ny Δ t)) (q:Int)=some (Ny Δ t e):=Br rfl (by rw[getElem?_map,P];rfl);have a1:g (q+1)=f (q+1)+f q*wOf Δ t e x:=(by rw[<-hg];simp only[P5,Aef,P,Option.map_some]);simp only[hq,a0,Av (ω:((q+1:Nat):Int)>0),Al,w1,b6,Ae];have ao:Ah (Kh l.length λp=>if q+1<p then g p else f p) (q:Int)=some (cR (f q)):=(by rw[Br rfl (U7 _ ω),Ao ω]);have b4:Ah (Kh l.length λp=>if q+1<p then g p else f p) ((q+1:Nat):Int)=some (cR (f (q+1))):=(by rw[Br rfl (U7 _ ω),Ao ω]);have L:g (q+1)=f (q+1)->Kh l.length (λp=>if q+1<p then g p else f p)=Kh l.length (λp=>if q<p then g p else f p):=λY=>Apb (λp hp=>by by_cases Q:q+1<p;rw[Aq Q,Aq ω];rw[Ao Q];by_cases e3:q<p;rw[Aq e3,show p=q+1 by omega,Y];rw[Ao e3]);show((bif(e.U != x.U)then some true else _).bind _)=_;by_cases B:x.U=e.U;rw[Gx B.symm];have sq:=Sm.of (hf q ω) (sm q ω);have aq:=Sm.of (hf (q+1) U) (sm (q+1) U);simp only[An,ao,Ae,Bdb sq.lg δ δ];by_cases a6:f q=0;rw[Aq a6];simp only[beq_self_eq_true,Al];rw[L (by rw[a1,a6,Nat.zero_mul,Nat.add_zero])];rw[Ao a6];have b8:((1:Int)==0)=false:=rfl;simp only[b8,An,ao,Ae];obtain⟨ts,ah,ag⟩:=hp e ap;obtain⟨ay,ai,ba,az,ak⟩:=Bd2 hz hk W B ah;have b0:(Ny Δ t e).places=Ep (B5 Δ t.U e.U):=rfl;have b3:(Ny Δ t e).kids=e.K:=rfl;rw[ay,b0,b3];obtain⟨i1,i2⟩:=P4 Δ _ _ _ ag;have bh:q+1+pds Δ t (l.take q)+pdg Δ t e<=6:=(by have:=sm (q+1) U;rw[Apf P]at this;omega);generalize Z:Dh x.K (B5 Δ t.U e.U)=D at ak;(have ar:∀w∈D,C9 w<=5000:=λw hw=>by rw[<-Z]at hw;have:=M7 (Apg hw);have:=Mf x;omega);(have M:∀j,Sm (f q*Fg Δ (e.K.take j) (ts.take j) (D.take j)):=λj=>by obtain⟨e',Y,Q⟩:=Aei Δ e.K ts _ j ag;have T:=(Zz Δ 5000 δ _).2 _ _ (D.take j) e' (Nat.le_refl _) Y λw W=>ar w (mem_of_mem_take W);have h2:=Nat.mul_le_mul (hf q ω) T;rw[<-Nat.pow_add]at h2;exact Sm.of h2 ω);have av:wOf Δ t e x=Fg Δ e.K ts D:=(by unfold wOf;rw[Aq B,Z];unfold Ki;rw[ah]);refine Gj (Ep (B5 Δ t.U e.U)) (λj=>((j:Int),(cR (f q*Fg Δ (e.K.take j) (ts.take j) (D.take j))).N,(cR (f q*Fg Δ (e.K.take j) (ts.take j) (D.take j))).U,(cR (f q*Fg Δ (e.K.take j) (ts.take j) (D.take j))).B)) ?_ ω ?_ ?_;simp only[take_zero,Ro,Nat.mul_one];rfl;intro j pl hj aj T h2 h3;obtain⟨mm,a,w,rfl,V,hw,au,ax,be⟩:=ak j pl aj;have N:e.K[j]?=some (e.K[j]' ω):=Bl _;generalize e.K[j]'_=i' at N;obtain⟨d,d1,d2⟩:=i2 j i' a N V;have hb:=Sm.of ((Zz Δ 5000 δ _).1 i' a w d (Nat.le_refl _) d1 ω) ω;simp only[T,h2,h3,Al,Ae,Br rfl V,Br rfl N,Br rfl hw];rw[b7 e ap i' a w d (Bu N) d1 ω (az a (Bu V)) ax ω,Ae];show(Fz (cR (f q*Fg Δ (e.K.take j) (ts.take j) (D.take j))) (cR (bv Δ i' a w))).bind _=_;rw[Apj (M j).lg hb.lg δ δ,Apd Δ _ _ _ j i' a w N V au,Nat.mul_assoc];rfl;intro T;refine⟨_,by simp only[T];rfl,?_⟩;have A:=M (Ep (B5 Δ t.U e.U)).length;(have bf:D.length=ts.length:=by(have:∀(l:A9)(r:Bp),l.length=r.length->(Dh l r).length=(Ep r).length:=by intro l r hl;unfold Dh Ep;rw[Cp,Cp];(have a2:∀(l:A9)(r:Bp)(s:Nat),l.length=r.length->((r.zipIdx s).filter λq=>!q.1).length=((l.zip r).filter λp=>!p.2).length:=by intro l;induction l with|nil=>intro r s h;have:r=[]:=Hb.1 h.symm;subst this;rfl|cons a l ih=>intro r s h;cases r with|nil=>simp at h|cons b r=>have:=ih r (s+1) (by simpa using h);cases b<;>simp[this]);exact(a2 l r 0 hl).symm);obtain⟨_,_,_,_,am,_⟩:=Aje hk W;rw[<-Z,this _ _ (by rw[<-am,B]),ai]);rw[ai]at A⊢;have Y:e.K.take ts.length=e.K:=H8 ω;have Q:D.take ts.length=D:=H8 ω;rw[Y,Q,C6]at A⊢;show((Ah _ _).bind λG=>(J7 G (cR (f q*Fg Δ e.K ts D))).bind _)=_;rw[b4];simp only[Ae];rw[Bda (aq.lg) A.lg δ δ];simp only[Ae,w1];congr 3;refine Azf U ?_ ?_;rw[Aq ω,a1,av];intro p hp bg;by_cases Y:q+1<p;rw[Aq ω,Aq Y];rw[Ao ω,Ao Y];rw[Ga λe=>B e.symm];simp only[Ae,Al];rw[L (by rw[a1,show wOf Δ t e x=0 by unfold wOf;rw[Ao B],Nat.mul_zero,Nat.add_zero])];refine⟨(0,Kh l.length g),?_,hJ⟩;simp only[Nat.sub_self];have:Kh l.length (λp=>if 0<p then g p else f p)=Kh l.length g:=Apb (λp hp=>by by_cases e:0<p;rw[Aq e];have:p=0:=ω;subst this;rw[Ao e,<-hg];rfl);rw[this];rfl
theorem Bd4(z:Szv Δ)(L:Nr Δ)(X:∀x∈Δ,x.O.length<=8)(H:t.G=5)(ht:Bz t<=200)(l:A0)(hp:∀e∈l,∃ts,Gv Δ t e.U=some ts/\Cj Δ e.K ts=some (pdg Δ t e))(E:l.length+pds Δ t l<=6)(v:A3)(hv:C9 v<=5000)(M:Hs Δ v t=true)(k:Nat)(J:∀e∈l,∀(i':Ag)(t':Ad)(w:A3)(d:Nat),i'∈e.K->Dc Δ i' t'=some d->d<=6->Bz t'<=200->Hs Δ w t'=true->C9 w<=5000->Pk k Δ t' i' w=some (cR (bv Δ i' t' w))):Yt (k+1) Δ t l v=some (cR (dpS (bws Δ l t) (Ht Δ t.U v) l.length)):=by have V:=Aok Δ t.U v;rw[Yt];refine Gj l (λj=>((j:Int),(l.take j).map (Ny Δ t))) ψ ω ?_ ?_;intro j e hj s m K P;obtain⟨ts,b,_⟩:=hp e (Bu s);unfold Gv at b;(cases C:H9 Δ t e.U with|none=>rw[C]at b;cases b|some fl=>have D:=M6 C;have h:fl.length<=6:=(by obtain⟨R,y,_,A,_,Q,G,_⟩:=Lb C;obtain⟨N,_⟩:=z R (Gb A).2.2.2 y (Gb Q).2.2.2;rw[G];simpa using N);simp only[m,K,P,Al,Ae,Ut z t ht,W5 Δ t.U e.U L,C,okL];refine Bde fl (B5 Δ t.U e.U) D h ?_;show(Bw 80 _ [_]).bind _=_;rw[D7 ζ,Ae,Cu s,map_append];congr 4;show[_]=[Ny Δ t e];unfold Ny;rw[C]);intro m;refine⟨l.map (Ny Δ t),by simp only[m];rw[C6];rfl,?_⟩;have Z:Ac ((((l.map (Ny Δ t)).length:Nat):Int)+1)=((l.length+1:Nat):Int):=(by rw[Cp,Ac,Ct]<;>omega);rw[Z,Nm (n:=l.length+1) (c:=l.length+1) rfl rfl ω ω ω,Ae];refine Bdf (l.length+1) ω ?_;have I:Ah (replicate (l.length+1) (cR 0)) 0=some (cR 0):=Br (n:=0) rfl (by rw[getElem?_replicate,Aq ω]);rw[Na,Ae,I,Ae,Bb0 L X H v hv M,Ae];(have Y:Cn (replicate (l.length+1) (cR 0)) 0 (cR 1)=Kh l.length (dpS (bws Δ l t) []):=by(have:replicate (l.length+1) (cR 0)=Kh l.length (λ_=>0):=by apply ext_getElem?;intro i;rcases Co i (l.length+1)with F|F;rw[U7 _ ω,getElem?_replicate,Aq F];rw[Mu (by simpa using F),Mu (by rw[Xk];exact F)]);rw[this];refine Azf (q:=0) ω rfl ?_;intro p _ hp;show(if p=0 then 1 else 0)=0;rw[Ao hp]);rw[Y];(have f:∀x∈Ht Δ t.U v,∀q w,(bws Δ l t)[q]?=some w->5000^pds Δ t (l.take q)*w x<=5000^pds Δ t (l.take (q+1)):=by intro x o q wt W;rw[Aef]at W;obtain⟨e,s,rfl⟩:=Option.map_eq_some_iff.1 W;obtain⟨ts,b,B⟩:=hp e (Bu s);have U:=Ape Δ t.U v x o;rw[Apf s,Nat.pow_add];refine Nat.mul_le_mul_left _ ?_;unfold wOf;split;rw[show Ki Δ t e.U=ts by unfold Ki;rw[b]];refine(Zz Δ 5000 δ _).2 e.K ts _ _ (Nat.le_refl _) B λy Q=>?_;have S:=M7 (Apg Q);have:=Mf x;omega;exact Nat.zero_le _);have u:∀j q,dpS (bws Δ l t) ((Ht Δ t.U v).take j) q<=5000^(q+pds Δ t (l.take q)):=λj q=>Azq _ 5000 δ (λq=>pds Δ t (l.take q)) _ (λx o=>f x (mem_of_mem_take o)) (by rw[length_take];omega) q;refine Gj (Ht Δ t.U v) (λj=>((j:Int),Kh l.length (dpS (bws Δ l t) ((Ht Δ t.U v).take j)))) rfl ω ?_ ?_;intro j x hj o m K P;have T:=Aze H _ v (Nat.le_refl _) M x (Bu o);have g:P5 (bws Δ l t) x (dpS (bws Δ l t) ((Ht Δ t.U v).take j))=dpS (bws Δ l t) ((Ht Δ t.U v).take (j+1)):=(by rw[Cu o,Apc]);simp only[m,K,P,Al,Ae];rw[show(((l.map (Ny Δ t)).length:Nat):Int)=(l.length:Int)by rw[Cp]];refine Bd3 z H l hp E k J x T.1 ω _ (λq _=>u j q) (λq _=>by rw[g];exact u (j+1) q) ?_;rw[g];intro m;refine⟨_,by simp only[m];rw[C6];rfl,?_⟩;rw[Br (n:=l.length) ψ (U7 _ (Nat.le_refl _))];rfl
theorem Bd5(L:Szv Δ)(U:Nr Δ)(P:∀x∈Δ,x.O.length<=8):∀(n:Nat)(i:Ag)(t:Ad)(w:A3)(k d:Nat),Bt i<=n->2*n<=k->n<1099511627776->Dc Δ i t=some d->d<=6->Bz t<=200->Hs Δ w t=true->C9 w<=5000->Pk k Δ t i w=some (cR (bv Δ i t w)):=by
 intro n;induction n with
 |zero=>intro i t w k d h;have:=Er i;omega
 |succ n ih=>
  intro i t w k d hi hk hn o E Q l T;obtain⟨k,rfl⟩:∃J,k=J+2:=⟨k-2,ω⟩;have X:=Er i;have M:=Mf w;rw[Pk,Na,P6];simp only[Ae];rw[Lx]at o;rw[Sx]at l;by_cases f:t.G=6;rw[Fa f,Aq f];rw[Aq f]at o;rw[Ao ω,Ao ω,Ao ω,Aq f]at l;simp only[C5]at l;have c:=l.2;(have o:Cj Δ i.K t.R=some d:=by by_cases e:i.U=0;rw[Aq e]at o;exact o;rw[Ao e]at o;cases o);obtain⟨i1,W⟩:=P4 Δ _ _ _ o;(have z:w.K.length=t.R.length:=by by_cases I:w.K.length=t.R.length;exact I;rw[Ad0 Δ _ _ I]at c;cases c);have R:=Jc t;have S:=Lw t.R;(have y:∀x∈w.K,C9 x<=5000:=λx hx=>by have:=M7 hx;omega);have hS:=Bd1 o E y;rw[Al];refine Gj t.R (λj=>((j:Int),(cR (Fg Δ (i.K.take j) (t.R.take j) (w.K.take j))).N,(cR (Fg Δ (i.K.take j) (t.R.take j) (w.K.take j))).U,(cR (Fg Δ (i.K.take j) (t.R.take j) (w.K.take j))).B)) (by simp only[take_zero,Ro];rfl) ω ?_ ?_;intro j a hj C F H K;have b:i.K[j]?=some (i.K[j]' ω):=Bl _;generalize i.K[j]'_=i' at b;have v:w.K[j]?=some (w.K[j]' ω):=Bl _;generalize w.K[j]'_=u at v;obtain⟨e,d1,d2⟩:=W j i' a b C;have N:=M7 (Bu v);have Y:=Kc (Bu b);have a1:=Kr (Bu C);have B:Hs Δ u a=true:=(by rw[Zt Δ _ _ z]at c;exact Hx.1 c (u,a) (Bu (i:=j) (by rw[getElem?_zip_eq_some];exact⟨v,C⟩)));have hb:=Sm.of ((Zz Δ 5000 δ _).1 i' a u e (Nat.le_refl _) d1 ω) ω;simp only[F,H,K,Al,Ae,Br rfl b,Br rfl v];rw[ih i' a u (k+1) e ω ω ω d1 ω ω B ω,Ae];show(Fz (cR (Fg Δ (i.K.take j) (t.R.take j) (w.K.take j))) (cR (bv Δ i' a u))).bind _=_;rw[Apj (hS j).lg hb.lg δ δ,Apd Δ _ _ _ j i' a u b C v];rfl;intro F;refine⟨_,by simp only[F];rfl,?_⟩;have e1:i.K.take t.R.length=i.K:=H8 ω;have e2:w.K.take t.R.length=w.K:=H8 ω;rw[e1,e2,C6]
  .rw[Ao f]at o⊢;rw[Da f,An];by_cases q:t.G=7
   .rw[Fa q,Al,Aq q];rw[Aq q]at o;have V:=Xc w.K;by_cases e:0<=i.U/\i.U<=6/\i.K.length=0
    .obtain⟨m,hm⟩:∃m:Nat,i.U=m:=⟨i.U.toNat,ω⟩;rw[hm];(first|rw[Azd _ _ ω ω,Ae]|rw[Azc _ _ ω ω,Ae]);rw[Int.toNat_natCast]
    rw[Ao e]at o;cases o
   rw[Ao q]at o⊢;rw[Da q,An];by_cases g:t.G=5;rw[Fa g,Al,Aq g];rw[Aq g]at o;(have o:Ew Δ i.K t=some d:=by by_cases e:i.U=0;rw[Aq e]at o;exact o;rw[Ao e]at o;cases o);obtain⟨F,H⟩:=Aeg Δ _ _ _ o;rw[<-Sx]at l;rw[Bd4 L U P g Q i.K H ω w T l k (λe Z i' t' u d' b G s D v A=>by have K:=Kc b;have h4:=Er e;have h5:=Kc Z;exact ih i' t' u k d' ω ω ω G s D v A),Ae];rw[Da g,An,Ao g]
theorem Bd6(Δ:Ap)(t:Ad)(es:A0)(L:A9)(n:Nat):dpS (bws Δ es t) L n=D8 (gOf (wOf Δ t) es) L n:=by(have h:∀(R:A9)(n:Nat),dpS (bws Δ es t) R.reverse n=D8 (gOf (wOf Δ t) es) R.reverse n:=by intro R;induction R with|nil=>intro n;rfl|cons x R ih=>intro n;rw[List.reverse_cons,Apc,Xl];cases n with|zero=>exact ih 0|succ n=>simp only[P5,stG];rw[ih,ih];congr 2;unfold gOf;rw[Aef];cases es[n]?<;>rfl);rw[<-List.reverse_reverse L];exact h _ n
theorem Azw(Δ:Ap)(h:t.G=5)(i:Ag)(w:A3):bv Δ i t w=D (wOf Δ t) i.K (Ht Δ t.U w):=by rw[P6,Ao ω,Ao ω,Aq h,Bd6];rfl
def Ib{α:Type}:Λ α->Bp->Λ α
 |x::xs,b::bs=>bif b then x::Ib xs bs else Ib xs bs
 |[],_=>[]
 |_::_,[]=>[]
theorem Apk(Δ:Ap)(d:Int):∀(l:A9)(r:Bp),Ih Δ d l r=((Ib l r).map (Ht Δ d)).flatten
 |x::xs,b::bs=>by cases b with|true=>simp only[Ih,Ib,Al,map_cons,List.flatten_cons,Apk Δ d xs bs]|false=>simp only[Ih,Ib,An,nil_append,Apk Δ d xs bs]
 |[],_=>by simp[Ih,Ib]
 |_::_,[]=>by simp[Ih,Ib]
def Hv:Bp->A0->Be->A0
 |true::bs,ps,s::b=>⟨0,s⟩::Hv bs ps b
 |false::bs,p::ps,b=>p::Hv bs ps b
 |_,_,_=>[]
theorem Lg(x:α)(xs:Λ α)(b:Bool)(bs:Bp):Dh (x::xs) (b::bs)=bif b then Dh xs bs else x::Dh xs bs:=by cases b<;>simp[Dh]
theorem Apl(Δ:Ap){t:Ad}(o:t.G=5):∀(bs:Bp)(fs:Au)(g:A9)(ps:A0)(b:Be),fs.length=bs.length->g.length=bs.length->ps.length=(Dh fs bs).length->b.length=(Ib fs bs).length->(∀j:Nat,bs[j]?=some true->fs[j]?=some t)->Fg Δ (Hv bs ps b) fs g=Fg Δ ps (Dh fs bs) (Dh g bs)*P9 (wOf Δ t) b ((Ib g bs).map (Ht Δ t.U))
 |[],[],[],ps,b,_,_,hp,c,_=>by have:ps=[]:=eq_nil_of_length_eq_zero (by simpa[Dh]using hp);have m:b=[]:=eq_nil_of_length_eq_zero (by simpa[Ib]using c);subst this;subst m;simp[Hv,Ro,P9]
 |true::bs,f::fs,k::g,ps,b,u,m,hp,c,i=>by
  have w:f=t:=(by have:=i 0 rfl;simpa using this);subst w
  match b,c with|[],c=>simp[Ib]at c|s::b,c=>have ih:=Apl Δ o bs fs g ps b (by simpa using u) (by simpa using m) (by simpa[Lg]using hp) (by simpa[Ib]using c) (λj v=>by have:=i (j+1) (by simpa using v);simpa using this);simp only[Hv,P7,Ib,Al,Lg,map_cons,P9];rw[ih,Azw Δ o];simp only[Nat.mul_comm,Nat.mul_left_comm,Nat.mul_assoc]
 |false::bs,f::fs,k::g,ps,b,u,m,hp,c,i=>by match ps,hp with|[],hp=>simp[Lg]at hp|p::ps,hp=>have ih:=Apl Δ o bs fs g ps b (by simpa using u) (by simpa using m) (by simpa[Lg]using hp) (by simpa[Ib]using c) (λj v=>by have:=i (j+1) (by simpa using v);simpa using this);simp only[Hv,P7,Ib,An,Lg];rw[ih,Nat.mul_assoc]
 |[],_::_,_,_,_,h,_,_,_,_=>by simp at h
 |[],[],_::_,_,_,_,h,_,_,_=>by simp at h
 |_::_,[],_,_,_,h,_,_,_,_=>by simp at h
 |_::_,_::_,[],_,_,_,h,_,_,_=>by simp at h
def Aej(Δ:Ap)(t:Ad)(es:A0)(Ls:Λ (List A3)):Nat:=((I8 Ls.length es).map λs=>P9 (wOf Δ t) s Ls).sum
theorem Bd7(Δ:Ap)(h:t.G=5)(i:Ag)(v:A3):bv Δ i t v=Aej Δ t i.K ((Ib v.K (B5 Δ t.U v.U)).map (Ht Δ t.U))+(match i.K with|[]=>0|e::es=>wOf Δ t e v*Aej Δ t es ((Ib v.K (B5 Δ t.U v.U)).map (Ht Δ t.U))):=by rw[Azw Δ h,Aoj,Apk];generalize(Ib v.K (B5 Δ t.U v.U)).map (Ht Δ t.U)=Ls;unfold Aej;rw[Aph];cases i.K with|nil=>show D8 _ _ 0=D8 _ _ 0+0;rw[P8,P8]|cons e es=>show D8 _ (v::Ls.flatten) (es.length+1)=D8 _ _ (es.length+1)+wOf Δ t e v*_;rw[Bdz,Aph];rfl
theorem Sz{β:Type}:∀(m:Nat)(es:Λ β)(s:Λ (List β)),s∈I8 m es->s.length=m/\s.flatten=es
 |0,[],s,h=>by rw[I8,Ee]at h;subst h;exact⟨rfl,rfl⟩
 |0,_::_,s,h=>by rw[I8]at h;cases h
 |m+1,es,s,h=>by rw[I8,mem_flatMap]at h;obtain⟨n,_,h⟩:=h;obtain⟨u,o,rfl⟩:=mem_map.1 h;obtain⟨v,w⟩:=Sz m _ u o;exact⟨by rw[D3,v],by rw[List.flatten_cons,w,take_append_drop]⟩
theorem Azx{β:Type}:∀(m:Nat)(es:Λ β),(I8 m es).Nodup
 |0,[]=>by rw[I8];simp
 |0,_::_=>by rw[I8];simp
 |m+1,es=>by rw[I8];refine List.pairwise_flatMap.2 ⟨λn _=>?_,?_⟩;refine pairwise_map.2 ((Azx m (es.drop n)).imp λ{a b} h e=>h ?_);exact(List.cons.inj e).2;refine(List.nodup_range (n:=es.length+1)).imp_of_mem λ{a b} o s c u v w A e=>?_;obtain⟨f,_,rfl⟩:=mem_map.1 v;obtain⟨C,_,rfl⟩:=mem_map.1 A;have B:=congrArg length (List.cons.inj e).1;rw[length_take,length_take]at B;rw[mem_range]at o s;omega
def Ajt:Nat->Nat->Nat
 |0,0=>1
 |0,_+1=>0
 |m+1,n=>Il (n+1) λk=>Ajt m (n-k)
theorem Aju{β:Type}:∀(m:Nat)(es:Λ β),(I8 m es).length=Ajt m es.length
 |0,[]=>rfl
 |0,_::_=>rfl
 |m+1,es=>by rw[I8,List.length_flatMap];show _=Il (es.length+1) _;refine Ajs _ _ _ λk h=>?_;rw[Cp,Aju m,length_drop]
theorem Apm:∀m n:Nat,m<=6->n<=6->Ajt m n<=462:=by have h:∀m:Fin 7,∀n:Fin 7,Ajt m.1 n.1<=462:=δ;intro m n o s;exact h ⟨m,ω⟩ ⟨n,ω⟩
def Qa(row:A0):Aa->Be->A0
 |p::ps,s::b=>Qa (Cn row p ⟨0,s⟩) ps b
 |_,_=>row
def N0:Bp->Nat->Aa
 |[],_=>[]
 |b::bs,k=>bif b then(k:Int)::N0 bs (k+1)else N0 bs (k+1)
def N1:Bp->Nat->Aa
 |[],_=>[]
 |b::bs,k=>bif b then N1 bs (k+1)else(k:Int)::N1 bs (k+1)
theorem Apn(bs:Bp):Py bs=N0 bs 0:=by(have h:∀(bs:Bp)(k:Nat),((bs.zipIdx k).filter λp=>p.1).map (λp=>(p.2:Int))=N0 bs k:=by intro bs;induction bs with|nil=>intro k;rfl|cons b bs ih=>intro k;rw[zipIdx_cons,N0];cases b with|true=>rw[filter_cons_of_pos rfl,map_cons,ih,Al]|false=>rw[filter_cons_of_neg ψ,ih,An]);exact h bs 0
theorem Apo(bs:Bp):Ep bs=N1 bs 0:=by(have h:∀(bs:Bp)(k:Nat),((bs.zipIdx k).filter λp=>!p.1).map (λp=>(p.2:Int))=N1 bs k:=by intro bs;induction bs with|nil=>intro k;rfl|cons b bs ih=>intro k;rw[zipIdx_cons,N1];cases b with|true=>rw[filter_cons_of_neg ψ,ih,Al]|false=>rw[filter_cons_of_pos rfl,map_cons,ih,An]);exact h bs 0
theorem Azy(b:Λ α)(x y:α)(row:Λ α)(k:Nat)(h:k=b.length):Cn (b++x::row) (k:Int) y=(b++[y])++row:=by subst h;rw[Ii (n:=b.length) rfl,List.set_append_right _ _ (Nat.le_refl _),Nat.sub_self,set_cons_zero,append_assoc];rfl
theorem App:∀(bs:Bp)(row b:A0)(c:Be),row.length=bs.length->c.length=(Ib row bs).length->Qa (b++row) (N0 bs b.length) c=b++Hv bs (Dh row bs) c
 |[],[],b,c,_,_=>by simp[N0,Qa,Hv]
 |true::bs,x::row,b,s::c,o,m=>by have ih:=App bs row (b++[⟨0,s⟩]) c (by simpa using o) (by simpa[Ib]using m);rw[N0,Al,Qa,Azy _ _ _ _ _ rfl,Lg,Al,Hv];rw[D6,length_singleton]at ih;rw[ih,append_assoc];rfl
 |true::bs,x::row,b,[],o,m=>by simp[Ib]at m
 |false::bs,x::row,b,c,o,m=>by have ih:=App bs row (b++[x]) c (by simpa using o) (by simpa[Ib]using m);rw[N0,An,Lg,An,Hv];rw[D6,length_singleton,append_assoc]at ih;rw[show b++x::row=b++([x]++row)from rfl,ih,append_assoc];rfl
 |[],_::_,_,_,h,_=>by simp at h
 |_::_,[],_,_,h,_=>by simp at h
def Jk{α:Type}(row:Λ α):Aa->Λ α->Λ α
 |p::ps,v::h=>Jk (Cn row p v) ps h
 |_,_=>row
theorem Apq{α:Type}:∀(bs:Bp)(row b vs:Λ α),row.length=bs.length->vs.length=(Dh row bs).length->∃c,Jk (b++row) (N1 bs b.length) vs=b++c/\c.length=bs.length/\Dh c bs=vs
 |[],[],b,vs,_,h=>by have:vs=[]:=eq_nil_of_length_eq_zero (by simpa[Dh]using h);subst this;exact⟨[],by simp[N1,Jk],rfl,by simp[Dh]⟩
 |false::bs,x::row,b,v::vs,o,m=>by obtain⟨r,f,i,g⟩:=Apq bs row (b++[v]) vs (by simpa using o) (by simpa[Lg]using m);refine⟨v::r,?_,by simp[i],by rw[Lg,An,g]⟩;rw[D6,length_singleton]at f;rw[N1,An,Jk,Azy _ _ _ _ _ rfl,f,append_assoc];rfl
 |false::bs,x::row,b,[],o,m=>by simp[Lg]at m
 |true::bs,x::row,b,vs,o,m=>by obtain⟨r,f,i,g⟩:=Apq bs row (b++[x]) vs (by simpa using o) (by simpa[Lg]using m);refine⟨x::r,?_,by simp[i],by rw[Lg,Al,g]⟩;rw[D6,length_singleton,append_assoc]at f;rw[N1,Al,show b++x::row=b++([x]++row)from rfl,f,append_assoc];rfl
 |[],_::_,_,_,h,_=>by simp at h
 |_::_,[],_,_,h,_=>by simp at h
theorem Aek:∀(bs:Bp)(ps:A0)(f:Be),ps.length=(bs.filter λb=>!b).length->f.length=(bs.filter λb=>b).length->Ib (Hv bs ps f) bs=f.map (⟨0,·⟩)/\Dh (Hv bs ps f) bs=ps/\(Hv bs ps f).length=bs.length
 |[],ps,f,h,m=>by have:ps=[]:=eq_nil_of_length_eq_zero (by simpa using h);have:f=[]:=eq_nil_of_length_eq_zero (by simpa using m);subst ps;subst f;exact⟨rfl,by simp[Hv,Dh],rfl⟩
 |true::bs,ps,s::f,h,m=>by obtain⟨a,b,c⟩:=Aek bs ps f (by simpa using h) (by simpa using m);refine⟨by rw[Hv,Ib,Al,a];rfl,by rw[Hv,Lg,Al,b],by rw[Hv,D3,c];rfl⟩
 |true::bs,ps,[],h,m=>by simp at m
 |false::bs,p::ps,f,h,m=>by obtain⟨a,b,c⟩:=Aek bs ps f (by simpa using h) (by simpa using m);refine⟨by rw[Hv,Ib,An,a],by rw[Hv,Lg,An,b],by rw[Hv,D3,c];rfl⟩
 |false::bs,[],f,h,m=>by simp at h
theorem S0{α:Type}:∀(l:Λ α)(bs:Bp),l.length=bs.length->(Ib l bs).length=(bs.filter λb=>b).length/\(Dh l bs).length=(bs.filter λb=>!b).length
 |[],[],_=>⟨rfl,by simp[Dh]⟩
 |x::l,b::bs,h=>by obtain⟨m,o⟩:=S0 l bs (by simpa using h);cases b<;>simp[Ib,Lg,m,o]
 |[],_::_,h=>by simp at h
 |_::_,[],h=>by simp at h
def Lh(bs:Bp)(ps es:A0):Be:=(I8 (bs.filter λb=>b).length es).map (Hv bs ps)
theorem Ajv{bs:Bp}{r:A0}(hp:ps.length=(bs.filter λb=>!b).length)(h:r∈Lh bs ps es):r.length=bs.length/\Dh r bs=ps/\((Ib r bs).map (·.K)).flatten=es:=by obtain⟨s,f,rfl⟩:=mem_map.1 h;obtain⟨m,o⟩:=Sz _ _ _ f;obtain⟨a,b,c⟩:=Aek bs ps s hp m;refine⟨c,b,?_⟩;rw[a,map_map,show((λx:Ag=>x.K)∘λx=>⟨0,x⟩)=id from rfl,map_id,o]
theorem Ajw{bs:Bp}(hp:ps.length=(bs.filter λb=>!b).length):(Lh bs ps es).Nodup:=by refine pairwise_map.2 ((Azx _ es).imp_of_mem λ{a b} o s h e=>h ?_);have m:=(Aek bs ps a hp (Sz _ _ _ o).1).1;have u:=(Aek bs ps b hp (Sz _ _ _ s).1).1;rw[e,u]at m;have:=congrArg (map Ag.K) m;rw[map_map,map_map,show(Ag.K∘λx=>⟨0,x⟩)=id from rfl,map_id,map_id]at this;exact this.symm
def Kj(Δ:Ap)(d c:Int)(tr:A0)(i:Ag):Be:=Lh (B5 Δ d c) tr i.K++(match i.K with|[]=>[]|e::es=>if e.U=c then Lh (B5 Δ d c) e.K es else[])
theorem Bd8{d c:Int}(m:tr.length=((B5 Δ d c).filter λb=>!b).length)(s:∀e es,i.K=e::es->e.U=c->e.K.length=((B5 Δ d c).filter λb=>!b).length):(Kj Δ d c tr i).Nodup:=by unfold Kj;cases v:i.K with|nil=>dsimp only;rw[append_nil];exact Ajw m|cons e es=>dsimp only;by_cases f:e.U=c;rw[Aq f];have o:=s e es v f;refine pairwise_append.2 ⟨Ajw m,Ajw o,λr g u w h=>?_⟩;subst h;have a:=(Ajv m g).2.2;have b:=(Ajv o w).2.2;rw[a]at b;have:=congrArg length b;simp at this;rw[Ao f,append_nil];exact Ajw m
theorem Azz{d c:Int}(j:(B5 Δ d c).length<=6)(o:i.K.length<=6):(Kj Δ d c tr i).length<=924:=by have v:=length_filter_le (λb:Bool=>b) (B5 Δ d c);(have m:∀ps es:A0,es.length<=6->(Lh (B5 Δ d c) ps es).length<=462:=λps es h=>by unfold Lh;rw[Cp,Aju];exact Apm _ _ ω h);have s:=m tr i.K o;(have u:(match i.K with|[]=>[]|e::es=>if e.U=c then Lh (B5 Δ d c) e.K es else[]).length<=462:=by cases f:i.K with|nil=>exact Nat.zero_le _|cons e es=>rw[f,D3]at o;dsimp only;by_cases g:e.U=c;rw[Aq g];exact m e.K es ω;rw[Ao g];exact Nat.zero_le _);unfold Kj;rw[D6];exact Nat.add_le_add s u
def Kk(a b:A0):Int:=Ho ⟨0,a⟩ ⟨0,b⟩
theorem Apr{a b:A0}:Kk a b=0↔a=b:=by unfold Kk;constructor;intro h;exact(Ag.mk.inj (U5.zero _ _ trivial trivial |>.1 h)).2;rintro rfl;exact(U5.zero _ _ trivial trivial).2 rfl
theorem Ael(a b:A0):Kk b a = - Kk a b:=U5.anti _ _ trivial trivial
theorem Az0{a b c:A0}(h:Kk a b<0)(m:Kk b c<0):Kk a c<0:=U5.trans _ _ _ trivial trivial trivial h m
theorem Ajx:Ph Kk where
 irr x:=by rw[Apr.2 rfl];omega
 trs x y z m h:=Az0 m h
 ntr x y z m h o:=by
  rcases Int.lt_trichotomy (Kk x y) 0 with k|k|k
  .exact m k
  .rw[Apr.1 k]at o;exact h o
  .exact h (Az0 (show Kk y x<0 by rw[Ael x y];omega) o)
def Rp(l:Be):Be:=l.mergeSort λt u=>decide (Kk t u<=0)
theorem Ajy(l:Be):(Rp l).Perm l:=mergeSort_perm l _
theorem Bd9(cmp:A0->A0->Bg)(l:Be)(q:l.Nodup)(w:∀x∈l,∀y∈l,cmp x y=some (Kk x y)):Ok cmp l=some (Rp l):=by have m:=pairwise_mergeSort (le:=λt u:List Ag=>decide (Kk t u<=0)) (λa b c m o=>by simp only[D2]at *;have:=Ajx.ntr c b a (by rw[Ael];omega) (by rw[Ael];omega);rw[Ael]at this;omega) (λa b=>by simp only[Bool.or_eq_true,D2];rw[Ael a b];omega) l;have hp:=Ajy l;have o:=(hp.pairwise_iff (R:=λx y:List Ag=>x≠y) λ{x y} h=>h.symm).2 q;(have g:(Rp l).Pairwise λx y=>Kk x y<0:=(m.and o).imp λ{t u} h=>by have a:=of_decide_eq_true h.1;have b:Kk t u≠0:=λe=>h.2 (Apr.1 e);omega);obtain⟨r,k,cf,A,j,f,i⟩:=Amq (cmp:=cmp) (l:=l) ⟨Kk,Ajx,w,hp,g⟩;have:r=Rp l:=Perm.eq_of_pairwise (le:=λx y=>Kk x y<0) (λx y _ _ m o=>(Ajx.irr x (Ajx.trs _ _ _ m o)).elim) (i.imp_of_mem λ{a b} s v h=>by have s:=f.mem_iff.1 s;have v:=f.mem_iff.1 v;have e:=(j a s b v).symm.trans (w a s b v);have e:=Fv e;show Kk a b<0;omega) g (f.trans hp.symm);rw[k,this]
theorem Bea(o:t.G=5){v:A3}{fs:Au}(w:H9 Δ t v.U=some fs)(C:v.K.length=fs.length)(E:tr.length=((B5 Δ t.U v.U).filter λb=>!b).length)(F:∀e es,i.K=e::es->e.U=v.U->e.K.length=((B5 Δ t.U v.U).filter λb=>!b).length)(ht:∀k:A9,k.length=tr.length->Fg Δ tr (Dh fs (B5 Δ t.U v.U)) k=1)(B:∀j:Nat,(B5 Δ t.U v.U)[j]?=some true->fs[j]?=some t):((Kj Δ t.U v.U tr i).map λr=>Fg Δ r fs v.K).sum=bv Δ i t v:=by have c:=M6 w;obtain⟨z,y⟩:=S0 fs _ c.symm;obtain⟨x,q⟩:=S0 v.K _ (C.trans c.symm);(have m:∀ps es:A0,ps.length=((B5 Δ t.U v.U).filter λb=>!b).length->((Lh (B5 Δ t.U v.U) ps es).map λr=>Fg Δ r fs v.K).sum=Fg Δ ps (Dh fs (B5 Δ t.U v.U)) (Dh v.K (B5 Δ t.U v.U))*Aej Δ t es ((Ib v.K (B5 Δ t.U v.U)).map (Ht Δ t.U)):=by intro ps es hp;unfold Lh Aej;rw[Cp,x,map_map];have:∀l:Λ (List (List Ag)),(∀s∈l,s.length=((B5 Δ t.U v.U).filter λb=>b).length)->(l.map ((λr=>Fg Δ r fs v.K)∘Hv (B5 Δ t.U v.U) ps)).sum=Fg Δ ps (Dh fs (B5 Δ t.U v.U)) (Dh v.K (B5 Δ t.U v.U))*(l.map λs=>P9 (wOf Δ t) s ((Ib v.K (B5 Δ t.U v.U)).map (Ht Δ t.U))).sum:=(by intro l;induction l with|nil=>intro _;rfl|cons s l ih=>intro h;rw[map_cons,sum_cons,map_cons,sum_cons,ih λu G=>h u (by simp[G]),Nat.mul_add];congr 1;exact Apl Δ o _ fs v.K ps s c.symm (C.trans c.symm) (hp.trans y.symm) ((h s ψ).trans z.symm) B);exact this _ λs A=>(Sz _ _ _ A).1);rw[Bd7 Δ o i v];unfold Kj;rw[map_append,sum_append,m tr i.K E,ht _ (q.trans E.symm),Nat.one_mul];congr 1;cases g:i.K with|nil=>rfl|cons e es=>dsimp only;unfold wOf;by_cases f:e.U=v.U;rw[Aq f,Aq f.symm,m e.K es (F e es g f)];have:Ki Δ t e.U=Dh fs (B5 Δ t.U v.U):=(by unfold Ki Gv;rw[f,w];rfl);rw[this,f];rw[Ao f,Ao λH=>f H.symm,Nat.zero_mul];rfl
def Dn(b:A9)(Θ:A3)(v:Int):A3:=match Ah b v with|some w=>w|none=>Θ
theorem Aps{x:Bx}{b:A9}(c:b.length=x.V.length)(Θ:A3){v:Int}(ht:De x.V x.E v=some t):Qo v Θ b=some (Dn b Θ v):=by unfold Qo Dn;unfold De at ht;by_cases h:v = -1;subst h;rw[Ade ω];rfl;rw[Ao h]at ht;obtain⟨o,s,_⟩:=Gb ht;have m:Ah b v=some (b[v.toNat]' ω):=Br (n:=v.toNat) ω (Bl _);rw[Da h,m];rfl
theorem Beb{b:A9}{Θ:A3}(h:∀v∈b,C9 v<=N)(m:C9 Θ<=N)(v:Int):C9 (Dn b Θ v)<=N:=by unfold Dn;cases o:Ah b v with|none=>exact m|some w=>exact h w (Gb o).2.2.2
def Je(x:Bx)(b:A9)(Θ:A3)(v:Int):Bool:=match De x.V x.E v with|some t=>M8 x.D (Dn b Θ v) t|none=>false
noncomputable def Z0(cmp:α->α->Bg)(a0:Int):Int×List α->Ο ((Int×List α)⊕(Int×List α)):=λ(h,b)=>(show OB from bif h>a0 then((Ah b h).bind λo=>(Ah b (Ac (h-1))).bind λg=>(cmp o g).bind λs=>some (decide (s<(0:Int))))else some false).bind λf=>bif f then((Ah b (Ac (h-1))).bind λm=>(Ah b h).bind λc=>(Ah b h).bind λu=>(Ah (Cn b h m) (Ac (h-1))).bind λv=>some (.inl (Ac (h-1),Cn (Cn b h m) (Ac (h-1)) c)))else some (.inr (h,b))
noncomputable def Aem(cmp:α->α->Bg)(a0 a1:Int)(g:Λ α):Ο (List α):=(Ak (S:=(Int×(List α))) (E:=(List α)) (λ(h,b)=>bif h<a1 then((Ak (Z0 cmp a0) (h,b)).bind λ(m,f)=>some (.inl (Ac (h+1),f)))else(some (.inr b))) (Ac (a0+1),g)).bind λc=>some c
theorem Bec(A R:Λ α)(x y:α):((A++y::x::R).set (A.length+1) y).set A.length x=A++x::y::R:=by induction A with|nil=>rfl|cons a A ih=>simp only[Ej,D3,set_cons_succ,ih]
theorem Az1(A R:Λ α)(x:α):(A++x::R)[A.length]?=some x:=by simp
theorem Bed(A R:Λ α)(x y:α):(A++y::x::R)[A.length+1]?=some x:=by induction A with|nil=>rfl|cons a A ih=>simp
theorem Bee(cmp:α->α->Bg)(y:α)(R:Λ α):Z0 cmp 0 (0,y::R)=some (.inr (0,y::R)):=by unfold Z0;simp only[A6 (ω:¬(0:Int)>0),An,Ae]
theorem Bef{c:α->α->Int}(i:N<=1099511627776)(A R:Λ α)(u y:α)(b:cmp u y=some (c u y))(f:(A++y::u::R).length<=N):Z0 cmp 0 (((A.length+1:Nat):Int),A++y::u::R)=if c u y<0 then some (.inl ((A.length:Int),A++u::y::R))else some (.inr (((A.length+1:Nat):Int),A++y::u::R)):=by(have h:A.length+1<N:=by simp at f;omega);(have g:Ac (((A.length+1:Nat):Int)-1)=(A.length:Int):=by rw[Ac,Ct]<;>omega);unfold Z0;simp only[Av (ω:((A.length+1:Nat):Int)>0),Al,g,Br (n:=A.length+1) rfl (Bed A R u y),Br (n:=A.length) rfl (Az1 A (u::R) y),Ae,b];by_cases m:c u y<0;rw[Av m,Aq m];simp only[Al];rw[Ii (n:=A.length+1) rfl,Ii (n:=A.length) rfl,Bec];have:Ah ((A++y::u::R).set (A.length+1) y) (A.length:Int)=some y:=(by refine Br rfl ?_;rw[getElem?_set_ne ω];exact Az1 A (u::R) y);rw[this];rfl;rw[A6 m,Ao m];rfl
theorem Beg{c:α->α->Int}(q:N<=1099511627776):∀(n:Nat)(A R:Λ α)(x:α),A.length=n->(∀t∈A,cmp x t=some (c x t))->(A++x::R).length<=N->∃f i,Ak (Z0 cmp 0) ((A.length:Int),A++x::R)=some ((f.length:Int),f++x::(i++R))/\A=f++i/\(∀a∈i,c x a<0)/\∀k y,f=k++[y]->¬c x y<0:=by intro n;induction n with|zero=>intro A R x g _ _;have:A=[]:=Hb.1 g;subst this;exact⟨[],[],G0 (Bee cmp x R),rfl,nofun,(λk y h=>by simp at h)⟩|succ n ih=>intro A R x g v b;(obtain⟨B,y,rfl⟩:∃B y,A=B++[y]:=by rcases eq_nil_or_concat A with h|⟨B,y,h⟩;rw[h]at g;cases g;exact⟨B,y,by simpa using h⟩);have s:B.length=n:=(by simpa using g);have u:(B++[y])++x::R=B++y::x::R:=ψ;have el:(((B++[y]).length:Nat):Int)=((B.length+1:Nat):Int):=ψ;rw[u]at b⊢;rw[el];have j:=Bef (cmp:=cmp) (c:=c) q B R x y (v y ψ) b;by_cases o:c x y<0;rw[Aq o]at j;obtain⟨f,i,w,C,E,F⟩:=ih B (y::R) x s (λt G=>v t (by simp[G])) (by simpa using b);refine⟨f,i++[y],?_,by rw[C];simp,?_,F⟩;rw[Mo j,w];simp;intro a m;rcases E9.1 m with m|m;exact E a m;simp only[Ee]at m;subst m;exact o;rw[Ao o]at j;refine⟨B++[y],[],?_,ψ,nofun,?_⟩;rw[G0 j];simp;intro k z l;have:=append_inj' l rfl;have e:y=z:=(by simpa using this.2);subst e;exact o
theorem Beh{c:α->α->Int}(L:Ph c){f j:Λ α}{x:α}(s:(f++j).Pairwise λa b=>¬c b a<0)(u:∀a∈j,c x a<0)(v:∀g y,f=g++[y]->¬c x y<0):(f++x::j).Pairwise (λa b=>¬c b a<0):=by obtain⟨i,l,k⟩:=pairwise_append.1 s;(have w:∀a∈f,¬c x a<0:=by intro a m;rcases eq_nil_or_concat f with h|⟨g,y,h⟩;rw[h]at m;cases m;have h:f=g++[y]:=(by simpa using h);have q:=v g y h;rw[h]at m i;rcases E9.1 m with m|m;exact L.ntr x y a q ((pairwise_append.1 i).2.2 a m y ψ);simp only[Ee]at m;subst m;exact q);refine pairwise_append.2 ⟨i,pairwise_cons.2 ⟨λa m h=>L.irr x (L.trs x a x (u a m) h),l⟩,λa m b o=>?_⟩;rcases F0.1 o with rfl|o;exact w a m;exact k a m b o
theorem Az2{c:α->α->Int}(L:Ph c)(f:Λ α)(A:∀x∈f,∀y∈f,cmp x y=some (c x y))(I:f.length<=1099511627776):∃R,Aem cmp 0 (f.length:Int) f=some R/\R.Perm f/\R.Pairwise (λa b=>¬c b a<0):=by
 unfold Aem;cases f with
 |nil=>refine⟨[],?_,Perm.refl _,Pairwise.nil⟩;refine Lv 0 (λ_=>((1:Int),([]:Λ α))) (by simp[Ac,Ct]) (λj M=>ω) ⟨[],?_,rfl⟩;simp
 |cons F B=>
 generalize k:F::B=f at *;have m:1<=f.length:=by rw[<-k];simp
 refine Fo (λs=>∃(i:Nat)(S:Λ α),s=((i:Int),S++f.drop i)/\1<=i/\i<=f.length/\S.length=i/\S.Perm (f.take i)/\S.Pairwise λa b=>¬c b a<0) (λs=>f.length-s.1.toNat) (λR=>R.Perm f/\R.Pairwise λa b=>¬c b a<0) ⟨1,[F],by rw[<-k];simp[Ac,Ct],ω,m,rfl,by rw[<-k];simp,pairwise_singleton _ _⟩ ?_ ?_
 .rintro _ ⟨i,S,rfl,G,P,E,g,l⟩;rcases Co i f.length with h|h
  .have C:f[i]?=some f[i]:=Bl h;have o:f[i]∈f:=getElem_mem h;generalize f[i]=x at C o;have D:f.drop i=x::f.drop (i+1):=Nt C;have z:(S++x::f.drop (i+1)).length=f.length:=ζ;simp only[Av (ω:(i:Int)<(f.length:Int)),Al,Db h ω];rw[D];left;obtain⟨u,q,v,w,H,J⟩:=Beg (cmp:=cmp) (c:=c) (N:=f.length) ω S.length S (f.drop (i+1)) x rfl (λt K=>A x o t (mem_of_mem_take (g.mem_iff.1 K))) (by rw[z];exact Nat.le_refl _);rw[E]at v;have hp:(u++x::q).Perm (f.take (i+1)):=(by rw[Cu C];have:(u++x::q).Perm ((u++q)++[x]):=(by rw[append_assoc];exact Perm.append_left u (perm_append_singleton x q).symm);exact this.trans (by rw[<-w];exact g.append_right [x]));refine⟨(((i+1:Nat):Int),(u++x::q)++f.drop (i+1)),bnd v ψ,⟨i+1,u++x::q,rfl,ω,ω,?_,hp,?_⟩,ζ⟩
   .rw[hp.length_eq,length_take];omega
   .rw[w]at l;exact Beh L l H J
  .have:i=f.length:=ω;subst this;rw[C6]at g;simp only[A6 (ω:¬(f.length:Int)<(f.length:Int)),An,drop_length,append_nil];exact .inr ⟨S,rfl,g,l⟩
 .rintro R ⟨v,w⟩;exact⟨R,rfl,v,w⟩
noncomputable def Ajz(B:Nat)(gr:Int->Ο (List α))(a0:Λ (List α)):Ο (List α):=(Ak (S:=(Int×Int)) (E:=Int) (λ(m,o)=>bif o<(a0.length:Int)then((Ah a0 o).bind λs=>bif(Ac (m+(s.length:Int)))<(0:Int)then(none)else(some (.inl (Ac (m+(s.length:Int)),Ac (o+1)))))else(some (.inr m))) (0,0)).bind λu=>(gr u).bind λi=>(Ak (S:=(Int×(List α))) (E:=(List α)) (λ(b,c)=>bif b<(a0.length:Int)then((Ah a0 b).bind λf=>(Bw B c f).bind λh=>some (.inl (Ac (b+1),h)))else(some (.inr c))) (0,i)).bind λg=>some g
theorem Apt{B:Nat}(g:B<=1024){gr:Int->Ο (List α)}(hg:∀n:Nat,n<=1000000->gr (n:Int)=some [])(a b:Λ α)(h:a.length+b.length<=1000000):Ajz B gr [a,b]=some (a++b):=by have u:a.length*B<=1000000*1024:=Nat.mul_le_mul ω g;have v:(a.length+b.length)*B<=1000000*1024:=Nat.mul_le_mul h g;(have f:Ac 1=1:=by rw[Ac,Ct]<;>omega);(have c:Ac 2=2:=by rw[Ac,Ct]<;>omega);(have k:Ac (a.length:Int)=(a.length:Int):=by rw[Ac,Ct]<;>omega);(have i:Ac ((a.length:Int)+(b.length:Int))=((a.length:Int)+(b.length:Int)):=by rw[Ac,Ct]<;>omega);have m:Ah [a,b] 0=some a:=rfl;have o:Ah [a,b] 1=some b:=rfl;(have q:Bw B [] a=some a:=by rw[D7 ζ];rfl);have l:Bw B a b=some (a++b):=D7 ω;unfold Ajz;refine Lv 2 (λj=>if j=0 then(0,0)else if j=1 then((a.length:Int),1)else(((a.length+b.length:Nat):Int),2)) rfl ?_ ⟨((a.length+b.length:Nat):Int),?_,?_⟩;intro j s;rcases(ω:j=0\/j=1)with rfl|rfl;have:¬((a.length:Int)<0):=ω;simp[m,k,f,this];have:¬((a.length:Int)+(b.length:Int)<0):=ω;simp[o,i,c,this];simp;rw[hg _ h,Ae];refine Lv 2 (λj=>if j=0 then(0,[])else if j=1 then(1,a)else(2,a++b)) rfl ?_ ⟨a++b,?_,rfl⟩;intro j s;rcases(ω:j=0\/j=1)with rfl|rfl;simp[m,f,q];simp[o,c,l];simp
def sm:Nat->(Nat->Nat)->Nat
 |0,_=>0
 |n+1,f=>sm n f+f n
theorem Z1{f g:Nat->Nat}:∀{n:Nat},(∀k,k<n->f k=g k)->sm n f=sm n g
 |0,_=>rfl
 |n+1,h=>by rw[sm,sm,Z1 (n:=n) λk m=>h k ω,h n ω]
theorem Xm(f g:Nat->Nat):∀n,sm n (λk=>f k+g k)=sm n f+sm n g
 |0=>rfl
 |n+1=>by simp only[sm,Xm f g n];omega
theorem Az3(c:Nat)(f:Nat->Nat):∀n,sm n (λk=>c*f k)=c*sm n f
 |0=>rfl
 |n+1=>by simp only[sm,Az3 c f n,Nat.mul_add]
theorem Xn{f:Nat->Nat}:∀{n:Nat},(∀k,k<n->f k=0)->sm n f=0
 |0,_=>rfl
 |n+1,h=>by rw[sm,Xn (n:=n) λk m=>h k ω,h n ω]
theorem Aj0(f:Nat->Nat):∀n,sm (n+1) f=f 0+sm n (λk=>f (k+1))
 |0=>by simp[sm]
 |n+1=>by rw[sm,Aj0 f n,sm];omega
theorem Az4{f:Nat->Nat}{n:Nat}:∀{m:Nat},n<=m->(∀k,n<=k->f k=0)->sm m f=sm n f
 |0,h,_=>by rw[show n=0 by omega]
 |m+1,h,o=>by by_cases e:n=m+1;rw[e];rw[sm,Az4 (m:=m) ω o,o m ω,Nat.add_zero]
theorem Aen{f:Nat->Nat}(m:k<n)(h:∀j,j≠k->f j=0):sm n f=f k:=by induction n with|zero=>omega|succ n ih=>rw[sm];by_cases e:k=n;subst e;rw[Xn λj o=>h j ω,Nat.zero_add];rw[ih ω,h n ω,Nat.add_zero]
theorem Xo:∀n,bc n n=1
 |0=>rfl
 |n+1=>by
  rw[bc,Xo n]
  have:bc n (n+1)=0:=by have:=bc_big2 n (n+1) ω;exact this
  omega
where bc_big2:∀n k,n<k->bc n k=0
 |n,0,h=>absurd h ω
 |0,k+1,_=>rfl
 |n+1,k+1,h=>by rw[bc,bc_big2 n k ω,bc_big2 n (k+1) ω]
theorem Z2(h:n<k):bc n k=0:=Xo.bc_big2 n k h
theorem Z3(n k:Nat):bc (n+1) (k+1)=bc n k+bc n (k+1):=by rw[bc]
def Rc(a b k:Nat):Nat:=if b<=k then bc k a*bc a (k-b)else 0
theorem Az5(h:a+b<k):Rc a b k=0:=by unfold Rc;rw[Aq ω,Z2 (show a<k-b by omega),Nat.mul_zero]
theorem Bei(h:k<a):Rc a b k=0:=by unfold Rc;split;rw[Z2 h,Nat.zero_mul];rfl
theorem Aeo(b k:Nat):Rc 0 b k=if k=b then 1 else 0:=by unfold Rc;by_cases h:k=b;subst h;rw[Aq (Nat.le_refl _),Aq rfl,Nat.sub_self,Kz,Kz];rw[Ao h];split;rw[Z2 (show 0<k-b by omega),Nat.mul_zero];rfl
theorem Aep(a k:Nat):Rc a 0 k=if k=a then 1 else 0:=by unfold Rc;rw[Aq (Nat.zero_le _),Nat.sub_zero];by_cases h:k=a;subst h;rw[Aq rfl,Xo];rw[Ao h];rcases Co k a with m|m;rw[Z2 m,Nat.zero_mul];rw[Z2 (show a<k by omega),Nat.mul_zero]
theorem Az6(a b k:Nat):Rc (a+1) (b+1) (k+1)=Rc a (b+1) k+Rc (a+1) b k+Rc a b k:=by unfold Rc;by_cases h:b<=k;rw[Aq ω,Aq h,Aq h,show k+1-(b+1)=k-b by omega,Z3];by_cases m:b+1<=k;rw[Aq m];obtain⟨j,o⟩:∃j,k-b=j+1:=⟨k-b-1,ω⟩;rw[o,show k-(b+1)=j by omega,Z3];simp only[Nat.add_mul,Nat.mul_add];omega;rw[Ao m,show k-b=0 by omega,Kz,Kz];omega;rw[Ao ω,Ao h,Ao h,Ao ω]
theorem Az7(a b:Nat):Rc (a+1) (b+1) 0=0:=by unfold Rc;rw[Ao ω]
theorem Bej(f:Nat->Nat)(n N:Nat):sm (N+1) (λk=>f k*bc (n+1) k)=sm (N+1) (λk=>f k*bc n k)+sm N (λk=>f (k+1)*bc n k):=by rw[Aj0,Aj0 λk=>f k*bc n k,Kz,Kz];(have:sm N (λk=>f (k+1)*bc (n+1) (k+1))=sm N (λk=>f (k+1)*bc n (k+1))+sm N (λk=>f (k+1)*bc n k):=by rw[<-Xm];exact Z1 λk _=>by rw[Z3,Nat.mul_add];omega);rw[this];omega
theorem Z4:∀(n a b N:Nat),a+b<N->sm N (λk=>Rc a b k*bc n k)=bc n a*bc n b
 |n,0,b,N,h=>by rw[Kz,Nat.one_mul,Aen (k:=b) ω λj m=>by rw[Aeo,Ao m,Nat.zero_mul],Aeo,Aq rfl,Nat.one_mul]
 |n,a+1,0,N,h=>by rw[Kz,Nat.mul_one,Aen (k:=a+1) ω λj m=>by rw[Aep,Ao m,Nat.zero_mul],Aep,Aq rfl,Nat.one_mul]
 |0,a+1,b+1,N,h=>by rw[show bc 0 (a+1)=0 from rfl,Nat.zero_mul];refine Xn λk _=>?_;cases k with|zero=>rw[Az7,Nat.zero_mul]|succ k=>rw[show bc 0 (k+1)=0 from rfl,Nat.mul_zero]
 |n+1,a+1,b+1,N,h=>by obtain⟨N,rfl⟩:∃M,N=M+1:=⟨N-1,ω⟩;rw[Bej,Z4 n (a+1) (b+1) (N+1) h];have o:=Z4 n a (b+1) N ω;have s:=Z4 n (a+1) b N ω;have u:=Z4 n a b N ω;have v:sm N (λk=>Rc (a+1) (b+1) (k+1)*bc n k)=sm N (λk=>Rc a (b+1) k*bc n k)+sm N (λk=>Rc (a+1) b k*bc n k)+sm N (λk=>Rc a b k*bc n k):=(by rw[<-Xm,<-Xm];exact Z1 λk _=>by rw[Az6,Nat.add_mul,Nat.add_mul]);rw[v,o,s,u,Z3,Z3,Nat.add_mul,Nat.mul_add,Nat.mul_add];omega
theorem Bek{f:Nat->Nat}(h:∀n,n<N->sm N (λk=>f k*bc n k)=sm N λk=>g k*bc n k):∀k,k<N->f k=g k:=by intro k;induction k using Nat.strongRecOn with|ind k ih=>intro s;(have m:∀F:Nat->Nat,sm N (λj=>F j*bc k j)=sm k (λj=>F j*bc k j)+F k:=by intro F;(have e:sm N (λj=>F j*bc k j)=sm (k+1) (λj=>F j*bc k j):=Az4 ω λj o=>by rw[Z2 ω,Nat.mul_zero]);rw[e,sm,Xo,Nat.mul_one]);have:=h k s;rw[m f,m g,Z1 (f:=λj=>f j*bc k j) (g:=λj=>g j*bc k j) λj o=>by rw[ih j o ω]]at this;omega
def F1:Nat:=1000000000^100
structure Np(x:Ar)(a:Nat):Prop where
 rb:RB 200 x
 s:sv x=false
 n:nv x=a
 d:dv x=1
theorem Apu(h:a<F1):Cq a<=100:=Lu h
theorem Np.cR(h:Cq a<=200):Np (cR a) a:=⟨Nx h δ,(U6 a).1,(U6 a).2.1,(U6 a).2.2⟩
theorem Np.c(h:a<F1):Np (Ab.cR a) a:=Np.cR (by have:=Apu h;omega)
theorem Np.z:Np ⟨false,[],[]⟩ 0:=⟨Bb3 200,by unfold sv;simp,by unfold nv;simp[Ax],by unfold dv;simp[Ax]⟩
theorem Np.add(hx:Np x a)(hy:Np y b):J7 x y=some (Ab.cR (a+b)):=by rw[Aja _ _ 200 200 hx.rb hy.rb ω ω,hx.s,hx.n,hx.d,hy.s,hy.n,hy.d];simp[Rl,Nv,Ab.cR]
theorem Np.mul(hx:Np x a)(hy:Np y b):Fz x y=some (Ab.cR (a*b)):=by rw[Ai9 _ _ 200 200 hx.rb hy.rb ω ω,hx.s,hx.n,hx.d,hy.s,hy.n,hy.d];simp[Ab.cR]
theorem Np.sign(hx:Np x a):Jq x=some (if a=0 then 0 else 1):=by rw[Ai8 _ 200 hx.rb ω,hx.s,hx.n];simp[Me]
theorem Np.can(hx:Np x a):Lq x=some (Ab.cR a):=by rw[Aog _ 200 hx.rb ω,hx.s,hx.n,hx.d];rfl
def Ls(n:Nat)(f:Nat->Nat):Eg:=(range n).map λk=>cR (f k)
theorem N2(n:Nat)(f:Nat->Nat):(Ls n f).length=n:=by simp[Ls]
theorem N3(f:Nat->Nat)(h:k<n):(Ls n f)[k]?=some (cR (f k)):=by simp[Ls,h]
theorem Aeq{l:Eg}{f:Nat->Nat}(b:l.length=n)(h:∀k,k<n->l[k]?=some (cR (f k))):l=Ls n f:=by apply ext_getElem?;intro k;rcases Co k n with m|m;rw[h k m,N3 f m];rw[Mu ω,Mu (by rw[N2];omega)]
theorem Aj1{step:Int×List α->Ο ((Int×List α)⊕List α)}{J:Λ α->Ο R}{r:R}{i:Nat}(o:Λ α)(g:Nat->α)(C:i<=n)(q:o.length=n)(l:∀(j:Nat)(o':Λ α),i<=j->j<n->o'.length=n->step ((j:Int),o')=some (.inl (((j+1:Nat):Int),o'.set j (g j))))(y:∀o',o'.length=n->step ((n:Int),o')=some (.inr o'))(z:∀o',o'.length=n->(∀k,k<i->o'[k]?=o[k]?)->(∀k,i<=k->k<n->o'[k]?=some (g k))->J o'=some r):(Ak step ((i:Int),o)).bind J=some r:=by obtain⟨e,A,f⟩:=J6 (step:=step) (λs=>∃(j:Nat)(o':Λ α),s=((j:Int),o')/\i<=j/\j<=n/\o'.length=n/\(∀k,k<i->o'[k]?=o[k]?)/\∀k,i<=k->k<j->o'[k]?=some (g k)) (λs=>n-s.1.toNat) (λo'=>o'.length=n/\(∀k,k<i->o'[k]?=o[k]?)/\∀k,i<=k->k<n->o'[k]?=some (g k)) (by rintro _ ⟨j,o',rfl,c,x,m,v,w⟩;rcases Co j n with h|h;refine .inl ⟨_,l j o' c h m,⟨j+1,o'.set j (g j),rfl,ω,ω,by simp[m],λk E=>?_,λk b u=>?_⟩,ζ⟩;rw[getElem?_set_ne ω];exact v k E;rcases Co k j with B|B;rw[getElem?_set_ne ω];exact w k b B;have:k=j:=ω;subst this;rw[getElem?_set_self ω];have:j=n:=ω;subst this;exact .inr ⟨o',y o' m,m,v,w⟩) ((i:Int),o) ⟨i,o,rfl,ω,C,q,λ_ _=>rfl,λk m v=>ω⟩;rw[A,Ae];exact z e f.1 f.2.1 f.2.2
theorem Bel(n:Nat)(b:n<=1000):Acw (n:Int)=some (Ls n λ_=>0):=by unfold Acw;rw[Nm rfl rfl (Nat.le_refl _) ω ω,Ae];refine Aj1 (i:=0) (n:=n) _ (λ_=>cR 0) ω ψ ?_ ?_ ?_;intro j m _ s o;have u:m[j]?=some m[j]:=Bl ω;simp only[length_replicate,Av (ω:(j:Int)<(n:Int)),Al,Ajp,Ae,Br rfl u,Db s ω,Ii (n:=j) rfl];intro m h;simp only[length_replicate,A6 (ω:¬(n:Int)<(n:Int)),An];intro m v _ o;rw[Aeq v (f:=λ_=>0) λk w=>o k ω w]
theorem Az8(n k:Nat)(b:n<1000000000)(m:k<=64):Ahx (n:Int) (k:Int)=some (cR (bc n k)):=by(have h:Wi (n:Int) (k:Int)=some (cR (bc n k)):=by rw[Ax2 n k b m,Zy,show Dd false (fct k*bc n k) (fct k)=Dd false (fct k*bc n k) (fct k*1)by rw[Nat.mul_one],Zo _ _ _ _ (Zp k)];rfl);exact h
theorem Az9(h:n<=40):bc n k<F1:=by refine Nat.lt_of_le_of_lt (Aed n k) ?_;exact Nat.lt_of_le_of_lt (Nat.pow_le_pow_right δ h) δ
theorem A0a(a b:Nat)(B:a<=16)(hb:b<=16):Wo (a:Int) (b:Int)=some (Ls (a+b+1) (Rc a b)):=by unfold Wo;(have q:Ac ((a:Int)+(b:Int))=((a+b:Nat):Int):=by rw[Ac,Ct]<;>omega);(have l:Ac (((a+b:Nat):Int)+1)=((a+b+1:Nat):Int):=by rw[Ac,Ct]<;>omega);(have e:(if(b:Int)>(a:Int)then(b:Int)else(a:Int))=((max a b:Nat):Int):=by split<;>omega);rw[q,l,Bel _ ω,Ae,e];refine Aj1 (i:=max a b) (n:=a+b+1) _ (λk=>cR (Rc a b k)) ω (by simp[N2]) ?_ ?_ ?_;intro j m u o v;have A:m[j]?=some m[j]:=Bl ω;have g:Ac ((j:Int)-(b:Int))=((j-b:Nat):Int):=ξ;have s:Rc a b j=bc j a*bc a (j-b):=(by unfold Rc;rw[Aq ω]);simp only[Av (ω:(j:Int)<=((a+b:Nat):Int)),Al,Az8 j a ω ω,g,Az8 a (j-b) ω ω,Ae,(Np.c (Az9 (ω:j<=40))).mul (Np.c (Az9 (k:=j-b) (ω:a<=40))),Br rfl A,Db o ω,Ii (n:=j) rfl,s];intro m h;simp only[A6 (ω:¬((a+b+1:Nat):Int)<=((a+b:Nat):Int)),An];intro m u o v;rw[Aeq u (f:=Rc a b) λk w=>?_];rcases Co k (max a b)with h|h;rw[o k h,N3 _ w];(have:Rc a b k=0:=by rcases(ω:k<a\/k<b)with h|h;exact Bei h;unfold Rc;rw[Ao ω]);rw[this];exact v k h w
theorem Bem{m:Nat}{f:Nat->Nat}{c:Nat}(J:m<=1000)(A:n<=1000)(B:∀k,k<m->f k<F1)(hg:∀k,k<n->g k<F1)(v:c<F1):Wn (Ls m f) (Ls n g) (cR c)=some (Ls (max m n) λk=>(if k<m then f k else 0)+(if k<n then g k else 0)*c):=by unfold Wn;rw[N2,N2];(have e:(if(n:Int)>(m:Int)then(n:Int)else(m:Int))=((max m n:Nat):Int):=by split<;>omega);rw[e,Nm rfl rfl (Nat.le_refl _) ω ω,Ae];refine Aj1 (i:=0) (n:=max m n) _ (λk=>cR ((if k<m then f k else 0)+(if k<n then g k else 0)*c)) ω ψ ?_ ?_ ?_;intro j o _ C w;have E:o[j]?=some o[j]:=Bl ω;(obtain⟨x,u,s⟩:∃x:Ar,(bif decide ((j:Int)<(m:Int))then((Ah (Ls m f) (j:Int)).bind λb=>some (b.N,b.U,b.B))else some (false,[],[]))=some (x.N,x.U,x.B)/\Np x (if j<m then f j else 0):=by by_cases h:j<m;rw[Av ω,Al,Br rfl (N3 f h),Aq h];exact⟨_,rfl,Np.c (B j h)⟩;rw[A6 ω,An,Ao h];exact⟨⟨false,[],[]⟩,rfl,Np.z⟩);(obtain⟨y,q,l⟩:∃x:Ar,(bif decide ((j:Int)<(n:Int))then((Ah (Ls n g) (j:Int)).bind λb=>some (b.N,b.U,b.B))else some (false,[],[]))=some (x.N,x.U,x.B)/\Np x (if j<n then g j else 0)/\(if j<n then g j else 0)<F1:=by by_cases h:j<n;rw[Av ω,Al,Br rfl (N3 g h),Aq h];exact⟨_,rfl,Np.c (hg j h),hg j h⟩;rw[A6 ω,An,Ao h];exact⟨⟨false,[],[]⟩,rfl,Np.z,δ⟩);have F:Cq ((if j<n then g j else 0)*c)<=200:=(by have:=Kq (if j<n then g j else 0) c;have:=Apu l.2;have:=Apu v;omega);have G:Ack x y (cR c)=some (cR ((if j<m then f j else 0)+(if j<n then g j else 0)*c)):=(by unfold Ack;rw[(Np.c v).mul l.1,Ae,Nat.mul_comm c,s.add (Np.cR F)];rfl);simp only[length_replicate,Av (ω:(j:Int)<((max m n:Nat):Int)),Al];erw[u,Ae,q,Ae];dsimp only;rw[G,Ae,Br rfl E,Ae,Db C ω,Ii (n:=j) rfl];intro o h;simp only[length_replicate,A6 (ω:¬((max m n:Nat):Int)<((max m n:Nat):Int)),An];intro o H _ w;rw[Aeq H (f:=λk=>(if k<m then f k else 0)+(if k<n then g k else 0)*c) λk I=>w k ω I]
theorem Apv{f:Nat->Nat}(u:n<1000)(s:p.length=n+1)(hp:∀k,k<n+1->∃x,p[k]?=some x/\Np x (f k))(b:f n≠0):Q5 p=some (Ls (n+1) f):=by unfold Q5;obtain⟨x,q,l⟩:=hp n ω;(have w:Ac (((n+1:Nat):Int)-1)=(n:Int):=by rw[Ac,Ct]<;>omega);refine bnd (a:=((n+1:Nat):Int)) (G0 ?_) ?_;rw[s];simp only[Av (ω:((n+1:Nat):Int)>0),Al,w,Br rfl q,Ae,l.sign,Ao b];rfl;rw[Nm rfl rfl (Nat.le_refl _) ω ω,Ae];refine Aj1 (i:=0) (n:=n+1) _ (λk=>cR (f k)) ω ψ ?_ ?_ ?_;intro j m _ o v;have A:m[j]?=some m[j]:=Bl ω;obtain⟨y,g,c⟩:=hp j o;simp only[length_replicate,Av (ω:(j:Int)<((n+1:Nat):Int)),Al,Br rfl g,c.can,Ae,Br rfl A,Db o ω,Ii (n:=j) rfl];intro m h;simp only[length_replicate,A6 (ω:¬((n+1:Nat):Int)<((n+1:Nat):Int)),An];intro m B _ v;rw[Aeq B (f:=f) λk C=>v k ω C]
def I9(n d:Nat)(f:Nat->Nat)(k:Nat):Nat:=sm n λa=>f a*Rc a d k
theorem A0b(a d:Nat):0<Rc a d (a+d):=by unfold Rc;rw[Aq ω,show a+d-d=a by omega,Xo];(have:0<bc (a+d) a:=by(have h:∀d,0<bc (a+d) a:=by intro d;induction d with|zero=>rw[Nat.add_zero,Xo];decide|succ d ih=>cases a with|zero=>rw[Kz];decide|succ a=>rw[show a+1+(d+1)=(a+1+d)+1 by omega,Z3];omega);exact h d);omega
theorem Ben{f:Nat->Nat}{q:Eg}(Z:n+d<=12)(hp:p=Ls (n+1) f)(i:f n≠0)(hq:q.length=d+1)(N:∀k,k<d+1->∃x,q[k]?=some x/\Np x (if k=d then 1 else 0))(W:∀k,k<n+1->f k<F1)(V:∀a k,a<=n+1->I9 a d f k<F1):Acb p q=some (Ls (n+d+1) (I9 (n+1) d f),true):=by
 unfold Acb;(have l:p.length=n+1:=by rw[hp,N2]);rw[l,hq,A6 ω,A6 ω];simp only[An,Ae];have c1:Q5 p=some (Ls (n+1) f):=Apv ω l (λk m=>⟨_,by rw[hp];exact N3 f m,Np.c (W k m)⟩) i;have c2:Q5 q=some (Ls (d+1) λk=>if k=d then 1 else 0):=Apv ω hq N ψ;(have w:Ac (((n+1:Nat):Int)+((d+1:Nat):Int))=((n+d+2:Nat):Int):=by rw[Ac,Ct]<;>omega);rw[c1,Ae,c2,Ae,N2,N2,Da ω,Da ω];simp only[An,Ae];rw[w,A6 ω,An]
 obtain⟨r,Y,X⟩:=Fo (J:=λA=>(Q5 A).bind λz=>some (z,true)) (Q:=λr=>r=(Ls (n+d+1) (I9 (n+1) d f),true)) (step:=λ(x:List Ar×Int)=>match x with
  |(F,v)=>
   bif v<((n+1:Nat):Int)then((Ah (Ls (n+1) f) v).bind λI=>(Ak (S:=(List Ar×Int)) (E:=(List Ar×Int)) (λ(g,o)=>bif o<((d+1:Nat):Int)then((Ah (Ls (d+1) λk=>if k=d then 1 else 0) o).bind λG=>(Fz I G).bind λH=>(Jq H).bind λD=>bif(D==(0:Int))then(some (.inl (g,Ac (o+1))))else((Wo v o).bind λB=>(Wn g B H).bind λa0=>some (.inl (a0,Ac (o+1)))))else(some (.inr (g,o)))) (F,0)).bind λ(a1,a2)=>some (.inl (a1,Ac (v+1))))else(some (.inr F))) (s:=([],0))
  (λs=>∃(a L:Nat)(h:Nat->Nat),s=(Ls L h,(a:Int))/\a<=n+1/\L<=a+d/\(∀k,(if k<L then h k else 0)=I9 a d f k)/\(a=n+1->L=n+d+1)) (λs=>n+1-s.2.toNat)
  (λe=>e=Ls (n+d+1) (I9 (n+1) d f)) ⟨0,0,λ_=>0,rfl,ω,ω,λk=>by simp[I9,sm],ω⟩ (by
  rintro _ ⟨a,L,h,rfl,ha,hL,P,y⟩
  rcases Co a (n+1)with C|C
  .left
   have M:Np (cR 0) 0:=Np.c δ
   have b:∀k,I9 (a+1) d f k=I9 a d f k+f a*Rc a d k:=λk=>rfl
   have hh:∀k,k<L->h k<F1:=λk m=>by
    have:=P k
    rw[Aq m]at this
    rw[this];exact V a k ω
   by_cases T:f a=0
   .refine⟨(Ls L h,((a+1:Nat):Int)),?_,⟨a+1,L,h,rfl,ω,ω,λk=>by rw[b,T,P];simp,λe=>?_⟩,ζ⟩
    .simp only[Av (ω:(a:Int)<((n+1:Nat):Int)),Al,Br rfl (N3 f C),Ae,T]
     refine Lv (d+1) (λj=>(Ls L h,(j:Int))) rfl ?_ ⟨(Ls L h,((d+1:Nat):Int)),?_,?_⟩
     .intro j K
      have hy:Np (cR (if j=d then 1 else 0)) (if j=d then 1 else 0):=Np.c (by split<;>decide)
      simp only[Av (ω:(j:Int)<((d+1:Nat):Int)),Al,Br rfl (N3 _ K),Ae,M.mul hy,Nat.zero_mul,M.sign,if_true,Db K ω]
      rfl
     .simp only[A6 (ω:¬((d+1:Nat):Int)<((d+1:Nat):Int)),An]
     .rw[Db C ω]
    .have:a=n:=ω
     subst this;exact(i T).elim
   .have u:=Np.c (W a C)
    have R:Wn (Ls L h) (Ls (a+d+1) (Rc a d)) (cR (f a))=some (Ls (a+d+1) λk=>(if k<L then h k else 0)+(if k<a+d+1 then Rc a d k else 0)*f a):=by
     rw[Bem ω ω hh (λk m=>?_) (W a C),show max L (a+d+1)=a+d+1 by omega]
     unfold Rc
     split
     .refine Nat.lt_of_le_of_lt (Nat.mul_le_mul (Aed k a) (Aed a (k-d))) ?_
      rw[<-Nat.pow_add]
      exact Nat.lt_of_le_of_lt (Nat.pow_le_pow_right δ (ω:k+a<=40)) δ
     .decide
    refine⟨(Ls (a+d+1) λk=>(if k<L then h k else 0)+(if k<a+d+1 then Rc a d k else 0)*f a,((a+1:Nat):Int)),?_,⟨a+1,a+d+1,_,rfl,ω,ω,λk=>?_,λe=>ω⟩,ζ⟩
    .simp only[Av (ω:(a:Int)<((n+1:Nat):Int)),Al,Br rfl (N3 f C),Ae]
     refine Lv (d+1) (λj=>if j<=d then(Ls L h,(j:Int))else(Ls (a+d+1) λk=>(if k<L then h k else 0)+(if k<a+d+1 then Rc a d k else 0)*f a,(j:Int))) ψ ?_ ⟨((Ls (a+d+1) λk=>(if k<L then h k else 0)+(if k<a+d+1 then Rc a d k else 0)*f a),((d+1:Nat):Int)),?_,?_⟩
     .intro j K
      have hy:Np (cR (if j=d then 1 else 0)) (if j=d then 1 else 0):=Np.c (by split<;>decide)
      rw[Aq ω]
      simp only[Av (ω:(j:Int)<((d+1:Nat):Int)),Al,Br rfl (N3 _ K),Ae,u.mul hy,Db K ω]
      rcases Co j d with h2|h2
      .rw[Ao (ω:¬j=d),Nat.mul_zero,M.sign,Ae,Aq (ω:j+1<=d)]
       rfl
      .have:j=d:=ω
       subst this
       rw[Aq rfl,Nat.mul_one,u.sign,Ae,Ao T,A0a a j ω ω,Ae,R,Ao ω]
       rfl
     .rw[Ao ω]
      simp only[A6 (ω:¬((d+1:Nat):Int)<((d+1:Nat):Int)),An]
     .rw[Db C ω]
    .rw[b,<-P]
     by_cases m:k<a+d+1
     .rw[Aq m,Aq m,Nat.mul_comm (Rc a d k)]
     .rw[Ao m,Ao ω,Az5 ω];simp
  .have:a=n+1:=ω
   subst this
   right
   have U:=y rfl
   refine⟨Ls L h,?_,?_⟩
   .simp only[A6 (ω:¬((n+1:Nat):Int)<((n+1:Nat):Int)),An]
   .subst U
    refine Aeq (N2 _ _) λk m=>?_
    have:=P k
    rw[Aq m]at this
    rw[N3 _ m,this]) (by
  rintro _ rfl
  refine⟨_,bnd (Apv (n:=n+d) (f:=I9 (n+1) d f) ω (N2 _ _) (λk m=>⟨_,N3 _ m,Np.c (V _ _ ω)⟩) ?_) rfl,rfl⟩
  have e:I9 (n+1) d f (n+d)=I9 n d f (n+d)+f n*Rc n d (n+d):=rfl
  have:=Nat.mul_pos (Nat.pos_of_ne_zero i) (A0b n d)
  omega)
 rw[<-X];exact Y
theorem Beo(d x N:Nat)(f:Nat->Nat):∀M,(∀a,a<M->a+d<N)->sm N (λk=>I9 M d f k*bc x k)=sm M (λa=>f a*bc x a)*bc x d:=by intro M;induction M with|zero=>intro _;rw[Xn (λk _=>by simp[I9,sm])];simp[sm]|succ M ih=>intro h;(have e:∀k,I9 (M+1) d f k*bc x k=I9 M d f k*bc x k+f M*(Rc M d k*bc x k):=λk=>by show(I9 M d f k+f M*Rc M d k)*bc x k=_;rw[Nat.add_mul,Nat.mul_assoc]);rw[Z1 λk _=>e k,Xm,ih λa m=>h a ω,Az3,Z4 x M d N (h M ω)];show _=(sm M (λa=>f a*bc x a)+f M*bc x M)*bc x d;rw[Nat.add_mul,Nat.mul_assoc (f M)]
theorem Bep(d:Nat)(f:Nat->Nat)(k:Nat):∀{m n:Nat},m<=n->I9 m d f k<=I9 n d f k:=by intro m n h;induction n with|zero=>have:m=0:=ω;subst this;exact Nat.le_refl _|succ n ih=>rcases Co m (n+1)with o|o;have:=ih ω;have e:I9 (n+1) d f k=I9 n d f k+f n*Rc n d k:=rfl;omega;have:m=n+1:=ω;subst this;exact Nat.le_refl _
def prb(x:Nat):A7->Nat
 |[]=>1
 |a::l=>bc x a.P.toNat*prb x l
def Dt:A7->Nat
 |[]=>0
 |a::l=>a.P.toNat+Dt l
theorem A0c(x:Nat)(l m:A7):prb x (l++m)=prb x l*prb x m:=by induction l with|nil=>simp[prb]|cons a l ih=>simp only[Ej,prb,ih,Nat.mul_assoc]
theorem U8(l m:A7):Dt (l++m)=Dt l+Dt m:=by induction l with|nil=>simp[Dt]|cons a l ih=>simp only[Ej,Dt,ih,Nat.add_assoc]
theorem Aer{m:A7}(h:l.Perm m):Dt l=Dt m:=by induction h with|nil=>rfl|cons a _ ih=>simp only[Dt,ih]|swap a b l=>simp only[Dt];omega|trans _ _ o s=>exact o.trans s
theorem Beq(x d:Nat):bc x d<=(x+1)^d:=Nat.le_trans (Ajr x d) (Nat.pow_le_pow_left ω d)
theorem A0d(x:Nat):∀l:A7,prb x l<=(x+1)^Dt l
 |[]=>by simp[prb,Dt]
 |a::l=>by simp only[prb,Dt,Nat.pow_add];exact Nat.mul_le_mul (Beq x _) (A0d x l)
theorem Z5{x:Nat}(m:x<=1048576)(h:Dt l<=12):prb x l<F1:=by refine Nat.lt_of_le_of_lt (A0d x l) ?_;refine Nat.lt_of_le_of_lt (Nat.pow_le_pow_left (ω:x+1<=1048577) _) ?_;exact Nat.lt_of_le_of_lt (Nat.pow_le_pow_right δ h) δ
def PwN(l:A7)(N:Nat)(f:Nat->Nat):Prop:=N=Dt l/\f N≠0/\∀x,sm (N+1) (λk=>f k*bc x k)=prb x l
theorem PwN.le{f:Nat->Nat}(h:PwN l N f)(hk:k<N+1):f k<=prb k l:=by have h1:=h.2.2 k;(have h2:f k*bc k k<=sm (N+1) (λj=>f j*bc k j):=by(have:∀n,k<n->f k*bc k k<=sm n (λj=>f j*bc k j):=by intro n;induction n with|zero=>intro h;omega|succ n ih=>intro h;show _<=sm n _+f n*bc k n;rcases Co k n with h'|h';have:=ih h';omega;have:k=n:=ω;subst this;omega);exact this _ hk);rw[Xo,Nat.mul_one]at h2;omega
theorem PwN.step{f:Nat->Nat}(h:PwN l N f)(a:Bh):PwN (l++[a]) (N+a.P.toNat) (I9 (N+1) a.P.toNat f):=by refine⟨by rw[U8,h.1];simp[Dt],?_,λx=>?_⟩;have e:I9 (N+1) a.P.toNat f (N+a.P.toNat)=I9 N a.P.toNat f (N+a.P.toNat)+f N*Rc N a.P.toNat (N+a.P.toNat):=rfl;have:=Nat.mul_pos (Nat.pos_of_ne_zero h.2.1) (A0b N a.P.toNat);omega;rw[Beo _ x _ f (N+1) λb ha=>ω,h.2.2 x,A0c];simp[prb]
theorem Ber(l:A7)(x:l≠[])(ht:∀a∈l,a.L.T.length≠0)(v:∀a∈l,0<=a.P)(M:Dt l<=12)(R:l.length<=1000):∃N f,Qx l=some (Ls (N+1) f)/\PwN l N f:=by(have C:Ah0 l=false:=by cases l with|nil=>exact(x rfl).elim|cons a L=>have:=ht a ψ;show(a.L.T.length==0)=false;simpa using this);(have F:∃N f,Ahz l=some (Ls (N+1) f)/\PwN l N f:=by unfold Ahz;rw[Na,Ae];(suffices h:∃r,_/\∃N f,r=Ls (N+1) f/\PwN l N f by obtain⟨r,G,N,f,E,D⟩:=h;exact⟨N,f,by rw[<-E];exact G,D⟩);refine Fo (λs=>∃(i N:Nat)(f:Nat->Nat),s=(Ls (N+1) f,(i:Int))/\i<=l.length/\PwN (l.take i) N f) (λs=>l.length-s.2.toNat) (λe=>∃N f,e=Ls (N+1) f/\PwN l N f) ⟨0,0,λ_=>1,rfl,ω,by simp[PwN,Dt,prb,sm,Kz]⟩ ?_ ?_;rintro _ ⟨i,N,f,rfl,T,g⟩;rcases Co i l.length with h|h;left;have o:l[i]?=some l[i]:=Bl h;have b:=getElem_mem h;generalize l[i]=a at o b;have S:=ht a b;have J:=v a b;have B:Dt l=Dt (l.take i)+(a.P.toNat+Dt (l.drop (i+1))):=(by have:=U8 (l.take i) (l.drop i);rw[take_append_drop]at this;rw[this,Nt o];rfl);have U:=g.1;have w:Ac (a.P+1)=((a.P.toNat+1:Nat):Int):=ξ;have I:Ah (replicate (a.P.toNat+1) (⟨false,[],[]⟩:Ar)) a.P=some ⟨false,[],[]⟩:=Br (n:=a.P.toNat) ω ψ;have u:=g.step a;(have H:∀A k,A<=N+1->I9 A a.P.toNat f k<F1:=by intro A k y;refine Nat.lt_of_le_of_lt (Bep _ f k y) ?_;rcases Co k (N+a.P.toNat+1)with m|m;refine Nat.lt_of_le_of_lt (u.le m) (Z5 ω ?_);rw[U8];simp only[Dt];omega;(have:I9 (N+1) a.P.toNat f k=0:=Xn λj V=>by rw[Az5 ω];rfl);rw[this];decide);have K:=Ben (n:=N) (d:=a.P.toNat) (f:=f) (p:=Ls (N+1) f) (q:=Cn (replicate (a.P.toNat+1) ⟨false,[],[]⟩) a.P (cR 1)) ω rfl g.2.1 (by rw[Ii (n:=a.P.toNat) ω];simp) (λk m=>by rw[Ii (n:=a.P.toNat) ω];by_cases e:k=a.P.toNat;subst e;rw[Aq rfl];exact⟨_,getElem?_set_self ψ,Np.c δ⟩;rw[Ao e,getElem?_set_ne ω];exact⟨⟨false,[],[]⟩,by simp[m],Np.z⟩) (λk m=>Nat.lt_of_le_of_lt (g.le m) (Z5 ω ω)) H;refine⟨(Ls (N+a.P.toNat+1) (I9 (N+1) a.P.toNat f),((i+1:Nat):Int)),?_,⟨i+1,_,_,rfl,ω,by rw[Cu o];exact u⟩,ζ⟩;simp only[Av (ω:(i:Int)<(l.length:Int)),Al,Br rfl o,Ae,Da (ω:¬(a.L.T.length:Int)=0),An,w,Nm rfl rfl (Nat.le_refl _) (ω:56*(a.P.toNat+1)<=281474976710656) ω,Na,I,K,Db h ω];have:i=l.length:=ω;subst this;rw[C6]at g;right;exact⟨_,by simp only[A6 (ω:¬(l.length:Int)<(l.length:Int)),An],_,_,rfl,g⟩;rintro _ ⟨N,f,rfl,h⟩;exact⟨_,rfl,N,f,rfl,h⟩);obtain⟨N,f,P,Q⟩:=F;refine⟨N,f,?_,Q⟩;unfold Qx;rw[C,An];exact P
theorem Bes{c:Int}{d:Int}(m:c<=1048576)(o:0<=d)(b:d<=64):Zc c d=some (cR (bc c.toNat d.toNat),true):=by have h:=Azd c.toNat d.toNat ω ω;have e:((d.toNat:Nat):Int)=d:=ω;rw[e]at h;rw[<-h];unfold Zc;(have f:(if c>(0:Int)then c else 0)=(if((c.toNat:Nat):Int)>(0:Int)then((c.toNat:Nat):Int)else 0):=by split<;>split<;>omega);rw[f]
theorem Bet(l:A7){c:Int}(C:c<=1048576)(ht:∀a∈l,a.L.T.length=0/\a.L.Q=c)(F:∀a∈l,0<=a.P)(G:Dt l<=12)(I:l.length<=1000) :
  Qx l=some [cR (prb c.toNat l)]:=by
 have H:Ahy l=some [cR (prb c.toNat l)]:=by
  unfold Ahy
  rw[Na,Ae]
  obtain⟨r,B,A⟩:∃r,_/\r=[cR (prb c.toNat l)]:=Fo (λs=>∃i:Nat,s=((i:Int),[cR (prb c.toNat (l.take i))])/\i<=l.length) (λs=>l.length-s.1.toNat) (λe=>e=[cR (prb c.toNat l)]) (J:=λo=>some o)
   (step:=λ(x:Int×List Ar)=>match x with
    |(g,f)=>
     bif g<(l.length:Int)then((Ah l g).bind λb=>bif((b.L.T.length:Int)==(0:Int))then((Zc b.L.Q b.P).bind λk=>(Ah f 0).bind λv=>(Fz v k.1).bind λw=>(Ah f 0).bind λK=>some (.inl (Ac (g+1),Cn f 0 w)))else((G1 56 (Ac (b.P+1)) (Ac (b.P+1)) ((Ar.mk false [] []):Ar)).bind λq=>(E4 1).bind λM=>(Ah q b.P).bind λP=>none))else(some (.inr f))) (s:=(0,[cR 1]))
   ⟨0,rfl,ω⟩ (by
   rintro _ ⟨i,rfl,T⟩
   rcases Co i l.length with h|h
   .left
    have m:l[i]?=some l[i]:=Bl h
    have j:=getElem_mem h
    generalize l[i]=a at m j
    obtain⟨L,D⟩:=ht a j
    have y:=F a j
    have e:Dt l=Dt (l.take i)+(a.P.toNat+Dt (l.drop (i+1))):=by
     have:=U8 (l.take i) (l.drop i)
     rw[take_append_drop]at this
     rw[this,Nt m];rfl
    have Q:prb c.toNat (l.take i)<F1:=Z5 ω ω
    have z:bc c.toNat a.P.toNat<F1:=by
     have:=Z5 (x:=c.toNat) (l:=[a]) ω (by simp only[Dt];omega)
     simpa[prb]using this
    have u:Ah [cR (prb c.toNat (l.take i))] 0=some (cR (prb c.toNat (l.take i))):=rfl
    refine⟨_,?_,⟨i+1,rfl,ω⟩,ζ⟩
    simp only[Av (ω:(i:Int)<(l.length:Int)),Al,Br rfl m,Ae,Fa (ω:(a.L.T.length:Int)=0),D,Bes C y (ω:a.P<=64),u,(Np.c Q).mul (Np.c z),Db h ω]
    rw[Cu m,A0c]
    simp[prb,Cn]
   .have:i=l.length:=ω
    subst this
    right
    exact⟨[cR (prb c.toNat (take l.length l))],by simp only[A6 (ω:¬(l.length:Int)<(l.length:Int)),An],by rw[C6]⟩) (by
   rintro _ rfl
   exact⟨_,rfl,rfl⟩)
  rw[<-A]
  exact B
 have S:Ah0 l=true:=by
  cases l with
  |nil=>rfl
  |cons a E=>
   have:=(ht a ψ).1
   show(a.L.T.length==0)=true
   simpa using this
 unfold Qx
 rw[S,Al,H]
end Go.Ab
