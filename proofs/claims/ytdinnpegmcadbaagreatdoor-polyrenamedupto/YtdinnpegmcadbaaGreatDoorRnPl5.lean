/- Plain laws. -/
import Derived.Test.YtdinnpegmcadbaaGreatDoorRnPl4
import Derived.Test.YtdinnpegmcadbaaGreatDoorRnPl3
open List
namespace Go.Ab
open Go
variable {P:A5->Prop} {res t:Af} {i j:Ah} {u:Aj} {a:Aq} {x:B9} {χ:Be->Nat} {v:Bg->Nat} {w:Int} {R:List (Ah×Nat)} {b1:List (ByteArray×Int)} {b2:List (ByteArray×List Au)} {vars:List Af} {data:List Ai} {p q ts:List Aj} {F l m:List Be} {A:List Bf} {r:List Bq} {B:List Ent} {D K L M S k n:Nat} {α:Type}
def fl (v:Int) (is:List Ah):List Be:=is.map λi=>⟨v,i⟩
def PMg (data:List Ai) (vars:List Af) (res:Af) (b:List (ByteArray×List Au)):Prop := ∀p∈b,∃(v:Int) (t:Af) (d:Ah) (e:List Ah) (R:List (Ah×Nat)),p.1=bs ((fl v (d::e)).flatMap D8)/\p.2=R.map Ba/\C9 vars res v=some t/\PRg data t d e R
theorem PMg.nil (data:List Ai) (vars:List Af) (res:Af):PMg data vars res []:=λp hp=>by cases hp
theorem Bbi {v:Int} {l m:List Ah} (h:bs ((fl v (i::l)).flatMap D8)=bs ((fl w (j::m)).flatMap D8)):v=w/\i=j/\l=m:=by
 have e:=Al7 (By.flat By.fac _) (By.flat By.fac _) h;have g:=(Al6 (fl v (i::l)) (fl w (j::m)) [] [] Jt.nil Jt.nil (by rw[append_nil,append_nil];exact e)).1;have o:(⟨v,i⟩:Be)::fl v l=⟨w,j⟩::fl w m:=g;injection o with a b;injection a with s y;subst s;refine⟨rfl,y,?_⟩;unfold fl at b;have d:∀(l m:List Ah),(l.map λi=>(⟨v,i⟩:Be))=(m.map λi=>(⟨v,i⟩:Be))->l=m:=by
  intro l;induction l with
  | nil=>intro m h;cases m with
   | nil=>rfl
   | cons a m=>simp at h
  | cons a l ih=>intro m h;cases m with
   | nil=>simp at h
   | cons b m=>
    simp only[map_cons,List.cons.injEq,Be.mk.injEq,true_and]at h
    rw[h.1,ih m h.2]
 exact d l m b
noncomputable def Ahw (data:List Ai) (t:Af) (F:List Be) (b2:List (ByteArray×List Au)):List Au×Int->Option ((List Au×Int)⊕((List Au×Int×List (ByteArray×List Au))⊕List Au)):=λ(c,d)=> bif d<(F.length:Int) then ((Ag F d).bind λe=> (Me data t c [(Au.mk e.I (cR 1))]).bind λb=> bif (b.2 != (0:Int)) then (some (.inr (.inl ([],b.2,b2)))) else (some (.inl (b.1,(Ac (d+1)))))) else (some (.inr (.inr c)))
theorem Bbj (x:DSz data) (o:Hu data) (hg:Gw data t=true) {v:Int} {f:Ah} {b:List Ah} (u:GG data t (f::b)) (b2:List (ByteArray×List Au)) : ∃z,Ak (Ahw data t (fl v b) b2) ([⟨f,cR 1⟩],0)=some z/\((2<=b.length/\z = .inl ([],9,b2))\/∃R:List (Ah×Nat),z = .inr (R.map Ba)/\PRg data t f b R):=by
 have l:=u.len;simp only[D1]at l;have g:((fl v b).length:Int)=(b.length:Int):=by unfold fl;rw[C2]
 obtain⟨e,A,y⟩:=Jm (step:=Ahw data t (fl v b) b2) (λ(s:List Au×Int)=>∃(j:Nat) (R:List (Ah×Nat)),s=(R.map Ba,(j:Int))/\j<=b.length/\PRg data t f (b.take j) R) (λs=>b.length-s.2.toNat) (λz=>(2<=b.length/\z=(.inl ([],9,b2):((List Au×Int×List (ByteArray×List Au))⊕List Au)))\/∃R:List (Ah×Nat),z = .inr (R.map Ba)/\PRg data t f b R) (by
   rintro _ ⟨j,R,rfl,H,q⟩;rcases Cf j b.length with h|h
   .have d:b[j]? = some b[j]:=Bp h;generalize b[j]=r at d;have k:(fl v b)[j]? = some ⟨v,r⟩:=(by unfold fl;rw[getElem?_map,d];rfl);have i:=u.take (j+1);rw[Cs d]at i;unfold Ahw;simp only[g,Ar (ω:(j:Int)<(b.length:Int)),Am,Bn rfl k,Ad];rcases q.step x o hg i with⟨C,c⟩|⟨B,E,G⟩
    .right;refine⟨_,by rw[c];rfl,.inl ⟨?_,rfl⟩⟩;have:(b.take j).length≠0:=λe=>C (F3.1 e);rw[length_take]at this;omega
    .left;refine⟨_,by rw[E];rfl,⟨j+1,B,by rw[C3 h ω],ω,by rw[Cs d];exact G⟩,?_⟩;rw[C3 h ω];show b.length-((j+1:Nat):Int).toNat<b.length-(j:Int).toNat;omega
   .right;have:j=b.length:=ω;subst this;rw[C1]at q;exact⟨_,by unfold Ahw;simp only[g,A3 (ω:¬(b.length:Int)<(b.length:Int)),Ap],.inr ⟨R,rfl,q⟩⟩)
  ([⟨f,cR 1⟩],0) ⟨0,[(f,1)],rfl,ω,by rw[take_zero];exact PRg.one (by have:=u.take 0;rwa [take_zero]at this)⟩;exact⟨e,A,y⟩
theorem Bbk (hz:DSz data) (hv:Hu data) (hg:Gw data t=true) {v:Int} (ht:C9 vars res v=some t) (I:E5 v) {c:Ah} {g:List Ah} (L:GG data t (c::g)) (b1:List (ByteArray×Int)) (T:PMg data vars res b2) : ∃l e Z,Ru (fl v (c::g)) b1 b2 data vars res.G res.U res.R=some (l,e,Z)/\PMg data vars res Z/\((e=9/\l = []/\2<=g.length)\/(e=0/\∃R:List (Ah×Nat),l=R.map Ba/\PRg data t c g R)):=by
 have hs:=L.siz;have a6:=L.len;simp only[D1]at a6;have y:∀i∈c::g,Bw i<=1048576:=λi d=>by have:=Kd d;omega
 have D:∀i∈c::g,(D8 ⟨v,i⟩).length<=33554432:=λi d=>Ag6 (y i d) ⟨L.num i d,I⟩;have a7:∀j,((fl v (c::g.take j)).flatMap D8).length<=6*33554432:=λj=>by
  refine Nat.le_trans (Amd (n:=33554432) _ λa ha=>?_) (Nat.mul_le_mul_right _ ?_)
  .unfold fl at ha;obtain⟨i,d,rfl⟩:=mem_map.1 ha;refine D i ?_;rcases Gc.1 d with rfl|d
   .simp
   .have:=mem_of_mem_take d;simp[this]
  .unfold fl;rw[C2,D1,length_take];omega
 have q:Ag (fl v (c::g)) 0=some ⟨v,c⟩:=rfl;have B:Md v c=some (bs (D8 ⟨v,c⟩)):=Agc v c I (L.num c ψ) (y c ψ);have s:Kb (bs (D8 ⟨v,c⟩)) []=some (((D8 ⟨v,c⟩).length:Int),D8 ⟨v,c⟩):=by have:=Va (b:=[]) (By.fac ⟨v,c⟩) (by have:=D c ψ;simp;omega);rw[nil_append]at this;exact this
 have w1:Ac (0+1)=1:=by rw[Ac,Ci] <;> omega
 have h:∀{X:Type} {J:List Int->Option X} {x:Option X},J ((fl v (c::g)).flatMap D8)=x->(Ak (S:=(Int×List Int)) (E:=(List Int)) (λ(C,N)=> bif C<((fl v (c::g)).length:Int) then ((Ag (fl v (c::g)) C).bind λM=> (Md M.v M.I).bind λa0=> (Hj a0 N).bind λa2=> some (.inl ((Ac (C+1)),a2.2))) else (some (.inr N))
  ) (1,D8 ⟨v,c⟩)).bind J=x:=λ{X J x} hJ=>by
  refine bnd (a:=(fl v (c::g)).flatMap D8) ?_ hJ;rw[<-Option.bind_fun_some (Ak _ _)];have Y:fl v (c::g)=⟨v,c⟩::fl v g:=rfl;rw[Y];refine Abz (⟨v,c⟩:Be) (fl v g) (λj=>(((j+1:Nat):Int),(fl v (c::g.take j)).flatMap D8)) (by simp[fl]) (by unfold fl;rw[C2];omega) ?_ ?_
  .intro j f o H h2 h3;have a8:∃i,g[j]? = some i/\f=⟨v,i⟩:=(by unfold fl at o;rw[getElem?_map]at o;obtain⟨i,H,h2⟩:=Option.map_eq_some_iff.1 o;exact⟨i,H,h2.symm⟩);obtain⟨i,d,rfl⟩:=a8;have A:i∈c::g:=(by have:=Bv d;simp[this]);have hk:=a7 j;have aa:=D i A;have e1:Md v i=some (bs (D8 ⟨v,i⟩)):=Agc v i I (L.num i A) (y i A);have e2:Hj (bs (D8 ⟨v,i⟩)) ((fl v (c::g.take j)).flatMap D8)=some (((D8 ⟨v,i⟩).length:Int),(fl v (c::g.take j)).flatMap D8++D8 ⟨v,i⟩):=Nf (By.fac _) ω;simp only[H,h2,h3,Am,Ad,e1,e2];have:fl v (c::g.take (j+1))=fl v (c::g.take j)++[⟨v,i⟩]:=(by unfold fl;rw[Cs d];simp);rw[this,flatMap_append];simp
  .intro H;have V:(fl v g).length=g.length:=(by unfold fl;rw[C2]);refine⟨(fl v (c::g)).flatMap D8,?_,rfl⟩;rw[V]at H ⊢;simp only[C1,H,Ap]
 have G:By ((fl v (c::g)).flatMap D8):=By.flat By.fac _;have a1:Nat.beq (bs ((fl v (c::g)).flatMap D8)).size 0=false:=by rw[Xw];have:(fl v (c::g)).flatMap D8=118::((ti v++58::wx c)++(fl v g).flatMap D8):=rfl;rw[this];rfl
 have U:Ka v b1 b2 data vars res.G res.U res.R=some t:=Xo b1 b2 data vars res ht;have k:F1 (fl v (c::g)) 1 ((fl v (c::g)).length:Int)=some (fl v g):=Am5 ⟨v,c⟩ (fl v g);have u:decide ((0:Int)<((fl v (c::g)).length:Int))=true:=Ar (by unfold fl;rw[C2,D1];omega);cases Q:E9 b2 (bs ((fl v (c::g)).flatMap D8)) with
 | true=>have a3:∃R:List (Ah×Nat),Ig b2 (bs ((fl v (c::g)).flatMap D8)) []=R.map Ba/\PRg data t c g R:=(by unfold Ig;unfold E9 at Q;cases o:b2.find? λp=>bs ((fl v (c::g)).flatMap D8)==p.1 with| none=>rw[find?_eq_none]at o;obtain⟨p,hp,e⟩:=any_eq_true.1 Q;exact (o p hp e).elim| some p=>obtain⟨w,t',j0,ss,R,g1,g2,g3,g4⟩:=T p (mem_of_find?_eq_some o);have e:=find?_some o;have e:bs ((fl v (c::g)).flatMap D8)=p.1:=(Na _ _).1 e;rw[g1]at e;obtain⟨rfl,rfl,rfl⟩:=Bbi e;rw[ht]at g3;cases g3;exact⟨R,g2,g4⟩);obtain⟨R,r1,W⟩:=a3;refine⟨R.map Ba,0,b2,?_,T,.inr ⟨rfl,R,rfl,W⟩⟩;unfold Ru;rw[u,Am,q,Ad,B,Ad,s,Ad,w1];refine h ?_;rw[Pl G,Ad,Q,Am,r1];rfl
 | false=>
  obtain⟨z,z1,z2⟩:=Bbj hz hv hg (v:=v) L b2;rcases z2 with⟨hb,rfl⟩|⟨R,rfl,W⟩
  .refine⟨[],9,b2,?_,T,.inl ⟨rfl,rfl,hb⟩⟩;unfold Ru;rw[u,Am,q,Ad,B,Ad,s,Ad,w1];refine h ?_;rw[Pl G,Ad,Q,Ap,Ad];dsimp only;rw[Ap,Ad,U,Ad,Ad,L3,Ad,k,Ad];exact bnd z1 rfl
  .refine⟨R.map Ba,0,Gn b2 (bs ((fl v (c::g)).flatMap D8)) (R.map Ba),?_,λp hp=>?_,.inr ⟨rfl,R,rfl,W⟩⟩
   .unfold Ru;rw[u,Am,q,Ad,B,Ad,s,Ad,w1];refine h ?_;rw[Pl G,Ad,Q,Ap,Ad];dsimp only;rw[Ap,Ad,U,Ad,Ad,L3,Ad,k,Ad];refine bnd z1 ?_;unfold Xd;dsimp only;rw[a1,Ap,Ad]
   .rcases Alm _ _ _ p hp with hp|rfl
    .exact T p hp
    .exact⟨v,t,c,g,R,rfl,rfl,ht,W⟩
abbrev G8:=(List Be×Rat)×Ent
inductive Fp (K:Nat):List Aj->List G8->Prop
 | nil:Fp K [] []
 | cons {t:Aj} {b:G8} {ts:List Aj} {bs:List G8}:t.M=⟨b.1.1,b.2.1⟩->rq t.C=b.1.2*(b.2.2:Rat)->RB K t.C->b.1.1.length<=1000->Fp K ts bs->Fp K (t::ts) (b::bs)
theorem Fp.len {bs:List G8} (h:Fp K ts bs):ts.length=bs.length:=by induction h with| nil=>rfl| cons _ _ _ _ _ ih=>simp[ih]
theorem Fp.app {c:List Aj} {bs cs:List G8} (h:Fp K ts bs) (h':Fp K c cs):Fp K (ts++c) (bs++cs):=by induction h with| nil=>exact h'| cons a b d e _ ih=>exact .cons a b d e ih
theorem Fp.mono {c:Nat} {bs:List G8} (h:Fp K ts bs) (hk:K<=c):Fp c ts bs:=by induction h with| nil=>exact .nil| cons a b d e _ ih=>exact .cons a b (d.mono hk) e ih
theorem Fp.get {bs:List G8} (h:Fp K ts bs):∀{j:Nat} {t:Aj},ts[j]? = some t->∃b,bs[j]? = some b/\t.M=⟨b.1.1,b.2.1⟩/\rq t.C=b.1.2*(b.2.2:Rat)/\RB K t.C/\b.1.1.length<=1000:=by
 induction h with
 | nil=>intro j t h;simp at h
 | @cons t b ts bs e g o s _ ih=>intro j u d;cases j with| zero=>simp only[getElem?_cons_zero,Option.some.injEq]at d;subst d;exact⟨b,rfl,e,g,o,s⟩| succ j=>simp only[getElem?_cons_succ]at d;simpa using ih d
theorem Fp.mem {bs:List G8} (h:Fp K ts bs) {t:Aj} (ht:t∈ts):∃b∈bs,t.M=⟨b.1.1,b.2.1⟩/\rq t.C=b.1.2*(b.2.2:Rat)/\RB K t.C:=by obtain⟨j,d⟩:=Hh ht;obtain⟨b,b1,b2,f,c,_⟩:=h.get d;exact⟨b,Bv b1,b2,f,c⟩
def Sz (l:Bg) (k c:Nat) (b:G8):G8:=(b.1,(b.2.1++atO l k,b.2.2*c))
def Kx (B:List G8) (l:Bg) (f:Nat->Nat) (n:Nat):List G8:=(range n).flatMap λk=>if f k=0 then [] else B.map (Sz l k (f k))
theorem Ahx (B:List G8) (l:Bg) (f:Nat->Nat) (n:Nat):Kx B l f (n+1)=Kx B l f n++(if f n=0 then [] else B.map (Sz l n (f n))):=by unfold Kx;rw[range_succ,flatMap_append];simp
theorem Aw8 (B:List G8) (l:Bg) (f:Nat->Nat) (n:Nat):(Kx B l f n).length<=n*B.length:=by induction n with| zero=>simp[Kx]| succ n ih=>rw[Ahx,Ep,Nat.add_mul,Nat.one_mul];have:(if f n=0 then ([]:List G8) else B.map (Sz l n (f n))).length<=B.length:=(by split <;> simp);omega
theorem Bbl {c o:List Aj} {B:List G8} {l:Bg} {f:Nat} {x:Aq} (y:Fp K c B) (d:rq x=(f:Rat)) (i:RB 200 x) (S:K<30000000000) (R:∀b∈B,b.2.1.length<=M) (N:M<=1000) (C:o.length+c.length<=1000000000) :
  ∃T,Ak (Acf c l (k:Int) x) (0,o)=some ((c.length:Int),o++T)/\Fp (K+202) T (B.map (Sz l k f)):=by
 obtain⟨e,X,T,V,U⟩:=Jm (step:=Acf c l (k:Int) x) (λs=>∃(j:Nat) (T:List Aj),s=((j:Int),o++T)/\j<=c.length/\T.length=j/\Fp (K+202) T ((B.take j).map (Sz l k f))) (λs=>c.length-s.1.toNat)
  (λe=>∃T,e=((c.length:Int),o++T)/\Fp (K+202) T (B.map (Sz l k f))) (by
  rintro _ ⟨j,T,rfl,H,L,q⟩
  rcases Cf j c.length with h|h
  .left
   have g:c[j]? = some c[j]:=Bp h
   generalize c[j]=t at g
   obtain⟨b,b1,b2,Z,Y,z⟩:=y.get g
   have J:=R b (Bv b1)
   have:=Av9 l k
   obtain⟨u,I,G,E,D⟩:=A9p (F:=⟨b.1.1,z⟩) (A:=b.2.1) (B:=atO l k) b2 ω S Y i
   refine⟨_,?_,⟨j+1,T++[u],rfl,ω,by simp[L],?_⟩,ζ⟩
   .unfold Acf
    simp only[Ar (ω:(j:Int)<(c.length:Int)),Am,Bn rfl g,Ad,A9o,I,C3 h ω]
    rw[Dy ζ,Ad,append_assoc]
   .rw[Cs b1,map_append]
    refine q.app (.cons G ?_ D z .nil)
    rw[E,Z,d]
    show _=b.1.2*((b.2.2*f:Nat):Rat)
    rw[Rat.natCast_mul];grind
  .have:j=c.length:=ω
   subst this
   right
   rw[y.len,C1]at q
   exact⟨_,by unfold Acf;simp only[A3 (ω:¬(c.length:Int)<(c.length:Int)),Ap],T,rfl,q⟩) (0,o) ⟨0,[],ψ,ω,rfl,by simpa using Fp.nil⟩
 exact⟨T,by rw[<-V];exact X,U⟩
theorem Bbm {g:List Aj} {B:List G8} {l:Bg} {f:Nat->Nat} (z:Fp K g B) (C:∀k,k<n->f k<Fe) (L:K<30000000000) (J:∀b∈B,b.2.1.length<=M) (y:M<=1000) (X:n<=1000) (Y:g.length<=1000000) :
  ∃T,Ak (Ahk g l (Ls n f)) (0,[])=some ((n:Int),T)/\Fp (K+202) T (Kx B l f n):=by
 obtain⟨e,V,T,S,R⟩:=Jm (step:=Ahk g l (Ls n f)) (λs=>∃(j:Nat) (T:List Aj),s=((j:Int),T)/\j<=n/\Fp (K+202) T (Kx B l f j)) (λs=>n-s.1.toNat)
  (λe=>∃T,e=((n:Int),T)/\Fp (K+202) T (Kx B l f n)) (by
  rintro _ ⟨j,T,rfl,H,q⟩
  unfold Ahk
  rw[Ms]
  rcases Cf j n with h|h
  .left
   have D:=Aw8 B l f j
   have I:=q.len
   have N:=z.len
   have A:j*B.length<=1000*1000000:=Nat.mul_le_mul ω ω
   have x:j*B.length+B.length<=1000*B.length:=by
    have:(j+1)*B.length<=1000*B.length:=Nat.mul_le_mul_right _ ω
    rw[Nat.add_mul]at this;omega
   have i:=C j h
   simp only[Ar (ω:(j:Int)<(n:Int)),Am,Bn rfl (Mt f h),Ad,(Np.c i).sign,C3 h ω]
   by_cases d:f j=0
   .refine⟨_,by rw[As d];rfl,⟨j+1,T,rfl,ω,?_⟩,ζ⟩
    rw[Ahx,As d,append_nil];exact q
   .have u:RB 200 (cR (f j)):=(Np.c i).rb
    obtain⟨U,G,E⟩:=Bbl (o:=T) (l:=l) (k:=j) (f:=f j) z (Vg (f j)) u L J y ω
    refine⟨_,by rw[Ao d,G];rfl,⟨j+1,T++U,rfl,ω,?_⟩,ζ⟩
    rw[Ahx,Ao d]
    exact q.app E
  .have:j=n:=ω
   subst this
   right
   exact⟨_,by simp only[A3 (ω:¬(j:Int)<(j:Int)),Ap],T,rfl,q⟩) (0,[]) ⟨0,[],rfl,ω,.nil⟩
 exact⟨T,by rw[<-S];exact V,R⟩
def Qv (B:List G8):List Grp->List G8
 | []=>B
 | q::b=>Qv (Kx B q.1 q.2.2 (q.2.1+1)) b
theorem Aw9 {B:List G8} {l:Bg} {f:Nat->Nat} {b:G8} (hb:b∈Kx B l f n):∃g∈B,b.1=g.1/\b.2∈Iu [g.2] l f n:=by
 unfold Kx at hb;rw[mem_flatMap]at hb;obtain⟨k,c,e⟩:=hb;split at e
 .cases e
 .rename_i h;obtain⟨d,o,rfl⟩:=mem_map.1 e;refine⟨d,o,rfl,?_⟩;unfold Iu;rw[mem_flatMap];exact⟨k,c,by rw[Ao h];exact mem_map.2 ⟨d.2,ψ,rfl⟩⟩
theorem Axa:∀(f:List Grp) {B C:List Ent},(∀b∈B,b∈C)->∀b∈Ng B f,b∈Ng C f
 | [],B,C,h,b,e=>h b e
 | q::f,B,C,h,b,e=>by
  refine Axa f (B:=Iu B q.1 q.2.2 (q.2.1+1)) (λc o=>?_) b e;unfold Iu at o ⊢;rw[mem_flatMap]at o ⊢;obtain⟨k,i,g⟩:=o;refine⟨k,i,?_⟩;split at g
  .cases g
  .rename_i s;rw[Ao s];obtain⟨d,d1,d2⟩:=mem_map.1 g;exact mem_map.2 ⟨d,h d d1,d2⟩
theorem Ane:∀(f:List Grp) {B:List G8} {b:G8},b∈Qv B f->∃h∈B,b.1=h.1/\b.2∈Ng [h.2] f
 | [],B,b,o=>⟨b,o,rfl,by simp[Ng]⟩
 | q::f,B,b,o=>by obtain⟨c,s,y,C⟩:=Ane f o;obtain⟨d,d1,d2,d3⟩:=Aw9 s;refine⟨d,d1,y.trans d2,?_⟩;exact Axa f (λe g=>by simp only[D4]at g;rw[g];exact d3) b.2 C
theorem Bbn {B:List G8} {l:Bg} {f:Nat->Nat} (h:∀b∈B,b.2.1.length<=M):∀b∈Kx B l f n,b.2.1.length<=M+1:=by intro b e;obtain⟨g,o,_,s⟩:=Aw9 e;exact Bai (B:=[g.2]) (λc d=>by simp only[D4]at d;rw[d];exact h g o) b.2 s
theorem Bbo:∀(n:Nat) (rest:List Bf) (i:List Aj) (B:List G8) (K M:Nat),rest.length<=n->Acd rest->Atk rest->Fp K i B->(∀b∈B,b.2.1.length<=M)->M+rest.length<=1000->K+202*rest.length<30000000000->B.length*2 ^ Dn rest<=1000000 -> ∃o g,Ak Acg (i,rest)=some g/\Gs o rest/\Fp (K+202*rest.length) g (Qv B o)/\g.length<=B.length*2 ^ Dn rest:=by
 intro n;induction n with
 | zero=>intro rest i B K M hn _ _ z _ _ _ _;have:rest = []:=F3.1 ω;subst this;exact⟨[],i,F0 (by unfold Acg;simp),.nil,by simpa[Qv] using z,by rw[z.len];simp[Dn]⟩
 | succ n ih=>
  intro rest i B K M hn H L z hM ac hK A;cases c:rest with
  | nil=>exact⟨[],i,F0 (by unfold Acg;simp),.nil,by simpa[Qv] using z.mono ω,by rw[z.len];simp[Dn]⟩
  | cons a r'=>
   rw[<-c];have Q:rest[0]? = some a:=(by rw[c];rfl);have a8:0<rest.length:=Ec Q;have hT:∀b∈rest,b.L.T.length<1099511627776:=λb e=>by have:=(X7 (L.lin b e)).1;omega
   have ad:=L.len;obtain⟨m,m1,m2,m3,m4,m5⟩:=Bag Q hT ω;have s:rest=rest.take m++rest.drop m:=(take_append_drop m rest).symm;have J:=(s ▸ L:Atk (rest.take m++rest.drop m)).sub;have x:rest.take m≠[]:=(by intro h;have:=congrArg length h;rw[length_take]at this;simp only[length_nil]at this;omega);obtain⟨N,f,p1,p2,p3,p4⟩:=Baf J.1 x m4;have X:Dn rest=Dn (rest.take m)+Dn (rest.drop m):=(by rw[<-Sv,take_append_drop]);have aa:=L.sum;have S:2 ^ Dn rest=2 ^ Dn (rest.take m)*2 ^ Dn (rest.drop m):=(by rw[X,Nat.pow_add]);have a7:B.length<=1000000:=Nat.le_trans (Nat.le_mul_of_pos_right _ (Nat.pow_pos δ)) A;obtain⟨T,t1,t2⟩:=Bbm (l:=a.L) (n:=N+1) z p4 ω hM ω ω (by rw[z.len];exact a7);have y:Acg (i,rest)=some (.inl (T,rest.drop m)):=(by have V:Ag rest 0=some a:=Bn (n:=0) rfl Q;have R:F1 rest (m:Int) (rest.length:Int)=some (rest.drop m):=(by unfold F1;simp[drop_take];omega);unfold Acg;simp only[Ar (ω:(rest.length:Int)>0),Am,V,Ad,m1,Xf rfl m3,p1,t1,R]);have ab:(rest.drop m).length+m=rest.length:=(by rw[length_drop];omega);have a6:=Aw8 B a.L f (N+1);have I:(N+1)*B.length<=B.length*2 ^ Dn (rest.take m):=(by rw[Nat.mul_comm];refine Nat.mul_le_mul_left _ (Nat.le_trans (Bah N) (Nat.pow_le_pow_right δ p3)));have u:(Kx B a.L f (N+1)).length*2 ^ Dn (rest.drop m)<=B.length*2 ^ Dn rest:=(by rw[S,<-Nat.mul_assoc];exact Nat.mul_le_mul_right _ (Nat.le_trans a6 I));obtain⟨o,g,g1,g2,g3,g4⟩:=ih (rest.drop m) T (Kx B a.L f (N+1)) (K+202) (M+1) ω (Pairwise.sublist (drop_sublist m rest) H) J.2 t2 (Bbn hM) ω ω (Nat.le_trans u A);refine⟨(a.L,N,f)::o,g,by rw[Lg y,g1],?_,g3.mono ω,Nat.le_trans g4 u⟩;have W:∀b∈rest.drop m,Ib a.L b.L<0:=by
    intro b e;cases C:rest.drop m with
    | nil=>rw[C]at e;cases e
    | cons d D=>
     have j:rest[m]? = some d:=(by have:=congrArg (λl=>l[0]?) C;simpa using this);have Z:=m5 d j;have a1:¬Ib d.L a.L<0:=(by have G:=H;rw[c]at G;have Y:d∈r':=(by have U:m=(m-1)+1:=ω;rw[c,U,getElem?_cons_succ]at j;exact Bv j);exact (pairwise_cons.1 G).1 d Y);have q:Ib a.L d.L<0:=by
      rcases Int.lt_trichotomy (Ib d.L a.L) 0 with k|k|k
      .exact (a1 k).elim
      .exact (Z ((Mp.zero _ _ trivial trivial).1 k)).elim
      .rw[Mp.anti d.L a.L trivial trivial];omega
     rw[C]at e;rcases Gc.1 e with rfl|e
     .exact q
     .have E:Acd (rest.drop m):=Pairwise.sublist (drop_sublist m rest) H;rw[C]at E;have h3:=(pairwise_cons.1 E).1 b e;rcases Int.lt_trichotomy (Ib b.L d.L) 0 with k|k|k
      .exact (h3 k).elim
      .rw[(Mp.zero _ _ trivial trivial).1 k];exact q
      .exact Mp.trans a.L d.L b.L trivial trivial trivial q (by rw[Mp.anti b.L d.L trivial trivial];omega)
   have:=Gs.cons x m4 W p2 g2;rwa [take_append_drop]at this
def J6 (data:List Ai) (t:Af) (v:Int) (i:Ah):List Be:=if dgo data t i=0 then [] else [⟨v,i⟩]
abbrev Nh:=List Be×Nat
def Ky (c:Rat) (p:Nh):G8:=((p.1,c),([],p.2))
def Yd (data:List Ai) (t:Af) (v:Int) (p:Nh) (w:Ah×Nat):Nh:=(p.1++J6 data t v w.1,p.2*w.2)
def upF (data:List Ai) (t:Af) (v:Int) (R:List (Ah×Nat)) (b:List Nh):List Nh:=b.flatMap λp=>R.map (Yd data t v p)
theorem Bbp (o:Ob data vars res) (b2:List (ByteArray×List Au)) (k:Ez data vars res b1) {v:Int} (ht:C9 vars res v=some t) (g:E5 v) (q:S<=1048576) (s:D<=6) (y:GI data t S D i) : ∃b,T1 v i b1 b2 data vars res.G res.U res.R=some (J6 data t v i,b)/\Ez data vars res b:=by
 obtain⟨E,C,d,e,u⟩:=y;obtain⟨b,j,l⟩:=Agg (b2:=b2) o k ⟨v,i⟩ g C (by show Bw i<=_;omega) (by show (C9 vars res v).isSome=true;rw[ht];rfl);have c:D3 data vars res ⟨v,i⟩=(d:Int):=by unfold D3;rw[ht];show Jr (Dj data i t)=_;rw[e,Qi ω]
 have f:dgo data t i=d:=by unfold dgo;rw[e]
 refine⟨b,?_,l⟩;unfold T1 J6;have j:M4 v i b1 b2 data vars res.G res.U res.R=some (D3 data vars res ⟨v,i⟩,b):=j;rw[j,Ad,c,f];by_cases h:d=0
 .rw[As h,h];rfl
 .rw[Ao h];have:((d:Int)==0)=false:=C8 ω;simp only[this,Ap]
theorem Bbq {fs:List Be} (f:u.M=⟨F,[]⟩) (h:F.length+fs.length<=1000) (g:K<30000000000) (d:RB K u.C) (b:n<Fe) : ∃w,N0 u (cR n) ⟨fs,[]⟩=some w/\w.M=⟨F++fs,[]⟩/\rq w.C=rq u.C*(n:Rat)/\RB (K+202) w.C:=by obtain⟨c,e,o,_,s⟩:=Sp d (Np.c b).rb ω ω;refine⟨⟨c,⟨F++fs,[]⟩⟩,?_,rfl,by rw[s,Vg],o⟩;unfold N0;rw[e,Ad,f,Ahh _ _ (by show F.length+fs.length<=_;omega) ψ];rfl
theorem Bbr (data:List Ai) (t:Af) (v:Int) (i:Ah):(J6 data t v i).length<=1:=by unfold J6;split <;> simp
noncomputable def Acr (data:List Ai) (vars:List Af) (res:Af) (b2:List (ByteArray×List Au)) (v:Int) (R:List Au) (u:Aj):Int×List (ByteArray×Int)×List Aj->Option ((Int×List (ByteArray×Int)×List Aj)⊕(Int×List (ByteArray×Int)×List Aj)):=λ(b,g,f)=> bif b<(R.length:Int) then ((Ag R b).bind λd=> (T1 v d.I g b2 data vars res.G res.U res.R).bind λc=> (N0 u d.C (A5.mk c.1 [])).bind λe=> (B8 104 f [e]).bind λh=> some (.inl ((Ac (b+1)),c.2,h))) else (some (.inr (b,g,f)))
noncomputable def Acs (data:List Ai) (vars:List Af) (res:Af) (b2:List (ByteArray×List Au)) (v:Int) (R:List Au) (ts:List Aj):Int×List (ByteArray×Int)×List Aj->Option ((Int×List (ByteArray×Int)×List Aj)⊕(Int×List (ByteArray×Int)×List Aj)):=λ(b,f,c)=> bif b<(ts.length:Int) then ((Ag ts b).bind λd=> (Ak (Acr data vars res b2 v R d) (0,f,c)).bind λ(_,h,g)=> some (.inl ((Ac (b+1)),h,g))) else (some (.inr (b,f,c)))
theorem Bbs (C:Ob data vars res) (b2:List (ByteArray×List Au)) {v:Int} (ht:C9 vars res v=some t) (B:E5 v) (X:S<=1048576) (H:D<=6) (Z:∀w∈R,GI data t S D w.1/\w.2<Fe) (Y:R.length<=1000) {p:Nh} {c:Rat} (Q:K<30000000000) (W:u.M=⟨p.1,[]⟩) (A:rq u.C=c*(p.2:Rat)) (z:RB K u.C) (N:p.1.length<=900) {k:List (ByteArray×Int)} (U:Ez data vars res k) (o:List Aj) (ho:o.length<=100000000) :
  ∃(f:List (ByteArray×Int)) (T:List Aj),Ak (Acr data vars res b2 v (R.map Ba) u) (0,k,o)=some ((R.length:Int),f,o++T)/\Ez data vars res f/\T.length=R.length/\Fp (K+202) T ((R.map (Yd data t v p)).map (Ky c)):=by
 have i:(((R.map Ba).length:Nat):Int)=(R.length:Int):=by rw[C2]
 obtain⟨e,e1,f,T,e2,e3,e4,e5⟩:=Jm (step:=Acr data vars res b2 v (R.map Ba) u) (λ(s:Int×List (ByteArray×Int)×List Aj)=>∃(j:Nat) (m:List (ByteArray×Int)) (T:List Aj),s=((j:Int),m,o++T)/\j<=R.length/\Ez data vars res m/\T.length=j/\Fp (K+202) T (((R.take j).map (Yd data t v p)).map (Ky c))) (λs=>R.length-s.1.toNat)
  (λ(e:Int×List (ByteArray×Int)×List Aj)=>∃(m:List (ByteArray×Int)) (T:List Aj),e=((R.length:Int),m,o++T)/\Ez data vars res m/\T.length=R.length/\Fp (K+202) T ((R.map (Yd data t v p)).map (Ky c))) (by
  rintro _ ⟨j,m,T,rfl,hj,g,E,b⟩
  rcases Cf j R.length with h|h
  .left
   have d:R[j]? = some R[j]:=Bp h
   generalize R[j]=w at d
   obtain⟨I,G⟩:=Z w (Bv d)
   have y:(R.map Ba)[j]? = some (Ba w):=by rw[getElem?_map,d];rfl
   obtain⟨x,f1,f2⟩:=Bbp C b2 g ht B X H I
   have f1:T1 v (Ba w).I m b2 data vars res.G res.U res.R=some (J6 data t v w.1,x):=f1
   have V:=Bbr data t v w.1
   obtain⟨q,l,M,L,J⟩:=Bbq (fs:=J6 data t v w.1) W ω Q z G
   have l:N0 u (Ba w).C ⟨J6 data t v w.1,[]⟩=some q:=l
   refine⟨((j+1:Nat),x,o++(T++[q])),?_,⟨j+1,x,T++[q],rfl,ω,f2,by simp[E],?_⟩,ζ⟩
   .unfold Acr
    simp only[i,Ar (ω:(j:Int)<(R.length:Int)),Am,Bn rfl y,Ad,f1,l,C3 h ω]
    rw[Dy ζ,Ad,append_assoc]
   .rw[Cs d,map_append,map_append]
    refine b.app (.cons M ?_ J (by show (p.1++J6 data t v w.1).length<=1000;rw[Ep];omega) .nil)
    rw[L,A]
    show _=c*((p.2*w.2:Nat):Rat)
    rw[Rat.natCast_mul];grind
  .have:j=R.length:=ω
   subst this
   rw[C1]at b
   exact .inr ⟨_,by unfold Acr;simp only[i,A3 (ω:¬(R.length:Int)<(R.length:Int)),Ap],m,T,rfl,g,E,b⟩) (0,k,o) ⟨0,k,[],ψ,ω,U,rfl,by simpa using Fp.nil⟩
 exact⟨f,T,by rw[<-e2];exact e1,e3,e4,e5⟩
theorem Bbt (o:Ob data vars res) (b2:List (ByteArray×List Au)) {v:Int} (ht:C9 vars res v=some t) (A:E5 v) (X:S<=1048576) (C:D<=6) (Y:∀w∈R,GI data t S D w.1/\w.2<Fe) (y:R.length<=1000) {i:List Nh} {c:Rat} (Z:K<30000000000) (k:Fp K ts (i.map (Ky c))) (z:∀p∈i,p.1.length<=900) (hl:i.length*R.length<=90000000) (a1:i.length<=1000000) {q:List (ByteArray×Int)} (M:Ez data vars res q) :
  ∃(g:List (ByteArray×Int)) (T:List Aj),Ak (Acs data vars res b2 v (R.map Ba) ts) (0,q,[])=some ((ts.length:Int),g,T)/\Ez data vars res g/\Fp (K+202) T ((upF data t v R i).map (Ky c)):=by
 have x:ts.length=i.length:=by rw[k.len,C2]
 obtain⟨e,H,g,T,Q,W,e4⟩:=Jm (step:=Acs data vars res b2 v (R.map Ba) ts) (λ(s:Int×List (ByteArray×Int)×List Aj)=>∃(j:Nat) (m:List (ByteArray×Int)) (T:List Aj),s=((j:Int),m,T)/\j<=ts.length/\Ez data vars res m/\T.length=j*R.length/\Fp (K+202) T ((upF data t v R (i.take j)).map (Ky c))) (λs=>ts.length-s.1.toNat)
  (λ(e:Int×List (ByteArray×Int)×List Aj)=>∃(m:List (ByteArray×Int)) (T:List Aj),e=((ts.length:Int),m,T)/\Ez data vars res m/\Fp (K+202) T ((upF data t v R i).map (Ky c))) (by
  rintro _ ⟨j,m,T,rfl,hj,l,V,f⟩
  rcases Cf j ts.length with h|h
  .left
   have d:ts[j]? = some ts[j]:=Bp h
   generalize ts[j]=u at d
   obtain⟨b,b1,B,b3,b4,b5⟩:=k.get d
   rw[getElem?_map]at b1
   obtain⟨p,hp,rfl⟩:=Option.map_eq_some_iff.1 b1
   have N:j*R.length<=i.length*R.length:=Nat.mul_le_mul_right _ ω
   obtain⟨E,U,L,J,I,G⟩:=Bbs o b2 ht A X C Y y Z B b3 b4 (z p (Bv hp)) l T ω
   refine⟨((j+1:Nat),E,T++U),?_,⟨j+1,E,T++U,rfl,ω,J,by rw[Ep,V,I,Nat.add_mul,Nat.one_mul],?_⟩,ζ⟩
   .unfold Acs
    simp only[Ar (ω:(j:Int)<(ts.length:Int)),Am,Bn rfl d,Ad,L,C3 h ω]
   .unfold upF at f ⊢
    rw[Awr _ hp,map_append]
    exact f.app G
  .have:j=ts.length:=ω
   subst this
   rw[x,C1]at f
   exact .inr ⟨_,by unfold Acs;simp only[A3 (ω:¬(ts.length:Int)<(ts.length:Int)),Ap],m,T,rfl,l,f⟩) (0,q,[]) ⟨0,q,[],rfl,ω,M,ψ,by simpa[upF] using Fp.nil⟩
 exact⟨g,T,by rw[<-Q];exact H,W,e4⟩
structure Ni (data:List Ai) (vars:List Af) (res:Af) (F:List Be):Prop where
 fac:∀f∈F,E5 f.v/\iR f.I/\1<=D3 data vars res f
 siz:(F.map λf=>Bw f.I).sum<=400000
 sum:Ct data vars res F<=6
theorem Acu {f:Be} (h:1<=D3 data vars res f):∃t d,C9 vars res f.v=some t/\Dj data f.I t=some d/\1<=d/\d<=6/\D3 data vars res f=(d:Nat):=by
 unfold D3 at h ⊢;cases b:C9 vars res f.v with
 | none=>rw[b]at h;exact absurd (show (1:Int)<=-1 from h) δ
 | some t=>
  rw[b]at h;rcases Alf (Dj data f.I t) with⟨e,_⟩|⟨d,e,g,o⟩
  .have h:1<=Jr (Dj data f.I t):=h;omega
  .have h:1<=Jr (Dj data f.I t):=h;exact⟨t,d,rfl,e,ω,g,o⟩
theorem Qw (l m:List Be):Ct data vars res (l++m)=Ct data vars res l+Ct data vars res m:=by unfold Ct;simp[sum_append]
theorem Lp {data:List Ai} {vars:List Af} {res:Af}:∀{l:List Be},(∀f∈l,1<=D3 data vars res f)->(l.length:Int)<=Ct data vars res l
 | [],_=>by simp[Ct]
 | f::l,h=>by have d:=h f ψ;have e:=Lp (l:=l) λg b=>h g (by simp[b]);have:Ct data vars res (f::l)=D3 data vars res f+Ct data vars res l:=(by unfold Ct;simp);simp only[D1];omega
theorem Ni.app (h:Ni data vars res (l++m)):Ni data vars res l/\Ni data vars res m:=by have h1:=h.siz;have h2:=h.sum;rw[map_append,sum_append]at h1;rw[Qw]at h2;have f1:=Lp (data:=data) (vars:=vars) (res:=res) (l:=l) λf hf=>(h.fac f (by simp[hf])).2.2;have f2:=Lp (data:=data) (vars:=vars) (res:=res) (l:=m) λf hf=>(h.fac f (by simp[hf])).2.2;exact⟨⟨λf hf=>h.fac f (by simp[hf]),ω,ω⟩,⟨λf hf=>h.fac f (by simp[hf]),ω,ω⟩⟩
theorem Bbu {v:Int} {g:List Be} (u:g≠[]) (hg:∀f∈g,f.v=v) (c:Ni data vars res g) : ∃t k o,C9 vars res v=some t/\E5 v/\g=fl v (k::o)/\GG data t (k::o)/\Ct data vars res g=(Eg data t (k::o):Nat)/\o.length+1<=Eg data t (k::o):=by
 cases g with
 | nil=>exact (u rfl).elim
 | cons f0 g=>
  have j:=hg f0 ψ;obtain⟨t,d0,H,_⟩:=Acu (c.fac f0 ψ).2.2;rw[j]at H;have x:∀l:List Be,(∀f∈l,f.v=v)->l=fl v (l.map (·.I)):=(by intro l;induction l with| nil=>intro _;rfl| cons a l ih=>intro h;have N:=h a ψ;have I:=ih λf e=>h f (by simp[e]);show a::l=⟨v,a.I⟩::fl v (l.map (·.I));rw[<-I,<-N]);have J:∀f∈f0::g,Dj data f.I t=some (dgo data t f.I)/\D3 data vars res f=(dgo data t f.I:Nat)/\1<=dgo data t f.I:=λf e=>by obtain⟨t',d,t1,t2,t3,t4,t5⟩:=Acu (c.fac f e).2.2;rw[hg f e,H]at t1;cases t1;have:dgo data t f.I=d:=(by unfold dgo;rw[t2]);rw[this];exact⟨t2,t5,t3⟩
  have y:∀l:List Be,(∀f∈l,f∈f0::g)->Ct data vars res l=(Eg data t (l.map (·.I)):Nat)/\l.length<=Eg data t (l.map (·.I)):=(by intro l;induction l with| nil=>intro _;exact⟨by simp[Ct,Eg],ψ⟩| cons a l ih=>intro h;obtain⟨_,I,Q⟩:=J a (h a ψ);obtain⟨T,U⟩:=ih λf e=>h f (by simp[e]);have G:Ct data vars res (a::l)=D3 data vars res a+Ct data vars res l:=(by unfold Ct;simp);have E:Eg data t ((a::l).map (·.I))=dgo data t a.I+Eg data t (l.map (·.I)):=(by unfold Eg;simp);rw[G,E];simp only[D1];omega);obtain⟨A,z⟩:=y (f0::g) λf e=>e;have B:=c.sum;have s:∀l:List Be,(l.map λf=>Bw f.I).sum=Cd (l.map (·.I)):=(by intro l;induction l with| nil=>rfl| cons a l ih=>simp only[map_cons,sum_cons,Cd,ih]);have b:=c.siz;rw[s]at b;have q:(f0::g).map (·.I)=f0.I::g.map (·.I):=rfl;rw[q]at A z b;simp only[D1]at z;have D:=x (f0::g) hg;rw[q]at D;refine⟨t,f0.I,g.map (·.I),H,by rw[<-j];exact (c.fac f0 ψ).1,D,⟨λi C=>?_,λi C=>?_,b,ω,by rw[D1,C2];omega⟩,A,by rw[C2];omega⟩
  .rw[<-q]at C;obtain⟨f,e,rfl⟩:=mem_map.1 C;exact (c.fac f e).2.1
  .rw[<-q]at C;obtain⟨f,e,rfl⟩:=mem_map.1 C;exact (J f e).1
def Vj (data:List Ai) (vars:List Af) (res:Af) (χ:Be->Nat) (P:List Be):Prop:=∀g∈P,∀t,C9 vars res g.v=some t->Anc data t (λi=>χ ⟨g.v,i⟩)/\∀i,Dj data i t=some 0->iR i->Bw i<=400000->χ ⟨g.v,i⟩=1
structure Qx (data:List Ai) (vars:List Af) (res:Af) (P:List Be) (FE:List Nh):Prop where
 pos:∀p∈FE,1<=p.2
 fac:∀p∈FE,∀f∈p.1,E5 f.v/\iR f.I/\Bw f.I<=(P.map λf=>Bw f.I).sum/\1<=D3 data vars res f/\∃g∈P,g.v=f.v
 asc:∀p∈FE,p.1.Pairwise λa b=>a.v<b.v
 sum:∀p∈FE,Ct data vars res p.1<=Ct data vars res P
 val:∀χ,Vj data vars res χ P->pv (λF=>Dz (F.map χ)) FE=Dz (P.map χ)
 len:FE.length<=10 ^ (Ct data vars res P).toNat
theorem Qx.nil (data:List Ai) (vars:List Af) (res:Af):Qx data vars res [] [([],1)]:=by
 have h:∀p∈[(([]:List Be),1)],p=([],1):=λp hp=>by simpa using hp
 refine⟨λp hp=>?_,λp hp f hf=>?_,λp hp=>?_,λp hp=>?_,λχ _=>rfl,Nat.le_refl _⟩
 .rw[h p hp];exact Nat.le_refl _
 .rw[h p hp]at hf;cases hf
 .rw[h p hp];exact Pairwise.nil
 .rw[h p hp];exact Int.le_refl _
theorem Acv:∀(l m:List Nat),Dz (l++m)=Dz l*Dz m
 | [],m=>by simp[Dz]
 | a::l,m=>by rw[D0,Dz,Dz,Acv l m,Nat.mul_assoc]
theorem Axb {α β:Type} (f:β->Nat) (g:α->β) (c:Nat):∀L:List (α×Nat),pv f (L.map λw=>(g w.1,c*w.2))=c*pv (λx=>f (g x)) L
 | []=>rfl
 | p::L=>by rw[map_cons,pv,Axb f g c L,pv,Nat.mul_add,Nat.mul_assoc]
theorem Qx.step {P:List Be} {y:List Nh} (h:Qx data vars res P y) {v:Int} (ht:C9 vars res v=some t) (M:E5 v) {c:List Ah} (L:GG data t (j::c)) (J:Ct data vars res (fl v (j::c))=(Eg data t (j::c):Nat)) (V:c.length+1<=Eg data t (j::c)) (W:∀f∈P,f.v<v) (a6:0<=Ct data vars res P) (x:PRg data t j c R):Qx data vars res (P++fl v (j::c)) (upF data t v R y):=by
 have hs:=L.siz;have Y:=L.sum;have s:∀q∈upF data t v R y,∃p∈y,∃w∈R,q=Yd data t v p w:=λq C=>by unfold upF at C;obtain⟨p,hp,C⟩:=mem_flatMap.1 C;obtain⟨w,o,rfl⟩:=mem_map.1 C;exact⟨p,hp,w,o,rfl⟩
 have B:∀w∈R,∀f∈J6 data t v w.1,f=⟨v,w.1⟩/\1<=dgo data t w.1:=λw o f hf=>by
  unfold J6 at hf;split at hf
  .cases hf
  .rename_i h0;simp only[D4]at hf;exact⟨hf,ω⟩
 have z:∀w∈R,Dj data w.1 t=some (dgo data t w.1)/\dgo data t w.1<=Eg data t (j::c)/\D3 data vars res ⟨v,w.1⟩=(dgo data t w.1:Nat):=λw o=>by obtain⟨_,_,d,d1,d2⟩:=x.cw.mo w o;have e:dgo data t w.1=d:=(by unfold dgo;rw[d1]);rw[e];refine⟨d1,d2,?_⟩;unfold D3;rw[ht];show Jr (Dj data w.1 t)=_;rw[d1,Qi ω]
 have u:((P++fl v (j::c)).map λf=>Bw f.I).sum=(P.map λf=>Bw f.I).sum+Cd (j::c):=by
  rw[map_append,sum_append];congr 1;have H:∀l:List Ah,((fl v l).map λf=>Bw f.I).sum=Cd l:=λl=>by induction l with| nil=>rfl| cons a l ih=>show Bw a+((fl v l).map λf=>Bw f.I).sum=Cd (a::l);rw[ih];simp only[Cd]
  exact H _
 have G:Ct data vars res (P++fl v (j::c))=Ct data vars res P+(Eg data t (j::c):Nat):=by rw[Qw,J]
 have I:(Ct data vars res (P++fl v (j::c))).toNat=(Ct data vars res P).toNat+Eg data t (j::c):=ω;have A:(upF data t v R y).length<=y.length*R.length:=by unfold upF;exact Yc _ _ _ λp _=>by rw[C2];exact Nat.le_refl _
 have Z:R.length<=3 ^ (Eg data t (j::c)*c.length):=Nat.le_trans (Mu x.cw.pos) x.cnt;refine⟨λq C=>?_,λq C f hf=>?_,λq C=>?_,λq C=>?_,λχ S=>?_,?_⟩
 .obtain⟨p,hp,w,o,rfl⟩:=s q C;exact Nat.mul_pos (h.pos p hp) (x.cw.pos w o)
 .obtain⟨p,hp,w,o,rfl⟩:=s q C;rcases Ef.1 hf with hf|hf
  .obtain⟨a1,a2,a3,a4,g,Q,T⟩:=h.fac p hp f hf;exact⟨a1,a2,by rw[u];omega,a4,g,by simp[Q],T⟩
  .obtain⟨rfl,h1⟩:=B w o f hf;obtain⟨U,E,_⟩:=x.cw.mo w o;obtain⟨_,_,D⟩:=z w o;exact⟨M,E,by rw[u];show Bw w.1<=_;omega,by rw[D];omega,⟨v,j⟩,by simp[fl],rfl⟩
 .obtain⟨p,hp,w,o,rfl⟩:=s q C;refine pairwise_append.2 ⟨h.asc p hp,?_,λa ha b hb=>?_⟩
  .unfold J6;split <;> simp
  .obtain⟨rfl,_⟩:=B w o b hb;obtain⟨_,_,_,_,g,Q,T⟩:=h.fac p hp a ha;rw[<-T];exact W g Q
 .obtain⟨p,hp,w,o,rfl⟩:=s q C;have h1:=h.sum p hp;obtain⟨_,y2,D⟩:=z w o;show Ct data vars res (p.1++J6 data t v w.1)<=_;rw[Qw,G];have:Ct data vars res (J6 data t v w.1)<=(Eg data t (j::c):Nat):=by
   unfold J6;split
   .show (0:Int)<=_;omega
   .show D3 data vars res ⟨v,w.1⟩+0<=_;rw[D];omega
  omega
 .obtain⟨m1,m2⟩:=S ⟨v,j⟩ (by simp[fl]) t ht;have e1:pv (λF=>Dz (F.map χ)) (upF data t v R y)=pv (λF=>pv (λi=>χ ⟨v,i⟩) R*Dz (F.map χ)) y:=by
   unfold upF;refine Ach _ _ _ _ λp hp=>?_;have e2:R.map (Yd data t v p)=R.map λw=>(p.1++J6 data t v w.1,p.2*w.2):=rfl;rw[e2,Axb (λF=>Dz (F.map χ)) (λi=>p.1++J6 data t v i) p.2 R];congr 1;rw[<-Nat.mul_comm (Dz _),<-Oe];refine Qs λw o=>?_;show Dz ((p.1++J6 data t v w.1).map χ)=Dz (p.1.map χ)*χ ⟨v,w.1⟩;rw[map_append,Acv];congr 1;obtain⟨U,E,_⟩:=x.cw.mo w o;obtain⟨N,_⟩:=z w o;unfold J6;split
   .rename_i h0;rw[h0]at N;rw[m2 w.1 N E ω];rfl
   .show χ ⟨v,w.1⟩*1=_;omega
  rw[e1,Oe,h.val χ λg hg=>S g (by simp[hg]),x.val,Aw7 m1 c j L,map_append,Acv,Nat.mul_comm];congr 1;show _=χ ⟨v,j⟩*Dz ((fl v c).map χ);unfold fl;rw[map_map];rfl
 .rw[I,Nat.pow_add];refine Nat.le_trans A (Nat.mul_le_mul h.len ?_);have hl:=x.len;rcases Cf (Eg data t (j::c)) 3 with k|k
  .have X:c.length<=1:=ω;have h1:(3:Nat) ^ (Eg data t (j::c)*c.length)<=3 ^ (Eg data t (j::c)):=Nat.pow_le_pow_right δ (by have:=Nat.mul_le_mul_left (Eg data t (j::c)) X;omega);have h2:(3:Nat) ^ (Eg data t (j::c))<=10 ^ (Eg data t (j::c)):=Nat.pow_le_pow_left δ _;omega
  .have h1:(10:Nat) ^ 3<=10 ^ (Eg data t (j::c)):=Nat.pow_le_pow_right δ k;omega
noncomputable def Ahy (r:List Be) (v:Int):Int->Option (Int⊕Int):=λb=> bif b<(r.length:Int) then ((Ag r b).bind λc=> bif (c.v==v) then (some (.inl (Ac (b+1)))) else (some (.inr b))) else (some (.inr b))
theorem Bbv {r:List Be} {a:Be} (h0:r[0]? = some a) (q:r.length<=1000) :
  ∃n:Nat,Ak (Ahy r a.v) 1=some (n:Int)/\1<=n/\n<=r.length/\(∀b∈r.take n,b.v=a.v)/\∀b,r[n]? = some b->b.v≠a.v:=by
 have y:=Ec h0
 obtain⟨e,l,n,k,i⟩:=Jm (step:=Ahy r a.v) (λs=>∃n:Nat,s=(n:Int)/\1<=n/\n<=r.length/\∀b∈r.take n,b.v=a.v) (λs=>r.length-s.toNat)
  (λe=>∃n:Nat,e=(n:Int)/\1<=n/\n<=r.length/\(∀b∈r.take n,b.v=a.v)/\∀b,r[n]? = some b->b.v≠a.v) (by
  rintro _ ⟨j,rfl,g,f,c⟩
  unfold Ahy
  rcases Cf j r.length with h|h
  .have C:r[j]? = some r[j]:=Bp h
   generalize r[j]=b at C
   simp only[Ar (ω:(j:Int)<(r.length:Int)),Am,Bn rfl C,Ad,C3 h ω]
   by_cases E:b.v=a.v
   .left
    rw[Eh E]
    refine⟨_,rfl,⟨j+1,rfl,ω,ω,λd o=>?_⟩,ω⟩
    rw[Cs C]at o
    rcases Ef.1 o with o|o
    .exact c d o
    .simp only[D4]at o
     rw[o];exact E
   .right
    rw[C8 E]
    exact⟨_,rfl,j,rfl,g,f,c,λd o=>by rw[C]at o;cases o;exact E⟩
  .right
   refine⟨_,by simp only[A3 (ω:¬(j:Int)<(r.length:Int)),Ap],j,rfl,g,f,c,λd o=>?_⟩
   have:=Ec o
   omega) 1 ⟨1,rfl,ω,ω,λb G=>by
    cases r with
    | nil=>simp at y
    | cons x r=>simp at G h0;rw[G,h0]⟩
 exact⟨n,by rw[<-k];exact l,i⟩
noncomputable def Ye (data:List Ai) (vars:List Af) (res:Af):(List Aj×List Be×List (ByteArray×Int)×List (ByteArray×List Au))->Option ((List Aj×List Be×List (ByteArray×Int)×List (ByteArray×List Au))⊕((List Aj×Int×List (ByteArray×Int)×List (ByteArray×List Au))⊕(List Aj×List (ByteArray×Int)×List (ByteArray×List Au)))):=λ(d,c,f,h)=> bif (c.length:Int)>(0:Int) then ((Ag c 0).bind λe=> (Ak (Ahy c e.v) 1).bind λg=> (F1 c 0 g).bind λj=> (Ru j f h data vars res.G res.U res.R).bind λb=> bif (b.2.1 != (0:Int)) then (some (.inr (.inl ([],b.2.1,f,b.2.2)))) else ((Ak (Acs data vars res b.2.2 e.v b.1 d) (0,f,[])).bind λ(o,l,k)=> (F1 c g c.length).bind λi=> some (.inl (k,i,l,b.2.2)))) else (some (.inr (.inr (d,f,h))))
theorem Axc (data:List Ai) (t:Af) (v:Int) (R:List (Ah×Nat)):∀b:List Nh,(upF data t v R b).length=b.length*R.length
 | []=>by simp[upF]
 | p::b=>by have ih:=Axc data t v R b;unfold upF at ih ⊢;rw[flatMap_cons,Ep,ih,C2,D1,Nat.add_mul];omega
def S0 (l:List Be):Prop:=∃v:Int,3<=(l.filter λf=>f.v==v).length
theorem S0.app (h:S0 m):S0 (l++m):=by obtain⟨v,h⟩:=h;exact⟨v,by rw[filter_append,Ep];omega⟩
theorem S0.perm (hp:l.Perm m) (h:S0 l):S0 m:=by obtain⟨v,h⟩:=h;exact⟨v,by rw[<-(hp.filter _).length_eq];exact h⟩
theorem Ahz {d:Nat} (h:d<=6):10 ^ d<=1000000:=Nat.le_trans (Nat.pow_le_pow_right δ h) δ
theorem Bbw (hz:DSz data) (hv:Hu data) (hx:Ob data vars res) (ae:∀v t,C9 vars res v=some t->Gw data t=true) {c:Rat}:∀(n:Nat) (rest P:List Be) (ts:List Aj) (B:List Nh) (K:Nat) (q:List (ByteArray×Int)) (G:List (ByteArray×List Au)),rest.length<=n->rest.Pairwise (λa b=>a.v<=b.v)->(∀f∈P,∀g∈rest,f.v<g.v)->Ni data vars res (P++rest)->Fp K ts (B.map (Ky c))->Qx data vars res P B->(∀p∈B,p.1.length<=6)->K+202*rest.length<30000000000->Ez data vars res q->PMg data vars res G ->
  ∃z,Ak (Ye data vars res) (ts,rest,q,G)=some z/\((∃j s,S0 rest/\z = .inl ([],9,j,s)/\Ez data vars res j/\PMg data vars res s)\/(∃E M j s,z = .inr (E,j,s)/\Ez data vars res j/\PMg data vars res s/\Fp (K+202*rest.length) E (M.map (Ky c))/\Qx data vars res (P++rest) M)):=by
 intro n
 induction n with
 | zero=>
  intro rest P ts B K q G hn _ _ _ Q V _ _ k J
  have:rest = []:=F3.1 ω
  subst this
  exact⟨.inr (ts,q,G),F0 (by unfold Ye;simp),.inr ⟨ts,B,q,G,rfl,k,J,by simpa using Q,by rw[append_nil];exact V⟩⟩
 | succ n ih=>
  intro rest P ts B K q G hn hS U N Q V ak hK k J
  cases i:rest with
  | nil=>
   exact⟨.inr (ts,q,G),F0 (by unfold Ye;simp),.inr ⟨ts,B,q,G,rfl,k,J,by simpa using Q,by rw[append_nil];exact V⟩⟩
  | cons a r'=>
   rw[<-i]
   have h0:rest[0]? = some a:=by rw[i];rfl
   have ao:0<rest.length:=Ec h0
   have aj:=N.sum
   have a8:=Lp (data:=data) (vars:=vars) (res:=res) (l:=P++rest) λf o=>(N.fac f o).2.2
   rw[Ep]at a8
   obtain⟨m,m1,m2,m3,m4,m5⟩:=Bbv h0 ω
   have I:rest=rest.take m++rest.drop m:=(take_append_drop m rest).symm
   have Y:rest.take m≠[]:=by
    intro h
    have:=congrArg length h
    rw[length_take]at this
    simp only[length_nil]at this
    omega
   have a7:=N.app.2
   have am:Ni data vars res (rest.take m):=by
    rw[I]at a7
    exact a7.app.1
   obtain⟨t,i0,H,t1,t2,t3,t4,t5,t6⟩:=Bbu Y m4 am
   have ap:=(hx.sz a.v t t1)
   have X:Ag rest 0=some a:=Bn (n:=0) rfl h0
   have ac:F1 rest (m:Int) (rest.length:Int)=some (rest.drop m):=by
    unfold F1
    simp[drop_take]
    omega
   have a6:0<=Ct data vars res P:=by
    have:=Lp (data:=data) (vars:=vars) (res:=res) (l:=P) λf o=>(N.fac f (by simp[o])).2.2
    omega
   have ai:(Ct data vars res P).toNat<=6:=by
    have:=Lp (data:=data) (vars:=vars) (res:=res) (l:=rest) λf o=>(N.fac f (by simp[o])).2.2
    rw[Qw]at aj
    omega
   obtain⟨l,e,A,q1,q2,q3⟩:=Bbk hz hv (ae a.v t t1) t1 t2 t4 q J
   rw[<-t3]at q1
   have aq:(rest.drop m).length+m=rest.length:=by rw[length_drop];omega
   rcases q3 with⟨rfl,rfl,C⟩|⟨rfl,R,rfl,y⟩
   .refine⟨.inl ([],9,q,A),F0 ?_,.inl ⟨q,A,⟨a.v,?_⟩,rfl,k,q2⟩⟩
    rotate_left
    .rw[<-take_append_drop m rest,filter_append,Ep,filter_eq_self.2 λf o=>by simp[m4 f o],t3]
     unfold fl
     rw[C2,D1];omega
    unfold Ye
    simp only[Ar (ω:(rest.length:Int)>0),Am,X,Ad,m1,Xf rfl m3,q1]
    rfl
   .have aa:=V.len
    have av:=Ahz ai
    have ah:=y.len
    have h9:B.length*R.length<=1000000:=by
     have ab:=V.step t1 t2 t4 (by rw[<-t3];exact t5) t6 (λf o=>by
      have:=U f o a (by rw[i];simp)
      exact this) a6 y
     have W:=ab.len
     have h2:=Axc data t a.v R B
     rw[h2]at W
     refine Nat.le_trans W (Ahz ?_)
     rw[<-t3]
     have e1:Ct data vars res (P++rest.take m)+Ct data vars res (rest.drop m)=Ct data vars res (P++rest):=by rw[Qw,Qw,Int.add_assoc,<-Qw (rest.take m),take_append_drop]
     have e2:=Lp (data:=data) (vars:=vars) (res:=res) (l:=rest.drop m) λf o=>(N.fac f (by have:=mem_of_mem_drop o;simp[this])).2.2
     omega
    have ad:=t4.len
    simp only[D1]at ad
    have ag:∀w∈R,GI data t (Cd (i0::H)) (Eg data t (i0::H)) w.1/\w.2<Fe:=λw hw=>by
     refine⟨y.cw.mo w hw,?_⟩
     have W:=Pn hw
     have h2:=y.cnt
     have h3:(3:Nat) ^ (Eg data t (i0::H)*H.length)<=3 ^ 36:=Nat.pow_le_pow_right δ (Nat.mul_le_mul t4.sum (show H.length<=6 by omega))
     have h4:(3:Nat) ^ 36<Fe:=by unfold Fe;decide
     omega
    obtain⟨j,T,u1,u2,u3⟩:=Bbt hx A t1 t2 (by have:=t4.siz;omega) t4.sum ag ah ω Q (λp hp=>by have:=ak p hp;omega) ω ω k
    have S:Ye data vars res (ts,rest,q,G)=some (.inl (T,rest.drop m,j,A)):=by
     unfold Ye
     simp only[Ar (ω:(rest.length:Int)>0),Am,X,Ad,m1,Xf rfl m3,q1,show ((0:Int) != 0)=false from rfl,Ap,u1,ac]
    have L:=V.step t1 t2 t4 (by rw[<-t3];exact t5) t6 (λf o=>by
     have:=U f o a (by rw[i];simp)
     exact this) a6 y
    rw[<-t3]at L
    have a0:∀b∈rest.drop m,a.v<b.v:=by
     intro b C
     cases hd:rest.drop m with
     | nil=>rw[hd]at C;cases C
     | cons d D=>
      have u:rest[m]? = some d:=by
       have:=congrArg (λl=>l[0]?) hd
       simpa using this
      have ar:=m5 d u
      have au:a.v<=d.v:=by
       have a1:=hS
       rw[i]at a1
       have af:d∈r':=by
        have k:m=(m-1)+1:=ω
        rw[i,k,getElem?_cons_succ]at u
        exact Bv u
       exact (pairwise_cons.1 a1).1 d af
      have Z:(rest.drop m).Pairwise (λa b=>a.v<=b.v):=Pairwise.sublist (drop_sublist m rest) hS
      rw[hd]at C Z
      rcases Gc.1 C with rfl|C
      .omega
      .have:=(pairwise_cons.1 Z).1 b C
       omega
    have x:P++rest.take m++rest.drop m=P++rest:=by rw[append_assoc,take_append_drop]
    obtain⟨z,z1,z2⟩:=ih (rest.drop m) (P++rest.take m) T (upF data t a.v R B) (K+202) j A ω (Pairwise.sublist (drop_sublist m rest) hS) (λf o g hg=>by
     rcases Ef.1 o with o|o
     .exact U f o g (mem_of_mem_drop hg)
     .rw[m4 f o];exact a0 g hg) (by rw[x];exact N) u3 L (λp hp=>by
     have W:=L.sum p hp
     have h2:=Lp (data:=data) (vars:=vars) (res:=res) (l:=p.1) λf o=>(L.fac p hp f o).2.2.2.1
     have e1:Ct data vars res (P++rest.take m)+Ct data vars res (rest.drop m)=Ct data vars res (P++rest):=by rw[<-Qw,x]
     have e2:=Lp (data:=data) (vars:=vars) (res:=res) (l:=rest.drop m) λf o=>(N.fac f (by have:=mem_of_mem_drop o;simp[this])).2.2
     omega) ω u2 q2
    rw[x]at z2
    refine⟨z,by rw[Lg S,z1],?_⟩
    rcases z2 with⟨y1,y2,y3,y4⟩|⟨E,M,p1,p2,w1,w2,w3,w4,w5⟩
    .exact .inl ⟨y1,y2,by rw[<-take_append_drop m rest];exact y3.app,y4⟩
    .exact .inr ⟨E,M,p1,p2,w1,w2,w3,w4.mono ω,w5⟩
def IsE (A:List Bf) (B:List Ent):Prop:=∃d b,b.Perm A/\Acd b/\Gs d b/\B=Ng [([],1)] d
def Acw (vars:List Af) (res:Af) (L:List Bf):Prop:=L.Pairwise (λa b=>Ib a.L b.L<0)/\∀a∈L,1<=a.P/\Ek a.L=true/\a.L.T.length≠0/\Ji vars res a.L=true
theorem Bbx (l m:List Bf):El (l++m)=El l+El m:=by unfold El;simp[sum_append]
theorem Bby:∀{u:List Grp} {rest:List Bf},Gs u rest->(∀a∈rest,Ek a.L=true/\Ji vars res a.L=true) -> ∀(B:List Ent) (S:Int),(∀b∈B,Acw vars res b.1/\El b.1<=S/\∀a∈b.1,∀r∈rest,Ib a.L r.L<0)->∀b∈Ng B u,Acw vars res b.1/\El b.1<=S+(Dn rest:Nat):=by
 intro u rest h;induction h with
 | nil=>intro _ B S z b o;have:=z b o;exact⟨this.1,by have:=this.2.1;omega⟩
 | @cons l N f g rest u x U E I M ih=>
  intro A B S z;obtain⟨H,j⟩:∃a,a∈g:=(by cases g with| nil=>exact (x rfl).elim| cons a _=>exact⟨a,ψ⟩);have s:=U H j;have q:=A H (by simp[j]);rw[s]at q;have J:∀k,k<N+1->k≠0->l.T.length≠0/\k<=Dn g:=by
   intro k C G;rcases I with⟨V,T⟩|⟨_,T,_⟩
   .exact⟨V,by rw[<-T.1];omega⟩
   .omega
  intro b o;have:=ih (λa e=>A a (by simp[e])) (Iu B l f (N+1)) (S+(Dn g:Nat)) (by
   intro b o;unfold Iu at o;rw[mem_flatMap]at o;obtain⟨k,i,C⟩:=o;have i:=mem_range.1 i;split at C
   .cases C
   .rw[mem_map]at C;obtain⟨d,W,rfl⟩:=C;obtain⟨d1,d2,d3⟩:=z d W;have y:∀a∈d.1,Ib a.L l<0:=λa e=>by have:=d3 a e H (by simp[j]);rwa [s]at this
    unfold atO;by_cases Q:k=0
    .rw[As Q,append_nil];exact⟨d1,by show El d.1<=S+((Dn g:Nat):Int);omega,λa e r c=>d3 a e r (by simp[c])⟩
    .rw[Ao Q];obtain⟨D,L⟩:=J k i Q;refine⟨⟨pairwise_append.2 ⟨d1.1,pairwise_singleton _ _,λa e b o=>?_⟩,λa e=>?_⟩,?_,λa e r c=>?_⟩
     .simp only[D4]at o;subst o;exact y a e
     .rcases Ef.1 e with e|e
      .exact d1.2 a e
      .simp only[D4]at e;subst e;exact⟨by show (1:Int)<=(k:Int);omega,q.1,D,q.2⟩
     .show El (d.1++[⟨l,k⟩])<=_;rw[Bbx];have:El [(⟨l,(k:Int)⟩:Bf)]=(k:Int):=(by simp[El]);omega
     .rcases Ef.1 e with e|e
      .exact d3 a e r (by simp[c])
      .simp only[D4]at e;subst e;exact E r c) b o
  refine⟨this.1,?_⟩;rw[Sv];have:=this.2;omega
theorem Bbz {L:List Bf} (h:Acw x.V x.E L) (k:El L<=6):Ju x ⟨[],L⟩:=by
 have c:(L.length:Int)<=El L:=by have o:∀l:List Bf,(∀a∈l,1<=a.P)->(l.length:Int)<=El l:=(by intro l;induction l with| nil=>intro _;simp[El]| cons f Q ih=>intro b;have E:=b f ψ;have G:=ih λg H=>b g (by simp[H]);unfold El at *;simp only[map_cons,sum_cons,D1];omega);exact o _ λa y=>(h.2 a y).1
 constructor
 .unfold Js;have i:L.zipIdx.all (λq=>Nc x.V x.E L q.1 q.2)=true:=(by rw[Gt];rintro⟨a,j⟩ I;have C:L[j]? = some a:=mk_mem_zipIdx_iff_getElem?.1 I;obtain⟨E,G,J,s⟩:=h.2 a (Bv C);show Nc x.V x.E L a j=true;unfold Nc;have hp:Qm L a j=true:=(by unfold Qm;cases j with| zero=>rfl| succ j=>have b:=Ec C;have N:L[j]? = some L[j]:=Bp ω;have d:=pairwise_iff_getElem.1 h.1 j (j+1) ω b ω;have e:L[j+1]=a:=(by have:=Bp b;rw[C]at this;exact (Fh this).symm);rw[e]at d;simp only[Nat.add_sub_cancel,N,Bool.or_eq_true];exact .inr (decide_eq_true d));rw[hp,Ar E,G,s];simp only[Bool.true_and,Bool.and_true,Bool.not_eq_true',beq_eq_false_iff_ne,ne_eq];exact J);show (([]:List Be).zipIdx.all _&&L.zipIdx.all (λq=>Nc x.V x.E L q.1 q.2)&&decide (Ct x.D x.V x.E []+El L<=6))=true;rw[i];have:Ct x.D x.V x.E []=0:=rfl;rw[this];simp;exact k
 .exact⟨ψ,by show L.length<=1048576;omega,nofun,nofun,λa y=>by have:=(X7 (h.2 a y).2.1).1;omega⟩
def ec:List Ent->A5->Nat
 | [],_=>0
 | b::bs,m=>(if Fd ⟨[],b.1⟩ m=0 then b.2 else 0)+ec bs m
theorem Rep.mem {c:Rat} {bs:List Ent} (h:Rep c K ts bs) {t:Aj} (ht:t∈ts):∃b∈bs,t.M=⟨[],b.1⟩/\rq t.C=c*(b.2:Rat)/\RB K t.C:=by obtain⟨j,d⟩:=Hh ht;obtain⟨b,b1,b2⟩:=h.get d;exact⟨b,Bv b1,b2⟩
def Anf (L:Nat) (p:List Aj):Prop:=∀t∈p,∃z:Int,rq t.C=(z:Rat)/\Ck z.natAbs<=L
theorem Bb0 {z:Int} (b:Ho a) (h:rq a=(z:Rat)):a=C6 (decide (z<0)) z.natAbs 1:=by
 refine Aly b (U7 _ _ _ δ) ?_;rw[h,Qo _ _ _ δ,Ahi];congr 1;unfold sg;by_cases h:z<0
 .rw[Ar h,As rfl];omega
 .rw[A3 h,Ao δ];omega
theorem Bb1 {z:Int} (d:Ho a) (h:rq a=(z:Rat)) (b:Ck z.natAbs<=L):RB (L+1) a:=by rw[Bb0 d h];exact Oc _ _ _ _ ω (by rw[Sl];omega) ω
theorem Anf.of (hc:CP p) (h:∀m,∃z:Int,cf p m=(z:Rat)/\Ck z.natAbs<=L):Anf L p:=λt d=>by obtain⟨z,b,e⟩:=h t.M;exact⟨z,by rw[<-A7e hc d];exact b,e⟩
structure IP (x:B9) (n L:Nat) (f:A5->Rat) (R:List Aj):Prop where
 cp:CP R
 val:∀m,cf R m=f m
 mo:∀t∈R,Ju x t.M
 len:R.length<=n
 int:Anf L R
theorem IP.can {f:A5->Rat} {R:List Aj} (h:IP x n L f R) (c:n<=1000) (g:L<=1000000):Kf x R := Kf.of h.cp h.mo (λt d=>by obtain⟨z,b,e⟩:=h.int t d;exact (Bb1 (h.cp.coe t d).1 b e).mono ω) (by have:=h.len;omega)
theorem Ang (a b:Bq):N3 a b=some (F7 a.v b.v):=by unfold N3;rw[Pg];rfl
theorem Po {a b:Int}:F7 a b<0↔a<b:=by unfold F7;split <;> (try split) <;> omega
theorem Axd:Nu (λa b:Bq=>F7 a.v b.v) := ⟨λx h=>by have:=Po.1 h;omega,λx y z d e=>by have:=Po.1 d;have:=Po.1 e;exact Po.2 ω,λx y z d e h=>by have:=Po.1 h;have:=mt Po.2 d;have:=mt Po.2 e;omega⟩
theorem Bb2 (c:List Bq) (f:c.length<=12):∃R,T6 c=some R/\R.Perm c/\R.Pairwise (λa b=>a.v<=b.v):=by
 obtain⟨R,g,d,o⟩:=Amq (cmp:=N3) Axd c (λx _ y _=>Ang x y) ω;obtain⟨v,s⟩:=Amh (n:=c.length) ω;refine⟨R,?_,d,o.imp λ{a b} h=>?_⟩
 .unfold T6;rw[Nat.ble_eq_true_of_le f,Am];unfold Akt;rw[s,Ad];have hp:Aaj 0 (c.length:Int) v c=some R:=(by unfold Aaj;have e:Ae7 0 (c.length:Int) c=X0 N3 0 (c.length:Int) c:=rfl;have w:Ac ((c.length:Int)-0)=(c.length:Int):=ξ;refine bnd (a:=R) (F0 ?_) rfl;rw[w,Ar ω,Am,e,g,Ad,Ku d.length_eq.symm];rfl);rw[hp,Ad,Ku d.length_eq.symm];rfl
 .have:=mt Po.2 h;omega
def cl:List Bq->Int->Int
 | [],_=>0
 | t::l,v=>(if t.v=v then t.C else 0)+cl l v
theorem Ah0 (l m:List Bq) (v:Int):cl (l++m) v=cl l v+cl m v:=by induction l with| nil=>simp[cl]| cons t l ih=>simp only[D0,cl,ih];omega
theorem Bb3 {l m:List Bq} (h:l.Perm m) (v:Int):cl l v=cl m v:=by induction h with| nil=>rfl| cons t _ ih=>simp only[cl,ih]| swap a b l=>simp only[cl];omega| trans _ _ d e=>exact d.trans e
theorem S3 {l:List Bq} {v:Int} (h:∀t∈l,t.v≠v):cl l v=0:=by induction l with| nil=>rfl| cons t l ih=>simp only[cl];rw[Ao (h t ψ),ih λu b=>h u (by simp[b])];rfl
structure Nj (L:List Bq):Prop where
 srt:L.Pairwise λa b=>a.v<b.v
 nz:∀t∈L,t.C≠0
theorem Nj.ext:∀{L M:List Bq},Nj L->Nj M->(∀v,cl L v=cl M v)->L=M:=by
 intro L;induction L with
 | nil=>intro M _ b h;cases M with| nil=>rfl| cons t M=>have:=h t.v;simp only[cl,if_true]at this;rw[S3 λu d=>by have:=(pairwise_cons.1 b.srt).1 u d;omega]at this;exact (b.nz t ψ ω).elim
 | cons s L ih=>
  intro M c b h;have f:cl (s::L) s.v=s.C:=(by simp only[cl,if_true];rw[S3 λu d=>by have:=(pairwise_cons.1 c.srt).1 u d;omega];omega);cases M with
  | nil=>have:=h s.v;rw[f]at this;exact (c.nz s ψ (by simpa[cl] using this)).elim
  | cons t M=>
   have g:cl (t::M) t.v=t.C:=(by simp only[cl,if_true];rw[S3 λu d=>by have:=(pairwise_cons.1 b.srt).1 u d;omega];omega);have hv:s.v=t.v:=by
    rcases Int.lt_trichotomy s.v t.v with k|k|k
    .have h1:=h s.v;rw[f,S3 (l:=t::M) λu d=>by
      rcases Gc.1 d with rfl|d
      .omega
      .have:=(pairwise_cons.1 b.srt).1 u d;omega]at h1
     exact (c.nz s ψ h1).elim
    .exact k
    .have h1:=h t.v;rw[g,S3 (l:=s::L) λu d=>by
      rcases Gc.1 d with rfl|d
      .omega
      .have:=(pairwise_cons.1 c.srt).1 u d;omega]at h1
     exact (b.nz t ψ h1.symm).elim
   have hc:s.C=t.C:=(by rw[<-f,<-g,h,hv]);have e:s=t:=(by cases s;cases t;simp only at hv hc;rw[hv,hc]);subst e;rw[ih (M:=M) ⟨(pairwise_cons.1 c.srt).2,λu d=>c.nz u (by simp[d])⟩ ⟨(pairwise_cons.1 b.srt).2,λu d=>b.nz u (by simp[d])⟩ λv=>by have:=h v;simp only[cl]at this;omega]
noncomputable def Ah1 (r:List Bq) (f:Int):Int×Int->Option ((Int×Int)⊕(Int×Int)):=λ(d,e)=> (show OB from bif d<(r.length:Int) then ((Ag r d).bind λg=> some (g.v==f)) else (some false)).bind λc=>
 bif c then ((Ag r d).bind λb=> some (.inl ((Ac (d+1)),(Ac (e+b.C))))) else (some (.inr (d,e)))
def LBd (l:List Bq):Prop:=∀t∈l,-1099511627776<=t.C/\t.C<=1099511627776
theorem Bb4 {l:List Bq} (h:LBd l) (v:Int) : -(l.length*1099511627776:Int)<=cl l v/\cl l v<=(l.length*1099511627776:Int):=by induction l with| nil=>simp[cl]| cons t l ih=>have d:=h t ψ;have e:=ih λu b=>h u (by simp[b]);simp only[cl,D1];split <;> omega
theorem Bb5 {t:Bq} (N:r[k]? = some t) (G:r.length<=1000) (hb:LBd r) :
  ∃n:Nat,Ak (Ah1 r t.v) ((k:Int),0)=some ((n:Int),cl ((r.take n).drop k) t.v)/\k<n/\n<=r.length/\(∀u∈(r.take n).drop k,u.v=t.v)/\∀u,r[n]? = some u->u.v≠t.v:=by
 have x:=Ec N
 obtain⟨e,E,n,D,B⟩:=Jm (step:=Ah1 r t.v) (λs=>∃n:Nat,s=((n:Int),cl ((r.take n).drop k) t.v)/\k<=n/\n<=r.length/\∀u∈(r.take n).drop k,u.v=t.v) (λs=>r.length-s.1.toNat)
  (λe=>∃n:Nat,e=((n:Int),cl ((r.take n).drop k) t.v)/\k<n/\n<=r.length/\(∀u∈(r.take n).drop k,u.v=t.v)/\∀u,r[n]? = some u->u.v≠t.v) (by
  rintro _ ⟨j,rfl,y,g,c⟩
  unfold Ah1
  rcases Cf j r.length with h|h
  .have C:r[j]? = some r[j]:=Bp h
   have i:=getElem_mem h
   generalize r[j]=b at C i
   have A:=hb b i
   have z:=Bb4 (l:=(r.take j).drop k) (λu J=>hb u (mem_of_mem_take (mem_of_mem_drop J))) t.v
   have q:((r.take j).drop k).length<=1000:=by simp;omega
   have T:Ac (cl ((r.take j).drop k) t.v+b.C)=cl ((r.take j).drop k) t.v+b.C:=by
    have I:(((r.take j).drop k).length:Int)*1099511627776<=1000*1099511627776:=Int.mul_le_mul_of_nonneg_right ω δ
    rw[Ac,Ci] <;> omega
   have f:(r.take (j+1)).drop k=(r.take j).drop k++[b]:=by
    rw[Cs C,List.drop_append_of_le_length ζ]
   simp only[Ar (ω:(j:Int)<(r.length:Int)),Am,Bn rfl C,Ad,C3 h ω,T]
   by_cases H:b.v=t.v
   .left
    rw[Eh H]
    refine⟨_,rfl,⟨j+1,?_,ω,ω,λd o=>?_⟩,ζ⟩
    .rw[f,Ah0]
     simp[cl,H]
    .rw[f]at o
     rcases Ef.1 o with o|o
     .exact c d o
     .simp only[D4]at o
      rw[o];exact H
   .right
    rw[C8 H]
    refine⟨_,rfl,j,rfl,?_,g,c,λd o=>by rw[C]at o;cases o;exact H⟩
    rcases Cf k j with Q|Q
    .exact Q
    .have:j=k:=ω
     subst this
     rw[N]at C;cases C
     exact (H rfl).elim
  .right
   refine⟨_,by simp only[A3 (ω:¬(j:Int)<(r.length:Int)),Ap,Ad],j,rfl,ω,g,c,λd o=>?_⟩
   have:=Ec o
   omega) ((k:Int),0) ⟨k,by simp[cl],ω,ω,λu J=>by simp at J⟩
 exact⟨n,by rw[<-D];exact E,B⟩
noncomputable def Ah2 (r:List Bq):Int×List Bq->Option ((Int×List Bq)⊕List Bq):=λ(d,b)=> bif d<((r.length:Nat):Int) then ((Ag r d).bind λe=> (Ak (Ah1 r e.v) (d,0)).bind λ(g,h)=> bif (h != (0:Int)) then ((B8 16 b [(Bq.mk e.v h)]).bind λc=> some (.inl (g,c))) else (some (.inl (g,b)))) else (some (.inr b))
theorem Bb6 (I:r.Pairwise λa b=>a.v<=b.v) (J:r.length<=1000) (hb:LBd r):∃L,Ak (Ah2 r) (0,[])=some L/\Nj L/\(∀v,cl L v=cl r v)/\L.length<=r.length:=by
 obtain⟨L,R,N⟩:=Jm (step:=Ah2 r) (λs=>∃(k:Nat) (L:List Bq),s=((k:Int),L)/\k<=r.length/\Nj L/\L.length<=k/\(∀v,cl L v=cl (r.take k) v)/\∀t∈L,∀u∈r.drop k,t.v<u.v) (λs=>r.length-s.1.toNat)
  (λL=>Nj L/\(∀v,cl L v=cl r v)/\L.length<=r.length) (by
  rintro _ ⟨k,L,rfl,X,x,M,C,U⟩
  unfold Ah2
  rcases Cf k r.length with h|h
  .left
   have H:r[k]? = some r[k]:=Bp h
   generalize r[k]=t at H
   obtain⟨n,G,E,B,W,D⟩:=Bb5 H J hb
   have c:r.take n=r.take k++(r.take n).drop k:=by
    have h:=(take_append_drop k (r.take n)).symm
    rwa [take_take,Nat.min_eq_left ω]at h
   have j:∀v,v≠t.v->cl ((r.take n).drop k) v=0:=λv C=>S3 λu o e=>C (by rw[<-e,W u o])
   have i:∀u∈r.drop n,u∈r.drop k:=λu o=>by
    have:r.drop n=(r.drop k).drop (n-k):=by rw[drop_drop];congr 1;omega
    rw[this]at o
    exact mem_of_mem_drop o
   have z:t∈r.drop k:=by rw[Jz H];simp
   have f:∀u∈r.drop n,t.v<u.v:=by
    intro u o
    rcases Cf n r.length with V|V
    .have Q:r[n]? = some r[n]:=Bp V
     generalize r[n]=w at Q
     have hw:=D w Q
     have hp:=pairwise_append.1 (by rw[take_append_drop];exact I:(r.take n++r.drop n).Pairwise λa b=>a.v<=b.v)
     have A:t∈r.take n:=by
      rw[c]
      have:(r.take n).drop k=t::(r.take n).drop (k+1):=Jz (by rw[getElem?_take_of_lt E];exact H)
      rw[this];simp
     have y:w∈r.drop n:=by rw[Jz Q];simp
     have a1:=hp.2.2 t A w y
     have g:=hp.2.1
     rw[Jz Q]at g o
     rcases Gc.1 o with rfl|o
     .omega
     .have:=(pairwise_cons.1 g).1 u o;omega
    .rw[drop_eq_nil_of_le V]at o;cases o
   simp only[Ar (ω:(k:Int)<(r.length:Int)),Am,Bn rfl H,Ad,G]
   by_cases T:cl ((r.take n).drop k) t.v=0
   .refine⟨((n:Int),L),?_,⟨n,L,rfl,B,x,ω,λv=>?_,λa d u o=>U a d u (i u o)⟩,ζ⟩
    .rw[T];rfl
    .have q:cl (r.take n) v=cl (r.take k) v+cl ((r.take n).drop k) v:=(congrArg (λl=>cl l v) c).trans (Ah0 _ _ _)
     rw[q,C]
     by_cases e:v=t.v
     .rw[e,T];omega
     .rw[j v e];omega
   .refine⟨((n:Int),L++[⟨t.v,cl ((r.take n).drop k) t.v⟩]),?_,⟨n,_,rfl,B,⟨?_,?_⟩,ζ,λv=>?_,λa d u o=>?_⟩,ζ⟩
    .rw[F4 T,Am,Dy ζ];rfl
    .refine pairwise_append.2 ⟨x.srt,pairwise_singleton _ _,λa d b hb=>?_⟩
     simp only[D4]at hb
     subst hb
     exact U a d t z
    .intro a d
     rcases Ef.1 d with d|d
     .exact x.nz a d
     .simp only[D4]at d
      subst d;exact T
    .have q:cl (r.take n) v=cl (r.take k) v+cl ((r.take n).drop k) v:=(congrArg (λl=>cl l v) c).trans (Ah0 _ _ _)
     rw[q,Ah0,C]
     simp only[cl]
     by_cases e:t.v=v
     .rw[As e,<-e];omega
     .rw[Ao e,j v λh=>e h.symm];omega
    .rcases Ef.1 d with d|d
     .exact U a d u (i u o)
     .simp only[D4]at d
      subst d;exact f u o
  .right
   have:k=r.length:=ω
   subst this
   rw[C1]at C
   exact⟨L,by simp only[A3 (ω:¬(r.length:Int)<(r.length:Int)),Ap],x,C,M⟩) (0,[]) ⟨0,[],rfl,ω,⟨Pairwise.nil,λ_ h=>by cases h⟩,ψ,λv=>by simp[cl],λ_ h=>by cases h⟩
 exact⟨L,R,N⟩
def Anh (c:Int) (L:List Bq):Bg×Int:=if Ek ⟨c,L⟩=true then (⟨c,L⟩,0) else (⟨0,[]⟩,9)
theorem Ani {a:Bg} (h:Ek a=true):∀t∈a.T,-1048576<=t.C/\t.C<=1048576:=by intro t b;obtain⟨j,d⟩:=Hh b;unfold Ek at h;rw[Cz,Gt]at h;have:=h.2 (t,j) (mk_mem_zipIdx_iff_getElem?.2 d);unfold U1 at this;simp only[Cz,Ds]at this;exact⟨this.1.2.2.2.1,this.1.2.2.2.2⟩
def NoF (x:B9) (D:Nat) (m:A5):Prop:=Ju x m/\m.F = []/\El m.A<=(D:Nat)
theorem NoF.mono {D':Nat} {m:A5} (h:NoF x D m) (hd:D<=D'):NoF x D' m:=⟨h.1,h.2.1,by have:=h.2.2;omega⟩
theorem Gs.nil_of {c:List Grp} (h:Gs c A):A = []->c = []:=by cases h with| nil=>exact λ_=>rfl| cons b _ _ _ _=>exact λe=>absurd (append_eq_nil_iff.1 e).1 b
theorem IsE.one {a:Bf} (h:IsE [a] B):B.length<=1:=by
 obtain⟨gs,G,x,I,q,rfl⟩:=h;have E:G = [a]:=perm_singleton.1 x;rw[E]at q;generalize c:[a]=X at q;cases q with
 | nil=>cases c
 | @cons l N f g rest gs s U J z D=>
  have L:g.length+rest.length=1:=(by have:=congrArg length c;simpa using this.symm);have y:g.length=1:=(by have:=length_pos_iff.2 s;have:rest.length≠1\/g.length=0:=ω;omega);have b:rest = []:=F3.1 ω;subst b;rw[append_nil]at c;subst c;have u:=D.nil_of rfl;subst u
  .show (Iu [([],1)] l f (N+1)).length<=1;have o:∀n,(∀i j,i<n->j<n->f i≠0->f j≠0->i=j)->(Iu [(([],1):Ent)] l f n).length<=1/\((Iu [(([],1):Ent)] l f n).length=1->∃i,i<n/\f i≠0):=by
    intro n;induction n with
    | zero=>intro _;simp[Iu]
    | succ n ih=>
     intro h;obtain⟨Q,H⟩:=ih λi j hi d=>h i j ω ω;rw[Awa,Ep];by_cases h0:f n=0
     .rw[As h0];refine⟨by simpa using Q,λe=>?_⟩;obtain⟨i,T,C⟩:=H (by simpa using e);exact⟨i,ω,C⟩
     .rw[Ao h0];have:(Iu [(([],1):Ent)] l f n).length≠1:=λe=>by obtain⟨i,T,C⟩:=H e;have:=h i n ω ω C h0;omega
      refine⟨by simp only[C2,length_singleton];omega,λ_=>⟨n,ω,h0⟩⟩
   refine (o (N+1) ?_).1;rcases z with⟨_,h2⟩|⟨_,h2,_⟩
   .have e:∀k,k<N+1->f k=if k=N then 1 else 0:=by refine A8u λn _=>?_;rw[h2.2.2 n];have A:N=a.P.toNat:=(by have:=h2.1;simpa[Dn] using this);rw[Ab6 (k:=N) ω (λj d=>by simp[d])];simp[prb,A]
    intro i j hi d h1 h2;rw[e i hi]at h1;rw[e j d]at h2;split at h1
    .split at h2
     .omega
     .exact (h2 rfl).elim
    .exact (h1 rfl).elim
   .intro i j hi d _ _;omega
noncomputable def eB (A:List Bf):List Ent:=open Classical in if h:∃B,IsE A B then Classical.choose h else []
def sq:Nat->(Nat->Rat)->Rat
 | 0,_=>0
 | n+1,f=>sq n f+f n
def cs (K:Nat):Nat->Nat
 | 0=>0
 | j+1=>cs K j+(1+min j (K-j))
theorem Nj.cl {L:List Bq} (h:Nj L) {t:Bq} (ht:t∈L):Ab.cl L t.v=t.C:=by
 induction L with
 | nil=>cases ht
 | cons s L ih=>
  simp only[Ab.cl];rcases Gc.1 ht with rfl|b
  .rw[As rfl,S3 λu d=>by have:=(pairwise_cons.1 h.srt).1 u d;omega];omega
  .have:=(pairwise_cons.1 h.srt).1 t b;rw[Ao ω,ih ⟨(pairwise_cons.1 h.srt).2,λu d=>h.nz u (by simp[d])⟩ b];omega
theorem Bb7 (f:α->Int) (l:List α) (h:∀j x,l[j]? = some x->Ml f l x j=true):l.Pairwise λa b=>f a<f b:=by
 have step:∀j x y,l[j]? = some x->l[j+1]? = some y->f x<f y:=by intro j x y s C;have:=h (j+1) y C;unfold Ml at this;rw[Nat.add_sub_cancel,s]at this;simpa using this
 have c:∀d j x y,l[j]? = some x->l[j+d+1]? = some y->f x<f y:=by intro d;induction d with| zero=>exact λj x y o e=>step j x y o e| succ d ih=>intro j x y o e;have g:l[j+d+1]? = some (l[j+d+1]'(by have:=Ec e;omega)):=Bp _;have I:=ih j x _ o g;have J:=step _ _ _ g e;omega
 rw[pairwise_iff_getElem];intro i j E G k;obtain⟨d,H⟩:∃d,j=i+d+1:=⟨j-i-1,ω⟩;subst H;exact c d i _ _ (Bp E) (Bp G)
def Acx (x:B9) (m:A5):Int:=Ct x.D x.V x.E m.F+El m.A
structure Yf (x:B9) (m:A5):Prop where
 fac:∀f∈m.F,1<=D3 x.D x.V x.E f
 asc:m.F.Pairwise λa b=>a.v<b.v
 atm:∀a∈m.A,1<=a.P/\Ek a.L=true/\a.L.T.length≠0/\Ji x.V x.E a.L=true
 srt:m.A.Pairwise λa b=>Ib a.L b.L<0
 deg:Acx x m<=6
theorem Ju.f {m:A5} (h:Ju x m):Yf x m:=by
 have hc:=h.1;unfold Js at hc;rw[Cz,Cz,Ds]at hc;obtain⟨⟨h1,h2⟩,h3⟩:=hc;have o:∀j f,m.F[j]? = some f->1<=D3 x.D x.V x.E f/\Ml (·.v) m.F f j=true:=λj f e=>by have:=Je h1 e;unfold Pi at this;rw[Cz,Ds]at this;exact this
 have s:∀j a,m.A[j]? = some a->(1<=a.P/\Ek a.L=true/\a.L.T.length≠0/\Ji x.V x.E a.L=true)/\Qm m.A a j=true:=λj a e=>by have:=Je h2 e;unfold Nc at this;simp only[Cz,Ds,Bool.not_eq_true',beq_eq_false_iff_ne,ne_eq]at this;exact⟨⟨this.1.1.1.1,this.1.1.1.2,this.1.1.2,this.1.2⟩,this.2⟩
 refine⟨λf hf=>?_,Bb7 _ _ λj f e=>(o j f e).2,λa ha=>?_,?_,h3⟩
 .obtain⟨j,e⟩:=Hh hf;exact (o j f e).1
 .obtain⟨j,e⟩:=Hh ha;exact (s j a e).1
 .have step:∀j x y,m.A[j]? = some x->m.A[j+1]? = some y->Ib x.L y.L<0:=(by intro j x y hx hy;have:=(s (j+1) y hy).2;unfold Qm at this;rw[Nat.add_sub_cancel,hx]at this;simpa using this);have b:∀d j x y,m.A[j]? = some x->m.A[j+d+1]? = some y->Ib x.L y.L<0:=(by intro d;induction d with| zero=>exact λj x y h1 h2=>step j x y h1 h2| succ d ih=>intro j x y h1 h2;have c:m.A[j+d+1]? = some (m.A[j+d+1]'(by have:=Ec h2;omega)):=Bp _;exact Ahg.trs _ _ _ (ih j x _ h1 c) (step _ _ _ c h2));rw[pairwise_iff_getElem];intro i j hi e g;obtain⟨d,hd⟩:∃d,j=i+d+1:=⟨j-i-1,ω⟩;subst hd;exact b d i _ _ (Bp hi) (Bp e)
theorem Yf.fsum0 {m:A5} (h:Yf x m):0<=Ct x.D x.V x.E m.F:=by
 have d:∀l:List Be,(∀f∈l,1<=D3 x.D x.V x.E f)->0<=Ct x.D x.V x.E l:=λl=>by induction l with| nil=>intro _;simp[Ct]| cons f l ih=>intro b;have h1:=b f ψ;have h2:=ih λg e=>b g (by simp[e]);unfold Ct at *;simp only[map_cons,sum_cons];omega
 exact d _ h.fac
theorem Bb8 {l:List Bf} (h:∀a∈l,1<=a.P):El l=(Dn l:Nat)/\l.length<=Dn l:=by induction l with| nil=>exact⟨rfl,Nat.le_refl _⟩| cons a l ih=>obtain⟨e,c⟩:=ih λb d=>h b (by simp[d]);have f:=h a ψ;unfold El at *;simp only[map_cons,sum_cons,Dn,D1];omega
theorem Yf.as {m:A5} (h:Yf x m):El m.A=(Dn m.A:Nat)/\m.A.length<=Dn m.A:=Bb8 λa ha=>(h.atm a ha).1
def Gd (v:Bg->Nat):List Bf->Nat
 | []=>1
 | a::l=>bc (v a.L) a.P.toNat*Gd v l
theorem Acy (v:Bg->Nat) (l m:List Bf):Gd v (l++m)=Gd v l*Gd v m:=by induction l with| nil=>simp[Gd]| cons a l ih=>simp only[D0,Gd,ih,Nat.mul_assoc]
theorem Axe (v:Bg->Nat) {l m:List Bf} (h:l.Perm m):Gd v l=Gd v m:=by induction h with| nil=>rfl| cons a _ ih=>simp only[Gd,ih]| swap a b l=>simp only[Gd];rw[<-Nat.mul_assoc,<-Nat.mul_assoc,Nat.mul_comm (bc (v b.L) _)]| trans _ _ d e=>exact d.trans e
theorem Anj {v:Bg->Nat} {l:Bg}:∀{g:List Bf},(∀a∈g,a.L=l)->Gd v g=prb (v l) g
 | [],_=>rfl
 | a::g,h=>by simp only[Gd,prb];rw[h a ψ,Anj λb d=>h b (by simp[d])]
def Jw (v:Bg->Nat):List Ent->Nat
 | []=>0
 | b::bs=>b.2*Gd v b.1+Jw v bs
theorem Bb9 (v:Bg->Nat) (B C:List Ent):Jw v (B++C)=Jw v B+Jw v C:=by induction B with| nil=>simp[Jw]| cons b B ih=>simp only[D0,Jw,ih,Nat.add_assoc]
theorem Bca (v:Bg->Nat) (l:Bg) (k c:Nat) (B:List Ent):Jw v (B.map λb=>(b.1++atO l k,b.2*c))=Jw v B*(c*bc (v l) k):=by
 have d:Gd v (atO l k)=bc (v l) k:=by
  unfold atO;by_cases h:k=0
  .subst h;rw[As rfl,J1];rfl
  .rw[Ao h];simp[Gd]
 induction B with| nil=>simp[Jw]| cons b B ih=>simp only[map_cons,Jw,ih,Acy,d];rw[Nat.add_mul];congr 1;rw[Nat.mul_assoc,Nat.mul_assoc,<-Nat.mul_assoc c,Nat.mul_comm c,Nat.mul_assoc]
theorem Axf (v:Bg->Nat) (B:List Ent) (l:Bg) (f:Nat->Nat):∀n,Jw v (Iu B l f n)=Jw v B*sm n λk=>f k*bc (v l) k
 | 0=>by simp[Iu,Jw,sm]
 | n+1=>by
  rw[Awa,Bb9,Axf v B l f n];show _=Jw v B*(sm n (λk=>f k*bc (v l) k)+f n*bc (v l) n);rw[Nat.mul_add];congr 1;by_cases h:f n=0
  .rw[As h,h];simp[Jw]
  .rw[Ao h,Bca]
def Qy (v:Bg->Nat):Prop:=∀l:Bg,l.T.length=0->v l=l.Q.toNat
theorem Gs.val (hv:Qy v):∀{b:List Grp} {A:List Bf},Gs b A->∀B,Jw v (Ng B b)=Jw v B*Gd v A:=by
 intro b A h;induction h with
 | nil=>intro B;simp[Ng,Gd]
 | @cons l N f g rest b c d j i k ih=>
  intro B;show Jw v (Ng (Iu B l f (N+1)) b)=_;rw[ih,Axf,Acy,Anj d,<-Nat.mul_assoc];congr 2;rcases i with⟨_,_,_,h3⟩|⟨h1,h2,h3⟩
  .exact h3 (v l)
  .subst h2;rw[hv l h1];simp[sm,J1,h3]
theorem IsE.val (hv:Qy v) (h:IsE A B):Jw v B=Gd v A:=by obtain⟨gs,g,c,f,b,rfl⟩:=h;rw[b.val hv,<-Axe v c];simp[Jw,Gd]
def eW (c:Rat) (B:List Ent):List (Rat×A5):=B.map λb=>(c*(b.2:Rat),⟨[],b.1⟩)
def fv (val:Int->Ay) (l:Bg):Nat:=(Lo val l).toNat
theorem Bcb (val:Int->Ay):Qy (fv val):=λl h=>by unfold fv Lo;rw[F3.1 h];simp
theorem Bcc (x:B9) (val:Int->Ay) (L:List Bf):Sw x val ⟨[],L⟩=Gd (fv val) L:=by
 unfold Sw;have h:∀L:List Bf,Dz (L.map (Qq val))=Gd (fv val) L:=by intro L;induction L with| nil=>rfl| cons a L ih=>rw[map_cons];show Qq val a*Dz (L.map (Qq val))=_;rw[ih];rfl
 rw[h];show 1*_=_;rw[Nat.one_mul]
theorem Bcd {m:A5} (b:Ju x m) {L:List Bf} (h:Acw x.V x.E L) (c:Ct x.D x.V x.E m.F+El L<=6):Ju x ⟨m.F,L⟩:=by have o:=b.f.fsum0;obtain⟨d,g⟩:=Bbz h ω;have e:=b.1;unfold Js at e d;rw[Cz,Cz]at e d;refine⟨?_,⟨b.2.nf,g.na,b.2.fi,b.2.fr,g.al⟩⟩;unfold Js;rw[Cz,Cz];exact⟨⟨e.1.1,d.1.2⟩,decide_eq_true c⟩
theorem Bce (x:B9) (val:Int->Ay) (F:List Be) (L:List Bf):Sw x val ⟨F,L⟩=Dz (F.map (Lc x val))*Gd (fv val) L:=by have h:=Bcc x val L;unfold Sw at h ⊢;rw[<-h];show _=_*(1*_);rw[Nat.one_mul]
def ls (g:Int->Int):List Bq->Int
 | []=>0
 | t::l=>t.C*g t.v+ls g l
def J7 (v:Int) (l:List Bq):List Bq:=l.filter λt=>!(t.v==v)
theorem Ank (g:Int->Int) (v:Int):∀l,ls g l=cl l v*g v+ls g (J7 v l)
 | []=>by simp[ls,cl,J7]
 | t::l=>by
  have ih:=Ank g v l;unfold J7 at *;simp only[ls,cl,filter_cons];by_cases h:t.v=v
  .rw[As h,Eh h,Ao δ,ih,<-h,Int.add_mul];omega
  .rw[Ao h,C8 h,As δ];simp only[ls];rw[ih,Int.zero_add];omega
theorem Anl (v w:Int):∀l,cl (J7 v l) w=if w=v then 0 else cl l w
 | []=>by simp[J7,cl]
 | t::l=>by
  have ih:=Anl v w l;unfold J7 at *;simp only[cl,filter_cons];by_cases h:t.v=v
  .rw[Eh h,Ao δ,ih];by_cases b:w=v
   .rw[As b,As b]
   .rw[Ao b,Ao b,Ao ω];omega
  .rw[C8 h,As δ];simp only[cl];rw[ih];by_cases b:w=v
   .rw[As b,As b,Ao ω];rfl
   .rw[Ao b,Ao b]
theorem Anm (v:Int) (l:List Bq):(J7 v l).length<=l.length:=length_filter_le _ _
theorem Bcf (g:Int->Int):∀(n:Nat) (L M:List Bq),L.length+M.length<=n->(∀v,cl L v=cl M v)->ls g L=ls g M:=by
 intro n;induction n with
 | zero=>intro L M h _;have d:L = []:=F3.1 ω;have o:M = []:=F3.1 ω;rw[d,o]
 | succ n ih=>
  intro L M h s;have b:∀v,(J7 v L).length+(J7 v M).length<L.length+M.length->ls g L=ls g M:=λv y=>by rw[Ank g v L,Ank g v M,s v,ih (J7 v L) (J7 v M) ω λw=>by rw[Anl,Anl,s w]]
  cases L with
  | cons t L=>refine b t.v ?_;have d:=Anm t.v L;have o:=Anm t.v M;have e:J7 t.v (t::L)=J7 t.v L:=(by unfold J7;rw[filter_cons,Eh rfl,Ao δ]);rw[e];simp only[D1];omega
  | nil=>cases M with| nil=>rfl| cons t M=>refine b t.v ?_;have d:=Anm t.v M;have e:J7 t.v (t::M)=J7 t.v M:=(by unfold J7;rw[filter_cons,Eh rfl,Ao δ]);rw[e];simp only[D1,length_nil,J7,filter_nil];unfold J7 at d;omega
theorem Bcg (g:Int->Int) (l m:List Bq):ls g (l++m)=ls g l+ls g m:=by induction l with| nil=>simp[ls]| cons t l ih=>simp only[D0,ls,ih];omega
theorem Ano (val:Int->Ay) (l:Bg):Lo val l=l.Q+ls (λv=>(val v).U) l.T:=by
 unfold Lo;congr 1;have h:∀L:List Bq,(L.map λt=>t.C*(val t.v).U).sum=ls (λv=>(val v).U) L:=by intro L;induction L with| nil=>rfl| cons t L ih=>simp only[map_cons,sum_cons,ih,ls]
 exact h _
structure PX (x:B9) (n k:Nat) (R:List Aj):Prop where
 cp:CP R
 mo:∀t∈R,Ju x t.M
 rb:∀t∈R,RB k t.C
 len:R.length<=n
theorem PX.can {R:List Aj} (h:PX x n k R) (b:n<=1000) (hk:k<=1048576):Kf x R := Kf.of h.cp h.mo (λt d=>(h.rb t d).mono hk) (Nat.le_trans h.len b)
theorem Bch:Nu (λa b:Be=>a.v-b.v):=⟨λ_ h=>ω,λ_ _ _ d e=>ω,λ_ _ _ d e g=>ω⟩
theorem Bci (d:∀f∈F,-1<=f.v/\f.v<=1000000000) (c:F.length<20):∃R,Zn F=some R/\R.Perm F/\R.Pairwise (λa b=>a.v<=b.v):=by obtain⟨R,o,g,s⟩:=Av8 (cmp:=Wm) Bch F (λx C y E=>by have:=d x C;have:=d y E;unfold Wm;have w:Ac (x.v-y.v)=x.v-y.v:=ξ;rw[w]) c;refine⟨R,?_,g,s.imp λ{a b} h=>ω⟩;unfold Zn;have e:Aeu (F.length:Int) F=Ahf Wm (F.length:Int) F:=rfl;rw[e,o,Ad,Ku g.length_eq.symm];rfl
theorem Anp (h:l.Perm m):Ct data vars res l=Ct data vars res m:=by induction h with| nil=>rfl| cons a _ ih=>simp only[Ct,map_cons,sum_cons]at ih ⊢;omega| swap a b l=>simp only[Ct,map_cons,sum_cons];omega| trans _ _ d e=>exact d.trans e
theorem Axg {l m:List Nat} (h:l.Perm m):l.sum=m.sum:=by induction h with| nil=>rfl| cons a _ ih=>simp only[sum_cons,ih]| swap a b l=>simp only[sum_cons];omega| trans _ _ d e=>exact d.trans e
theorem Ni.perm (hp:l.Perm m) (h:Ni data vars res m):Ni data vars res l:=by refine⟨λf hf=>h.fac f (hp.mem_iff.1 hf),?_,by rw[Anp hp];exact h.sum⟩;rw[Axg (hp.map λf=>Bw f.I)];exact h.siz
structure Vk (data:List Ai) (vars:List Af) (res:Af) (c:Rat) (F:List Be) (A:List Bf) (K:Nat) (out:List Aj):Prop where
 ex:∃Fs FE S gs,Fs.Perm F/\Qx data vars res Fs FE/\S.Perm A/\Acd S/\Gs gs S/\Fp K out (Qv (FE.map (Ky c)) gs)
 len:out.length<=10 ^ (Ct data vars res F).toNat*2 ^ Dn A
theorem Bcj (hz:DSz data) (hv:Hu data) (hx:Ob data vars res) (M:∀v t,C9 vars res v=some t->Gw data t=true) {c:Aq} (H:RB K c) (hK:K<20000000000) (h0:rq c≠0) (E:Ni data vars res F) (B:Atk A) (hs:Ct data vars res F+(Dn A:Nat)<=6) (m1:Ez data vars res b1) (m2:PMg data vars res b2) : ∃out e q k,Rp c ⟨F,A⟩ b1 b2 data vars res.G res.U res.R=some (out,e,q,k)/\Ez data vars res q/\PMg data vars res k/\((e=9/\out = []/\S0 F)\/(e=0/\Vk data vars res (rq c) F A (K+3636) out)):=by
 have a7:=Lp (data:=data) (vars:=vars) (res:=res) (l:=F) λf o=>(E.fac f o).2.2;have a6:=E.sum;have hT:∀b∈A,b.L.T.length<1099511627776:=λb Q=>by have:=(X7 (B.lin b Q)).1;omega
 have U:=B.len;have R:=B.sum;obtain⟨S,s1,j,Y⟩:=A9l A hT ω;have g:Atk S:=⟨λa T=>B.deg a (j.mem_iff.1 T),λa T=>B.lin a (j.mem_iff.1 T),by rw[Amz j];exact R,by rw[j.length_eq];exact U⟩;obtain⟨G,f1,f2,f3⟩:=Bci (F:=F) (λf o=>by obtain⟨t,d,C,_⟩:=Acu (E.fac f o).2.2;have:=Abp vars res f.v;rw[C]at this;have:=of_decide_eq_true this.symm;have:=hx.nv;omega) ω;have x:=E.perm f2;have s:Nd (rq c)≠0:=by
  unfold Nd;split
  .decide
  .split
   .decide
   .rename_i C W;exact (h0 (by grind)).elim
 have N:Zo A=some ([],A):=by unfold Zo Kn;rw[Dy ζ];rfl
 have h:Zm F=some ([],F):=by unfold Zm Kn;rw[Dy ζ];rfl
 have i:=f2.length_eq;obtain⟨z,X,z2⟩:=Bbw hz hv hx M (c:=rq c) G.length G [] [⟨c,⟨[],[]⟩⟩] [([],1)] K b1 b2 (Nat.le_refl _) f3 (λf o=>by cases o) x (.cons rfl (by show rq c=rq c*((1:Nat):Rat);grind) H (by simp[Ky]) .nil) (Qx.nil _ _ _) (λp hp=>by simp only[D4]at hp;subst hp;simp) ω m1 m2;rcases z2 with⟨q,k,wt,rfl,L,J⟩|⟨ts,V,q,k,rfl,L,J,Z,I⟩
 .refine⟨[],9,q,k,?_,L,J,.inl ⟨rfl,rfl,wt.perm f2⟩⟩;unfold Rp;rw[(Agv H ω).1,Ad,C8 s,Ap,h,Ad];dsimp only;rw[f1,Ad,Ku i.symm,Ad];exact bnd X rfl
 .rw[nil_append]at I;have u:=I.len;rw[Anp f2]at u;have a1:0<=Ct data vars res F:=ω;have y:(V.map (Ky (rq c))).length*2 ^ Dn S<=10 ^ (Ct data vars res F).toNat*2 ^ Dn A:=(by rw[C2,Amz j];exact Nat.mul_le_mul_right _ u);have D:10 ^ (Ct data vars res F).toNat*2 ^ Dn A<=1000000:=(by have C:2 ^ Dn A<=10 ^ Dn A:=Nat.pow_le_pow_left δ _;have W:=Nat.mul_le_mul_left (10 ^ (Ct data vars res F).toNat) C;rw[<-Nat.pow_add]at W;exact Nat.le_trans W (Ahz ω));obtain⟨gs,out,g1,g2,g3,g4⟩:=Bbo S.length S ts (V.map (Ky (rq c))) (K+202*G.length) 0 (Nat.le_refl _) Y g Z (λb Q=>by obtain⟨p,_,rfl⟩:=mem_map.1 Q;simp[Ky]) (by have:=g.len;omega) (by have:=g.len;omega) (Nat.le_trans y D);refine⟨out,0,q,k,?_,L,J,.inr ⟨rfl,⟨G,V,S,gs,f2,I,j,Y,g2,g3.mono (by have:=g.len;omega)⟩,Nat.le_trans g4 y⟩⟩;unfold Rp;rw[(Agv H ω).1,Ad,C8 s,Ap,h,Ad];dsimp only;rw[f1,Ad,Ku i.symm,Ad];refine bnd X ?_;dsimp only;rw[N,Ad];dsimp only;rw[s1,Ad,Ku j.length_eq.symm,Ad];exact bnd g1 rfl
def Iv (χ:Be->Nat) (v:Bg->Nat):List G8->Nat
 | []=>0
 | b::bs=>Dz (b.1.1.map χ)*(b.2.2*Gd v b.2.1)+Iv χ v bs
theorem Bck (χ:Be->Nat) (v:Bg->Nat) (B C:List G8):Iv χ v (B++C)=Iv χ v B+Iv χ v C:=by induction B with| nil=>simp[Iv]| cons b B ih=>simp only[D0,Iv,ih,Nat.add_assoc]
theorem Bcl (χ:Be->Nat) (v:Bg->Nat) (l:Bg) (k c:Nat) (B:List G8):Iv χ v (B.map (Sz l k c))=Iv χ v B*(c*bc (v l) k):=by
 have d:Gd v (atO l k)=bc (v l) k:=by
  unfold atO;by_cases h:k=0
  .subst h;rw[As rfl,J1];rfl
  .rw[Ao h];simp[Gd]
 induction B with
 | nil=>simp[Iv]
 | cons b B ih=>
  simp only[map_cons,Iv,ih,Sz,Acy,d];rw[Nat.add_mul];congr 1
  ac_rfl
theorem Axh (χ:Be->Nat) (v:Bg->Nat) (B:List G8) (l:Bg) (f:Nat->Nat):∀n,Iv χ v (Kx B l f n)=Iv χ v B*sm n λk=>f k*bc (v l) k
 | 0=>by simp[Kx,Iv,sm]
 | n+1=>by
  rw[Ahx,Bck,Axh χ v B l f n];show _=Iv χ v B*(sm n (λk=>f k*bc (v l) k)+f n*bc (v l) n);rw[Nat.mul_add];congr 1;by_cases h:f n=0
  .rw[As h,h];simp[Iv]
  .rw[Ao h,Bcl]
theorem Gs.valG (hv:Qy v):∀{b:List Grp} {A:List Bf},Gs b A->∀B,Iv χ v (Qv B b)=Iv χ v B*Gd v A:=by
 intro b A h;induction h with
 | nil=>intro B;simp[Qv,Gd]
 | @cons l N f g rest b c d j i k ih=>
  intro B;show Iv χ v (Qv (Kx B l f (N+1)) b)=_;rw[ih,Axh,Acy,Anj d,<-Nat.mul_assoc];congr 2;rcases i with⟨_,_,_,h3⟩|⟨h1,h2,h3⟩
  .exact h3 (v l)
  .subst h2;rw[hv l h1];simp[sm,J1,h3]
theorem Axi (χ:Be->Nat) (v:Bg->Nat) (c:Rat):∀b:List Nh,Iv χ v (b.map (Ky c))=pv (λF=>Dz (F.map χ)) b
 | []=>rfl
 | p::b=>by rw[map_cons,Iv,Axi χ v c b,pv];show Dz (p.1.map χ)*(p.2*1)+_=_;rw[Nat.mul_one,Nat.mul_comm]
def Hm (χ:Be->Nat) (v:Bg->Nat):List Aj->Rat
 | []=>0
 | t::p=>rq t.C*((Dz (t.M.F.map χ)*Gd v t.M.A:Nat):Rat)+Hm χ v p
theorem Axj (χ:Be->Nat) (v:Bg->Nat):∀p q:List Aj,Hm χ v (p++q)=Hm χ v p+Hm χ v q
 | [],q=>by simp only[nil_append,Hm];grind
 | t::p,q=>by simp only[D0,Hm,Axj χ v p q];grind
theorem Fp.polX {c:Rat} {bs:List G8} (h:Fp K ts bs) (hc:∀b∈bs,b.1.2=c):Go.Ab.Hm χ v ts=c*(Iv χ v bs:Rat):=by induction h with| nil=>simp only[Go.Ab.Hm,Iv];grind| @cons t b ts bs e g o s _ ih=>have hb:=hc b ψ;simp only[Go.Ab.Hm,Iv,ih λd hd=>hc d (by simp[hd]),e,g,hb,Rat.natCast_add,Rat.natCast_mul];grind
theorem Bcm {l m:List Nat} (h:l.Perm m):Dz l=Dz m:=by induction h with| nil=>rfl| cons a _ ih=>simp only[Dz,ih]| swap a b l=>simp only[Dz];ac_rfl| trans _ _ d e=>exact d.trans e
theorem Vk.val {c:Rat} {f:List Aj} (h:Vk data vars res c F A K f) (i:Vj data vars res χ F) (hv:Qy v):Hm χ v f=c*((Dz (F.map χ)*Gd v A:Nat):Rat):=by obtain⟨s,u,S,gs,h1,h2,h3,l,k,j⟩:=h.ex;rw[j.polX (c:=c) λb hb=>by obtain⟨q,b1,b2,_⟩:=Ane gs hb;obtain⟨p,_,rfl⟩:=mem_map.1 b1;rw[b2];rfl];rw[k.valG hv,Axi,h2.val χ λg d=>i g (h1.mem_iff.1 d),Axe v h3,Bcm (h1.map χ)]
theorem Bcn {l:Bg} {f:Nat->Nat} {b:Ent} (hb:b∈Iu B l f n):∃c∈B,∀a∈b.1,a∈c.1\/a.L=l:=by
 unfold Iu at hb;rw[mem_flatMap]at hb;obtain⟨k,_,g⟩:=hb;split at g
 .cases g
 .obtain⟨d,h,rfl⟩:=mem_map.1 g;refine⟨d,h,λa e=>?_⟩;rcases Ef.1 e with e|e
  .exact .inl e
  .unfold atO at e;split at e
   .cases e
   .simp only[D4]at e;right;rw[e]
theorem Bco {j:List Grp} (h:Gs j A):∀(B:List Ent) (b:Ent),b∈Ng B j->∃q∈B,∀a∈b.1,a∈q.1\/∃c∈A,a.L=c.L:=by
 induction h with
 | nil=>intro B b d;exact⟨b,d,λa e=>.inl e⟩
 | @cons l N f g o j k C s u x ih=>
  intro B b d;obtain⟨b1,E,G⟩:=ih _ b (show b∈Ng (Iu B l f (N+1)) j from d);obtain⟨q,d1,d2⟩:=Bcn E;obtain⟨y,i⟩:∃a,a∈g:=(by cases g with| nil=>exact (k rfl).elim| cons a _=>exact⟨a,ψ⟩);refine⟨q,d1,λa e=>?_⟩;rcases G a e with h|⟨c,H,I⟩
  .rcases d2 a h with h|h
   .exact .inl h
   .exact .inr ⟨y,by simp[i],by rw[h,C y i]⟩
  .exact .inr ⟨c,by simp[H],I⟩
theorem Vk.mono {c:Rat} {i:List Aj} (h:Vk data vars res c F A K i) (B:∀a∈A,Ek a.L=true/\Ji vars res a.L=true):∀t∈i,RB K t.C/\(∃n:Nat,rq t.C=c*(n:Rat))/\(∀f∈t.M.F,E5 f.v/\iR f.I/\Bw f.I<=(F.map λf=>Bw f.I).sum/\1<=D3 data vars res f)/\t.M.F.Pairwise (λa b=>a.v<b.v)/\Ct data vars res t.M.F<=Ct data vars res F/\Acw vars res t.M.A/\El t.M.A<=(Dn A:Nat)/\(∀f∈t.M.F,∃g∈F,g.v=f.v)/\∀a∈t.M.A,∃c∈A,a.L=c.L:=by
 obtain⟨R,U,S,gs,h1,h2,h3,M,l,k⟩:=h.ex;intro t e;obtain⟨b,b1,b2,L,J⟩:=k.mem e;obtain⟨N,c1,c2,c3⟩:=Ane gs b1;obtain⟨p,j,rfl⟩:=mem_map.1 c1;obtain⟨o,C⟩:=Bby (vars:=vars) (res:=res) l (λa ha=>B a (h3.mem_iff.1 ha)) [(Ky c p).2] 0 (λd hd=>by simp only[D4]at hd;subst hd;exact⟨⟨Pairwise.nil,λ_ h=>by cases h⟩,by simp[El,Ky],λ_ h=>by cases h⟩) b.2 c3;rw[Amz h3]at C;have G:b.1.1=p.1:=by rw[c2];rfl
 have E:b.1.2=c:=by rw[c2];rfl
 rw[b2];dsimp only;rw[G];refine⟨J,⟨b.2.2,by rw[L,E]⟩,λf hf=>?_,h2.asc p j,by have:=h2.sum p j;rw[Anp h1]at this;exact this,o,ω,λf hf=>?_,λa ha=>?_⟩
 .obtain⟨z,y,x,u,_⟩:=h2.fac p j f hf;exact⟨z,y,by rw[<-Axg (h1.map λf=>Bw f.I)];exact x,u⟩
 .obtain⟨_,_,_,_,g,s,q⟩:=h2.fac p j f hf;exact⟨g,h1.mem_iff.1 s,q⟩
 .obtain⟨d,d1,d2⟩:=Bco l _ _ c3;simp only[D4]at d1;subst d1;rcases d2 a ha with h|⟨I,k,D⟩
  .cases h
  .exact⟨I,h3.mem_iff.1 k,D⟩
theorem Bcp {c:Aq} (y:RB K a) (C:RB k c) (h:rq a=rq c*(n:Rat)) (h0:rq c≠0):Ck n<=K+k+2:=by
 have i:=y.nv;have H:=C.dv;have e:rq c*(n:Rat)=mkRat (sg (sv c) (nv c)*(n:Int)) (dv c):=by unfold rq;rw[show ((n:Nat):Rat)=mkRat (n:Int) 1 from (Ahi (n:Int)).symm,Rat.mkRat_mul_mkRat,Nat.mul_one]
 rw[e]at h;unfold rq at h;rw[Rat.mkRat_eq_iff (Ic a) (Ic c)]at h;have b:nv c≠0:=λg=>h0 ((A7h c).2 g);have d:=congrArg Int.natAbs h;have f:∀(s:Bool) (m:Nat),(sg s m).natAbs=m:=λs m=>by unfold sg;split <;> omega
 rw[Int.natAbs_mul,Int.natAbs_mul,Int.natAbs_mul,f,f,Int.natAbs_natCast,Int.natAbs_natCast,Int.natAbs_natCast]at d;have E:n<=nv a*dv c:=by rw[d];have d0:=Nat.pos_of_ne_zero (Ic a);have G:=Nat.pos_of_ne_zero b;have o:n<=nv c*n:=Nat.le_mul_of_pos_left _ G;exact Nat.le_trans o (Nat.le_mul_of_pos_right _ d0)
 have o:=Mh E;have I:=Jq (nv a) (dv c);omega
theorem Bcq {x c:Aq} {j:Nat} (e:Ho x) (o:RB j a) (s:RB k c) (b:Ck n<=L) (g:1<=L) (h:rq x=rq a+rq c*(n:Rat)) (E:j<10000000000) (G:k<10000000000) (f:L<10000000000):RB (j+k+L+5) x:=by obtain⟨m,H,y,I,C⟩:=Sp s (Od b g) ω ω;obtain⟨d,d1,_,d3,d4,d5⟩:=Agu o y ω ω;have:x=d:=Aly e d4 (by rw[h,d5,C,Vg]);rw[this];exact d3.mono ω
def Tm (k0:Nat) (c:Aq) (N B:Nat) (t:Aj):Prop:=RB B t.C/\∃(a:Aq) (n:Nat),RB k0 a/\rq t.C=rq a+rq c*(n:Rat)/\n<=N
theorem Bcr {k0:Nat} (hP:∀m,P m->CMo m) {c:Aq} (hc:RB k c) (a1:rq c≠0) (l ts:List Aj) (y:Col k0 P ts) (hl:∀t∈l,RB K t.C/\P t.M/\∃n:Nat,rq t.C=rq c*(n:Rat)) (ab:k0<=2000000000) (hK:K<=2000000000) (hk:k<=2000000000) (aa:l.length<=1000000) (hn:ts.length<=1099511627776) : ∃f,Tu l (plc ts) ts=some (plc f,f)/\Col (max k0 K+k+(K+k+10)) P f/\f.length<=ts.length+l.length/\∀m,cf f m=cf ts m+cf l m:=by
 have J:∀t∈l,∀n:Nat,rq t.C=rq c*(n:Rat)->n<1000000000 ^ (K+k+2):=λt o n h=>by have T:=Bcp (hl t o).1 hc h a1;exact Nat.lt_of_lt_of_le (Qd n) (Nat.pow_le_pow_right δ T)
 have a6:∀N,N<=1000000*1000000000 ^ (K+k+2)->Ck N<=K+k+3:=λN h=>by refine K6 (Nat.lt_of_le_of_lt h ?_);rw[show K+k+3=(K+k+2)+1 by omega,Nat.pow_succ];have a0:∀X:Nat,0<X->1000000*X<X*1000000000:=λX h=>ω;exact a0 (1000000000 ^ (K+k+2)) (Nat.pow_pos (show 0<1000000000 by decide))
 have hB:∀(N:Nat) (x a:Aq),N<=1000000*1000000000 ^ (K+k+2)->Ho x->RB (max k0 K) a->rq x=rq a+rq c*(N:Rat)->RB (max k0 K+k+(K+k+10)) x:=λN x a T h2 h3 h4=>by have h5:=Bcq h2 h3 hc (a6 N T) ω h4 ω ω ω;exact h5.mono ω
 unfold Tu;refine Aa8 (A:=List Aj) (λf=>(plc f,f)) ?_;refine Er (λs=>∃(j:Nat) (u:List Aj),s=((j:Int),plc u,u)/\j<=l.length/\Dst u/\(∀t∈u,P t.M)/\(∀t∈u,Tm (max k0 K) c (j*1000000000 ^ (K+k+2)) (max k0 K+k+(K+k+10)) t)/\u.length<=ts.length+j/\∀m,cf u m=cf ts m+cf (l.take j) m) (λs=>l.length-s.1.toNat) (λz=>∃u,z=(plc u,u)/\Col (max k0 K+k+(K+k+10)) P u/\u.length<=ts.length+l.length/\∀m,cf u m=cf ts m+cf l m) ⟨0,ts,rfl,ω,y.dst,y.mo,λt o=>⟨(y.tb t o).mono ω,t.C,0,(y.tb t o).mono ω,by rw[show ((0:Nat):Rat)=0 from rfl];grind,ω⟩,ω,λm=>by simp only[take_zero,cf];grind⟩ ?_ ?_
 .rintro _ ⟨j,u,rfl,hj,hu,B,L,Y,hv⟩;rcases Cf j l.length with h|h
  .have H:l[j]? = some l[j]:=Bp h;generalize l[j]=x at H;obtain⟨Q,hm,n,I⟩:=hl x (Bv H);have a8:=J x (Bv H) n I;have ad:(j+1)*1000000000 ^ (K+k+2)=j*1000000000 ^ (K+k+2)+1000000000 ^ (K+k+2):=(by rw[Nat.add_mul,Nat.one_mul]);have ac:(j+1)*1000000000 ^ (K+k+2)<=1000000*1000000000 ^ (K+k+2):=Nat.mul_le_mul_right _ ω;simp only[Ar (ω:(j:Int)<(l.length:Int)),Am,Bn rfl H,Ad,A7r (hP _ hm),C3 h ω];left;by_cases C:∃t∈u,t.M=x.M
   .obtain⟨t,o,he⟩:=C;obtain⟨i,W⟩:=Hh o;obtain⟨g1,g2⟩:=A7v hu W;rw[he]at g1 g2;obtain⟨tb,a,V,G,M,a7⟩:=L t o;obtain⟨E,c1,_,c3,c4,c5⟩:=Agu tb Q ω ω;have D:rq E=rq a+rq c*((V+n:Nat):Rat):=(by rw[c5,M,I,Rat.natCast_add];grind);have Z:=hB (V+n) E a ω c4 G D;refine⟨((j+1:Nat),plc (u.set i ⟨E,t.M⟩),u.set i ⟨E,t.M⟩),?_,⟨j+1,u.set i ⟨E,t.M⟩,rfl,ω,hu.set W rfl,?_,?_,by rw[length_set];omega,λm=>?_⟩,ζ⟩
    .simp only[g1,g2,Am,Ad,Bn rfl W,c1,Ht rfl,A7t (u:=⟨E,t.M⟩) W rfl]
    .intro w d;rcases mem_or_eq_of_mem_set d with d|rfl
     .exact B w d
     .exact B t o
    .intro w d;rcases mem_or_eq_of_mem_set d with d|rfl
     .obtain⟨U,b,q,S,R,q4⟩:=L w d;exact⟨U,b,q,S,R,ω⟩
     .exact⟨Z,a,V+n,G,D,ω⟩
    .rw[Avb (u:=⟨E,t.M⟩) W rfl m,hv m,Cs H,Agy,Vb];simp only[c5,he,cf];split <;> grind
   .have g:=A7u (m:=x.M) (ts:=u) λt o e=>C ⟨t,o,e⟩;refine⟨((j+1:Nat),plc (u++[x]),u++[x]),?_,⟨j+1,u++[x],rfl,ω,?_,?_,?_,ζ,λm=>?_⟩,ζ⟩
    .simp only[g,Ap,Ad];rw[Dy ζ,Ad,Amf _ _ _ g,A7s]
    .refine pairwise_append.2 ⟨hu,pairwise_singleton _ _,λa ha b Q=>?_⟩;simp only[D4]at Q;subst Q;exact λe=>C ⟨a,ha,e⟩
    .intro w d;rcases Ef.1 d with d|d
     .exact B w d
     .simp only[D4]at d;subst d;exact hm
    .intro w d;rcases Ef.1 d with d|d
     .obtain⟨U,b,q,S,R,q4⟩:=L w d;exact⟨U,b,q,S,R,ω⟩
     .simp only[D4]at d;subst d;exact⟨Q.mono ω,w.C,0,Q.mono ω,by rw[show ((0:Nat):Rat)=0 from rfl];grind,ω⟩
    .rw[Agy,hv m,Cs H,Agy];grind
  .have:j=l.length:=ω;subst this;rw[C1]at hv;simp only[A3 (ω:¬(l.length:Int)<(l.length:Int)),Ap];exact .inr ⟨_,rfl,u,rfl,⟨hu,λt o=>(L t o).1,B⟩,Y,hv⟩
 .rintro _ ⟨u,rfl,T,h2,h3⟩;exact⟨_,rfl,u,rfl,T,h2,h3⟩
def lim (R:List Aj):List Aj×Int:=if 1000<R.length then ([],9) else (R,0)
theorem Bcs {R:List Aj} (h:R.length<=1000):lim R=(R,0):=Ao ω
theorem Bct {R:List Aj} (h:1000<R.length):lim R=([],9):=As h
theorem Bcu (s:∀m,P m->CMo m) (o:List (ByteArray×Int)) (ts:List Aj) (h:Col k P ts) (G:k<34359738000) (D:ts.length<=4000000000) : ∃R,Rq o ts=some (lim R)/\CP R/\(∀m,cf R m=cf ts m)/\∀t∈R,P t.M/\RB (k+1) t.C:=by
 have A:(ts.filter nzT).length<=ts.length:=length_filter_le _ _;have g:∀{X:Option (List Aj×Int)},(bif (((ts.filter nzT).length:Nat):Int)>(1000:Int) then (some ([],9)) else ((P1 (ts.filter nzT)).bind λf=> (Ft (ts.filter nzT).length f).bind λI=> (Wp f).bind λC=> some (C,0)))=X->Rq o ts=X:=λ{X} B=>by
  unfold Rq;refine bnd (a:=ts.filter nzT) ?_ B;rw[<-Option.bind_fun_some (Ak _ _)];refine F5 ts (λj=>((j:Int),(ts.take j).filter nzT)) rfl ω ?_ ?_
  .intro j x T H E J N;have Q:=h.tb x (Bv H);have q:((ts.take j).filter nzT).length<=ts.length:=Nat.le_trans (length_filter_le _ _) (by rw[length_take];omega);simp only[E,J,N,Am,Ad,(Agv Q G).1,A8a];rw[Avd H];by_cases l:rq x.C=0
   .have:nzT x=false:=(by simp[nzT,l]);rw[A3 (by simpa using l),this];simp
   .have:nzT x=true:=(by simp[nzT,l]);rw[Ar l,this];simp only[Am];rw[Dy ζ];simp
  .intro E;exact⟨ts.filter nzT,by simp only[E,Ap,C1],rfl⟩
 obtain⟨S,z,c,y⟩:=A83 (ts.filter nzT) (Pairwise.filter _ h.dst) λt d=>(s _ (h.mo t (mem_filter.1 d).1)).sz;have b:∀t∈S,t∈ts/\rq t.C≠0:=by intro t d;have:=mem_filter.1 (c.mem_iff.1 d);exact⟨this.1,by simpa[nzT] using this.2⟩
 refine⟨S.map clT,g ?_,⟨?_,?_⟩,?_,?_⟩
 .by_cases i:1000<(ts.filter nzT).length
  .rw[Ar ω,Am,Bct (by rw[C2,c.length_eq];exact i)]
  .rw[A3 ω,Ap,z,Ad,Ku c.length_eq.symm,Ad,
    A76 (k:=k) S G (λt d=>⟨h.tb t (b t d).1,(s _ (h.mo t (b t d).1)).sz⟩) (by rw[c.length_eq];omega),Bcs (by rw[C2,c.length_eq];omega)];rfl
 .rw[pairwise_map];exact y
 .intro t d;obtain⟨u,e,rfl⟩:=mem_map.1 d;refine⟨U7 _ _ _ (Ic _),?_⟩;show rq (C6 _ _ _)≠0;rw[Qo _ _ _ (Ic _)];exact (b u e).2
 .intro m;rw[A77,A78 c,A79]
 .intro t d;obtain⟨u,e,rfl⟩:=mem_map.1 d;exact⟨h.mo u (b u e).1,A6e (h.tb u (b u e).1)⟩
def mX (χ:Be->Nat) (v:Bg->Nat) (m:A5):Nat:=Dz (m.F.map χ)*Gd v m.A
theorem Bcv (χ:Be->Nat) (v:Bg->Nat) (p:List Aj):Kv (mX χ v) (p.map wT)=Hm χ v p:=by induction p with| nil=>rfl| cons t p ih=>simp only[map_cons,Kv,Hm,ih,wT];rfl
theorem Bcw (χ:Be->Nat) (v:Bg->Nat) (p:List Aj):Kv (mX χ v) (p.map nT) = - Hm χ v p:=by induction p with| nil=>show (0:Rat) = - 0;grind| cons t p ih=>simp only[map_cons,Kv,Hm,ih,nT];show-rq t.C*((Dz (t.M.F.map χ)*Gd v t.M.A:Nat):Rat)+_=_;grind
theorem Axk (h:∀m,cf q m<=cf p m):Hm χ v q<=Hm χ v p:=by have:=A99 (mX χ v) _ (p.map wT++q.map nT) (Nat.le_refl _) (λm=>by rw[Bac,Baa,Bab];have:=h m;grind);rw[Bad,Bcv,Bcw]at this;grind
theorem Axl (h:∀m,cf q m=cf p m):Hm χ v q=Hm χ v p := Rat.le_antisymm (Axk λm=>by rw[h m];exact Rat.le_refl) (Axk λm=>by rw[h m];exact Rat.le_refl)
theorem Anq {x:B9} (val:Int->Ay):∀p:List Aj,L5 x val p=Hm (Lc x val) (fv val) p
 | []=>rfl
 | t::p=>by simp only[L5,Hm,Anq val p];have:Sw x val t.M=Dz (t.M.F.map (Lc x val))*Gd (fv val) t.M.A:=Bce x val t.M.F t.M.A;rw[this]
theorem Bcx (h:∀f∈F,E5 f.v/\iR f.I/\Bw f.I<=1048576/\1<=D3 x.D x.V x.E f) (y:F.Pairwise λa b=>a.v<b.v) (I:Ct x.D x.V x.E F<=6):Ju x ⟨F,[]⟩:=by
 have c:=Lp (data:=x.D) (vars:=x.V) (res:=x.E) (l:=F) λf d=>(h f d).2.2.2;refine⟨?_,⟨by show F.length<=_;omega,ψ,λf d=>(h f d).2.2.1,λf d=>⟨(h f d).2.1,(h f d).1⟩,λa C=>by cases C⟩⟩;unfold Js;have g:F.zipIdx.all (λq=>Pi x.D x.V x.E F q.1 q.2)=true:=by rw[Gt];rintro⟨a,j⟩ E;have s:F[j]? = some a:=mk_mem_zipIdx_iff_getElem?.1 E;have G:=(h a (Bv s)).2.2.2;show Pi x.D x.V x.E F a j=true;unfold Pi;have hp:Ml (·.v) F a j=true:=(by unfold Ml;cases j with| zero=>rfl| succ j=>have c:=Ec s;have H:F[j]? = some F[j]:=Bp ω;have o:=pairwise_iff_getElem.1 y j (j+1) ω c ω;have e:F[j+1]=a:=(by have:=Bp c;rw[s]at this;exact (Fh this).symm);rw[e]at o;simp only[Nat.add_sub_cancel,H,Bool.or_eq_true];exact .inr (decide_eq_true o));rw[hp,Ar G];rfl
 show (F.zipIdx.all (λq=>Pi x.D x.V x.E F q.1 q.2)&&([]:List Bf).zipIdx.all _&&decide (Ct x.D x.V x.E F+El []<=6))=true;rw[g];have:El []=0:=rfl;rw[this,Ar ω];rfl
def Bcy (x:B9) (Z:Nat) (m:A5):Prop:=Ju x m/\∀f∈m.F,Bw f.I<=Z
def S4 (x:B9) (Z:Nat) (W:Int->Prop) (m:A5):Prop:=Bcy x Z m/\∀w∈Jv m,W w
theorem Vl {m:A5}:w∈Jv m↔(∃f∈m.F,f.v=w)\/∃a∈m.A,w∈a.L.T.map (·.v):=by unfold Jv Mr;rw[Ef,mem_map,mem_flatMap]
theorem Vk.canZ {Z:Nat} {c:Rat} {b:List Aj} {W:Int->Prop} (h:Vk x.D x.V x.E c F A K b) (j:∀w∈Jv ⟨F,A⟩,W w) (q:∀a∈A,Ek a.L=true/\Ji x.V x.E a.L=true) (D:Ct x.D x.V x.E F+(Dn A:Nat)<=6) (l:(F.map λf=>Bw f.I).sum<=Z) (k:Z<=400000):∀t∈b,RB K t.C/\S4 x Z W t.M/\∃n:Nat,rq t.C=c*(n:Rat):=by
 intro t d;obtain⟨h1,h2,h3,z,G,y,E,u,s⟩:=h.mono q t d;have i:=Bcx (x:=x) (λf hf=>⟨(h3 f hf).1,(h3 f hf).2.1,by have:=(h3 f hf).2.2.1;omega,(h3 f hf).2.2.2⟩) z ω;have:=Bcd i y (by show Ct x.D x.V x.E t.M.F+El t.M.A<=6;omega);refine⟨h1,⟨⟨this,λf hf=>Nat.le_trans (h3 f hf).2.2.1 l⟩,λw e=>?_⟩,h2⟩;rcases Vl.1 e with⟨f,f1,f2⟩|⟨a,o,C⟩
 .obtain⟨g,H,I⟩:=u f f1;exact j w (Vl.2 (.inl ⟨g,H,by rw[I,f2]⟩))
 .obtain⟨B,c1,c2⟩:=s a o;exact j w (Vl.2 (.inr ⟨B,c1,by rw[<-c2];exact C⟩))
theorem Bcz (b:Hn x) {v:Int} (h:C9 x.V x.E v=some t):Gw x.D t=true:=by
 unfold C9 at h;split at h
 .cases h;exact b.2.2.1
 .exact Gt.1 b.2.2.2 t (G3 h).2.2.2
theorem Bc0 (data:List Ai):∀n:Nat,(∀(i:Ah) (t:Af) (w:Ay),Bw i<=n->Dj data i t=some 0->bv data i t w=1)/\(∀(is:List Ah) (ts:List Af) (c:List Ay),Cd is<=n->Cx data is ts=some 0->bvs data is ts c=1):=by
 intro n;induction n with
 | zero=>refine⟨λi t w h=>by have:=Es i;omega,λis ts c h _=>?_⟩;have:=Pd is;have:is = []:=F3.1 ω;subst this;exact Su _ _ _
 | succ n ih=>
  have o:∀(i:Ah) (t:Af) (w:Ay),Bw i<=n+1->Dj data i t=some 0->bv data i t w=1:=by
   intro i t w C d;have l:=Es i;rw[Qp];rw[Mj]at d;by_cases j:t.G=6
   .rw[As j]at d ⊢;by_cases e:i.U=0
    .rw[As e]at d;exact ih.2 i.K t.R w.K ω d
    .rw[Ao e]at d;cases d
   .rw[Ao j]at d ⊢;by_cases g:t.G=7
    .rw[As g]at d ⊢;by_cases e:0<=i.U/\i.U<=6/\i.K.length=0
     .rw[As e]at d;have d:=Fh d;rw[d,J1]
     .rw[Ao e]at d;cases d
    .rw[Ao g]at d ⊢;by_cases k:t.G=5
     .rw[As k]at d ⊢;have d:Fv data i.K t=some 0:=by
       by_cases e:i.U=0
       .rw[As e]at d;exact d
       .rw[Ao e]at d;cases d
      have q:=Uw data _ _ _ d;have:i.K = []:=F3.1 ω;rw[this];rw[Awj _ _ _ _ rfl ψ,length_nil,take_zero,Vi]
     .rw[Ao k]
  refine⟨o,?_⟩;intro is;induction is with
  | nil=>intro ts c _ _;exact Su _ _ _
  | cons i is f=>
   intro ts c C d;cases ts with
   | nil=>simp only[Cx]at d;cases d
   | cons t ts=>
    cases c with
    | nil=>simp only[bvs]
    | cons w c=>
     simp only[Cd]at C;rw[Nb]at d;cases s:Dj data i t with
     | none=>rw[s]at d;cases d
     | some a=>cases y:Cx data is ts with| none=>rw[s,y]at d;cases d| some b=>rw[s,y]at d;have d:a+b=0:=Fh d;have E:a=0:=ω;have G:b=0:=ω;subst E;subst G;rw[Ss,o i t w ω s,f ts c ω y]
theorem Bc1 {b:List Ay} {res:Ay} (h:∀f∈F,I3 x b res f.v=true):Vj x.D x.V x.E (Lc x (Dl b res)) F:=by
 intro g s t o;have d:=h g s;unfold I3 at d;rw[o]at d;have d:Mo x.D (Dl b res g.v) t=true:=d;unfold Mo at d;rw[Cz]at d;have e:∀i,Lc x (Dl b res) ⟨g.v,i⟩=bv x.D i t (Dl b res g.v):=λi=>by unfold Lc;rw[o]
 have c:(λi=>Lc x (Dl b res) ⟨g.v,i⟩)=λi=>bv x.D i t (Dl b res g.v):=funext e;exact⟨by rw[c];exact Bbg x.D t d.2,λi y _ _=>by rw[e];exact (Bc0 x.D (Bw i)).1 i t _ (Nat.le_refl _) y⟩
theorem Bc2:∀(k:Nat) (i:Ah) (a:Int),Bw i<=k->k<1099511627776->-1099511627776<=a->a<=1099511627776->∃r,T2 k i a=some r/\(r.1=true->r.2=a-Bw i/\0<=r.2)/\r.2<=a/\-1<=r.2+1099511627776:=by
 intro k;induction k with
 | zero=>intro i a h;have:=Es i;omega
 | succ k ih=>
  intro i a h Q T U;have E:=Es i;have G:=Pd i.K;have w:Ac (a-1)=a-1:=ξ;rw[T2,w];by_cases H:a-1<0
  .rw[Ar H];exact⟨_,rfl,nofun,by show a-1<=a;omega,by show -1<=a-1+1099511627776;omega⟩
  .rw[A3 H,Ap];have D:∀j,Cd (i.K.take j)<=Cd i.K:=λj=>by have:=Uy (i.K.take j) (i.K.drop j);rw[take_append_drop]at this;omega
   refine Er (λs=>∃j:Nat,s.1=j/\j<=i.K.length/\s.2=a-1-Cd (i.K.take j)/\0<=s.2) (λs=>i.K.length-s.1.toNat) (λz=>(∃c,z = .inl (false,c)/\c<=a/\-1<=c+1099511627776)\/(∃c,z = .inr c/\c=a-1-Cd i.K/\0<=c)) ⟨0,rfl,ω,by simp[Cd],by show 0<=a-1;omega⟩ ?_ ?_
   .rintro⟨_,b⟩ ⟨j,rfl,V,e,f⟩;dsimp only at e f;rcases Cf j i.K.length with o|o
    .have d:i.K[j]? = some i.K[j]:=Bp o;generalize i.K[j]=x at d;have J:=Kd (Bv d);obtain⟨⟨y,z⟩,B,A,u,q⟩:=ih x b ω ω ω ω;have I:Cd (i.K.take (j+1))=Cd (i.K.take j)+Bw x:=(by rw[Cs d,Uy];simp[Cd]);simp only[Ar (ω:(j:Int)<(i.K.length:Int)),Am,Bn rfl d,Ad,B,C3 o ω];cases y with| false=>exact .inr ⟨_,rfl,.inl ⟨z,rfl,by dsimp only at u;omega,q⟩⟩| true=>obtain⟨l,g⟩:=A rfl;exact .inl ⟨_,rfl,⟨j+1,rfl,ω,by dsimp only at l ⊢;rw[I];omega,g⟩,by simp only[Int.toNat_natCast];omega⟩
    .have:j=i.K.length:=ω;subst this;rw[C1]at e;exact .inr ⟨.inr b,ψ,.inr ⟨b,rfl,e,f⟩⟩
   .rintro z (⟨c,rfl,N,C⟩|⟨c,rfl,N,C⟩)
    .exact⟨_,rfl,nofun,N,C⟩
    .exact⟨_,rfl,λ_=>⟨by dsimp only;omega,C⟩,by dsimp only;omega,by dsimp only;omega⟩
theorem Bc3 (i:Ah) (h:Bw i<=1048576):∃b,Zk i=some b/\(b=true->Bw i<=40):=by unfold Zk;obtain⟨r,d,e,_⟩:=Bc2 4000000 i 40 ω ω ω ω;exact⟨r.1,by rw[d];rfl,λc=>by have:=e c;omega⟩
theorem Bc4 (m:A5) (i:MSz m):∃b,Ze m=some b/\(b=true->∀f∈m.F,Bw f.I<=40):=by
 unfold Ze;by_cases s:(m.F.length:Int)>8
 .rw[Ar s];exact⟨false,rfl,λh=>by cases h⟩
 .rw[A3 s];by_cases y:(m.A.length:Int)>8
  .rw[Ar y];exact⟨false,rfl,λh=>by cases h⟩
  .rw[A3 y];simp only[Ap,Ad];refine Er (λv=>∃j:Nat,v=j/\j<=m.F.length/\∀f∈m.F.take j,Bw f.I<=40) (λv=>m.F.length-v.toNat) (λz=>z = .inl false\/(z = .inr ()/\∀f∈m.F,Bw f.I<=40)) ⟨0,rfl,ω,ψ⟩ ?_ ?_
   .rintro v ⟨j,rfl,C,c⟩;rcases Cf j m.F.length with d|d
    .have e:m.F[j]? = some m.F[j]:=Bp d;generalize m.F[j]=x at e;obtain⟨b,E,g⟩:=Bc3 x.I (i.fi x (Bv e));simp only[Ar (ω:(j:Int)<(m.F.length:Int)),Am,Bn rfl e,Ad,E,C3 d ω];cases b with
     | false=>exact .inr ⟨_,rfl,.inl rfl⟩
     | true=>
      refine .inl ⟨_,rfl,⟨j+1,rfl,ω,λf o=>?_⟩,by simp only[Int.toNat_natCast];omega⟩;rw[Cs e]at o;rcases Ef.1 o with o|o
      .exact c f o
      .rw[D4]at o;subst o;exact g rfl
    .have:j=m.F.length:=ω;subst this;rw[C1]at c;exact .inr ⟨.inr (),ψ,.inr ⟨rfl,c⟩⟩
   .rintro z (rfl|⟨rfl,c⟩)
    .exact⟨false,rfl,λh=>by cases h⟩
    .dsimp only;refine Er (λv=>∃j:Nat,v=j/\j<=m.A.length) (λv=>m.A.length-v.toNat) (λ_=>True) ⟨0,rfl,ω⟩ ?_ ?_
     .rintro v ⟨j,rfl,C⟩;rcases Cf j m.A.length with d|d
      .have e:m.A[j]? = some m.A[j]:=Bp d;generalize m.A[j]=x at e;simp only[Ar (ω:(j:Int)<(m.A.length:Int)),Am,Bn rfl e,Ad,Aeh,C3 d ω];cases decide ((x.L.T.length:Int)<=70) with| true=>exact .inl ⟨_,rfl,⟨j+1,rfl,ω⟩,by simp only[Int.toNat_natCast];omega⟩| false=>exact .inr ⟨_,rfl,trivial⟩
      .have:j=m.A.length:=ω;subst this;exact .inr ⟨.inr (),ψ,trivial⟩
     .rintro (z|z) _
      .exact⟨_,rfl,λ_=>c⟩
      .exact⟨_,rfl,λ_=>c⟩
def S5 (t:Aj):Prop:=t.C.U.length<=8/\t.C.B.length<=8/\∀f∈t.M.F,Bw f.I<=40
theorem Bc5 (a:Aq):∃b,Zf a=some b/\(b=true->a.U.length<=8/\a.B.length<=8):=by
 unfold Zf;by_cases h:(a.U.length:Int)<=8
 .rw[Ar h];exact⟨_,rfl,λd=>by rw[Ds]at d;omega⟩
 .rw[A3 h];exact⟨_,rfl,λd=>by cases d⟩
theorem Bc6 (p:List Aj) (s:p.length<=1048576) (hp:∀t∈p,TSz t):∃b,Y8 p 10=some b/\(b=true->p.length<=10/\∀t∈p,S5 t):=by
 unfold Y8;refine Er (λv=>∃j:Nat,v=j/\j<=p.length/\j<=11/\∀t∈p.take j,S5 t) (λv=>p.length-v.toNat) (λz=>z = .inl false\/(z = .inr ()/\(p.length<=10->∀t∈p,S5 t))) ⟨0,rfl,ω,ω,ψ⟩ ?_ ?_
 .rintro v ⟨j,rfl,E,i,f⟩;rcases Cf j p.length with o|o
  .by_cases q:j<=10
   .have e:p[j]? = some p[j]:=Bp o;generalize p[j]=x at e;obtain⟨b,y,l⟩:=Bc4 x.M (hp x (Bv e)).mo;simp only[Ar (ω:(j:Int)<(p.length:Int)),Ar (ω:(j:Int)<=10),Am,Bn rfl e,Ad,y,C3 o ω];cases b with
    | false=>exact .inr ⟨_,rfl,.inl rfl⟩
    | true=>
     simp only[bnt,Ap];obtain⟨c,C,g⟩:=Bc5 x.C;rw[C,Ad];cases c with
     | false=>exact .inr ⟨_,rfl,.inl rfl⟩
     | true=>
      refine .inl ⟨_,rfl,⟨j+1,rfl,ω,ω,λt d=>?_⟩,by simp only[Int.toNat_natCast];omega⟩;rw[Cs e]at d;rcases Ef.1 d with d|d
      .exact f t d
      .rw[D4]at d;subst d;exact⟨(g rfl).1,(g rfl).2,l rfl⟩
   .refine .inr ⟨.inr (),?_,.inr ⟨rfl,λh=>ω⟩⟩;simp only[Ar (ω:(j:Int)<(p.length:Int)),A3 (ω:¬(j:Int)<=10),Am,Ap,Ad]
  .have:j=p.length:=ω;subst this;rw[C1]at f;exact .inr ⟨.inr (),ψ,.inr ⟨rfl,λ_=>f⟩⟩
 .rintro z (rfl|⟨rfl,k⟩)
  .exact⟨false,rfl,λh=>by cases h⟩
  .refine⟨decide ((p.length:Int)<=10),rfl,λh=>?_⟩;rw[Ds]at h;exact⟨ω,k ω⟩
theorem Bc7 (x:B9) (k:CSz x) (ps:List (List Aj)) (s:ps.length<=1048576) (hp:∀p∈ps,p.length<=1048576/\∀t∈p,TSz t) : ∃b,Y5 x ps=some b/\(b=true->∀p∈ps,p.length<=10/\∀t∈p,S5 t):=by
 unfold Y5;refine Er (λv=>∃j:Nat,v=j/\j<=ps.length/\∀p∈ps.take j,p.length<=10/\∀t∈p,S5 t) (λv=>ps.length-v.toNat) (λz=>z = .inl false\/(z = .inr ()/\∀p∈ps,p.length<=10/\∀t∈p,S5 t)) ⟨0,rfl,ω,ψ⟩ ?_ ?_
 .rintro v ⟨j,rfl,C,c⟩;rcases Cf j ps.length with o|o
  .have e:ps[j]? = some ps[j]:=Bp o;generalize ps[j]=p at e;obtain⟨i,g⟩:=hp p (Bv e);obtain⟨b,y,l⟩:=Bc6 p i g;simp only[Ar (ω:(j:Int)<(ps.length:Int)),Am,Bn rfl e,Ad,y,C3 o ω];cases b with
   | false=>exact .inr ⟨_,rfl,.inl rfl⟩
   | true=>
    refine .inl ⟨_,rfl,⟨j+1,rfl,ω,λq d=>?_⟩,by simp only[Int.toNat_natCast];omega⟩;rw[Cs e]at d;rcases Ef.1 d with d|d
    .exact c q d
    .rw[D4]at d;subst d;exact l rfl
  .have:j=ps.length:=ω;subst this;rw[C1]at c;exact .inr ⟨.inr (),ψ,.inr ⟨rfl,c⟩⟩
 .rintro z (rfl|⟨rfl,f⟩)
  .exact⟨false,rfl,λh=>by cases h⟩
  .obtain⟨b,y⟩:=A81 x k;exact⟨b,by dsimp only;rw[y];rfl,λ_=>f⟩
def jn (l:List A5):A5:=⟨l.flatMap (·.F),l.flatMap (·.A)⟩
theorem Axm (l:List A5) (m:A5):jn (l++[m])=⟨(jn l).F++m.F,(jn l).A++m.A⟩:=by unfold jn;simp
theorem Ah3 {S E:Type} {step:S->Option (S⊕E)} {a b:S} {e:E} (d:step a=some (.inl b)) (g:step b=some (.inr e)):Ak step a=some e:=by rw[Lg d,F0 g]
theorem ltl (a:α):(0:Int)<(([a].length:Nat):Int):=by simp
theorem Ah4 (a:α):¬(1:Int)<(([a].length:Nat):Int):=by simp
noncomputable def Acz (fac:Be->Option (List A5)) (F:List Be):Int×List A5->Option ((Int×List A5)⊕(Int×List A5)):=λ(f,g)=> bif f<(F.length:Int) then ((Ag F f).bind λs=> (fac s).bind λh=> (Ak (S:=(Int×List A5)) (E:=(Int×List A5)) (λ(c,j)=> bif c<((g.length:Nat):Int) then ((Ag g c).bind λq=> (Ak (S:=(Int×List A5)) (E:=(Int×List A5)) (λ(b,i)=> bif b<(h.length:Int) then ((Ag h b).bind λl=> (Nw q l).bind λk=> (B8 48 i [k]).bind λy=> some (.inl ((Ac (b+1)),y))) else (some (.inr (b,i)))) (0,j)).bind λ(_,x)=> some (.inl ((Ac (c+1)),x))) else (some (.inr (c,j)))) (0,[])).bind λ(_,u)=> some (.inl ((Ac (f+1)),u))) else (some (.inr (f,g)))
theorem Bc8 {fac:Be->Option (List A5)} {φ:Be->A5} (o:∀f∈F,fac f=some [φ f]) (y:∀j,(jn ((F.take j).map φ)).F.length<=1000/\(jn ((F.take j).map φ)).A.length<=1000) (k:∀f∈F,(φ f).F.length<=1000/\(φ f).A.length<=1000) (x:F.length<=1000) : Ak (Acz fac F) (0,[⟨[],[]⟩])=some ((F.length:Int),[jn (F.map φ)]):=by
 have g:Ac (0+1)=1:=by rw[Ac,Ci] <;> omega
 obtain⟨e,l,rfl⟩:=Jm (step:=Acz fac F) (λs=>∃j:Nat,s=((j:Int),[jn ((F.take j).map φ)])/\j<=F.length) (λs=>F.length-s.1.toNat) (λe=>e=((F.length:Int),[jn (F.map φ)])) (by
  rintro _ ⟨j,rfl,C⟩;rcases Cf j F.length with h|h
  .left;have d:F[j]? = some F[j]:=Bp h;generalize F[j]=f at d;have i:=Bv d;obtain⟨u,q⟩:=k f i;obtain⟨E,G⟩:=y j;have c:Nw (jn ((F.take j).map φ)) (φ f)=some (jn ((F.take (j+1)).map φ)):=(by rw[Ahh _ _ ω ω,Cs d,map_append,List.map_singleton,Axm]);refine⟨(((j+1:Nat):Int),[jn ((F.take (j+1)).map φ)]),?_,⟨j+1,rfl,ω⟩,ζ⟩;unfold Acz;dsimp only;rw[Ar ω,Am,Bn rfl d,Ad,o f i,Ad];refine bnd (a:=((1:Int),[jn ((F.take (j+1)).map φ)])) (Ah3 (b:=((1:Int),[jn ((F.take (j+1)).map φ)])) ?_ ?_) (by dsimp only;rw[C3 h ω])
   .dsimp only;rw[Ar (ltl _),Am,show Ag [jn ((F.take j).map φ)] 0=some (jn ((F.take j).map φ)) from rfl,Ad];refine bnd (a:=((1:Int),[jn ((F.take (j+1)).map φ)])) (Ah3 (b:=((1:Int),[jn ((F.take (j+1)).map φ)])) ?_ ?_) (by dsimp only;rw[g])
    .dsimp only;rw[Ar (ltl _),Am,show Ag [φ f] 0=some (φ f) from rfl,Ad,c,Ad,Dy ψ,Ad,g];rfl
    .dsimp only;rw[A3 (Ah4 _),Ap]
   .dsimp only;rw[A3 (Ah4 _),Ap]
  .right;have:j=F.length:=ω;subst this;exact⟨((F.length:Int),[jn (F.map φ)]),by unfold Acz;simp only[A3 (ω:¬(F.length:Int)<(F.length:Int)),Ap];rw[C1],rfl⟩) (0,[⟨[],[]⟩]) ⟨0,by simp[jn],ω⟩;exact l
abbrev Ah5:Type:=(List Aj)×Int×List (ByteArray×Int)×List (ByteArray×List Au)
noncomputable def Ac0 (atm:Bf->Option (A5×Int)) (A:List Bf) (q:List A5) (u:List (ByteArray×Int)) (s:List (ByteArray×List Au)):Int×List A5->Option ((Int×List A5)⊕(Ah5⊕(Int×List A5))):=λ(c,h)=> bif c<(A.length:Int) then ((Ag A c).bind λk=> (atm k).bind λg=> bif (g.2 != (0:Int)) then (some (.inr (.inl ([],9,u,s)))) else ((Ak (S:=(Int×List A5)) (E:=(Int×List A5)) (λ(b,f)=> bif b<((q.length:Nat):Int) then ((Ag f b).bind λj=> (Nw j g.1).bind λi=> (Ag f b).bind λx=> some (.inl ((Ac (b+1)),(Cr f b i)))) else (some (.inr (b,f)))) (0,h)).bind λ(_,l)=> some (.inl ((Ac (c+1)),l)))) else (some (.inr (.inr (c,h))))
structure RpO (x:B9) (Z:Nat) (W:Int->Prop) (m:A5):Prop where
 fac:Ni x.D x.V x.E m.F
 atk:Atk m.A
 lin:∀a∈m.A,Ek a.L=true/\Ji x.V x.E a.L=true
 deg:Ct x.D x.V x.E m.F+(Dn m.A:Nat)<=6
 siz:(m.F.map λf=>Bw f.I).sum<=Z
 vr:∀w∈Jv m,W w
noncomputable def Yg (x:B9) (c:Aq) (s q:List A5):(Int×List (ByteArray×Int)×List (ByteArray×List Au)×List (ByteArray×Int)×List Aj)->Option ((Int×List (ByteArray×Int)×List (ByteArray×List Au)×List (ByteArray×Int)×List Aj)⊕(Ah5⊕(Int×List (ByteArray×Int)×List (ByteArray×List Au)×List (ByteArray×Int)×List Aj))):=λ(f,k,j,i,h)=> bif f<((s.length:Nat):Int) then ((Ag q f).bind λl=> (Rp c l k j x.D x.V x.E.G x.E.U x.E.R).bind λb=> bif (b.2.1 != (0:Int)) then (some (.inr (.inl ([],b.2.1,b.2.2.1,b.2.2.2)))) else ((Tu b.1 i h).bind λg=> some (.inl ((Ac (f+1)),b.2.2.1,b.2.2.2,g.1,g.2)))) else (some (.inr (.inr (f,k,j,i,h))))
abbrev Axn:Type:=Int×List (ByteArray×Int)×List (ByteArray×List Au)×List (ByteArray×Int)×List Aj
noncomputable def Anr (x:B9) (fac:Be->Option (List A5)) (atm:Bf->Option (A5×Int)) (p:List Aj):Axn->Option (Axn⊕(Ah5⊕(List (ByteArray×Int)×List (ByteArray×List Au)×List (ByteArray×Int)×List Aj))):=λ(c,h,g,j,i)=>
 bif c<(p.length:Int) then (
 (Ag p c).bind λb=>
 (Ak (Acz fac b.M.F) (0,[(A5.mk [] [])])).bind λ(_,f)=>
 (Ak (Ac0 atm b.M.A f h g) (0,f)).bind λz=>
 match z with
 | .inl (B,A,y,u)=>(
 some (.inr (.inl (B,A,y,u)))
 )
 | .inr (_,J)=>(
 (Ak (Yg x b.C f J) (0,h,g,j,i)).bind λz=>
 match z with
 | .inl (s,q,l,k)=>(
 some (.inr (.inl (s,q,l,k)))
 )
 | .inr (_,I,G,E,D)=>(
 some (.inl ((Ac (c+1)),I,G,E,D))
 )
 )
 )
 else (
 some (.inr (.inr (h,g,j,i)))
 )
noncomputable def Ans (x:B9) (fac:Be->Option (List A5)) (atm:Bf->Option (A5×Int)) (p:List Aj) (u:List (ByteArray×Int)) (s:List (ByteArray×List Au)):Option Ah5 := (Wi).bind λq=> (Ak (Anr x fac atm p) (0,u,s,q.1,q.2)).bind λz=> match z with
 | .inl (h,g,f,c)=>(some (h,g,f,c))
 | .inr (l,k,j,i)=>((Rq j i).bind λb=> some (b.1,b.2,l,k))
def rpM (φ:Be->A5) (ψ:Bf->A5) (m:A5):A5:=jn (jn (m.F.map φ)::m.A.map ψ)
def rpS (φ:Be->A5) (ψ:Bf->A5) (χ:Be->Nat) (v:Bg->Nat):List Aj->Rat
 | []=>0
 | t::p=>rq t.C*(mX χ v (rpM φ ψ t.M):Rat)+rpS φ ψ χ v p
theorem Axo (φ:Be->A5) (ψ:Bf->A5) (χ:Be->Nat) (v:Bg->Nat):∀p q:List Aj,rpS φ ψ χ v (p++q)=rpS φ ψ χ v p+rpS φ ψ χ v q
 | [],q=>by simp only[nil_append,rpS];grind
 | t::p,q=>by simp only[D0,rpS,Axo φ ψ χ v p q];grind
theorem Ant {φ:α->A5} {F:List α} (b:∀f∈F,(φ f).F.length<=1/\(φ f).A.length<=1) (c:F.length<=20):(jn (F.map φ)).F.length<=20/\(jn (F.map φ)).A.length<=20:=by unfold jn;dsimp only;rw[flatMap_map,flatMap_map];have e:=Yc (λf=>(φ f).F) 1 F λf d=>(b f d).1;have g:=Yc (λf=>(φ f).A) 1 F λf d=>(b f d).2;omega
end Go.Ab
