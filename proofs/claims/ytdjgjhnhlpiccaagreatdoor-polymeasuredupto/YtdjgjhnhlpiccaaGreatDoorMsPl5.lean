/- Plain laws: what the plain functions answer. -/
import Derived.Test.YtdjgjhnhlpiccaaGreatDoorMsPl4
import Derived.Test.YtdjgjhnhlpiccaaGreatDoorMsPl3
open List
namespace Go.Ab
open Go
variable {m0:A3} {P:A3->Prop} {res t:Af} {i j:Ah} {u:Aj} {a:Ao} {x:B9} {φ:Bb->A3} {χ:Bb->Nat} {atm:Bd->Option (A3×Int)} {v:Bn->Nat} {w:Int} {W:Int->Prop} {R:List (Ah×Nat)} {b1:List (ByteArray×Int)} {b2:List (ByteArray×List Ap)} {vars:List Af} {data:List Ai} {p q ts:List Aj} {F l m:List Bb} {A:List Bd} {B:List Ent} {D K L M S k k0 n:Nat} {α:Type}
def fl (v:Int) (is:List Ah):List Bb:=is.map λi=>⟨v,i⟩
def PMg (data:List Ai) (vars:List Af) (res:Af) (b:List (ByteArray×List Ap)):Prop := ∀p∈b,∃(v:Int) (t:Af) (i0:Ah) (rs:List Ah) (R:List (Ah×Nat)),p.1=bs ((fl v (i0::rs)).flatMap D3)/\p.2=R.map Ba/\Dj vars res v=some t/\PRg data t i0 rs R
theorem PMg.nil (data:List Ai) (vars:List Af) (res:Af):PMg data vars res []:=λp hp=>by cases hp
theorem Bbc {v:Int} {l m:List Ah} (h:bs ((fl v (i::l)).flatMap D3)=bs ((fl w (j::m)).flatMap D3)):v=w/\i=j/\l=m:=by
 have h1:=Al4 (By.flat By.fac _) (By.flat By.fac _) h;have h2:=(Al3 (fl v (i::l)) (fl w (j::m)) [] [] Jr.nil Jr.nil (by rw[append_nil,append_nil];exact h1)).1;have h3:(⟨v,i⟩:Bb)::fl v l=⟨w,j⟩::fl w m:=h2;injection h3 with a b;injection a with a1 a2;subst a1;refine⟨rfl,a2,?_⟩;unfold fl at b;have inj:∀(l m:List Ah),(l.map λi=>(⟨v,i⟩:Bb))=(m.map λi=>(⟨v,i⟩:Bb))->l=m:=by
  intro l;induction l with
  | nil=>intro m h;cases m with
   | nil=>rfl
   | cons a m=>simp at h
  | cons a l ih=>intro m h;cases m with
   | nil=>simp at h
   | cons b m=>
    simp only[map_cons,List.cons.injEq,Bb.mk.injEq,true_and]at h
    rw[h.1,ih m h.2]
 exact inj l m b
noncomputable def Ahv (data:List Ai) (t:Af) (F:List Bb) (b2:List (ByteArray×List Ap)):List Ap×Int->Option ((List Ap×Int)⊕((List Ap×Int×List (ByteArray×List Ap))⊕List Ap)):=λ(c,v39)=> bif v39<(F.length:Int) then ((Ag F v39).bind λv40=> (Mh data t c [(Ap.mk v40.I (cR 1))]).bind λb=> bif (b.2 != (0:Int)) then (some (.inr (.inl ([],b.2,b2)))) else (some (.inl (b.1,(Ac (v39+1)))))) else (some (.inr (.inr c)))
theorem Bbd (x:DSz data) (hv:Hw data) (hg:G0 data t=true) {v:Int} {f:Ah} {b:List Ah} (u:GG data t (f::b)) (b2:List (ByteArray×List Ap)) : ∃z,Ak (Ahv data t (fl v b) b2) ([⟨f,cR 1⟩],0)=some z/\((2<=b.length/\z = .inl ([],9,b2))\/∃R:List (Ah×Nat),z = .inr (R.map Ba)/\PRg data t f b R):=by
 have l:=u.len;simp only[D6]at l;have g:((fl v b).length:Int)=(b.length:Int):=by unfold fl;rw[C1]
 obtain⟨e,A,y⟩:=Ka (step:=Ahv data t (fl v b) b2) (λ(s:List Ap×Int)=>∃(j:Nat) (R:List (Ah×Nat)),s=(R.map Ba,(j:Int))/\j<=b.length/\PRg data t f (b.take j) R) (λs=>b.length-s.2.toNat) (λz=>(2<=b.length/\z=(.inl ([],9,b2):((List Ap×Int×List (ByteArray×List Ap))⊕List Ap)))\/∃R:List (Ah×Nat),z = .inr (R.map Ba)/\PRg data t f b R) (by
   rintro _ ⟨j,R,rfl,hj,q⟩;rcases Cj j b.length with h|h
   .have hx:b[j]? = some b[j]:=Bs h;generalize b[j]=r at hx;have k:(fl v b)[j]? = some ⟨v,r⟩:=(by unfold fl;rw[getElem?_map,hx];rfl);have i:=u.take (j+1);rw[C4 hx]at i;unfold Ahv;simp only[g,As (ω:(j:Int)<(b.length:Int)),Am,Br rfl k,Ad];rcases q.step x hv hg i with⟨hb,c⟩|⟨B,c1,c2⟩
    .right;refine⟨_,by rw[c];rfl,.inl ⟨?_,rfl⟩⟩;have:(b.take j).length≠0:=λe=>hb (Gn.1 e);rw[length_take]at this;omega
    .left;refine⟨_,by rw[c1];rfl,⟨j+1,B,by rw[C5 h ω],ω,by rw[C4 hx];exact c2⟩,?_⟩;rw[C5 h ω];show b.length-((j+1:Nat):Int).toNat<b.length-(j:Int).toNat;omega
   .right;have:j=b.length:=ω;subst this;rw[Db]at q;exact⟨_,by unfold Ahv;simp only[g,A5 (ω:¬(b.length:Int)<(b.length:Int)),Aq],.inr ⟨R,rfl,q⟩⟩)
  ([⟨f,cR 1⟩],0) ⟨0,[(f,1)],rfl,ω,by rw[take_zero];exact PRg.one (by have:=u.take 0;rwa [take_zero]at this)⟩;exact⟨e,A,y⟩
theorem Bbe (hz:DSz data) (hv:Hw data) (hg:G0 data t=true) {v:Int} (ht:Dj vars res v=some t) (I:Ev v) {c:Ah} {g:List Ah} (L:GG data t (c::g)) (b1:List (ByteArray×Int)) (hm:PMg data vars res b2) : ∃l e Z,Rx (fl v (c::g)) b1 b2 data vars res.G res.U res.R=some (l,e,Z)/\PMg data vars res Z/\((e=9/\l = []/\2<=g.length)\/(e=0/\∃R:List (Ah×Nat),l=R.map Ba/\PRg data t c g R)):=by
 have hs:=L.siz;have a6:=L.len;simp only[D6]at a6;have y:∀i∈c::g,Bv i<=1048576:=λi hi=>by have:=Kd hi;omega
 have D:∀i∈c::g,(D3 ⟨v,i⟩).length<=33554432:=λi hi=>Ag7 (y i hi) ⟨L.num i hi,I⟩;have a7:∀j,((fl v (c::g.take j)).flatMap D3).length<=6*33554432:=λj=>by
  refine Nat.le_trans (Ama (n:=33554432) _ λa ha=>?_) (Nat.mul_le_mul_right _ ?_)
  .unfold fl at ha;obtain⟨i,hi,rfl⟩:=mem_map.1 ha;refine D i ?_;rcases Gi.1 hi with rfl|hi
   .simp
   .have:=mem_of_mem_take hi;simp[this]
  .unfold fl;rw[C1,D6,length_take];omega
 have q:Ag (fl v (c::g)) 0=some ⟨v,c⟩:=rfl;have B:Mg v c=some (bs (D3 ⟨v,c⟩)):=Agd v c I (L.num c ψ) (y c ψ);have s:Kb (bs (D3 ⟨v,c⟩)) []=some (((D3 ⟨v,c⟩).length:Int),D3 ⟨v,c⟩):=by have:=Vg (b:=[]) (By.fac ⟨v,c⟩) (by have:=D c ψ;simp;omega);rw[nil_append]at this;exact this
 have w1:Ac (0+1)=1:=by rw[Ac,Cl] <;> omega
 have h:∀{X:Type} {J:List Int->Option X} {x:Option X},J ((fl v (c::g)).flatMap D3)=x->(Ak (S:=(Int×List Int)) (E:=(List Int)) (λ(v17,N)=> bif v17<((fl v (c::g)).length:Int) then ((Ag (fl v (c::g)) v17).bind λM=> (Mg M.v M.I).bind λv21=> (Hm v21 N).bind λv22=> some (.inl ((Ac (v17+1)),v22.2))) else (some (.inr N))
  ) (1,D3 ⟨v,c⟩)).bind J=x:=λ{X J x} hJ=>by
  refine bnd (a:=(fl v (c::g)).flatMap D3) ?_ hJ;rw[<-Option.bind_fun_some (Ak _ _)];have Y:fl v (c::g)=⟨v,c⟩::fl v g:=rfl;rw[Y];refine Abr (⟨v,c⟩:Bb) (fl v g) (λj=>(((j+1:Nat):Int),(fl v (c::g.take j)).flatMap D3)) (by simp[fl]) (by unfold fl;rw[C1];omega) ?_ ?_
  .intro j f hf h1 h2 h3;have a8:∃i,g[j]? = some i/\f=⟨v,i⟩:=(by unfold fl at hf;rw[getElem?_map]at hf;obtain⟨i,h1,h2⟩:=Option.map_eq_some_iff.1 hf;exact⟨i,h1,h2.symm⟩);obtain⟨i,hi,rfl⟩:=a8;have A:i∈c::g:=(by have:=Bu hi;simp[this]);have hk:=a7 j;have aa:=D i A;have e1:Mg v i=some (bs (D3 ⟨v,i⟩)):=Agd v i I (L.num i A) (y i A);have e2:Hm (bs (D3 ⟨v,i⟩)) ((fl v (c::g.take j)).flatMap D3)=some (((D3 ⟨v,i⟩).length:Int),(fl v (c::g.take j)).flatMap D3++D3 ⟨v,i⟩):=Nr (By.fac _) ω;simp only[h1,h2,h3,Am,Ad,e1,e2];have:fl v (c::g.take (j+1))=fl v (c::g.take j)++[⟨v,i⟩]:=(by unfold fl;rw[C4 hi];simp);rw[this,flatMap_append];simp
  .intro h1;have V:(fl v g).length=g.length:=(by unfold fl;rw[C1]);refine⟨(fl v (c::g)).flatMap D3,?_,rfl⟩;rw[V]at h1 ⊢;simp only[Db,h1,Aq]
 have G:By ((fl v (c::g)).flatMap D3):=By.flat By.fac _;have a1:Nat.beq (bs ((fl v (c::g)).flatMap D3)).size 0=false:=by rw[X2];have:(fl v (c::g)).flatMap D3=118::((ti v++58::wx c)++(fl v g).flatMap D3):=rfl;rw[this];rfl
 have U:Kn v b1 b2 data vars res.G res.U res.R=some t:=U7 b1 b2 data vars res ht;have k:F5 (fl v (c::g)) 1 ((fl v (c::g)).length:Int)=some (fl v g):=Amz ⟨v,c⟩ (fl v g);have u:decide ((0:Int)<((fl v (c::g)).length:Int))=true:=As (by unfold fl;rw[C1,D6];omega);cases hh:E9 b2 (bs ((fl v (c::g)).flatMap D3)) with
 | true=>have hex:∃R:List (Ah×Nat),Ib b2 (bs ((fl v (c::g)).flatMap D3)) []=R.map Ba/\PRg data t c g R:=(by unfold Ib;unfold E9 at hh;cases hf:b2.find? λp=>bs ((fl v (c::g)).flatMap D3)==p.1 with| none=>rw[find?_eq_none]at hf;obtain⟨p,hp,e⟩:=any_eq_true.1 hh;exact (hf p hp e).elim| some p=>obtain⟨w,t',j0,ss,R,g1,g2,g3,g4⟩:=hm p (mem_of_find?_eq_some hf);have e:=find?_some hf;have e:bs ((fl v (c::g)).flatMap D3)=p.1:=(Nl _ _).1 e;rw[g1]at e;obtain⟨rfl,rfl,rfl⟩:=Bbc e;rw[ht]at g3;cases g3;exact⟨R,g2,g4⟩);obtain⟨R,r1,r2⟩:=hex;refine⟨R.map Ba,0,b2,?_,hm,.inr ⟨rfl,R,rfl,r2⟩⟩;unfold Rx;rw[u,Am,q,Ad,B,Ad,s,Ad,w1];refine h ?_;rw[Po G,Ad,hh,Am,r1];rfl
 | false=>
  obtain⟨z,z1,z2⟩:=Bbd hz hv hg (v:=v) L b2;rcases z2 with⟨hb,rfl⟩|⟨R,rfl,r2⟩
  .refine⟨[],9,b2,?_,hm,.inl ⟨rfl,rfl,hb⟩⟩;unfold Rx;rw[u,Am,q,Ad,B,Ad,s,Ad,w1];refine h ?_;rw[Po G,Ad,hh,Aq,Ad];dsimp only;rw[Aq,Ad,U,Ad,Ad,L9,Ad,k,Ad];exact bnd z1 rfl
  .refine⟨R.map Ba,0,Gu b2 (bs ((fl v (c::g)).flatMap D3)) (R.map Ba),?_,λp hp=>?_,.inr ⟨rfl,R,rfl,r2⟩⟩
   .unfold Rx;rw[u,Am,q,Ad,B,Ad,s,Ad,w1];refine h ?_;rw[Po G,Ad,hh,Aq,Ad];dsimp only;rw[Aq,Ad,U,Ad,Ad,L9,Ad,k,Ad];refine bnd z1 ?_;unfold Xh;dsimp only;rw[a1,Aq,Ad]
   .rcases Alh _ _ _ p hp with hp|rfl
    .exact hm p hp
    .exact⟨v,t,c,g,R,rfl,rfl,ht,r2⟩
abbrev He:=(List Bb×Rat)×Ent
inductive Ft (K:Nat):List Aj->List He->Prop
 | nil:Ft K [] []
 | cons {t:Aj} {b:He} {ts:List Aj} {bs:List He}:t.M=⟨b.1.1,b.2.1⟩->rq t.C=b.1.2*(b.2.2:Rat)->RB K t.C->b.1.1.length<=1000->Ft K ts bs->Ft K (t::ts) (b::bs)
theorem Ft.len {bs:List He} (h:Ft K ts bs):ts.length=bs.length:=by induction h with| nil=>rfl| cons _ _ _ _ _ ih=>simp[ih]
theorem Ft.app {c:List Aj} {bs cs:List He} (h:Ft K ts bs) (h':Ft K c cs):Ft K (ts++c) (bs++cs):=by induction h with| nil=>exact h'| cons a b d e _ ih=>exact .cons a b d e ih
theorem Ft.mono {c:Nat} {bs:List He} (h:Ft K ts bs) (hk:K<=c):Ft c ts bs:=by induction h with| nil=>exact .nil| cons a b d e _ ih=>exact .cons a b (d.mono hk) e ih
theorem Ft.get {bs:List He} (h:Ft K ts bs):∀{j:Nat} {t:Aj},ts[j]? = some t->∃b,bs[j]? = some b/\t.M=⟨b.1.1,b.2.1⟩/\rq t.C=b.1.2*(b.2.2:Rat)/\RB K t.C/\b.1.1.length<=1000:=by
 induction h with
 | nil=>intro j t h;simp at h
 | @cons t b ts bs a1 a2 a3 a4 _ ih=>intro j u hj;cases j with| zero=>simp only[getElem?_cons_zero,Option.some.injEq]at hj;subst hj;exact⟨b,rfl,a1,a2,a3,a4⟩| succ j=>simp only[getElem?_cons_succ]at hj;simpa using ih hj
theorem Ft.mem {bs:List He} (h:Ft K ts bs) {t:Aj} (ht:t∈ts):∃b∈bs,t.M=⟨b.1.1,b.2.1⟩/\rq t.C=b.1.2*(b.2.2:Rat)/\RB K t.C:=by obtain⟨j,hj⟩:=Hi ht;obtain⟨b,b1,b2,f,c,_⟩:=h.get hj;exact⟨b,Bu b1,b2,f,c⟩
def S6 (l:Bn) (k c:Nat) (b:He):He:=(b.1,(b.2.1++atO l k,b.2.2*c))
def Kv (B:List He) (l:Bn) (f:Nat->Nat) (n:Nat):List He:=(range n).flatMap λk=>if f k=0 then [] else B.map (S6 l k (f k))
theorem Ahw (B:List He) (l:Bn) (f:Nat->Nat) (n:Nat):Kv B l f (n+1)=Kv B l f n++(if f n=0 then [] else B.map (S6 l n (f n))):=by unfold Kv;rw[range_succ,flatMap_append];simp
theorem Aw9 (B:List He) (l:Bn) (f:Nat->Nat) (n:Nat):(Kv B l f n).length<=n*B.length:=by induction n with| zero=>simp[Kv]| succ n ih=>rw[Ahw,Ek,Nat.add_mul,Nat.one_mul];have:(if f n=0 then ([]:List He) else B.map (S6 l n (f n))).length<=B.length:=(by split <;> simp);omega
theorem Bbf {c o:List Aj} {B:List He} {l:Bn} {f:Nat} {x:Ao} (y:Ft K c B) (hx:rq x=(f:Rat)) (i:RB 200 x) (S:K<30000000000) (R:∀b∈B,b.2.1.length<=M) (N:M<=1000) (hl:o.length+c.length<=1000000000) :
  ∃T,Ak (Ab7 c l (k:Int) x) (0,o)=some ((c.length:Int),o++T)/\Ft (K+202) T (B.map (S6 l k f)):=by
 obtain⟨e,X,T,V,U⟩:=Ka (step:=Ab7 c l (k:Int) x) (λs=>∃(j:Nat) (T:List Aj),s=((j:Int),o++T)/\j<=c.length/\T.length=j/\Ft (K+202) T ((B.take j).map (S6 l k f))) (λs=>c.length-s.1.toNat)
  (λe=>∃T,e=((c.length:Int),o++T)/\Ft (K+202) T (B.map (S6 l k f))) (by
  rintro _ ⟨j,T,rfl,hj,L,q⟩
  rcases Cj j c.length with h|h
  .left
   have g:c[j]? = some c[j]:=Bs h
   generalize c[j]=t at g
   obtain⟨b,b1,b2,Z,Y,z⟩:=y.get g
   have J:=R b (Bu b1)
   have:=Av9 l k
   obtain⟨u,I,G,E,D⟩:=A9k (F:=⟨b.1.1,z⟩) (A:=b.2.1) (B:=atO l k) b2 ω S Y i
   refine⟨_,?_,⟨j+1,T++[u],rfl,ω,by simp[L],?_⟩,ζ⟩
   .unfold Ab7
    simp only[As (ω:(j:Int)<(c.length:Int)),Am,Br rfl g,Ad,A9j,I,C5 h ω]
    rw[D2 ζ,Ad,append_assoc]
   .rw[C4 b1,map_append]
    refine q.app (.cons G ?_ D z .nil)
    rw[E,Z,hx]
    show _=b.1.2*((b.2.2*f:Nat):Rat)
    rw[Rat.natCast_mul];grind
  .have:j=c.length:=ω
   subst this
   right
   rw[y.len,Db]at q
   exact⟨_,by unfold Ab7;simp only[A5 (ω:¬(c.length:Int)<(c.length:Int)),Aq],T,rfl,q⟩) (0,o) ⟨0,[],ψ,ω,rfl,by simpa using Ft.nil⟩
 exact⟨T,by rw[<-V];exact X,U⟩
theorem Bbg {g:List Aj} {B:List He} {l:Bn} {f:Nat->Nat} (z:Ft K g B) (hf:∀k,k<n->f k<Fc) (L:K<30000000000) (J:∀b∈B,b.2.1.length<=M) (y:M<=1000) (X:n<=1000) (Y:g.length<=1000000) :
  ∃T,Ak (Ahk g l (Ls n f)) (0,[])=some ((n:Int),T)/\Ft (K+202) T (Kv B l f n):=by
 obtain⟨e,V,T,S,R⟩:=Ka (step:=Ahk g l (Ls n f)) (λs=>∃(j:Nat) (T:List Aj),s=((j:Int),T)/\j<=n/\Ft (K+202) T (Kv B l f j)) (λs=>n-s.1.toNat)
  (λe=>∃T,e=((n:Int),T)/\Ft (K+202) T (Kv B l f n)) (by
  rintro _ ⟨j,T,rfl,hj,q⟩
  unfold Ahk
  rw[Ms]
  rcases Cj j n with h|h
  .left
   have D:=Aw9 B l f j
   have I:=q.len
   have N:=z.len
   have A:j*B.length<=1000*1000000:=Nat.mul_le_mul ω ω
   have x:j*B.length+B.length<=1000*B.length:=by
    have:(j+1)*B.length<=1000*B.length:=Nat.mul_le_mul_right _ ω
    rw[Nat.add_mul]at this;omega
   have i:=hf j h
   simp only[As (ω:(j:Int)<(n:Int)),Am,Br rfl (Mt f h),Ad,(Np.c i).sign,C5 h ω]
   by_cases h0:f j=0
   .refine⟨_,by rw[Av h0];rfl,⟨j+1,T,rfl,ω,?_⟩,ζ⟩
    rw[Ahw,Av h0,append_nil];exact q
   .have u:RB 200 (cR (f j)):=(Np.c i).rb
    obtain⟨U,G,E⟩:=Bbf (o:=T) (l:=l) (k:=j) (f:=f j) z (Vm (f j)) u L J y ω
    refine⟨_,by rw[Ar h0,G];rfl,⟨j+1,T++U,rfl,ω,?_⟩,ζ⟩
    rw[Ahw,Ar h0]
    exact q.app E
  .have:j=n:=ω
   subst this
   right
   exact⟨_,by simp only[A5 (ω:¬(j:Int)<(j:Int)),Aq],T,rfl,q⟩) (0,[]) ⟨0,[],rfl,ω,.nil⟩
 exact⟨T,by rw[<-S];exact V,R⟩
def Q4 (B:List He):List Grp->List He
 | []=>B
 | q::gs=>Q4 (Kv B q.1 q.2.2 (q.2.1+1)) gs
theorem Axa {B:List He} {l:Bn} {f:Nat->Nat} {b:He} (hb:b∈Kv B l f n):∃g∈B,b.1=g.1/\b.2∈Iw [g.2] l f n:=by
 unfold Kv at hb;rw[mem_flatMap]at hb;obtain⟨k,c,hk⟩:=hb;split at hk
 .cases hk
 .rename_i h0;obtain⟨d,hd,rfl⟩:=mem_map.1 hk;refine⟨d,hd,rfl,?_⟩;unfold Iw;rw[mem_flatMap];exact⟨k,c,by rw[Ar h0];exact mem_map.2 ⟨d.2,ψ,rfl⟩⟩
theorem Axb:∀(f:List Grp) {B C:List Ent},(∀b∈B,b∈C)->∀b∈Nu B f,b∈Nu C f
 | [],B,C,h,b,hb=>h b hb
 | q::f,B,C,h,b,hb=>by
  refine Axb f (B:=Iw B q.1 q.2.2 (q.2.1+1)) (λc hc=>?_) b hb;unfold Iw at hc ⊢;rw[mem_flatMap]at hc ⊢;obtain⟨k,i,g⟩:=hc;refine⟨k,i,?_⟩;split at g
  .cases g
  .rename_i h0;rw[Ar h0];obtain⟨d,d1,d2⟩:=mem_map.1 g;exact mem_map.2 ⟨d,h d d1,d2⟩
theorem Am6:∀(f:List Grp) {B:List He} {b:He},b∈Q4 B f->∃h∈B,b.1=h.1/\b.2∈Nu [h.2] f
 | [],B,b,hb=>⟨b,hb,rfl,by simp[Nu]⟩
 | q::f,B,b,hb=>by obtain⟨c,c1,c2,c3⟩:=Am6 f hb;obtain⟨d,d1,d2,d3⟩:=Axa c1;refine⟨d,d1,c2.trans d2,?_⟩;exact Axb f (λe g=>by simp only[Ea]at g;rw[g];exact d3) b.2 c3
theorem Bbh {B:List He} {l:Bn} {f:Nat->Nat} (h:∀b∈B,b.2.1.length<=M):∀b∈Kv B l f n,b.2.1.length<=M+1:=by intro b hb;obtain⟨g,h1,_,h3⟩:=Axa hb;exact Bad (B:=[g.2]) (λc hc=>by simp only[Ea]at hc;rw[hc];exact h g h1) b.2 h3
theorem Bbi:∀(n:Nat) (rest:List Bd) (i:List Aj) (B:List He) (K M:Nat),rest.length<=n->Ab6 rest->Atk rest->Ft K i B->(∀b∈B,b.2.1.length<=M)->M+rest.length<=1000->K+202*rest.length<30000000000->B.length*2 ^ Dp rest<=1000000 -> ∃gs g,Ak Ab8 (i,rest)=some g/\Gs gs rest/\Ft (K+202*rest.length) g (Q4 B gs)/\g.length<=B.length*2 ^ Dp rest:=by
 intro n;induction n with
 | zero=>intro rest i B K M hn _ _ z _ _ _ _;have:rest = []:=Gn.1 ω;subst this;exact⟨[],i,Gf (by unfold Ab8;simp),.nil,by simpa[Q4] using z,by rw[z.len];simp[Dp]⟩
 | succ n ih=>
  intro rest i B K M hn hS L z hM ad hK A;cases c:rest with
  | nil=>exact⟨[],i,Gf (by unfold Ab8;simp),.nil,by simpa[Q4] using z.mono ω,by rw[z.len];simp[Dp]⟩
  | cons a r'=>
   rw[<-c];have h0:rest[0]? = some a:=(by rw[c];rfl);have aa:0<rest.length:=Eg h0;have hT:∀b∈rest,b.L.T.length<1099511627776:=λb hb=>by have:=(Yc (L.lin b hb)).1;omega
   have ae:=L.len;obtain⟨m,m1,m2,m3,m4,m5⟩:=Bab h0 hT ω;have s:rest=rest.take m++rest.drop m:=(take_append_drop m rest).symm;have J:=(s ▸ L:Atk (rest.take m++rest.drop m)).sub;have x:rest.take m≠[]:=(by intro h;have:=congrArg length h;rw[length_take]at this;simp only[length_nil]at this;omega);obtain⟨N,f,p1,p2,p3,p4⟩:=Baa J.1 x m4;have Y:Dp rest=Dp (rest.take m)+Dp (rest.drop m):=(by rw[<-S0,take_append_drop]);have ab:=L.sum;have S:2 ^ Dp rest=2 ^ Dp (rest.take m)*2 ^ Dp (rest.drop m):=(by rw[Y,Nat.pow_add]);have a8:B.length<=1000000:=Nat.le_trans (Nat.le_mul_of_pos_right _ (Nat.pow_pos δ)) A;obtain⟨T,t1,t2⟩:=Bbg (l:=a.L) (n:=N+1) z p4 ω hM ω ω (by rw[z.len];exact a8);have y:Ab8 (i,rest)=some (.inl (T,rest.drop m)):=(by have X:Ag rest 0=some a:=Br (n:=0) rfl h0;have R:F5 rest (m:Int) (rest.length:Int)=some (rest.drop m):=(by unfold F5;simp[drop_take];omega);unfold Ab8;simp only[As (ω:(rest.length:Int)>0),Am,X,Ad,m1,Xk rfl m3,p1,t1,R]);have ac:(rest.drop m).length+m=rest.length:=(by rw[length_drop];omega);have a7:=Aw9 B a.L f (N+1);have I:(N+1)*B.length<=B.length*2 ^ Dp (rest.take m):=(by rw[Nat.mul_comm];refine Nat.mul_le_mul_left _ (Nat.le_trans (Bac N) (Nat.pow_le_pow_right δ p3)));have u:(Kv B a.L f (N+1)).length*2 ^ Dp (rest.drop m)<=B.length*2 ^ Dp rest:=(by rw[S,<-Nat.mul_assoc];exact Nat.mul_le_mul_right _ (Nat.le_trans a7 I));obtain⟨gs,g,g1,g2,g3,g4⟩:=ih (rest.drop m) T (Kv B a.L f (N+1)) (K+202) (M+1) ω (Pairwise.sublist (drop_sublist m rest) hS) J.2 t2 (Bbh hM) ω ω (Nat.le_trans u A);refine⟨(a.L,N,f)::gs,g,by rw[Lh y,g1],?_,g3.mono ω,Nat.le_trans g4 u⟩;have V:∀b∈rest.drop m,Ez a.L b.L<0:=by
    intro b hb;cases hd:rest.drop m with
    | nil=>rw[hd]at hb;cases hb
    | cons d D=>
     have j:rest[m]? = some d:=(by have:=congrArg (λl=>l[0]?) hd;simpa using this);have a1:=m5 d j;have a6:¬Ez d.L a.L<0:=(by have G:=hS;rw[c]at G;have Z:d∈r':=(by have U:m=(m-1)+1:=ω;rw[c,U,getElem?_cons_succ]at j;exact Bu j);exact (pairwise_cons.1 G).1 d Z);have q:Ez a.L d.L<0:=by
      rcases Int.lt_trichotomy (Ez d.L a.L) 0 with k|k|k
      .exact (a6 k).elim
      .exact (a1 ((K7.zero _ _ trivial trivial).1 k)).elim
      .rw[K7.anti d.L a.L trivial trivial];omega
     rw[hd]at hb;rcases Gi.1 hb with rfl|hb
     .exact q
     .have E:Ab6 (rest.drop m):=Pairwise.sublist (drop_sublist m rest) hS;rw[hd]at E;have h3:=(pairwise_cons.1 E).1 b hb;rcases Int.lt_trichotomy (Ez b.L d.L) 0 with k|k|k
      .exact (h3 k).elim
      .rw[(K7.zero _ _ trivial trivial).1 k];exact q
      .exact K7.trans a.L d.L b.L trivial trivial trivial q (by rw[K7.anti b.L d.L trivial trivial];omega)
   have:=Gs.cons x m4 V p2 g2;rwa [take_append_drop]at this
def J8 (data:List Ai) (t:Af) (v:Int) (i:Ah):List Bb:=if dgo data t i=0 then [] else [⟨v,i⟩]
abbrev Nv:=List Bb×Nat
def Kw (c:Rat) (p:Nv):He:=((p.1,c),([],p.2))
def Yi (data:List Ai) (t:Af) (v:Int) (p:Nv) (w:Ah×Nat):Nv:=(p.1++J8 data t v w.1,p.2*w.2)
def upF (data:List Ai) (t:Af) (v:Int) (R:List (Ah×Nat)) (b:List Nv):List Nv:=b.flatMap λp=>R.map (Yi data t v p)
theorem Bbj (hc:Oh data vars res) (b2:List (ByteArray×List Ap)) (k:Ew data vars res b1) {v:Int} (ht:Dj vars res v=some t) (g:Ev v) (q:S<=1048576) (s:D<=6) (hi:GI data t S D i) : ∃b,T9 v i b1 b2 data vars res.G res.U res.R=some (J8 data t v i,b)/\Ew data vars res b:=by
 obtain⟨h1,h2,d,h3,u⟩:=hi;obtain⟨b,j,l⟩:=Agh (b2:=b2) hc k ⟨v,i⟩ g h2 (by show Bv i<=_;omega) (by show (Dj vars res v).isSome=true;rw[ht];rfl);have c:Dz data vars res ⟨v,i⟩=(d:Int):=by unfold Dz;rw[ht];show Ji (Di data i t)=_;rw[h3,Pj ω]
 have f:dgo data t i=d:=by unfold dgo;rw[h3]
 refine⟨b,?_,l⟩;unfold T9 J8;have j:Nd v i b1 b2 data vars res.G res.U res.R=some (Dz data vars res ⟨v,i⟩,b):=j;rw[j,Ad,c,f];by_cases h:d=0
 .rw[Av h,h];rfl
 .rw[Ar h];have:((d:Int)==0)=false:=C3 ω;simp only[this,Aq]
theorem Bbk {fs:List Bb} (f:u.M=⟨F,[]⟩) (h:F.length+fs.length<=1000) (g:K<30000000000) (h1:RB K u.C) (b:n<Fc) : ∃w,N9 u (cR n) ⟨fs,[]⟩=some w/\w.M=⟨F++fs,[]⟩/\rq w.C=rq u.C*(n:Rat)/\RB (K+202) w.C:=by obtain⟨c,c1,c2,_,c4⟩:=Sv h1 (Np.c b).rb ω ω;refine⟨⟨c,⟨F++fs,[]⟩⟩,?_,rfl,by rw[c4,Vm],c2⟩;unfold N9;rw[c1,Ad,f,Ahh _ _ (by show F.length+fs.length<=_;omega) ψ];rfl
theorem Bbl (data:List Ai) (t:Af) (v:Int) (i:Ah):(J8 data t v i).length<=1:=by unfold J8;split <;> simp
noncomputable def Acm (data:List Ai) (vars:List Af) (res:Af) (b2:List (ByteArray×List Ap)) (v:Int) (R:List Ap) (u:Aj):Int×List (ByteArray×Int)×List Aj->Option ((Int×List (ByteArray×Int)×List Aj)⊕(Int×List (ByteArray×Int)×List Aj)):=λ(b,g,f)=> bif b<(R.length:Int) then ((Ag R b).bind λv193=> (T9 v v193.I g b2 data vars res.G res.U res.R).bind λc=> (N9 u v193.C (A3.mk c.1 [])).bind λv196=> (Cd 104 f [v196]).bind λh=> some (.inl ((Ac (b+1)),c.2,h))) else (some (.inr (b,g,f)))
noncomputable def Acn (data:List Ai) (vars:List Af) (res:Af) (b2:List (ByteArray×List Ap)) (v:Int) (R:List Ap) (ts:List Aj):Int×List (ByteArray×Int)×List Aj->Option ((Int×List (ByteArray×Int)×List Aj)⊕(Int×List (ByteArray×Int)×List Aj)):=λ(b,f,c)=> bif b<(ts.length:Int) then ((Ag ts b).bind λv175=> (Ak (Acm data vars res b2 v R v175) (0,f,c)).bind λ(_,h,g)=> some (.inl ((Ac (b+1)),h,g))) else (some (.inr (b,f,c)))
theorem Bbm (hc:Oh data vars res) (b2:List (ByteArray×List Ap)) {v:Int} (ht:Dj vars res v=some t) (B:Ev v) (X:S<=1048576) (hD:D<=6) (Z:∀w∈R,GI data t S D w.1/\w.2<Fc) (Y:R.length<=1000) {p:Nv} {c:Rat} (hK:K<30000000000) (hu:u.M=⟨p.1,[]⟩) (A:rq u.C=c*(p.2:Rat)) (z:RB K u.C) (N:p.1.length<=900) {k:List (ByteArray×Int)} (U:Ew data vars res k) (o:List Aj) (ho:o.length<=100000000) :
  ∃(f:List (ByteArray×Int)) (T:List Aj),Ak (Acm data vars res b2 v (R.map Ba) u) (0,k,o)=some ((R.length:Int),f,o++T)/\Ew data vars res f/\T.length=R.length/\Ft (K+202) T ((R.map (Yi data t v p)).map (Kw c)):=by
 have i:(((R.map Ba).length:Nat):Int)=(R.length:Int):=by rw[C1]
 obtain⟨e,e1,f,T,e2,e3,e4,e5⟩:=Ka (step:=Acm data vars res b2 v (R.map Ba) u) (λ(s:Int×List (ByteArray×Int)×List Aj)=>∃(j:Nat) (m:List (ByteArray×Int)) (T:List Aj),s=((j:Int),m,o++T)/\j<=R.length/\Ew data vars res m/\T.length=j/\Ft (K+202) T (((R.take j).map (Yi data t v p)).map (Kw c))) (λs=>R.length-s.1.toNat)
  (λ(e:Int×List (ByteArray×Int)×List Aj)=>∃(m:List (ByteArray×Int)) (T:List Aj),e=((R.length:Int),m,o++T)/\Ew data vars res m/\T.length=R.length/\Ft (K+202) T ((R.map (Yi data t v p)).map (Kw c))) (by
  rintro _ ⟨j,m,T,rfl,hj,g,E,b⟩
  rcases Cj j R.length with h|h
  .left
   have hx:R[j]? = some R[j]:=Bs h
   generalize R[j]=w at hx
   obtain⟨I,G⟩:=Z w (Bu hx)
   have y:(R.map Ba)[j]? = some (Ba w):=by rw[getElem?_map,hx];rfl
   obtain⟨x,f1,f2⟩:=Bbj hc b2 g ht B X hD I
   have f1:T9 v (Ba w).I m b2 data vars res.G res.U res.R=some (J8 data t v w.1,x):=f1
   have V:=Bbl data t v w.1
   obtain⟨q,l,M,L,J⟩:=Bbk (fs:=J8 data t v w.1) hu ω hK z G
   have l:N9 u (Ba w).C ⟨J8 data t v w.1,[]⟩=some q:=l
   refine⟨((j+1:Nat),x,o++(T++[q])),?_,⟨j+1,x,T++[q],rfl,ω,f2,by simp[E],?_⟩,ζ⟩
   .unfold Acm
    simp only[i,As (ω:(j:Int)<(R.length:Int)),Am,Br rfl y,Ad,f1,l,C5 h ω]
    rw[D2 ζ,Ad,append_assoc]
   .rw[C4 hx,map_append,map_append]
    refine b.app (.cons M ?_ J (by show (p.1++J8 data t v w.1).length<=1000;rw[Ek];omega) .nil)
    rw[L,A]
    show _=c*((p.2*w.2:Nat):Rat)
    rw[Rat.natCast_mul];grind
  .have:j=R.length:=ω
   subst this
   rw[Db]at b
   exact .inr ⟨_,by unfold Acm;simp only[i,A5 (ω:¬(R.length:Int)<(R.length:Int)),Aq],m,T,rfl,g,E,b⟩) (0,k,o) ⟨0,k,[],ψ,ω,U,rfl,by simpa using Ft.nil⟩
 exact⟨f,T,by rw[<-e2];exact e1,e3,e4,e5⟩
theorem Bbn (hc:Oh data vars res) (b2:List (ByteArray×List Ap)) {v:Int} (ht:Dj vars res v=some t) (A:Ev v) (X:S<=1048576) (hD:D<=6) (Y:∀w∈R,GI data t S D w.1/\w.2<Fc) (y:R.length<=1000) {i:List Nv} {c:Rat} (Z:K<30000000000) (k:Ft K ts (i.map (Kw c))) (z:∀p∈i,p.1.length<=900) (hl:i.length*R.length<=90000000) (a1:i.length<=1000000) {q:List (ByteArray×Int)} (M:Ew data vars res q) :
  ∃(g:List (ByteArray×Int)) (T:List Aj),Ak (Acn data vars res b2 v (R.map Ba) ts) (0,q,[])=some ((ts.length:Int),g,T)/\Ew data vars res g/\Ft (K+202) T ((upF data t v R i).map (Kw c)):=by
 have x:ts.length=i.length:=by rw[k.len,C1]
 obtain⟨e,e1,g,T,e2,e3,e4⟩:=Ka (step:=Acn data vars res b2 v (R.map Ba) ts) (λ(s:Int×List (ByteArray×Int)×List Aj)=>∃(j:Nat) (m:List (ByteArray×Int)) (T:List Aj),s=((j:Int),m,T)/\j<=ts.length/\Ew data vars res m/\T.length=j*R.length/\Ft (K+202) T ((upF data t v R (i.take j)).map (Kw c))) (λs=>ts.length-s.1.toNat)
  (λ(e:Int×List (ByteArray×Int)×List Aj)=>∃(m:List (ByteArray×Int)) (T:List Aj),e=((ts.length:Int),m,T)/\Ew data vars res m/\Ft (K+202) T ((upF data t v R i).map (Kw c))) (by
  rintro _ ⟨j,m,T,rfl,hj,l,V,f⟩
  rcases Cj j ts.length with h|h
  .left
   have hx:ts[j]? = some ts[j]:=Bs h
   generalize ts[j]=u at hx
   obtain⟨b,b1,B,b3,b4,b5⟩:=k.get hx
   rw[getElem?_map]at b1
   obtain⟨p,hp,rfl⟩:=Option.map_eq_some_iff.1 b1
   have N:j*R.length<=i.length*R.length:=Nat.mul_le_mul_right _ ω
   obtain⟨E,U,L,J,I,G⟩:=Bbm hc b2 ht A X hD Y y Z B b3 b4 (z p (Bu hp)) l T ω
   refine⟨((j+1:Nat),E,T++U),?_,⟨j+1,E,T++U,rfl,ω,J,by rw[Ek,V,I,Nat.add_mul,Nat.one_mul],?_⟩,ζ⟩
   .unfold Acn
    simp only[As (ω:(j:Int)<(ts.length:Int)),Am,Br rfl hx,Ad,L,C5 h ω]
   .unfold upF at f ⊢
    rw[Aws _ hp,map_append]
    exact f.app G
  .have:j=ts.length:=ω
   subst this
   rw[x,Db]at f
   exact .inr ⟨_,by unfold Acn;simp only[A5 (ω:¬(ts.length:Int)<(ts.length:Int)),Aq],m,T,rfl,l,f⟩) (0,q,[]) ⟨0,q,[],rfl,ω,M,ψ,by simpa[upF] using Ft.nil⟩
 exact⟨g,T,by rw[<-e2];exact e1,e3,e4⟩
structure Nw (data:List Ai) (vars:List Af) (res:Af) (F:List Bb):Prop where
 fac:∀f∈F,Ev f.v/\iR f.I/\1<=Dz data vars res f
 siz:(F.map λf=>Bv f.I).sum<=400000
 sum:Cs data vars res F<=6
theorem Vp {f:Bb} (h:1<=Dz data vars res f):∃t d,Dj vars res f.v=some t/\Di data f.I t=some d/\1<=d/\d<=6/\Dz data vars res f=(d:Nat):=by
 unfold Dz at h ⊢;cases ht:Dj vars res f.v with
 | none=>rw[ht]at h;exact absurd (show (1:Int)<=-1 from h) δ
 | some t=>
  rw[ht]at h;rcases Ala (Di data f.I t) with⟨h1,_⟩|⟨d,h1,h2,h3⟩
  .have h:1<=Ji (Di data f.I t):=h;omega
  .have h:1<=Ji (Di data f.I t):=h;exact⟨t,d,rfl,h1,ω,h2,h3⟩
theorem Q5 (l m:List Bb):Cs data vars res (l++m)=Cs data vars res l+Cs data vars res m:=by unfold Cs;simp[sum_append]
theorem Lx {data:List Ai} {vars:List Af} {res:Af}:∀{l:List Bb},(∀f∈l,1<=Dz data vars res f)->(l.length:Int)<=Cs data vars res l
 | [],_=>by simp[Cs]
 | f::l,h=>by have h1:=h f ψ;have h2:=Lx (l:=l) λg hg=>h g (by simp[hg]);have:Cs data vars res (f::l)=Dz data vars res f+Cs data vars res l:=(by unfold Cs;simp);simp only[D6];omega
theorem Nw.app (h:Nw data vars res (l++m)):Nw data vars res l/\Nw data vars res m:=by have h1:=h.siz;have h2:=h.sum;rw[map_append,sum_append]at h1;rw[Q5]at h2;have f1:=Lx (data:=data) (vars:=vars) (res:=res) (l:=l) λf hf=>(h.fac f (by simp[hf])).2.2;have f2:=Lx (data:=data) (vars:=vars) (res:=res) (l:=m) λf hf=>(h.fac f (by simp[hf])).2.2;exact⟨⟨λf hf=>h.fac f (by simp[hf]),ω,ω⟩,⟨λf hf=>h.fac f (by simp[hf]),ω,ω⟩⟩
theorem Bbo {v:Int} {g:List Bb} (u:g≠[]) (hg:∀f∈g,f.v=v) (c:Nw data vars res g) : ∃t k rs,Dj vars res v=some t/\Ev v/\g=fl v (k::rs)/\GG data t (k::rs)/\Cs data vars res g=(Eb data t (k::rs):Nat)/\rs.length+1<=Eb data t (k::rs):=by
 cases g with
 | nil=>exact (u rfl).elim
 | cons f0 g=>
  have j:=hg f0 ψ;obtain⟨t,d0,ht,_⟩:=Vp (c.fac f0 ψ).2.2;rw[j]at ht;have x:∀l:List Bb,(∀f∈l,f.v=v)->l=fl v (l.map (·.I)):=(by intro l;induction l with| nil=>intro _;rfl| cons a l ih=>intro h;have h1:=h a ψ;have h2:=ih λf hf=>h f (by simp[hf]);show a::l=⟨v,a.I⟩::fl v (l.map (·.I));rw[<-h2,<-h1]);have hd:∀f∈f0::g,Di data f.I t=some (dgo data t f.I)/\Dz data vars res f=(dgo data t f.I:Nat)/\1<=dgo data t f.I:=λf hf=>by obtain⟨t',d,t1,t2,t3,t4,t5⟩:=Vp (c.fac f hf).2.2;rw[hg f hf,ht]at t1;cases t1;have:dgo data t f.I=d:=(by unfold dgo;rw[t2]);rw[this];exact⟨t2,t5,t3⟩
  have y:∀l:List Bb,(∀f∈l,f∈f0::g)->Cs data vars res l=(Eb data t (l.map (·.I)):Nat)/\l.length<=Eb data t (l.map (·.I)):=(by intro l;induction l with| nil=>intro _;exact⟨by simp[Cs,Eb],ψ⟩| cons a l ih=>intro h;obtain⟨_,h2,h3⟩:=hd a (h a ψ);obtain⟨i1,i2⟩:=ih λf hf=>h f (by simp[hf]);have G:Cs data vars res (a::l)=Dz data vars res a+Cs data vars res l:=(by unfold Cs;simp);have E:Eb data t ((a::l).map (·.I))=dgo data t a.I+Eb data t (l.map (·.I)):=(by unfold Eb;simp);rw[G,E];simp only[D6];omega);obtain⟨A,z⟩:=y (f0::g) λf hf=>hf;have B:=c.sum;have s:∀l:List Bb,(l.map λf=>Bv f.I).sum=Cb (l.map (·.I)):=(by intro l;induction l with| nil=>rfl| cons a l ih=>simp only[map_cons,sum_cons,Cb,ih]);have b:=c.siz;rw[s]at b;have q:(f0::g).map (·.I)=f0.I::g.map (·.I):=rfl;rw[q]at A z b;simp only[D6]at z;have D:=x (f0::g) hg;rw[q]at D;refine⟨t,f0.I,g.map (·.I),ht,by rw[<-j];exact (c.fac f0 ψ).1,D,⟨λi hi=>?_,λi hi=>?_,b,ω,by rw[D6,C1];omega⟩,A,by rw[C1];omega⟩
  .rw[<-q]at hi;obtain⟨f,hf,rfl⟩:=mem_map.1 hi;exact (c.fac f hf).2.1
  .rw[<-q]at hi;obtain⟨f,hf,rfl⟩:=mem_map.1 hi;exact (hd f hf).1
def Ol (data:List Ai) (vars:List Af) (res:Af) (χ:Bb->Nat) (P:List Bb):Prop:=∀g∈P,∀t,Dj vars res g.v=some t->Acl data t (λi=>χ ⟨g.v,i⟩)/\∀i,Di data i t=some 0->iR i->Bv i<=400000->χ ⟨g.v,i⟩=1
structure Q6 (data:List Ai) (vars:List Af) (res:Af) (P:List Bb) (FE:List Nv):Prop where
 pos:∀p∈FE,1<=p.2
 fac:∀p∈FE,∀f∈p.1,Ev f.v/\iR f.I/\Bv f.I<=(P.map λf=>Bv f.I).sum/\1<=Dz data vars res f/\∃g∈P,g.v=f.v
 asc:∀p∈FE,p.1.Pairwise λa b=>a.v<b.v
 sum:∀p∈FE,Cs data vars res p.1<=Cs data vars res P
 val:∀χ,Ol data vars res χ P->pv (λF=>Dv (F.map χ)) FE=Dv (P.map χ)
 len:FE.length<=10 ^ (Cs data vars res P).toNat
theorem Q6.nil (data:List Ai) (vars:List Af) (res:Af):Q6 data vars res [] [([],1)]:=by
 have h:∀p∈[(([]:List Bb),1)],p=([],1):=λp hp=>by simpa using hp
 refine⟨λp hp=>?_,λp hp f hf=>?_,λp hp=>?_,λp hp=>?_,λχ _=>rfl,Nat.le_refl _⟩
 .rw[h p hp];exact Nat.le_refl _
 .rw[h p hp]at hf;cases hf
 .rw[h p hp];exact Pairwise.nil
 .rw[h p hp];exact Int.le_refl _
theorem Aco:∀(l m:List Nat),Dv (l++m)=Dv l*Dv m
 | [],m=>by simp[Dv]
 | a::l,m=>by rw[D9,Dv,Dv,Aco l m,Nat.mul_assoc]
theorem Axc {α β:Type} (f:β->Nat) (g:α->β) (c:Nat):∀L:List (α×Nat),pv f (L.map λw=>(g w.1,c*w.2))=c*pv (λx=>f (g x)) L
 | []=>rfl
 | p::L=>by rw[map_cons,pv,Axc f g c L,pv,Nat.mul_add,Nat.mul_assoc]
theorem Q6.step {P:List Bb} {y:List Nv} (h:Q6 data vars res P y) {v:Int} (ht:Dj vars res v=some t) (M:Ev v) {c:List Ah} (L:GG data t (j::c)) (J:Cs data vars res (fl v (j::c))=(Eb data t (j::c):Nat)) (V:c.length+1<=Eb data t (j::c)) (hP:∀f∈P,f.v<v) (a6:0<=Cs data vars res P) (x:PRg data t j c R):Q6 data vars res (P++fl v (j::c)) (upF data t v R y):=by
 have hs:=L.siz;have Y:=L.sum;have s:∀q∈upF data t v R y,∃p∈y,∃w∈R,q=Yi data t v p w:=λq hq=>by unfold upF at hq;obtain⟨p,hp,hq⟩:=mem_flatMap.1 hq;obtain⟨w,hw,rfl⟩:=mem_map.1 hq;exact⟨p,hp,w,hw,rfl⟩
 have B:∀w∈R,∀f∈J8 data t v w.1,f=⟨v,w.1⟩/\1<=dgo data t w.1:=λw hw f hf=>by
  unfold J8 at hf;split at hf
  .cases hf
  .rename_i h0;simp only[Ea]at hf;exact⟨hf,ω⟩
 have z:∀w∈R,Di data w.1 t=some (dgo data t w.1)/\dgo data t w.1<=Eb data t (j::c)/\Dz data vars res ⟨v,w.1⟩=(dgo data t w.1:Nat):=λw hw=>by obtain⟨_,_,d,d1,d2⟩:=x.cw.mo w hw;have e:dgo data t w.1=d:=(by unfold dgo;rw[d1]);rw[e];refine⟨d1,d2,?_⟩;unfold Dz;rw[ht];show Ji (Di data w.1 t)=_;rw[d1,Pj ω]
 have u:((P++fl v (j::c)).map λf=>Bv f.I).sum=(P.map λf=>Bv f.I).sum+Cb (j::c):=by
  rw[map_append,sum_append];congr 1;have key:∀l:List Ah,((fl v l).map λf=>Bv f.I).sum=Cb l:=λl=>by induction l with| nil=>rfl| cons a l ih=>show Bv a+((fl v l).map λf=>Bv f.I).sum=Cb (a::l);rw[ih];simp only[Cb]
  exact key _
 have G:Cs data vars res (P++fl v (j::c))=Cs data vars res P+(Eb data t (j::c):Nat):=by rw[Q5,J]
 have I:(Cs data vars res (P++fl v (j::c))).toNat=(Cs data vars res P).toNat+Eb data t (j::c):=ω;have A:(upF data t v R y).length<=y.length*R.length:=by unfold upF;exact Yh _ _ _ λp _=>by rw[C1];exact Nat.le_refl _
 have Z:R.length<=3 ^ (Eb data t (j::c)*c.length):=Nat.le_trans (Mv x.cw.pos) x.cnt;refine⟨λq hq=>?_,λq hq f hf=>?_,λq hq=>?_,λq hq=>?_,λχ S=>?_,?_⟩
 .obtain⟨p,hp,w,hw,rfl⟩:=s q hq;exact Nat.mul_pos (h.pos p hp) (x.cw.pos w hw)
 .obtain⟨p,hp,w,hw,rfl⟩:=s q hq;rcases Ej.1 hf with hf|hf
  .obtain⟨a1,a2,a3,a4,g,g1,g2⟩:=h.fac p hp f hf;exact⟨a1,a2,by rw[u];omega,a4,g,by simp[g1],g2⟩
  .obtain⟨rfl,h1⟩:=B w hw f hf;obtain⟨U,E,_⟩:=x.cw.mo w hw;obtain⟨_,_,D⟩:=z w hw;exact⟨M,E,by rw[u];show Bv w.1<=_;omega,by rw[D];omega,⟨v,j⟩,by simp[fl],rfl⟩
 .obtain⟨p,hp,w,hw,rfl⟩:=s q hq;refine pairwise_append.2 ⟨h.asc p hp,?_,λa ha b hb=>?_⟩
  .unfold J8;split <;> simp
  .obtain⟨rfl,_⟩:=B w hw b hb;obtain⟨_,_,_,_,g,g1,g2⟩:=h.fac p hp a ha;rw[<-g2];exact hP g g1
 .obtain⟨p,hp,w,hw,rfl⟩:=s q hq;have h1:=h.sum p hp;obtain⟨_,y2,D⟩:=z w hw;show Cs data vars res (p.1++J8 data t v w.1)<=_;rw[Q5,G];have:Cs data vars res (J8 data t v w.1)<=(Eb data t (j::c):Nat):=by
   unfold J8;split
   .show (0:Int)<=_;omega
   .show Dz data vars res ⟨v,w.1⟩+0<=_;rw[D];omega
  omega
 .obtain⟨m1,m2⟩:=S ⟨v,j⟩ (by simp[fl]) t ht;have e1:pv (λF=>Dv (F.map χ)) (upF data t v R y)=pv (λF=>pv (λi=>χ ⟨v,i⟩) R*Dv (F.map χ)) y:=by
   unfold upF;refine Aca _ _ _ _ λp hp=>?_;have e2:R.map (Yi data t v p)=R.map λw=>(p.1++J8 data t v w.1,p.2*w.2):=rfl;rw[e2,Axc (λF=>Dv (F.map χ)) (λi=>p.1++J8 data t v i) p.2 R];congr 1;rw[<-Nat.mul_comm (Dv _),<-Ok];refine Qz λw hw=>?_;show Dv ((p.1++J8 data t v w.1).map χ)=Dv (p.1.map χ)*χ ⟨v,w.1⟩;rw[map_append,Aco];congr 1;obtain⟨U,E,_⟩:=x.cw.mo w hw;obtain⟨N,_⟩:=z w hw;unfold J8;split
   .rename_i h0;rw[h0]at N;rw[m2 w.1 N E ω];rfl
   .show χ ⟨v,w.1⟩*1=_;omega
  rw[e1,Ok,h.val χ λg hg=>S g (by simp[hg]),x.val,Aw8 m1 c j L,map_append,Aco,Nat.mul_comm];congr 1;show _=χ ⟨v,j⟩*Dv ((fl v c).map χ);unfold fl;rw[map_map];rfl
 .rw[I,Nat.pow_add];refine Nat.le_trans A (Nat.mul_le_mul h.len ?_);have hl:=x.len;rcases Cj (Eb data t (j::c)) 3 with k|k
  .have X:c.length<=1:=ω;have h1:(3:Nat) ^ (Eb data t (j::c)*c.length)<=3 ^ (Eb data t (j::c)):=Nat.pow_le_pow_right δ (by have:=Nat.mul_le_mul_left (Eb data t (j::c)) X;omega);have h2:(3:Nat) ^ (Eb data t (j::c))<=10 ^ (Eb data t (j::c)):=Nat.pow_le_pow_left δ _;omega
  .have h1:(10:Nat) ^ 3<=10 ^ (Eb data t (j::c)):=Nat.pow_le_pow_right δ k;omega
noncomputable def Ahx (r:List Bb) (v:Int):Int->Option (Int⊕Int):=λb=> bif b<(r.length:Int) then ((Ag r b).bind λc=> bif (c.v==v) then (some (.inl (Ac (b+1)))) else (some (.inr b))) else (some (.inr b))
theorem Bbp {r:List Bb} {a:Bb} (h0:r[0]? = some a) (q:r.length<=1000) :
  ∃n:Nat,Ak (Ahx r a.v) 1=some (n:Int)/\1<=n/\n<=r.length/\(∀b∈r.take n,b.v=a.v)/\∀b,r[n]? = some b->b.v≠a.v:=by
 have hpos:=Eg h0
 obtain⟨e,l,n,k,i⟩:=Ka (step:=Ahx r a.v) (λs=>∃n:Nat,s=(n:Int)/\1<=n/\n<=r.length/\∀b∈r.take n,b.v=a.v) (λs=>r.length-s.toNat)
  (λe=>∃n:Nat,e=(n:Int)/\1<=n/\n<=r.length/\(∀b∈r.take n,b.v=a.v)/\∀b,r[n]? = some b->b.v≠a.v) (by
  rintro _ ⟨j,rfl,g,f,c⟩
  unfold Ahx
  rcases Cj j r.length with h|h
  .have hx:r[j]? = some r[j]:=Bs h
   generalize r[j]=b at hx
   simp only[As (ω:(j:Int)<(r.length:Int)),Am,Br rfl hx,Ad,C5 h ω]
   by_cases hc:b.v=a.v
   .left
    rw[Eu hc]
    refine⟨_,rfl,⟨j+1,rfl,ω,ω,λd hd=>?_⟩,ω⟩
    rw[C4 hx]at hd
    rcases Ej.1 hd with hd|hd
    .exact c d hd
    .simp only[Ea]at hd
     rw[hd];exact hc
   .right
    rw[C3 hc]
    exact⟨_,rfl,j,rfl,g,f,c,λd hd=>by rw[hx]at hd;cases hd;exact hc⟩
  .right
   refine⟨_,by simp only[A5 (ω:¬(j:Int)<(r.length:Int)),Aq],j,rfl,g,f,c,λd hd=>?_⟩
   have:=Eg hd
   omega) 1 ⟨1,rfl,ω,ω,λb hb=>by
    cases r with
    | nil=>simp at hpos
    | cons x r=>simp at hb h0;rw[hb,h0]⟩
 exact⟨n,by rw[<-k];exact l,i⟩
noncomputable def Yj (data:List Ai) (vars:List Af) (res:Af):(List Aj×List Bb×List (ByteArray×Int)×List (ByteArray×List Ap))->Option ((List Aj×List Bb×List (ByteArray×Int)×List (ByteArray×List Ap))⊕((List Aj×Int×List (ByteArray×Int)×List (ByteArray×List Ap))⊕(List Aj×List (ByteArray×Int)×List (ByteArray×List Ap)))):=λ(v105,c,f,h)=> bif (c.length:Int)>(0:Int) then ((Ag c 0).bind λv109=> (Ak (Ahx c v109.v) 1).bind λg=> (F5 c 0 g).bind λj=> (Rx j f h data vars res.G res.U res.R).bind λb=> bif (b.2.1 != (0:Int)) then (some (.inr (.inl ([],b.2.1,f,b.2.2)))) else ((Ak (Acn data vars res b.2.2 v109.v b.1 v105) (0,f,[])).bind λ(v201,l,k)=> (F5 c g c.length).bind λi=> some (.inl (k,i,l,b.2.2)))) else (some (.inr (.inr (v105,f,h))))
theorem Axd (data:List Ai) (t:Af) (v:Int) (R:List (Ah×Nat)):∀b:List Nv,(upF data t v R b).length=b.length*R.length
 | []=>by simp[upF]
 | p::b=>by have ih:=Axd data t v R b;unfold upF at ih ⊢;rw[flatMap_cons,Ek,ih,C1,D6,Nat.add_mul];omega
def Mw (l:List Bb):Prop:=∃v:Int,3<=(l.filter λf=>f.v==v).length
theorem Mw.app (h:Mw m):Mw (l++m):=by obtain⟨v,h⟩:=h;exact⟨v,by rw[filter_append,Ek];omega⟩
theorem Mw.perm (hp:l.Perm m) (h:Mw l):Mw m:=by obtain⟨v,h⟩:=h;exact⟨v,by rw[<-(hp.filter _).length_eq];exact h⟩
theorem Ahy {d:Nat} (h:d<=6):10 ^ d<=1000000:=Nat.le_trans (Nat.pow_le_pow_right δ h) δ
theorem Bbq (hz:DSz data) (hv:Hw data) (hx:Oh data vars res) (af:∀v t,Dj vars res v=some t->G0 data t=true) {c:Rat}:∀(n:Nat) (rest P:List Bb) (ts:List Aj) (B:List Nv) (K:Nat) (q:List (ByteArray×Int)) (G:List (ByteArray×List Ap)),rest.length<=n->rest.Pairwise (λa b=>a.v<=b.v)->(∀f∈P,∀g∈rest,f.v<g.v)->Nw data vars res (P++rest)->Ft K ts (B.map (Kw c))->Q6 data vars res P B->(∀p∈B,p.1.length<=6)->K+202*rest.length<30000000000->Ew data vars res q->PMg data vars res G ->
  ∃z,Ak (Yj data vars res) (ts,rest,q,G)=some z/\((∃j s,Mw rest/\z = .inl ([],9,j,s)/\Ew data vars res j/\PMg data vars res s)\/(∃E M j s,z = .inr (E,j,s)/\Ew data vars res j/\PMg data vars res s/\Ft (K+202*rest.length) E (M.map (Kw c))/\Q6 data vars res (P++rest) M)):=by
 intro n
 induction n with
 | zero=>
  intro rest P ts B K q G hn _ _ _ hR V _ _ k J
  have:rest = []:=Gn.1 ω
  subst this
  exact⟨.inr (ts,q,G),Gf (by unfold Yj;simp),.inr ⟨ts,B,q,G,rfl,k,J,by simpa using hR,by rw[append_nil];exact V⟩⟩
 | succ n ih=>
  intro rest P ts B K q G hn hS U N hR V am hK k J
  cases i:rest with
  | nil=>
   exact⟨.inr (ts,q,G),Gf (by unfold Yj;simp),.inr ⟨ts,B,q,G,rfl,k,J,by simpa using hR,by rw[append_nil];exact V⟩⟩
  | cons a r'=>
   rw[<-i]
   have h0:rest[0]? = some a:=by rw[i];rfl
   have ap:0<rest.length:=Eg h0
   have ak:=N.sum
   have a8:=Lx (data:=data) (vars:=vars) (res:=res) (l:=P++rest) λf hf=>(N.fac f hf).2.2
   rw[Ek]at a8
   obtain⟨m,m1,m2,m3,m4,m5⟩:=Bbp h0 ω
   have I:rest=rest.take m++rest.drop m:=(take_append_drop m rest).symm
   have Y:rest.take m≠[]:=by
    intro h
    have:=congrArg length h
    rw[length_take]at this
    simp only[length_nil]at this
    omega
   have a7:=N.app.2
   have ao:Nw data vars res (rest.take m):=by
    rw[I]at a7
    exact a7.app.1
   obtain⟨t,i0,rs,t1,t2,t3,t4,t5,t6⟩:=Bbo Y m4 ao
   have aq:=(hx.sz a.v t t1)
   have X:Ag rest 0=some a:=Br (n:=0) rfl h0
   have ac:F5 rest (m:Int) (rest.length:Int)=some (rest.drop m):=by
    unfold F5
    simp[drop_take]
    omega
   have a6:0<=Cs data vars res P:=by
    have:=Lx (data:=data) (vars:=vars) (res:=res) (l:=P) λf hf=>(N.fac f (by simp[hf])).2.2
    omega
   have aj:(Cs data vars res P).toNat<=6:=by
    have:=Lx (data:=data) (vars:=vars) (res:=res) (l:=rest) λf hf=>(N.fac f (by simp[hf])).2.2
    rw[Q5]at ak
    omega
   obtain⟨l,e,A,q1,q2,q3⟩:=Bbe hz hv (af a.v t t1) t1 t2 t4 q J
   rw[<-t3]at q1
   have ar:(rest.drop m).length+m=rest.length:=by rw[length_drop];omega
   rcases q3 with⟨rfl,rfl,hb⟩|⟨rfl,R,rfl,y⟩
   .refine⟨.inl ([],9,q,A),Gf ?_,.inl ⟨q,A,⟨a.v,?_⟩,rfl,k,q2⟩⟩
    rotate_left
    .rw[<-take_append_drop m rest,filter_append,Ek,filter_eq_self.2 λf hf=>by simp[m4 f hf],t3]
     unfold fl
     rw[C1,D6];omega
    unfold Yj
    simp only[As (ω:(rest.length:Int)>0),Am,X,Ad,m1,Xk rfl m3,q1]
    rfl
   .have aa:=V.len
    have ax:=Ahy aj
    have ai:=y.len
    have h9:B.length*R.length<=1000000:=by
     have ab:=V.step t1 t2 t4 (by rw[<-t3];exact t5) t6 (λf hf=>by
      have:=U f hf a (by rw[i];simp)
      exact this) a6 y
     have h1:=ab.len
     have h2:=Axd data t a.v R B
     rw[h2]at h1
     refine Nat.le_trans h1 (Ahy ?_)
     rw[<-t3]
     have e1:Cs data vars res (P++rest.take m)+Cs data vars res (rest.drop m)=Cs data vars res (P++rest):=by rw[Q5,Q5,Int.add_assoc,<-Q5 (rest.take m),take_append_drop]
     have e2:=Lx (data:=data) (vars:=vars) (res:=res) (l:=rest.drop m) λf hf=>(N.fac f (by have:=mem_of_mem_drop hf;simp[this])).2.2
     omega
    have ae:=t4.len
    simp only[D6]at ae
    have ah:∀w∈R,GI data t (Cb (i0::rs)) (Eb data t (i0::rs)) w.1/\w.2<Fc:=λw hw=>by
     refine⟨y.cw.mo w hw,?_⟩
     have h1:=Pq hw
     have h2:=y.cnt
     have h3:(3:Nat) ^ (Eb data t (i0::rs)*rs.length)<=3 ^ 36:=Nat.pow_le_pow_right δ (Nat.mul_le_mul t4.sum (show rs.length<=6 by omega))
     have h4:(3:Nat) ^ 36<Fc:=by unfold Fc;decide
     omega
    obtain⟨j,T,u1,u2,u3⟩:=Bbn hx A t1 t2 (by have:=t4.siz;omega) t4.sum ah ai ω hR (λp hp=>by have:=am p hp;omega) ω ω k
    have S:Yj data vars res (ts,rest,q,G)=some (.inl (T,rest.drop m,j,A)):=by
     unfold Yj
     simp only[As (ω:(rest.length:Int)>0),Am,X,Ad,m1,Xk rfl m3,q1,show ((0:Int) != 0)=false from rfl,Aq,u1,ac]
    have L:=V.step t1 t2 t4 (by rw[<-t3];exact t5) t6 (λf hf=>by
     have:=U f hf a (by rw[i];simp)
     exact this) a6 y
    rw[<-t3]at L
    have ad:∀b∈rest.drop m,a.v<b.v:=by
     intro b hb
     cases hd:rest.drop m with
     | nil=>rw[hd]at hb;cases hb
     | cons d D=>
      have u:rest[m]? = some d:=by
       have:=congrArg (λl=>l[0]?) hd
       simpa using this
      have au:=m5 d u
      have av:a.v<=d.v:=by
       have a1:=hS
       rw[i]at a1
       have ag:d∈r':=by
        have k:m=(m-1)+1:=ω
        rw[i,k,getElem?_cons_succ]at u
        exact Bu u
       exact (pairwise_cons.1 a1).1 d ag
      have Z:(rest.drop m).Pairwise (λa b=>a.v<=b.v):=Pairwise.sublist (drop_sublist m rest) hS
      rw[hd]at hb Z
      rcases Gi.1 hb with rfl|hb
      .omega
      .have:=(pairwise_cons.1 Z).1 b hb
       omega
    have x:P++rest.take m++rest.drop m=P++rest:=by rw[append_assoc,take_append_drop]
    obtain⟨z,z1,z2⟩:=ih (rest.drop m) (P++rest.take m) T (upF data t a.v R B) (K+202) j A ω (Pairwise.sublist (drop_sublist m rest) hS) (λf hf g hg=>by
     rcases Ej.1 hf with hf|hf
     .exact U f hf g (mem_of_mem_drop hg)
     .rw[m4 f hf];exact ad g hg) (by rw[x];exact N) u3 L (λp hp=>by
     have h1:=L.sum p hp
     have h2:=Lx (data:=data) (vars:=vars) (res:=res) (l:=p.1) λf hf=>(L.fac p hp f hf).2.2.2.1
     have e1:Cs data vars res (P++rest.take m)+Cs data vars res (rest.drop m)=Cs data vars res (P++rest):=by rw[<-Q5,x]
     have e2:=Lx (data:=data) (vars:=vars) (res:=res) (l:=rest.drop m) λf hf=>(N.fac f (by have:=mem_of_mem_drop hf;simp[this])).2.2
     omega) ω u2 q2
    rw[x]at z2
    refine⟨z,by rw[Lh S,z1],?_⟩
    rcases z2 with⟨y1,y2,y3,y4⟩|⟨E,M,p1,p2,w1,w2,w3,w4,w5⟩
    .exact .inl ⟨y1,y2,by rw[<-take_append_drop m rest];exact y3.app,y4⟩
    .exact .inr ⟨E,M,p1,p2,w1,w2,w3,w4.mono ω,w5⟩
def IsE (A:List Bd) (B:List Ent):Prop:=∃gs b,b.Perm A/\Ab6 b/\Gs gs b/\B=Nu [([],1)] gs
def Acp (vars:List Af) (res:Af) (L:List Bd):Prop:=L.Pairwise (λa b=>Ez a.L b.L<0)/\∀a∈L,1<=a.P/\F3 a.L=true/\a.L.T.length≠0/\It vars res a.L=true
theorem Bbr (l m:List Bd):Ef (l++m)=Ef l+Ef m:=by unfold Ef;simp[sum_append]
theorem Bbs:∀{u:List Grp} {rest:List Bd},Gs u rest->(∀a∈rest,F3 a.L=true/\It vars res a.L=true) -> ∀(B:List Ent) (S:Int),(∀b∈B,Acp vars res b.1/\Ef b.1<=S/\∀a∈b.1,∀r∈rest,Ez a.L r.L<0)->∀b∈Nu B u,Acp vars res b.1/\Ef b.1<=S+(Dp rest:Nat):=by
 intro u rest h;induction h with
 | nil=>intro _ B S z b hb;have:=z b hb;exact⟨this.1,by have:=this.2.1;omega⟩
 | @cons l N f g rest u x hg E I M ih=>
  intro A B S z;obtain⟨a0,j⟩:∃a,a∈g:=(by cases g with| nil=>exact (x rfl).elim| cons a _=>exact⟨a,ψ⟩);have s:=hg a0 j;have q:=A a0 (by simp[j]);rw[s]at q;have J:∀k,k<N+1->k≠0->l.T.length≠0/\k<=Dp g:=by
   intro k hk G;rcases I with⟨h1,h2⟩|⟨_,h2,_⟩
   .exact⟨h1,by rw[<-h2.1];omega⟩
   .omega
  intro b hb;have:=ih (λa ha=>A a (by simp[ha])) (Iw B l f (N+1)) (S+(Dp g:Nat)) (by
   intro b hb;unfold Iw at hb;rw[mem_flatMap]at hb;obtain⟨k,i,hk⟩:=hb;have i:=mem_range.1 i;split at hk
   .cases hk
   .rw[mem_map]at hk;obtain⟨d,hd,rfl⟩:=hk;obtain⟨d1,d2,d3⟩:=z d hd;have y:∀a∈d.1,Ez a.L l<0:=λa ha=>by have:=d3 a ha a0 (by simp[j]);rwa [s]at this
    unfold atO;by_cases h0:k=0
    .rw[Av h0,append_nil];exact⟨d1,by show Ef d.1<=S+((Dp g:Nat):Int);omega,λa ha r c=>d3 a ha r (by simp[c])⟩
    .rw[Ar h0];obtain⟨D,L⟩:=J k i h0;refine⟨⟨pairwise_append.2 ⟨d1.1,pairwise_singleton _ _,λa ha b hb=>?_⟩,λa ha=>?_⟩,?_,λa ha r c=>?_⟩
     .simp only[Ea]at hb;subst hb;exact y a ha
     .rcases Ej.1 ha with ha|ha
      .exact d1.2 a ha
      .simp only[Ea]at ha;subst ha;exact⟨by show (1:Int)<=(k:Int);omega,q.1,D,q.2⟩
     .show Ef (d.1++[⟨l,k⟩])<=_;rw[Bbr];have:Ef [(⟨l,(k:Int)⟩:Bd)]=(k:Int):=(by simp[Ef]);omega
     .rcases Ej.1 ha with ha|ha
      .exact d3 a ha r (by simp[c])
      .simp only[Ea]at ha;subst ha;exact E r c) b hb
  refine⟨this.1,?_⟩;rw[S0];have:=this.2;omega
theorem Bbt {L:List Bd} (h:Acp x.V x.E L) (s:Ef L<=6):Js x ⟨[],L⟩:=by
 have i:(L.length:Int)<=Ef L:=by have key:∀l:List Bd,(∀a∈l,1<=a.P)->(l.length:Int)<=Ef l:=(by intro l;induction l with| nil=>intro _;simp[Ef]| cons f fs ih=>intro c;have h1:=c f ψ;have h2:=ih (λg hg=>c g (by simp[hg]));unfold Ef at *;simp only[map_cons,sum_cons,D6];omega);exact key _ λa ha=>(h.2 a ha).1
 constructor
 .unfold Jq;have k:L.zipIdx.all (λq=>No x.V x.E L q.1 q.2)=true:=(by rw[G7];rintro⟨a,j⟩ hq;have hj:L[j]? = some a:=mk_mem_zipIdx_iff_getElem?.1 hq;obtain⟨h1,h2,h3,u⟩:=h.2 a (Bu hj);show No x.V x.E L a j=true;unfold No;have hp:Qv L a j=true:=(by unfold Qv;cases j with| zero=>rfl| succ j=>have c:=Eg hj;have hy:L[j]? = some L[j]:=Bs ω;have b:=pairwise_iff_getElem.1 h.1 j (j+1) ω c ω;have e:L[j+1]=a:=(by have:=Bs c;rw[hj]at this;exact (Fp this).symm);rw[e]at b;simp only[Nat.add_sub_cancel,hy,Bool.or_eq_true];exact .inr (decide_eq_true b));rw[hp,As h1,h2,u];simp only[Bool.true_and,Bool.and_true,Bool.not_eq_true',beq_eq_false_iff_ne,ne_eq];exact h3);show (([]:List Bb).zipIdx.all _&&L.zipIdx.all (λq=>No x.V x.E L q.1 q.2)&&decide (Cs x.D x.V x.E []+Ef L<=6))=true;rw[k];have:Cs x.D x.V x.E []=0:=rfl;rw[this];simp;exact s
 .exact⟨ψ,by show L.length<=1048576;omega,nofun,nofun,λa ha=>by have:=(Yc (h.2 a ha).2.1).1;omega⟩
def ec:List Ent->A3->Nat
 | [],_=>0
 | b::bs,m=>(if Ey ⟨[],b.1⟩ m=0 then b.2 else 0)+ec bs m
theorem Rep.mem {c:Rat} {bs:List Ent} (h:Rep c K ts bs) {t:Aj} (ht:t∈ts):∃b∈bs,t.M=⟨[],b.1⟩/\rq t.C=c*(b.2:Rat)/\RB K t.C:=by obtain⟨j,hj⟩:=Hi ht;obtain⟨b,b1,b2⟩:=h.get hj;exact⟨b,Bu b1,b2⟩
def Am7 (L:Nat) (p:List Aj):Prop:=∀t∈p,∃z:Int,rq t.C=(z:Rat)/\Ck z.natAbs<=L
theorem Bbu {z:Int} (ha:Hr a) (h:rq a=(z:Rat)):a=C2 (decide (z<0)) z.natAbs 1:=by
 refine Agv ha (Vd _ _ _ δ) ?_;rw[h,Qw _ _ _ δ,Ahi];congr 1;unfold sg;by_cases h:z<0
 .rw[As h,Av rfl];omega
 .rw[A5 h,Ar δ];omega
theorem Bbv {z:Int} (ha:Hr a) (h:rq a=(z:Rat)) (b:Ck z.natAbs<=L):RB (L+1) a:=by rw[Bbu ha h];exact Oi _ _ _ _ ω (by rw[Sr];omega) ω
theorem Am7.of (hc:CP p) (h:∀m,∃z:Int,cf p m=(z:Rat)/\Ck z.natAbs<=L):Am7 L p:=λt ht=>by obtain⟨z,b,z2⟩:=h t.M;exact⟨z,by rw[<-A67 hc ht];exact b,z2⟩
structure IP (x:B9) (n L:Nat) (f:A3->Rat) (R:List Aj):Prop where
 cp:CP R
 val:∀m,cf R m=f m
 mo:∀t∈R,Js x t.M
 len:R.length<=n
 int:Am7 L R
theorem IP.can {f:A3->Rat} {R:List Aj} (h:IP x n L f R) (c:n<=1000) (g:L<=1000000):I6 x R := I6.of h.cp h.mo (λt ht=>by obtain⟨z,b,z2⟩:=h.int t ht;exact (Bbv (h.cp.coe t ht).1 b z2).mono ω) (by have:=h.len;omega)
theorem IP.ext {y:B9} {b c:Nat} {f g:A3->Rat} {R S:List Aj} (h:IP x n L f R) (h':IP y b c g S) (e:∀m,f m=g m):R=S:=CP.ext h.cp h'.cp λm=>by rw[h.val,h'.val,e]
def cl:List Es->Int->Int
 | [],_=>0
 | t::l,v=>(if t.v=v then t.C else 0)+cl l v
theorem Acq {l:List Es} {v:Int} (h:∀t∈l,t.v≠v):cl l v=0:=by induction l with| nil=>rfl| cons t l ih=>simp only[cl];rw[Ar (h t ψ),ih λu hu=>h u (by simp[hu])];rfl
structure Am8 (L:List Es):Prop where
 srt:L.Pairwise λa b=>a.v<b.v
 nz:∀t∈L,t.C≠0
theorem Am8.ext:∀{L M:List Es},Am8 L->Am8 M->(∀v,cl L v=cl M v)->L=M:=by
 intro L;induction L with
 | nil=>intro M _ b h;cases M with| nil=>rfl| cons t M=>have:=h t.v;simp only[cl,if_true]at this;rw[Acq λu hu=>by have:=(pairwise_cons.1 b.srt).1 u hu;omega]at this;exact (b.nz t ψ ω).elim
 | cons s L ih=>
  intro M c b h;have f:cl (s::L) s.v=s.C:=(by simp only[cl,if_true];rw[Acq λu hu=>by have:=(pairwise_cons.1 c.srt).1 u hu;omega];omega);cases M with
  | nil=>have:=h s.v;rw[f]at this;exact (c.nz s ψ (by simpa[cl] using this)).elim
  | cons t M=>
   have ht:cl (t::M) t.v=t.C:=(by simp only[cl,if_true];rw[Acq λu hu=>by have:=(pairwise_cons.1 b.srt).1 u hu;omega];omega);have hv:s.v=t.v:=by
    rcases Int.lt_trichotomy s.v t.v with k|k|k
    .have h1:=h s.v;rw[f,Acq (l:=t::M) λu hu=>by
      rcases Gi.1 hu with rfl|hu
      .omega
      .have:=(pairwise_cons.1 b.srt).1 u hu;omega]at h1
     exact (c.nz s ψ h1).elim
    .exact k
    .have h1:=h t.v;rw[ht,Acq (l:=s::L) λu hu=>by
      rcases Gi.1 hu with rfl|hu
      .omega
      .have:=(pairwise_cons.1 c.srt).1 u hu;omega]at h1
     exact (b.nz t ψ h1.symm).elim
   have hc:s.C=t.C:=(by rw[<-f,<-ht,h,hv]);have e:s=t:=(by cases s;cases t;simp only at hv hc;rw[hv,hc]);subst e;rw[ih (M:=M) ⟨(pairwise_cons.1 c.srt).2,λu hu=>c.nz u (by simp[hu])⟩ ⟨(pairwise_cons.1 b.srt).2,λu hu=>b.nz u (by simp[hu])⟩ λv=>by have:=h v;simp only[cl]at this;omega]
theorem Bbw {a:Bn} (h:F3 a=true):∀t∈a.T,-1048576<=t.C/\t.C<=1048576:=by intro t ht;obtain⟨j,hj⟩:=Hi ht;unfold F3 at h;rw[Ct,G7]at h;have:=h.2 (t,j) (mk_mem_zipIdx_iff_getElem?.2 hj);unfold Sk at this;simp only[Ct,Du]at this;exact⟨this.1.2.2.2.1,this.1.2.2.2.2⟩
def NoF (x:B9) (D:Nat) (m:A3):Prop:=Js x m/\m.F = []/\Ef m.A<=(D:Nat)
theorem NoF.mono {D':Nat} {m:A3} (h:NoF x D m) (hd:D<=D'):NoF x D' m:=⟨h.1,h.2.1,by have:=h.2.2;omega⟩
theorem Gs.nil_of {c:List Grp} (h:Gs c A):A = []->c = []:=by cases h with| nil=>exact λ_=>rfl| cons b _ _ _ _=>exact λe=>absurd (append_eq_nil_iff.1 e).1 b
theorem IsE.one {a:Bd} (h:IsE [a] B):B.length<=1:=by
 obtain⟨gs,G,x,I,q,rfl⟩:=h;have E:G = [a]:=perm_singleton.1 x;rw[E]at q;generalize c:[a]=X at q;cases q with
 | nil=>cases c
 | @cons l N f g rest gs s hg J z D=>
  have L:g.length+rest.length=1:=(by have:=congrArg length c;simpa using this.symm);have y:g.length=1:=(by have:=length_pos_iff.2 s;have:rest.length≠1\/g.length=0:=ω;omega);have b:rest = []:=Gn.1 ω;subst b;rw[append_nil]at c;subst c;have u:=D.nil_of rfl;subst u
  .show (Iw [([],1)] l f (N+1)).length<=1;have key:∀n,(∀i j,i<n->j<n->f i≠0->f j≠0->i=j)->(Iw [(([],1):Ent)] l f n).length<=1/\((Iw [(([],1):Ent)] l f n).length=1->∃i,i<n/\f i≠0):=by
    intro n;induction n with
    | zero=>intro _;simp[Iw]
    | succ n ih=>
     intro h;obtain⟨i1,i2⟩:=ih λi j hi hj=>h i j ω ω;rw[Awa,Ek];by_cases h0:f n=0
     .rw[Av h0];refine⟨by simpa using i1,λe=>?_⟩;obtain⟨i,a1,a2⟩:=i2 (by simpa using e);exact⟨i,ω,a2⟩
     .rw[Ar h0];have:(Iw [(([],1):Ent)] l f n).length≠1:=λe=>by obtain⟨i,a1,a2⟩:=i2 e;have:=h i n ω ω a2 h0;omega
      refine⟨by simp only[C1,length_singleton];omega,λ_=>⟨n,ω,h0⟩⟩
   refine (key (N+1) ?_).1;rcases z with⟨_,h2⟩|⟨_,h2,_⟩
   .have e:∀k,k<N+1->f k=if k=N then 1 else 0:=by refine A8p λn _=>?_;rw[h2.2.2 n];have A:N=a.P.toNat:=(by have:=h2.1;simpa[Dp] using this);rw[Abz (k:=N) ω (λj hj=>by simp[hj])];simp[prb,A]
    intro i j hi hj h1 h2;rw[e i hi]at h1;rw[e j hj]at h2;split at h1
    .split at h2
     .omega
     .exact (h2 rfl).elim
    .exact (h1 rfl).elim
   .intro i j hi hj _ _;omega
noncomputable def eB (A:List Bd):List Ent:=open Classical in if h:∃B,IsE A B then Classical.choose h else []
def sq:Nat->(Nat->Rat)->Rat
 | 0,_=>0
 | n+1,f=>sq n f+f n
def cs (K:Nat):Nat->Nat
 | 0=>0
 | j+1=>cs K j+(1+min j (K-j))
theorem Axe (f:α->Int) (l:List α) (h:∀j x,l[j]? = some x->Nn f l x j=true):l.Pairwise λa b=>f a<f b:=by
 have step:∀j x y,l[j]? = some x->l[j+1]? = some y->f x<f y:=by intro j x y hx hy;have:=h (j+1) y hy;unfold Nn at this;rw[Nat.add_sub_cancel,hx]at this;simpa using this
 have c:∀d j x y,l[j]? = some x->l[j+d+1]? = some y->f x<f y:=by intro d;induction d with| zero=>exact λj x y h1 h2=>step j x y h1 h2| succ d ih=>intro j x y h1 h2;have g:l[j+d+1]? = some (l[j+d+1]'(by have:=Eg h2;omega)):=Bs _;have a1:=ih j x _ h1 g;have a2:=step _ _ _ g h2;omega
 rw[pairwise_iff_getElem];intro i j hi hj k;obtain⟨d,hd⟩:∃d,j=i+d+1:=⟨j-i-1,ω⟩;subst hd;exact c d i _ _ (Bs hi) (Bs hj)
def Yk (x:B9) (m:A3):Int:=Cs x.D x.V x.E m.F+Ef m.A
structure S7 (x:B9) (m:A3):Prop where
 fac:∀f∈m.F,1<=Dz x.D x.V x.E f
 asc:m.F.Pairwise λa b=>a.v<b.v
 atm:∀a∈m.A,1<=a.P/\F3 a.L=true/\a.L.T.length≠0/\It x.V x.E a.L=true
 srt:m.A.Pairwise λa b=>Ez a.L b.L<0
 deg:Yk x m<=6
theorem Js.f {m:A3} (h:Js x m):S7 x m:=by
 have hc:=h.1;unfold Jq at hc;rw[Ct,Ct,Du]at hc;obtain⟨⟨h1,h2⟩,h3⟩:=hc;have g1:∀j f,m.F[j]? = some f->1<=Dz x.D x.V x.E f/\Nn (·.v) m.F f j=true:=λj f hj=>by have:=Is h1 hj;unfold Pl at this;rw[Ct,Du]at this;exact this
 have g2:∀j a,m.A[j]? = some a->(1<=a.P/\F3 a.L=true/\a.L.T.length≠0/\It x.V x.E a.L=true)/\Qv m.A a j=true:=λj a hj=>by have:=Is h2 hj;unfold No at this;simp only[Ct,Du,Bool.not_eq_true',beq_eq_false_iff_ne,ne_eq]at this;exact⟨⟨this.1.1.1.1,this.1.1.1.2,this.1.1.2,this.1.2⟩,this.2⟩
 refine⟨λf hf=>?_,Axe _ _ λj f hj=>(g1 j f hj).2,λa ha=>?_,?_,h3⟩
 .obtain⟨j,hj⟩:=Hi hf;exact (g1 j f hj).1
 .obtain⟨j,hj⟩:=Hi ha;exact (g2 j a hj).1
 .have step:∀j x y,m.A[j]? = some x->m.A[j+1]? = some y->Ez x.L y.L<0:=(by intro j x y hx hy;have:=(g2 (j+1) y hy).2;unfold Qv at this;rw[Nat.add_sub_cancel,hx]at this;simpa using this);have b:∀d j x y,m.A[j]? = some x->m.A[j+d+1]? = some y->Ez x.L y.L<0:=(by intro d;induction d with| zero=>exact λj x y h1 h2=>step j x y h1 h2| succ d ih=>intro j x y h1 h2;have c:m.A[j+d+1]? = some (m.A[j+d+1]'(by have:=Eg h2;omega)):=Bs _;exact Ab5.trs _ _ _ (ih j x _ h1 c) (step _ _ _ c h2));rw[pairwise_iff_getElem];intro i j hi hj g;obtain⟨d,hd⟩:∃d,j=i+d+1:=⟨j-i-1,ω⟩;subst hd;exact b d i _ _ (Bs hi) (Bs hj)
theorem S7.fsum0 {m:A3} (h:S7 x m):0<=Cs x.D x.V x.E m.F:=by
 have key:∀l:List Bb,(∀f∈l,1<=Dz x.D x.V x.E f)->0<=Cs x.D x.V x.E l:=λl=>by induction l with| nil=>intro _;simp[Cs]| cons f l ih=>intro b;have h1:=b f ψ;have h2:=ih λg hg=>b g (by simp[hg]);unfold Cs at *;simp only[map_cons,sum_cons];omega
 exact key _ h.fac
theorem Bbx {l:List Bd} (h:∀a∈l,1<=a.P):Ef l=(Dp l:Nat)/\l.length<=Dp l:=by induction l with| nil=>exact⟨rfl,Nat.le_refl _⟩| cons a l ih=>obtain⟨e,c⟩:=ih λb hb=>h b (by simp[hb]);have f:=h a ψ;unfold Ef at *;simp only[map_cons,sum_cons,Dp,D6];omega
theorem S7.as {m:A3} (h:S7 x m):Ef m.A=(Dp m.A:Nat)/\m.A.length<=Dp m.A:=Bbx λa ha=>(h.atm a ha).1
def Gc (v:Bn->Nat):List Bd->Nat
 | []=>1
 | a::l=>bc (v a.L) a.P.toNat*Gc v l
theorem Acr (v:Bn->Nat) (l m:List Bd):Gc v (l++m)=Gc v l*Gc v m:=by induction l with| nil=>simp[Gc]| cons a l ih=>simp only[D9,Gc,ih,Nat.mul_assoc]
theorem Axf (v:Bn->Nat) {l m:List Bd} (h:l.Perm m):Gc v l=Gc v m:=by induction h with| nil=>rfl| cons a _ ih=>simp only[Gc,ih]| swap a b l=>simp only[Gc];rw[<-Nat.mul_assoc,<-Nat.mul_assoc,Nat.mul_comm (bc (v b.L) _)]| trans _ _ h1 h2=>exact h1.trans h2
theorem Am9 {v:Bn->Nat} {l:Bn}:∀{g:List Bd},(∀a∈g,a.L=l)->Gc v g=prb (v l) g
 | [],_=>rfl
 | a::g,h=>by simp only[Gc,prb];rw[h a ψ,Am9 λb hb=>h b (by simp[hb])]
def Ju (v:Bn->Nat):List Ent->Nat
 | []=>0
 | b::bs=>b.2*Gc v b.1+Ju v bs
theorem Bby (v:Bn->Nat) (B C:List Ent):Ju v (B++C)=Ju v B+Ju v C:=by induction B with| nil=>simp[Ju]| cons b B ih=>simp only[D9,Ju,ih,Nat.add_assoc]
theorem Bbz (v:Bn->Nat) (l:Bn) (k c:Nat) (B:List Ent):Ju v (B.map λb=>(b.1++atO l k,b.2*c))=Ju v B*(c*bc (v l) k):=by
 have ha:Gc v (atO l k)=bc (v l) k:=by
  unfold atO;by_cases h:k=0
  .subst h;rw[Av rfl,J3];rfl
  .rw[Ar h];simp[Gc]
 induction B with| nil=>simp[Ju]| cons b B ih=>simp only[map_cons,Ju,ih,Acr,ha];rw[Nat.add_mul];congr 1;rw[Nat.mul_assoc,Nat.mul_assoc,<-Nat.mul_assoc c,Nat.mul_comm c,Nat.mul_assoc]
theorem Axg (v:Bn->Nat) (B:List Ent) (l:Bn) (f:Nat->Nat):∀n,Ju v (Iw B l f n)=Ju v B*sm n λk=>f k*bc (v l) k
 | 0=>by simp[Iw,Ju,sm]
 | n+1=>by
  rw[Awa,Bby,Axg v B l f n];show _=Ju v B*(sm n (λk=>f k*bc (v l) k)+f n*bc (v l) n);rw[Nat.mul_add];congr 1;by_cases h:f n=0
  .rw[Av h,h];simp[Ju]
  .rw[Ar h,Bbz]
def Mx (v:Bn->Nat):Prop:=∀l:Bn,l.T.length=0->v l=l.Q.toNat
theorem Gs.val (hv:Mx v):∀{b:List Grp} {A:List Bd},Gs b A->∀B,Ju v (Nu B b)=Ju v B*Gc v A:=by
 intro b A h;induction h with
 | nil=>intro B;simp[Nu,Gc]
 | @cons l N f g rest b c hg j i k ih=>
  intro B;show Ju v (Nu (Iw B l f (N+1)) b)=_;rw[ih,Axg,Acr,Am9 hg,<-Nat.mul_assoc];congr 2;rcases i with⟨_,_,_,h3⟩|⟨h1,h2,h3⟩
  .exact h3 (v l)
  .subst h2;rw[hv l h1];simp[sm,J3,h3]
theorem IsE.val (hv:Mx v) (h:IsE A B):Ju v B=Gc v A:=by obtain⟨gs,g,c,f,b,rfl⟩:=h;rw[b.val hv,<-Axf v c];simp[Ju,Gc]
def eW (c:Rat) (B:List Ent):List (Rat×A3):=B.map λb=>(c*(b.2:Rat),⟨[],b.1⟩)
def fv (val:Int->Ax) (l:Bn):Nat:=(Mu val l).toNat
theorem Ana (val:Int->Ax):Mx (fv val):=λl h=>by unfold fv Mu;rw[Gn.1 h];simp
theorem Bb0 (x:B9) (val:Int->Ax) (L:List Bd):S3 x val ⟨[],L⟩=Gc (fv val) L:=by
 unfold S3;have h:∀L:List Bd,Dv (L.map (Qy val))=Gc (fv val) L:=by intro L;induction L with| nil=>rfl| cons a L ih=>rw[map_cons];show Qy val a*Dv (L.map (Qy val))=_;rw[ih];rfl
 rw[h];show 1*_=_;rw[Nat.one_mul]
theorem Bb1 {m:A3} (b:Js x m) {L:List Bd} (h:Acp x.V x.E L) (c:Cs x.D x.V x.E m.F+Ef L<=6):Js x ⟨m.F,L⟩:=by have h0:=b.f.fsum0;obtain⟨g1,g2⟩:=Bbt h ω;have hc:=b.1;unfold Jq at hc g1;rw[Ct,Ct]at hc g1;refine⟨?_,⟨b.2.nf,g2.na,b.2.fi,b.2.fr,g2.al⟩⟩;unfold Jq;rw[Ct,Ct];exact⟨⟨hc.1.1,g1.1.2⟩,decide_eq_true c⟩
theorem Bb2 (x:B9) (val:Int->Ax) (F:List Bb) (L:List Bd):S3 x val ⟨F,L⟩=Dv (F.map (H9 x val))*Gc (fv val) L:=by have h:=Bb0 x val L;unfold S3 at h ⊢;rw[<-h];show _=_*(1*_);rw[Nat.one_mul]
def ls (g:Int->Int):List Es->Int
 | []=>0
 | t::l=>t.C*g t.v+ls g l
structure PX (x:B9) (n k:Nat) (R:List Aj):Prop where
 cp:CP R
 mo:∀t∈R,Js x t.M
 rb:∀t∈R,RB k t.C
 len:R.length<=n
theorem PX.can {R:List Aj} (h:PX x n k R) (b:n<=1000) (hk:k<=1048576):I6 x R := I6.of h.cp h.mo (λt ht=>(h.rb t ht).mono hk) (Nat.le_trans h.len b)
theorem Bb3:Py (λa b:Bb=>a.v-b.v):=⟨λ_ h=>ω,λ_ _ _ h1 h2=>ω,λ_ _ _ h1 h2 h3=>ω⟩
theorem Bb4 (hv:∀f∈F,-1<=f.v/\f.v<=1000000000) (c:F.length<20):∃R,Zl F=some R/\R.Perm F/\R.Pairwise (λa b=>a.v<=b.v):=by obtain⟨R,h1,h2,h3⟩:=Av8 (cmp:=Ws) Bb3 F (λx hx y hy=>by have:=hv x hx;have:=hv y hy;unfold Ws;have w:Ac (x.v-y.v)=x.v-y.v:=ξ;rw[w]) c;refine⟨R,?_,h2,h3.imp λ{a b} h=>ω⟩;unfold Zl;have e:Aez (F.length:Int) F=Ahf Ws (F.length:Int) F:=rfl;rw[e,h1,Ad,Ns h2.length_eq.symm];rfl
theorem Anb (h:l.Perm m):Cs data vars res l=Cs data vars res m:=by induction h with| nil=>rfl| cons a _ ih=>simp only[Cs,map_cons,sum_cons]at ih ⊢;omega| swap a b l=>simp only[Cs,map_cons,sum_cons];omega| trans _ _ h1 h2=>exact h1.trans h2
theorem Axh {l m:List Nat} (h:l.Perm m):l.sum=m.sum:=by induction h with| nil=>rfl| cons a _ ih=>simp only[sum_cons,ih]| swap a b l=>simp only[sum_cons];omega| trans _ _ h1 h2=>exact h1.trans h2
theorem Nw.perm (hp:l.Perm m) (h:Nw data vars res m):Nw data vars res l:=by refine⟨λf hf=>h.fac f (hp.mem_iff.1 hf),?_,by rw[Anb hp];exact h.sum⟩;rw[Axh (hp.map λf=>Bv f.I)];exact h.siz
structure Vq (data:List Ai) (vars:List Af) (res:Af) (c:Rat) (F:List Bb) (A:List Bd) (K:Nat) (out:List Aj):Prop where
 ex:∃Fs FE S gs,Fs.Perm F/\Q6 data vars res Fs FE/\S.Perm A/\Ab6 S/\Gs gs S/\Ft K out (Q4 (FE.map (Kw c)) gs)
 len:out.length<=10 ^ (Cs data vars res F).toNat*2 ^ Dp A
theorem Bb5 (hz:DSz data) (hv:Hw data) (hx:Oh data vars res) (M:∀v t,Dj vars res v=some t->G0 data t=true) {c:Ao} (hc:RB K c) (hK:K<20000000000) (h0:rq c≠0) (E:Nw data vars res F) (B:Atk A) (hs:Cs data vars res F+(Dp A:Nat)<=6) (m1:Ew data vars res b1) (m2:PMg data vars res b2) : ∃out e q k,P5 c ⟨F,A⟩ b1 b2 data vars res.G res.U res.R=some (out,e,q,k)/\Ew data vars res q/\PMg data vars res k/\((e=9/\out = []/\Mw F)\/(e=0/\Vq data vars res (rq c) F A (K+3636) out)):=by
 have a7:=Lx (data:=data) (vars:=vars) (res:=res) (l:=F) λf hf=>(E.fac f hf).2.2;have a6:=E.sum;have hT:∀b∈A,b.L.T.length<1099511627776:=λb hb=>by have:=(Yc (B.lin b hb)).1;omega
 have U:=B.len;have R:=B.sum;obtain⟨S,s1,j,Y⟩:=A9g A hT ω;have g:Atk S:=⟨λa ha=>B.deg a (j.mem_iff.1 ha),λa ha=>B.lin a (j.mem_iff.1 ha),by rw[Amt j];exact R,by rw[j.length_eq];exact U⟩;obtain⟨G,f1,f2,f3⟩:=Bb4 (F:=F) (λf hf=>by obtain⟨t,d,h1,_⟩:=Vp (E.fac f hf).2.2;have:=Abg vars res f.v;rw[h1]at this;have:=of_decide_eq_true this.symm;have:=hx.nv;omega) ω;have x:=E.perm f2;have s:Nq (rq c)≠0:=by
  unfold Nq;split
  .decide
  .split
   .decide
   .rename_i h1 h2;exact (h0 (by grind)).elim
 have N:Zm A=some ([],A):=by unfold Zm P1;rw[D2 ζ];rfl
 have h:Zk F=some ([],F):=by unfold Zk P1;rw[D2 ζ];rfl
 have i:=f2.length_eq;obtain⟨z,X,z2⟩:=Bbq hz hv hx M (c:=rq c) G.length G [] [⟨c,⟨[],[]⟩⟩] [([],1)] K b1 b2 (Nat.le_refl _) f3 (λf hf=>by cases hf) x (.cons rfl (by show rq c=rq c*((1:Nat):Rat);grind) hc (by simp[Kw]) .nil) (Q6.nil _ _ _) (λp hp=>by simp only[Ea]at hp;subst hp;simp) ω m1 m2;rcases z2 with⟨q,k,wt,rfl,L,J⟩|⟨ts,V,q,k,rfl,L,J,Z,I⟩
 .refine⟨[],9,q,k,?_,L,J,.inl ⟨rfl,rfl,wt.perm f2⟩⟩;unfold P5;rw[(Agx hc ω).1,Ad,C3 s,Aq,h,Ad];dsimp only;rw[f1,Ad,Ns i.symm,Ad];exact bnd X rfl
 .rw[nil_append]at I;have u:=I.len;rw[Anb f2]at u;have a1:0<=Cs data vars res F:=ω;have y:(V.map (Kw (rq c))).length*2 ^ Dp S<=10 ^ (Cs data vars res F).toNat*2 ^ Dp A:=(by rw[C1,Amt j];exact Nat.mul_le_mul_right _ u);have D:10 ^ (Cs data vars res F).toNat*2 ^ Dp A<=1000000:=(by have h1:2 ^ Dp A<=10 ^ Dp A:=Nat.pow_le_pow_left δ _;have h2:=Nat.mul_le_mul_left (10 ^ (Cs data vars res F).toNat) h1;rw[<-Nat.pow_add]at h2;exact Nat.le_trans h2 (Ahy ω));obtain⟨gs,out,g1,g2,g3,g4⟩:=Bbi S.length S ts (V.map (Kw (rq c))) (K+202*G.length) 0 (Nat.le_refl _) Y g Z (λb hb=>by obtain⟨p,_,rfl⟩:=mem_map.1 hb;simp[Kw]) (by have:=g.len;omega) (by have:=g.len;omega) (Nat.le_trans y D);refine⟨out,0,q,k,?_,L,J,.inr ⟨rfl,⟨G,V,S,gs,f2,I,j,Y,g2,g3.mono (by have:=g.len;omega)⟩,Nat.le_trans g4 y⟩⟩;unfold P5;rw[(Agx hc ω).1,Ad,C3 s,Aq,h,Ad];dsimp only;rw[f1,Ad,Ns i.symm,Ad];refine bnd X ?_;dsimp only;rw[N,Ad];dsimp only;rw[s1,Ad,Ns j.length_eq.symm,Ad];exact bnd g1 rfl
def Ix (χ:Bb->Nat) (v:Bn->Nat):List He->Nat
 | []=>0
 | b::bs=>Dv (b.1.1.map χ)*(b.2.2*Gc v b.2.1)+Ix χ v bs
theorem Bb6 (χ:Bb->Nat) (v:Bn->Nat) (B C:List He):Ix χ v (B++C)=Ix χ v B+Ix χ v C:=by induction B with| nil=>simp[Ix]| cons b B ih=>simp only[D9,Ix,ih,Nat.add_assoc]
theorem Bb7 (χ:Bb->Nat) (v:Bn->Nat) (l:Bn) (k c:Nat) (B:List He):Ix χ v (B.map (S6 l k c))=Ix χ v B*(c*bc (v l) k):=by
 have ha:Gc v (atO l k)=bc (v l) k:=by
  unfold atO;by_cases h:k=0
  .subst h;rw[Av rfl,J3];rfl
  .rw[Ar h];simp[Gc]
 induction B with
 | nil=>simp[Ix]
 | cons b B ih=>
  simp only[map_cons,Ix,ih,S6,Acr,ha];rw[Nat.add_mul];congr 1
  ac_rfl
theorem Axi (χ:Bb->Nat) (v:Bn->Nat) (B:List He) (l:Bn) (f:Nat->Nat):∀n,Ix χ v (Kv B l f n)=Ix χ v B*sm n λk=>f k*bc (v l) k
 | 0=>by simp[Kv,Ix,sm]
 | n+1=>by
  rw[Ahw,Bb6,Axi χ v B l f n];show _=Ix χ v B*(sm n (λk=>f k*bc (v l) k)+f n*bc (v l) n);rw[Nat.mul_add];congr 1;by_cases h:f n=0
  .rw[Av h,h];simp[Ix]
  .rw[Ar h,Bb7]
theorem Gs.valG (hv:Mx v):∀{b:List Grp} {A:List Bd},Gs b A->∀B,Ix χ v (Q4 B b)=Ix χ v B*Gc v A:=by
 intro b A h;induction h with
 | nil=>intro B;simp[Q4,Gc]
 | @cons l N f g rest b c hg j i k ih=>
  intro B;show Ix χ v (Q4 (Kv B l f (N+1)) b)=_;rw[ih,Axi,Acr,Am9 hg,<-Nat.mul_assoc];congr 2;rcases i with⟨_,_,_,h3⟩|⟨h1,h2,h3⟩
  .exact h3 (v l)
  .subst h2;rw[hv l h1];simp[sm,J3,h3]
theorem Axj (χ:Bb->Nat) (v:Bn->Nat) (c:Rat):∀b:List Nv,Ix χ v (b.map (Kw c))=pv (λF=>Dv (F.map χ)) b
 | []=>rfl
 | p::b=>by rw[map_cons,Ix,Axj χ v c b,pv];show Dv (p.1.map χ)*(p.2*1)+_=_;rw[Nat.mul_one,Nat.mul_comm]
def G4 (χ:Bb->Nat) (v:Bn->Nat):List Aj->Rat
 | []=>0
 | t::p=>rq t.C*((Dv (t.M.F.map χ)*Gc v t.M.A:Nat):Rat)+G4 χ v p
theorem Axk (χ:Bb->Nat) (v:Bn->Nat):∀p q:List Aj,G4 χ v (p++q)=G4 χ v p+G4 χ v q
 | [],q=>by simp only[nil_append,G4];grind
 | t::p,q=>by simp only[D9,G4,Axk χ v p q];grind
theorem Ft.polX {c:Rat} {bs:List He} (h:Ft K ts bs) (hc:∀b∈bs,b.1.2=c):Go.Ab.G4 χ v ts=c*(Ix χ v bs:Rat):=by induction h with| nil=>simp only[Go.Ab.G4,Ix];grind| @cons t b ts bs a1 a2 a3 a4 _ ih=>have hb:=hc b ψ;simp only[Go.Ab.G4,Ix,ih λd hd=>hc d (by simp[hd]),a1,a2,hb,Rat.natCast_add,Rat.natCast_mul];grind
theorem Bb8 {l m:List Nat} (h:l.Perm m):Dv l=Dv m:=by induction h with| nil=>rfl| cons a _ ih=>simp only[Dv,ih]| swap a b l=>simp only[Dv];ac_rfl| trans _ _ h1 h2=>exact h1.trans h2
theorem Vq.val {c:Rat} {f:List Aj} (h:Vq data vars res c F A K f) (i:Ol data vars res χ F) (hv:Mx v):G4 χ v f=c*((Dv (F.map χ)*Gc v A:Nat):Rat):=by obtain⟨s,u,S,gs,h1,h2,h3,l,k,j⟩:=h.ex;rw[j.polX (c:=c) λb hb=>by obtain⟨q,b1,b2,_⟩:=Am6 gs hb;obtain⟨p,_,rfl⟩:=mem_map.1 b1;rw[b2];rfl];rw[k.valG hv,Axj,h2.val χ λg hg=>i g (h1.mem_iff.1 hg),Axf v h3,Bb8 (h1.map χ)]
theorem Bb9 {l:Bn} {f:Nat->Nat} {b:Ent} (hb:b∈Iw B l f n):∃c∈B,∀a∈b.1,a∈c.1\/a.L=l:=by
 unfold Iw at hb;rw[mem_flatMap]at hb;obtain⟨k,_,hk⟩:=hb;split at hk
 .cases hk
 .obtain⟨d,hd,rfl⟩:=mem_map.1 hk;refine⟨d,hd,λa ha=>?_⟩;rcases Ej.1 ha with ha|ha
  .exact .inl ha
  .unfold atO at ha;split at ha
   .cases ha
   .simp only[Ea]at ha;right;rw[ha]
theorem Bca {j:List Grp} (h:Gs j A):∀(B:List Ent) (b:Ent),b∈Nu B j->∃q∈B,∀a∈b.1,a∈q.1\/∃c∈A,a.L=c.L:=by
 induction h with
 | nil=>intro B b hb;exact⟨b,hb,λa ha=>.inl ha⟩
 | @cons l N f g rest j k hg s u x ih=>
  intro B b hb;obtain⟨b1,c1,c2⟩:=ih _ b (show b∈Nu (Iw B l f (N+1)) j from hb);obtain⟨q,d1,d2⟩:=Bb9 c1;obtain⟨a0,i⟩:∃a,a∈g:=(by cases g with| nil=>exact (k rfl).elim| cons a _=>exact⟨a,ψ⟩);refine⟨q,d1,λa ha=>?_⟩;rcases c2 a ha with h|⟨c,h1,h2⟩
  .rcases d2 a h with h|h
   .exact .inl h
   .exact .inr ⟨a0,by simp[i],by rw[h,hg a0 i]⟩
  .exact .inr ⟨c,by simp[h1],h2⟩
theorem Vq.mono {c:Rat} {i:List Aj} (h:Vq data vars res c F A K i) (B:∀a∈A,F3 a.L=true/\It vars res a.L=true):∀t∈i,RB K t.C/\(∃n:Nat,rq t.C=c*(n:Rat))/\(∀f∈t.M.F,Ev f.v/\iR f.I/\Bv f.I<=(F.map λf=>Bv f.I).sum/\1<=Dz data vars res f)/\t.M.F.Pairwise (λa b=>a.v<b.v)/\Cs data vars res t.M.F<=Cs data vars res F/\Acp vars res t.M.A/\Ef t.M.A<=(Dp A:Nat)/\(∀f∈t.M.F,∃g∈F,g.v=f.v)/\∀a∈t.M.A,∃c∈A,a.L=c.L:=by
 obtain⟨R,U,S,gs,h1,h2,h3,M,l,k⟩:=h.ex;intro t ht;obtain⟨b,b1,b2,L,J⟩:=k.mem ht;obtain⟨N,c1,c2,c3⟩:=Am6 gs b1;obtain⟨p,j,rfl⟩:=mem_map.1 c1;obtain⟨g1,g2⟩:=Bbs (vars:=vars) (res:=res) l (λa ha=>B a (h3.mem_iff.1 ha)) [(Kw c p).2] 0 (λd hd=>by simp only[Ea]at hd;subst hd;exact⟨⟨Pairwise.nil,λ_ h=>by cases h⟩,by simp[Ef,Kw],λ_ h=>by cases h⟩) b.2 c3;rw[Amt h3]at g2;have G:b.1.1=p.1:=by rw[c2];rfl
 have E:b.1.2=c:=by rw[c2];rfl
 rw[b2];dsimp only;rw[G];refine⟨J,⟨b.2.2,by rw[L,E]⟩,λf hf=>?_,h2.asc p j,by have:=h2.sum p j;rw[Anb h1]at this;exact this,g1,ω,λf hf=>?_,λa ha=>?_⟩
 .obtain⟨z,y,x,u,_⟩:=h2.fac p j f hf;exact⟨z,y,by rw[<-Axh (h1.map λf=>Bv f.I)];exact x,u⟩
 .obtain⟨_,_,_,_,g,s,q⟩:=h2.fac p j f hf;exact⟨g,h1.mem_iff.1 s,q⟩
 .obtain⟨d,d1,d2⟩:=Bca l _ _ c3;simp only[Ea]at d1;subst d1;rcases d2 a ha with h|⟨I,k,D⟩
  .cases h
  .exact⟨I,h3.mem_iff.1 k,D⟩
theorem Bcb {c:Ao} (ha:RB K a) (hc:RB k c) (h:rq a=rq c*(n:Rat)) (h0:rq c≠0):Ck n<=K+k+2:=by
 have i:=ha.nv;have hd:=hc.dv;have e:rq c*(n:Rat)=mkRat (sg (sv c) (nv c)*(n:Int)) (dv c):=by unfold rq;rw[show ((n:Nat):Rat)=mkRat (n:Int) 1 from (Ahi (n:Int)).symm,Rat.mkRat_mul_mkRat,Nat.mul_one]
 rw[e]at h;unfold rq at h;rw[Rat.mkRat_eq_iff (H8 a) (H8 c)]at h;have b:nv c≠0:=λg=>h0 ((A7a c).2 g);have hh:=congrArg Int.natAbs h;have f:∀(s:Bool) (m:Nat),(sg s m).natAbs=m:=λs m=>by unfold sg;split <;> omega
 rw[Int.natAbs_mul,Int.natAbs_mul,Int.natAbs_mul,f,f,Int.natAbs_natCast,Int.natAbs_natCast,Int.natAbs_natCast]at hh;have h1:n<=nv a*dv c:=by rw[hh];have d0:=Nat.pos_of_ne_zero (H8 a);have c0:=Nat.pos_of_ne_zero b;have h2:n<=nv c*n:=Nat.le_mul_of_pos_left _ c0;exact Nat.le_trans h2 (Nat.le_mul_of_pos_right _ d0)
 have h2:=Mk h1;have h3:=Jp (nv a) (dv c);omega
theorem Bcc {x c:Ao} {j:Nat} (hx:Hr x) (ha:RB j a) (hc:RB k c) (b:Ck n<=L) (g:1<=L) (h:rq x=rq a+rq c*(n:Rat)) (hj:j<10000000000) (hk:k<10000000000) (f:L<10000000000):RB (j+k+L+5) x:=by obtain⟨m,m1,m2,m3,m4⟩:=Sv hc (Oj b g) ω ω;obtain⟨d,d1,_,d3,d4,d5⟩:=Agw ha m2 ω ω;have:x=d:=Agv hx d4 (by rw[h,d5,m4,Vm]);rw[this];exact d3.mono ω
def Tm (k0:Nat) (c:Ao) (N B:Nat) (t:Aj):Prop:=RB B t.C/\∃(a:Ao) (n:Nat),RB k0 a/\rq t.C=rq a+rq c*(n:Rat)/\n<=N
theorem Bcd (hP:∀m,P m->CMo m) {c:Ao} (hc:RB k c) (a1:rq c≠0) (l ts:List Aj) (y:Col k0 P ts) (hl:∀t∈l,RB K t.C/\P t.M/\∃n:Nat,rq t.C=rq c*(n:Rat)) (ab:k0<=2000000000) (hK:K<=2000000000) (hk:k<=2000000000) (aa:l.length<=1000000) (hn:ts.length<=1099511627776) : ∃f,Rt l (plc ts) ts=some (plc f,f)/\Col (max k0 K+k+(K+k+10)) P f/\f.length<=ts.length+l.length/\∀m,cf f m=cf ts m+cf l m:=by
 have J:∀t∈l,∀n:Nat,rq t.C=rq c*(n:Rat)->n<1000000000 ^ (K+k+2):=λt ht n h=>by have h1:=Bcb (hl t ht).1 hc h a1;exact Nat.lt_of_lt_of_le (Ql n) (Nat.pow_le_pow_right δ h1)
 have a6:∀N,N<=1000000*1000000000 ^ (K+k+2)->Ck N<=K+k+3:=λN h=>by refine Kz (Nat.lt_of_le_of_lt h ?_);rw[show K+k+3=(K+k+2)+1 by omega,Nat.pow_succ];have key:∀X:Nat,0<X->1000000*X<X*1000000000:=λX h=>ω;exact key (1000000000 ^ (K+k+2)) (Nat.pow_pos (show 0<1000000000 by decide))
 have hB:∀(N:Nat) (x a:Ao),N<=1000000*1000000000 ^ (K+k+2)->Hr x->RB (max k0 K) a->rq x=rq a+rq c*(N:Rat)->RB (max k0 K+k+(K+k+10)) x:=λN x a h1 h2 h3 h4=>by have h5:=Bcc h2 h3 hc (a6 N h1) ω h4 ω ω ω;exact h5.mono ω
 unfold Rt;refine Aa0 (A:=List Aj) (λf=>(plc f,f)) ?_;refine Et (λs=>∃(j:Nat) (u:List Aj),s=((j:Int),plc u,u)/\j<=l.length/\Dst u/\(∀t∈u,P t.M)/\(∀t∈u,Tm (max k0 K) c (j*1000000000 ^ (K+k+2)) (max k0 K+k+(K+k+10)) t)/\u.length<=ts.length+j/\∀m,cf u m=cf ts m+cf (l.take j) m) (λs=>l.length-s.1.toNat) (λz=>∃u,z=(plc u,u)/\Col (max k0 K+k+(K+k+10)) P u/\u.length<=ts.length+l.length/\∀m,cf u m=cf ts m+cf l m) ⟨0,ts,rfl,ω,y.dst,y.mo,λt ht=>⟨(y.tb t ht).mono ω,t.C,0,(y.tb t ht).mono ω,by rw[show ((0:Nat):Rat)=0 from rfl];grind,ω⟩,ω,λm=>by simp only[take_zero,cf];grind⟩ ?_ ?_
 .rintro _ ⟨j,u,rfl,hj,hu,B,L,Y,hv⟩;rcases Cj j l.length with h|h
  .have hx:l[j]? = some l[j]:=Bs h;generalize l[j]=x at hx;obtain⟨hb,hm,n,I⟩:=hl x (Bu hx);have a8:=J x (Bu hx) n I;have ad:(j+1)*1000000000 ^ (K+k+2)=j*1000000000 ^ (K+k+2)+1000000000 ^ (K+k+2):=(by rw[Nat.add_mul,Nat.one_mul]);have ac:(j+1)*1000000000 ^ (K+k+2)<=1000000*1000000000 ^ (K+k+2):=Nat.mul_le_mul_right _ ω;simp only[As (ω:(j:Int)<(l.length:Int)),Am,Br rfl hx,Ad,A7k (hP _ hm),C5 h ω];left;by_cases hex:∃t∈u,t.M=x.M
   .obtain⟨t,ht,he⟩:=hex;obtain⟨i,hi⟩:=Hi ht;obtain⟨g1,g2⟩:=A7o hu hi;rw[he]at g1 g2;obtain⟨tb,a,V,G,M,a7⟩:=L t ht;obtain⟨E,c1,_,c3,c4,c5⟩:=Agw tb hb ω ω;have D:rq E=rq a+rq c*((V+n:Nat):Rat):=(by rw[c5,M,I,Rat.natCast_add];grind);have Z:=hB (V+n) E a ω c4 G D;refine⟨((j+1:Nat),plc (u.set i ⟨E,t.M⟩),u.set i ⟨E,t.M⟩),?_,⟨j+1,u.set i ⟨E,t.M⟩,rfl,ω,hu.set hi rfl,?_,?_,by rw[length_set];omega,λm=>?_⟩,ζ⟩
    .simp only[g1,g2,Am,Ad,Br rfl hi,c1,H5 rfl,A7m (u:=⟨E,t.M⟩) hi rfl]
    .intro w hw;rcases mem_or_eq_of_mem_set hw with hw|rfl
     .exact B w hw
     .exact B t ht
    .intro w hw;rcases mem_or_eq_of_mem_set hw with hw|rfl
     .obtain⟨U,b,q,S,R,q4⟩:=L w hw;exact⟨U,b,q,S,R,ω⟩
     .exact⟨Z,a,V+n,G,D,ω⟩
    .rw[Au9 (u:=⟨E,t.M⟩) hi rfl m,hv m,C4 hx,Agz,Vh];simp only[c5,he,cf];split <;> grind
   .have g:=A7n (m:=x.M) (ts:=u) λt ht e=>hex ⟨t,ht,e⟩;refine⟨((j+1:Nat),plc (u++[x]),u++[x]),?_,⟨j+1,u++[x],rfl,ω,?_,?_,?_,ζ,λm=>?_⟩,ζ⟩
    .simp only[g,Aq,Ad];rw[D2 ζ,Ad,Amc _ _ _ g,A7l]
    .refine pairwise_append.2 ⟨hu,pairwise_singleton _ _,λa ha b hb=>?_⟩;simp only[Ea]at hb;subst hb;exact λe=>hex ⟨a,ha,e⟩
    .intro w hw;rcases Ej.1 hw with hw|hw
     .exact B w hw
     .simp only[Ea]at hw;subst hw;exact hm
    .intro w hw;rcases Ej.1 hw with hw|hw
     .obtain⟨U,b,q,S,R,q4⟩:=L w hw;exact⟨U,b,q,S,R,ω⟩
     .simp only[Ea]at hw;subst hw;exact⟨hb.mono ω,w.C,0,hb.mono ω,by rw[show ((0:Nat):Rat)=0 from rfl];grind,ω⟩
    .rw[Agz,hv m,C4 hx,Agz];grind
  .have:j=l.length:=ω;subst this;rw[Db]at hv;simp only[A5 (ω:¬(l.length:Int)<(l.length:Int)),Aq];exact .inr ⟨_,rfl,u,rfl,⟨hu,λt ht=>(L t ht).1,B⟩,Y,hv⟩
 .rintro _ ⟨u,rfl,h1,h2,h3⟩;exact⟨_,rfl,u,rfl,h1,h2,h3⟩
def lim (R:List Aj):List Aj×Int:=if 1000<R.length then ([],9) else (R,0)
theorem Axl {R:List Aj} (h:R.length<=1000):lim R=(R,0):=Ar ω
theorem Axm {R:List Aj} (h:1000<R.length):lim R=([],9):=Av h
theorem Bce (s:∀m,P m->CMo m) (o:List (ByteArray×Int)) (ts:List Aj) (h:Col k P ts) (hk:k<34359738000) (D:ts.length<=4000000000) : ∃R,P6 o ts=some (lim R)/\CP R/\(∀m,cf R m=cf ts m)/\∀t∈R,P t.M/\RB (k+1) t.C:=by
 have A:(ts.filter nzT).length<=ts.length:=length_filter_le _ _;have g:∀{X:Option (List Aj×Int)},(bif (((ts.filter nzT).length:Nat):Int)>(1000:Int) then (some ([],9)) else ((P9 (ts.filter nzT)).bind λf=> (Gm (ts.filter nzT).length f).bind λv20=> (Wv f).bind λv21=> some (v21,0)))=X->P6 o ts=X:=λ{X} B=>by
  unfold P6;refine bnd (a:=ts.filter nzT) ?_ B;rw[<-Option.bind_fun_some (Ak _ _)];refine F6 ts (λj=>((j:Int),(ts.take j).filter nzT)) rfl ω ?_ ?_
  .intro j x hj hx h1 h2 h3;have hb:=h.tb x (Bu hx);have q:((ts.take j).filter nzT).length<=ts.length:=Nat.le_trans (length_filter_le _ _) (by rw[length_take];omega);simp only[h1,h2,h3,Am,Ad,(Agx hb hk).1,A73];rw[Avc hx];by_cases l:rq x.C=0
   .have:nzT x=false:=(by simp[nzT,l]);rw[A5 (by simpa using l),this];simp
   .have:nzT x=true:=(by simp[nzT,l]);rw[As l,this];simp only[Am];rw[D2 ζ];simp
  .intro h1;exact⟨ts.filter nzT,by simp only[h1,Aq,Db],rfl⟩
 obtain⟨S,z,c,y⟩:=A8y (ts.filter nzT) (Pairwise.filter _ h.dst) (λt ht=>(s _ (h.mo t (mem_filter.1 ht).1)).sz);have b:∀t∈S,t∈ts/\rq t.C≠0:=by intro t ht;have:=mem_filter.1 (c.mem_iff.1 ht);exact⟨this.1,by simpa[nzT] using this.2⟩
 refine⟨S.map clT,g ?_,⟨?_,?_⟩,?_,?_⟩
 .by_cases i:1000<(ts.filter nzT).length
  .rw[As ω,Am,Axm (by rw[C1,c.length_eq];exact i)]
  .rw[A5 ω,Aq,z,Ad,Ns c.length_eq.symm,Ad,
    A7z (k:=k) S hk (λt ht=>⟨h.tb t (b t ht).1,(s _ (h.mo t (b t ht).1)).sz⟩) (by rw[c.length_eq];omega),Axl (by rw[C1,c.length_eq];omega)];rfl
 .rw[pairwise_map];exact y
 .intro t ht;obtain⟨u,hu,rfl⟩:=mem_map.1 ht;refine⟨Vd _ _ _ (H8 _),?_⟩;show rq (C2 _ _ _)≠0;rw[Qw _ _ _ (H8 _)];exact (b u hu).2
 .intro m;rw[A70,A71 c,A72]
 .intro t ht;obtain⟨u,hu,rfl⟩:=mem_map.1 ht;exact⟨h.mo u (b u hu).1,A6a (h.tb u (b u hu).1)⟩
def mX (χ:Bb->Nat) (v:Bn->Nat) (m:A3):Nat:=Dv (m.F.map χ)*Gc v m.A
theorem Bcf (χ:Bb->Nat) (v:Bn->Nat) (p:List Aj):Kt (mX χ v) (p.map wT)=G4 χ v p:=by induction p with| nil=>rfl| cons t p ih=>simp only[map_cons,Kt,G4,ih,wT];rfl
theorem Bcg (χ:Bb->Nat) (v:Bn->Nat) (p:List Aj):Kt (mX χ v) (p.map nT) = - G4 χ v p:=by induction p with| nil=>show (0:Rat) = - 0;grind| cons t p ih=>simp only[map_cons,Kt,G4,ih,nT];show-rq t.C*((Dv (t.M.F.map χ)*Gc v t.M.A:Nat):Rat)+_=_;grind
theorem Axn (h:∀m,cf q m<=cf p m):G4 χ v q<=G4 χ v p:=by have:=A94 (mX χ v) _ (p.map wT++q.map nT) (Nat.le_refl _) (λm=>by rw[A97,A95,A96];have:=h m;grind);rw[A98,Bcf,Bcg]at this;grind
theorem Axo (h:∀m,cf q m=cf p m):G4 χ v q=G4 χ v p := Rat.le_antisymm (Axn λm=>by rw[h m];exact Rat.le_refl) (Axn λm=>by rw[h m];exact Rat.le_refl)
theorem Acs {x:B9} (val:Int->Ax):∀p:List Aj,K9 x val p=G4 (H9 x val) (fv val) p
 | []=>rfl
 | t::p=>by simp only[K9,G4,Acs val p];have:S3 x val t.M=Dv (t.M.F.map (H9 x val))*Gc (fv val) t.M.A:=Bb2 x val t.M.F t.M.A;rw[this]
theorem Bch (h1:∀f∈F,Ev f.v/\iR f.I/\Bv f.I<=1048576/\1<=Dz x.D x.V x.E f) (h2:F.Pairwise λa b=>a.v<b.v) (h3:Cs x.D x.V x.E F<=6):Js x ⟨F,[]⟩:=by
 have g:=Lx (data:=x.D) (vars:=x.V) (res:=x.E) (l:=F) λf hf=>(h1 f hf).2.2.2;refine⟨?_,⟨by show F.length<=_;omega,ψ,λf hf=>(h1 f hf).2.2.1,λf hf=>⟨(h1 f hf).2.1,(h1 f hf).1⟩,λa ha=>by cases ha⟩⟩;unfold Jq;have h:F.zipIdx.all (λq=>Pl x.D x.V x.E F q.1 q.2)=true:=by rw[G7];rintro⟨a,j⟩ hq;have hj:F[j]? = some a:=mk_mem_zipIdx_iff_getElem?.1 hq;have hd:=(h1 a (Bu hj)).2.2.2;show Pl x.D x.V x.E F a j=true;unfold Pl;have hp:Nn (·.v) F a j=true:=(by unfold Nn;cases j with| zero=>rfl| succ j=>have g:=Eg hj;have hy:F[j]? = some F[j]:=Bs ω;have c:=pairwise_iff_getElem.1 h2 j (j+1) ω g ω;have e:F[j+1]=a:=(by have:=Bs g;rw[hj]at this;exact (Fp this).symm);rw[e]at c;simp only[Nat.add_sub_cancel,hy,Bool.or_eq_true];exact .inr (decide_eq_true c));rw[hp,As hd];rfl
 show (F.zipIdx.all (λq=>Pl x.D x.V x.E F q.1 q.2)&&([]:List Bd).zipIdx.all _&&decide (Cs x.D x.V x.E F+Ef []<=6))=true;rw[h];have:Ef []=0:=rfl;rw[this,As ω];rfl
def Bci (x:B9) (Z:Nat) (m:A3):Prop:=Js x m/\∀f∈m.F,Bv f.I<=Z
def Q7 (x:B9) (Z:Nat) (W:Int->Prop) (m:A3):Prop:=Bci x Z m/\∀w∈Jt m,W w
theorem S8 {m:A3}:w∈Jt m↔(∃f∈m.F,f.v=w)\/∃a∈m.A,w∈a.L.T.map (·.v):=by unfold Jt Mr;rw[Ej,mem_map,mem_flatMap]
theorem Vq.canZ {Z:Nat} {c:Rat} {b:List Aj} (h:Vq x.D x.V x.E c F A K b) (j:∀w∈Jt ⟨F,A⟩,W w) (q:∀a∈A,F3 a.L=true/\It x.V x.E a.L=true) (D:Cs x.D x.V x.E F+(Dp A:Nat)<=6) (l:(F.map λf=>Bv f.I).sum<=Z) (k:Z<=400000):∀t∈b,RB K t.C/\Q7 x Z W t.M/\∃n:Nat,rq t.C=c*(n:Rat):=by
 intro t ht;obtain⟨h1,h2,h3,z,G,y,E,u,s⟩:=h.mono q t ht;have i:=Bch (x:=x) (λf hf=>⟨(h3 f hf).1,(h3 f hf).2.1,by have:=(h3 f hf).2.2.1;omega,(h3 f hf).2.2.2⟩) z ω;have:=Bb1 i y (by show Cs x.D x.V x.E t.M.F+Ef t.M.A<=6;omega);refine⟨h1,⟨⟨this,λf hf=>Nat.le_trans (h3 f hf).2.2.1 l⟩,λw hw=>?_⟩,h2⟩;rcases S8.1 hw with⟨f,f1,f2⟩|⟨a,a1,a2⟩
 .obtain⟨g,g1,g2⟩:=u f f1;exact j w (S8.2 (.inl ⟨g,g1,by rw[g2,f2]⟩))
 .obtain⟨B,c1,c2⟩:=s a a1;exact j w (S8.2 (.inr ⟨B,c1,by rw[<-c2];exact a2⟩))
theorem Bcj (hf:Hq x) {v:Int} (h:Dj x.V x.E v=some t):G0 x.D t=true:=by
 unfold Dj at h;split at h
 .cases h;exact hf.2.2.1
 .exact G7.1 hf.2.2.2 t (Hc h).2.2.2
theorem Axp {G:List Bb} (i:F.Pairwise λa b=>a.v<b.v) (c:G.Pairwise λa b=>a.v<b.v):¬Mw (F++G):=by
 have one:∀{F:List Bb} (v:Int),(F.Pairwise λa b=>a.v<b.v)->(F.filter λf=>f.v==v).length<=1:=λ{F} v h=>by
  induction F with
  | nil=>simp
  | cons f F ih=>
   have h:=pairwise_cons.1 h;by_cases e:f.v=v
   .have:(F.filter λf=>f.v==v) = []:=filter_eq_nil_iff.2 λg hg=>by have:=h.1 g hg;simp;omega
    simp[filter_cons,e,this]
   .simpa[filter_cons,e] using ih h.2
 rintro⟨v,h⟩;have h1:=one v i;have h2:=one v c;rw[filter_append,Ek]at h;omega
theorem Axq (data:List Ai):∀n:Nat,(∀(i:Ah) (t:Af) (w:Ax),Bv i<=n->Di data i t=some 0->bv data i t w=1)/\(∀(is:List Ah) (ts:List Af) (c:List Ax),Cb is<=n->Cx data is ts=some 0->bvs data is ts c=1):=by
 intro n;induction n with
 | zero=>refine⟨λi t w h=>by have:=El i;omega,λis ts c h _=>?_⟩;have:=Pi is;have:is = []:=Gn.1 ω;subst this;exact Sz _ _ _
 | succ n ih=>
  have key:∀(i:Ah) (t:Af) (w:Ax),Bv i<=n+1->Di data i t=some 0->bv data i t w=1:=by
   intro i t w hi hd;have l:=El i;rw[Nt];rw[Lu]at hd;by_cases j:t.G=6
   .rw[Av j]at hd ⊢;by_cases e:i.U=0
    .rw[Av e]at hd;exact ih.2 i.K t.R w.K ω hd
    .rw[Ar e]at hd;cases hd
   .rw[Ar j]at hd ⊢;by_cases g:t.G=7
    .rw[Av g]at hd ⊢;by_cases e:0<=i.U/\i.U<=6/\i.K.length=0
     .rw[Av e]at hd;have hd:=Fp hd;rw[hd,J3]
     .rw[Ar e]at hd;cases hd
    .rw[Ar g]at hd ⊢;by_cases k:t.G=5
     .rw[Av k]at hd ⊢;have hd:Fw data i.K t=some 0:=by
       by_cases e:i.U=0
       .rw[Av e]at hd;exact hd
       .rw[Ar e]at hd;cases hd
      have q:=U3 data _ _ _ hd;have:i.K = []:=Gn.1 ω;rw[this];rw[Awj _ _ _ _ rfl ψ,length_nil,take_zero,Vo]
     .rw[Ar k]
  refine⟨key,?_⟩;intro is;induction is with
  | nil=>intro ts c _ _;exact Sz _ _ _
  | cons i is f=>
   intro ts c hi hd;cases ts with
   | nil=>simp only[Cx]at hd;cases hd
   | cons t ts=>
    cases c with
    | nil=>simp only[bvs]
    | cons w c=>
     simp only[Cb]at hi;rw[Nm]at hd;cases h1:Di data i t with
     | none=>rw[h1]at hd;cases hd
     | some a=>cases h2:Cx data is ts with| none=>rw[h1,h2]at hd;cases hd| some b=>rw[h1,h2]at hd;have hd:a+b=0:=Fp hd;have ha:a=0:=ω;have hb:b=0:=ω;subst ha;subst hb;rw[Sy,key i t w ω h1,f ts c ω h2]
theorem Axr {b:List Ax} {res:Ax} (h:∀f∈F,Iv x b res f.v=true):Ol x.D x.V x.E (H9 x (Dk b res)) F:=by
 intro g hg t ht;have hx:=h g hg;unfold Iv at hx;rw[ht]at hx;have hx:Mp x.D (Dk b res g.v) t=true:=hx;unfold Mp at hx;rw[Ct]at hx;have e:∀i,H9 x (Dk b res) ⟨g.v,i⟩=bv x.D i t (Dk b res g.v):=λi=>by unfold H9;rw[ht]
 have c:(λi=>H9 x (Dk b res) ⟨g.v,i⟩)=λi=>bv x.D i t (Dk b res g.v):=funext e;exact⟨by rw[c];exact Bba x.D t hx.2,λi h0 _ _=>by rw[e];exact (Axq x.D (Bv i)).1 i t _ (Nat.le_refl _) h0⟩
theorem Bck:∀(k:Nat) (i:Ah) (a:Int),Bv i<=k->k<1099511627776->-1099511627776<=a->a<=1099511627776->∃r,Uc k i a=some r/\(r.1=true->r.2=a-Bv i/\0<=r.2)/\r.2<=a/\-1<=r.2+1099511627776:=by
 intro k;induction k with
 | zero=>intro i a h;have:=El i;omega
 | succ k ih=>
  intro i a h hk h1 h2;have E:=El i;have G:=Pi i.K;have w:Ac (a-1)=a-1:=ξ;rw[Uc,w];by_cases h0:a-1<0
  .rw[As h0];exact⟨_,rfl,nofun,by show a-1<=a;omega,by show -1<=a-1+1099511627776;omega⟩
  .rw[A5 h0,Aq];have D:∀j,Cb (i.K.take j)<=Cb i.K:=λj=>by have:=U5 (i.K.take j) (i.K.drop j);rw[take_append_drop]at this;omega
   refine Et (λs=>∃j:Nat,s.1=j/\j<=i.K.length/\s.2=a-1-Cb (i.K.take j)/\0<=s.2) (λs=>i.K.length-s.1.toNat) (λz=>(∃c,z = .inl (false,c)/\c<=a/\-1<=c+1099511627776)\/(∃c,z = .inr c/\c=a-1-Cb i.K/\0<=c)) ⟨0,rfl,ω,by simp[Cb],by show 0<=a-1;omega⟩ ?_ ?_
   .rintro⟨_,b⟩ ⟨j,rfl,hj,hb,f⟩;dsimp only at hb f;rcases Cj j i.K.length with h'|h'
    .have hx:i.K[j]? = some i.K[j]:=Bs h';generalize i.K[j]=x at hx;have J:=Kd (Bu hx);obtain⟨⟨y,z⟩,B,A,u,q⟩:=ih x b ω ω ω ω;have I:Cb (i.K.take (j+1))=Cb (i.K.take j)+Bv x:=(by rw[C4 hx,U5];simp[Cb]);simp only[As (ω:(j:Int)<(i.K.length:Int)),Am,Br rfl hx,Ad,B,C5 h' ω];cases y with| false=>exact .inr ⟨_,rfl,.inl ⟨z,rfl,by dsimp only at u;omega,q⟩⟩| true=>obtain⟨l,g⟩:=A rfl;exact .inl ⟨_,rfl,⟨j+1,rfl,ω,by dsimp only at l ⊢;rw[I];omega,g⟩,by simp only[Int.toNat_natCast];omega⟩
    .have:j=i.K.length:=ω;subst this;rw[Db]at hb;exact .inr ⟨.inr b,ψ,.inr ⟨b,rfl,hb,f⟩⟩
   .rintro z (⟨c,rfl,c1,c2⟩|⟨c,rfl,c1,c2⟩)
    .exact⟨_,rfl,nofun,c1,c2⟩
    .exact⟨_,rfl,λ_=>⟨by dsimp only;omega,c2⟩,by dsimp only;omega,by dsimp only;omega⟩
theorem Bcl (i:Ah) (h:Bv i<=1048576):∃b,Zi i=some b/\(b=true->Bv i<=40):=by unfold Zi;obtain⟨r,h1,h2,_⟩:=Bck 4000000 i 40 ω ω ω ω;exact⟨r.1,by rw[h1];rfl,λc=>by have:=h2 c;omega⟩
theorem Bcm (m:A3) (i:MSz m):∃b,Za m=some b/\(b=true->∀f∈m.F,Bv f.I<=40):=by
 unfold Za;by_cases h1:(m.F.length:Int)>8
 .rw[As h1];exact⟨false,rfl,λh=>by cases h⟩
 .rw[A5 h1];by_cases h2:(m.A.length:Int)>8
  .rw[As h2];exact⟨false,rfl,λh=>by cases h⟩
  .rw[A5 h2];simp only[Aq,Ad];refine Et (λv=>∃j:Nat,v=j/\j<=m.F.length/\∀f∈m.F.take j,Bv f.I<=40) (λv=>m.F.length-v.toNat) (λz=>z = .inl false\/(z = .inr ()/\∀f∈m.F,Bv f.I<=40)) ⟨0,rfl,ω,ψ⟩ ?_ ?_
   .rintro v ⟨j,rfl,hj,c⟩;rcases Cj j m.F.length with h'|h'
    .have hx:m.F[j]? = some m.F[j]:=Bs h';generalize m.F[j]=x at hx;obtain⟨b,hb,g⟩:=Bcl x.I (i.fi x (Bu hx));simp only[As (ω:(j:Int)<(m.F.length:Int)),Am,Br rfl hx,Ad,hb,C5 h' ω];cases b with
     | false=>exact .inr ⟨_,rfl,.inl rfl⟩
     | true=>
      refine .inl ⟨_,rfl,⟨j+1,rfl,ω,λf hf=>?_⟩,by simp only[Int.toNat_natCast];omega⟩;rw[C4 hx]at hf;rcases Ej.1 hf with hf|hf
      .exact c f hf
      .rw[Ea]at hf;subst hf;exact g rfl
    .have:j=m.F.length:=ω;subst this;rw[Db]at c;exact .inr ⟨.inr (),ψ,.inr ⟨rfl,c⟩⟩
   .rintro z (rfl|⟨rfl,c⟩)
    .exact⟨false,rfl,λh=>by cases h⟩
    .dsimp only;refine Et (λv=>∃j:Nat,v=j/\j<=m.A.length) (λv=>m.A.length-v.toNat) (λ_=>True) ⟨0,rfl,ω⟩ ?_ ?_
     .rintro v ⟨j,rfl,hj⟩;rcases Cj j m.A.length with h'|h'
      .have hx:m.A[j]? = some m.A[j]:=Bs h';generalize m.A[j]=x at hx;simp only[As (ω:(j:Int)<(m.A.length:Int)),Am,Br rfl hx,Ad,Aen,C5 h' ω];cases decide ((x.L.T.length:Int)<=70) with| true=>exact .inl ⟨_,rfl,⟨j+1,rfl,ω⟩,by simp only[Int.toNat_natCast];omega⟩| false=>exact .inr ⟨_,rfl,trivial⟩
      .have:j=m.A.length:=ω;subst this;exact .inr ⟨.inr (),ψ,trivial⟩
     .rintro (z|z) _
      .exact⟨_,rfl,λ_=>c⟩
      .exact⟨_,rfl,λ_=>c⟩
def S9 (t:Aj):Prop:=t.C.U.length<=8/\t.C.B.length<=8/\∀f∈t.M.F,Bv f.I<=40
theorem Bcn (a:Ao):∃b,Zb a=some b/\(b=true->a.U.length<=8/\a.B.length<=8):=by
 unfold Zb;by_cases h:(a.U.length:Int)<=8
 .rw[As h];exact⟨_,rfl,λh2=>by rw[Du]at h2;omega⟩
 .rw[A5 h];exact⟨_,rfl,λh2=>by cases h2⟩
theorem Bco (p:List Aj) (s:p.length<=1048576) (hp:∀t∈p,TSz t):∃b,Y4 p 10=some b/\(b=true->p.length<=10/\∀t∈p,S9 t):=by
 unfold Y4;refine Et (λv=>∃j:Nat,v=j/\j<=p.length/\j<=11/\∀t∈p.take j,S9 t) (λv=>p.length-v.toNat) (λz=>z = .inl false\/(z = .inr ()/\(p.length<=10->∀t∈p,S9 t))) ⟨0,rfl,ω,ω,ψ⟩ ?_ ?_
 .rintro v ⟨j,rfl,hj,i,f⟩;rcases Cj j p.length with h'|h'
  .by_cases q:j<=10
   .have hx:p[j]? = some p[j]:=Bs h';generalize p[j]=x at hx;obtain⟨b,hb,l⟩:=Bcm x.M (hp x (Bu hx)).mo;simp only[As (ω:(j:Int)<(p.length:Int)),As (ω:(j:Int)<=10),Am,Br rfl hx,Ad,hb,C5 h' ω];cases b with
    | false=>exact .inr ⟨_,rfl,.inl rfl⟩
    | true=>
     simp only[bnt,Aq];obtain⟨c,hc,g⟩:=Bcn x.C;rw[hc,Ad];cases c with
     | false=>exact .inr ⟨_,rfl,.inl rfl⟩
     | true=>
      refine .inl ⟨_,rfl,⟨j+1,rfl,ω,ω,λt ht=>?_⟩,by simp only[Int.toNat_natCast];omega⟩;rw[C4 hx]at ht;rcases Ej.1 ht with ht|ht
      .exact f t ht
      .rw[Ea]at ht;subst ht;exact⟨(g rfl).1,(g rfl).2,l rfl⟩
   .refine .inr ⟨.inr (),?_,.inr ⟨rfl,λh=>ω⟩⟩;simp only[As (ω:(j:Int)<(p.length:Int)),A5 (ω:¬(j:Int)<=10),Am,Aq,Ad]
  .have:j=p.length:=ω;subst this;rw[Db]at f;exact .inr ⟨.inr (),ψ,.inr ⟨rfl,λ_=>f⟩⟩
 .rintro z (rfl|⟨rfl,k⟩)
  .exact⟨false,rfl,λh=>by cases h⟩
  .refine⟨decide ((p.length:Int)<=10),rfl,λh=>?_⟩;rw[Du]at h;exact⟨ω,k ω⟩
theorem Bcp (x:B9) (k:CSz x) (ps:List (List Aj)) (s:ps.length<=1048576) (hp:∀p∈ps,p.length<=1048576/\∀t∈p,TSz t) : ∃b,Y2 x ps=some b/\(b=true->∀p∈ps,p.length<=10/\∀t∈p,S9 t):=by
 unfold Y2;refine Et (λv=>∃j:Nat,v=j/\j<=ps.length/\∀p∈ps.take j,p.length<=10/\∀t∈p,S9 t) (λv=>ps.length-v.toNat) (λz=>z = .inl false\/(z = .inr ()/\∀p∈ps,p.length<=10/\∀t∈p,S9 t)) ⟨0,rfl,ω,ψ⟩ ?_ ?_
 .rintro v ⟨j,rfl,hj,c⟩;rcases Cj j ps.length with h'|h'
  .have hx:ps[j]? = some ps[j]:=Bs h';generalize ps[j]=p at hx;obtain⟨i,g⟩:=hp p (Bu hx);obtain⟨b,hb,l⟩:=Bco p i g;simp only[As (ω:(j:Int)<(ps.length:Int)),Am,Br rfl hx,Ad,hb,C5 h' ω];cases b with
   | false=>exact .inr ⟨_,rfl,.inl rfl⟩
   | true=>
    refine .inl ⟨_,rfl,⟨j+1,rfl,ω,λq hq=>?_⟩,by simp only[Int.toNat_natCast];omega⟩;rw[C4 hx]at hq;rcases Ej.1 hq with hq|hq
    .exact c q hq
    .rw[Ea]at hq;subst hq;exact l rfl
  .have:j=ps.length:=ω;subst this;rw[Db]at c;exact .inr ⟨.inr (),ψ,.inr ⟨rfl,c⟩⟩
 .rintro z (rfl|⟨rfl,f⟩)
  .exact⟨false,rfl,λh=>by cases h⟩
  .obtain⟨b,hb⟩:=A8w x k;exact⟨b,by dsimp only;rw[hb];rfl,λ_=>f⟩
def jn (l:List A3):A3:=⟨l.flatMap (·.F),l.flatMap (·.A)⟩
theorem Axs (l:List A3) (m:A3):jn (l++[m])=⟨(jn l).F++m.F,(jn l).A++m.A⟩:=by unfold jn;simp
theorem Ahz {S E:Type} {step:S->Option (S⊕E)} {a b:S} {e:E} (h1:step a=some (.inl b)) (h2:step b=some (.inr e)):Ak step a=some e:=by rw[Lh h1,Gf h2]
theorem ltl (a:α):(0:Int)<(([a].length:Nat):Int):=ψ
theorem Ah0 (a:α):¬(1:Int)<(([a].length:Nat):Int):=ψ
noncomputable def Acu (fac:Bb->Option (List A3)) (F:List Bb):Int×List A3->Option ((Int×List A3)⊕(Int×List A3)):=λ(f,g)=> bif f<(F.length:Int) then ((Ag F f).bind λs=> (fac s).bind λh=> (Ak (S:=(Int×List A3)) (E:=(Int×List A3)) (λ(c,j)=> bif c<((g.length:Nat):Int) then ((Ag g c).bind λq=> (Ak (S:=(Int×List A3)) (E:=(Int×List A3)) (λ(b,i)=> bif b<(h.length:Int) then ((Ag h b).bind λl=> (Me q l).bind λk=> (Cd 48 i [k]).bind λy=> some (.inl ((Ac (b+1)),y))) else (some (.inr (b,i)))) (0,j)).bind λ(_,x)=> some (.inl ((Ac (c+1)),x))) else (some (.inr (c,j)))) (0,[])).bind λ(_,u)=> some (.inl ((Ac (f+1)),u))) else (some (.inr (f,g)))
theorem Bcq {fac:Bb->Option (List A3)} (hf:∀f∈F,fac f=some [φ f]) (h1:∀j,(jn ((F.take j).map φ)).F.length<=1000/\(jn ((F.take j).map φ)).A.length<=1000) (k:∀f∈F,(φ f).F.length<=1000/\(φ f).A.length<=1000) (x:F.length<=1000) : Ak (Acu fac F) (0,[⟨[],[]⟩])=some ((F.length:Int),[jn (F.map φ)]):=by
 have g:Ac (0+1)=1:=by rw[Ac,Cl] <;> omega
 obtain⟨e,l,rfl⟩:=Ka (step:=Acu fac F) (λs=>∃j:Nat,s=((j:Int),[jn ((F.take j).map φ)])/\j<=F.length) (λs=>F.length-s.1.toNat) (λe=>e=((F.length:Int),[jn (F.map φ)])) (by
  rintro _ ⟨j,rfl,hj⟩;rcases Cj j F.length with h|h
  .left;have hx:F[j]? = some F[j]:=Bs h;generalize F[j]=f at hx;have i:=Bu hx;obtain⟨u,q⟩:=k f i;obtain⟨a1,a2⟩:=h1 j;have c:Me (jn ((F.take j).map φ)) (φ f)=some (jn ((F.take (j+1)).map φ)):=(by rw[Ahh _ _ ω ω,C4 hx,map_append,List.map_singleton,Axs]);refine⟨(((j+1:Nat):Int),[jn ((F.take (j+1)).map φ)]),?_,⟨j+1,rfl,ω⟩,ζ⟩;unfold Acu;dsimp only;rw[As ω,Am,Br rfl hx,Ad,hf f i,Ad];refine bnd (a:=((1:Int),[jn ((F.take (j+1)).map φ)])) (Ahz (b:=((1:Int),[jn ((F.take (j+1)).map φ)])) ?_ ?_) (by dsimp only;rw[C5 h ω])
   .dsimp only;rw[As (ltl _),Am,show Ag [jn ((F.take j).map φ)] 0=some (jn ((F.take j).map φ)) from rfl,Ad];refine bnd (a:=((1:Int),[jn ((F.take (j+1)).map φ)])) (Ahz (b:=((1:Int),[jn ((F.take (j+1)).map φ)])) ?_ ?_) (by dsimp only;rw[g])
    .dsimp only;rw[As (ltl _),Am,show Ag [φ f] 0=some (φ f) from rfl,Ad,c,Ad,D2 ψ,Ad,g];rfl
    .dsimp only;rw[A5 (Ah0 _),Aq]
   .dsimp only;rw[A5 (Ah0 _),Aq]
  .right;have:j=F.length:=ω;subst this;exact⟨((F.length:Int),[jn (F.map φ)]),by unfold Acu;simp only[A5 (ω:¬(F.length:Int)<(F.length:Int)),Aq];rw[Db],rfl⟩) (0,[⟨[],[]⟩]) ⟨0,by simp[jn],ω⟩;exact l
abbrev Ah1:Type:=(List Aj)×Int×List (ByteArray×Int)×List (ByteArray×List Ap)
noncomputable def Acv (atm:Bd->Option (A3×Int)) (A:List Bd) (q:List A3) (u:List (ByteArray×Int)) (s:List (ByteArray×List Ap)):Int×List A3->Option ((Int×List A3)⊕(Ah1⊕(Int×List A3))):=λ(c,h)=> bif c<(A.length:Int) then ((Ag A c).bind λk=> (atm k).bind λg=> bif (g.2 != (0:Int)) then (some (.inr (.inl ([],9,u,s)))) else ((Ak (S:=(Int×List A3)) (E:=(Int×List A3)) (λ(b,f)=> bif b<((q.length:Nat):Int) then ((Ag f b).bind λj=> (Me j g.1).bind λi=> (Ag f b).bind λx=> some (.inl ((Ac (b+1)),(Cu f b i)))) else (some (.inr (b,f)))) (0,h)).bind λ(_,l)=> some (.inl ((Ac (c+1)),l)))) else (some (.inr (.inr (c,h))))
theorem Bcr {ψ:Bd->A3} (hf:∀a∈A,atm a=some (ψ a,0)) (h1:∀j,(jn (m0::(A.take j).map ψ)).F.length<=1000/\(jn (m0::(A.take j).map ψ)).A.length<=1000) (l:∀a∈A,(ψ a).F.length<=1000/\(ψ a).A.length<=1000) (y:A.length<=1000) (g:List (ByteArray×Int)) (f:List (ByteArray×List Ap)) : Ak (Acv atm A [m0] g f) (0,[m0])=some (.inr ((A.length:Int),[jn (m0::A.map ψ)])):=by
 have k:Ac (0+1)=1:=by rw[Ac,Cl] <;> omega
 obtain⟨e,q,rfl⟩:=Ka (step:=Acv atm A [m0] g f) (λs=>∃j:Nat,s=((j:Int),[jn (m0::(A.take j).map ψ)])/\j<=A.length) (λs=>A.length-s.1.toNat) (λe=>e = .inr ((A.length:Int),[jn (m0::A.map ψ)])) (by
  rintro _ ⟨j,rfl,hj⟩;rcases Cj j A.length with h|h
  .left;have hx:A[j]? = some A[j]:=Bs h;generalize A[j]=a at hx;have i:=Bu hx;obtain⟨x,u⟩:=l a i;obtain⟨a1,a2⟩:=h1 j;have c:Me (jn (m0::(A.take j).map ψ)) (ψ a)=some (jn (m0::(A.take (j+1)).map ψ)):=(by rw[Ahh _ _ ω ω,C4 hx,map_append,List.map_singleton,<-D9,Axs]);refine⟨(((j+1:Nat):Int),[jn (m0::(A.take (j+1)).map ψ)]),?_,⟨j+1,rfl,ω⟩,ζ⟩;unfold Acv;dsimp only;rw[As ω,Am,Br rfl hx,Ad,hf a i,Ad,Gb rfl,Aq];refine bnd (a:=((1:Int),[jn (m0::(A.take (j+1)).map ψ)])) (Ahz (b:=((1:Int),[jn (m0::(A.take (j+1)).map ψ)])) ?_ ?_) (by dsimp only;rw[C5 h ω])
   .dsimp only;have hi:Ag [jn (m0::(A.take j).map ψ)] 0=some (jn (m0::(A.take j).map ψ)):=rfl;rw[As (ltl _),Am,hi,Ad,c,Ad,Ad,k];rfl
   .dsimp only;rw[A5 (Ah0 _),Aq]
  .right;have:j=A.length:=ω;subst this;exact⟨.inr ((A.length:Int),[jn (m0::A.map ψ)]),by unfold Acv;simp only[A5 (ω:¬(A.length:Int)<(A.length:Int)),Aq];rw[Db],rfl⟩) (0,[m0]) ⟨0,by simp[jn],ω⟩;exact q
structure Anc (x:B9) (Z:Nat) (W:Int->Prop) (m:A3):Prop where
 fac:Nw x.D x.V x.E m.F
 atk:Atk m.A
 lin:∀a∈m.A,F3 a.L=true/\It x.V x.E a.L=true
 deg:Cs x.D x.V x.E m.F+(Dp m.A:Nat)<=6
 siz:(m.F.map λf=>Bv f.I).sum<=Z
 vr:∀w∈Jt m,W w
 trip:¬Mw m.F
noncomputable def Acw (x:B9) (c:Ao) (s q:List A3):(Int×List (ByteArray×Int)×List (ByteArray×List Ap)×List (ByteArray×Int)×List Aj)->Option ((Int×List (ByteArray×Int)×List (ByteArray×List Ap)×List (ByteArray×Int)×List Aj)⊕(Ah1⊕(Int×List (ByteArray×Int)×List (ByteArray×List Ap)×List (ByteArray×Int)×List Aj))):=λ(f,k,j,i,h)=> bif f<((s.length:Nat):Int) then ((Ag q f).bind λl=> (P5 c l k j x.D x.V x.E.G x.E.U x.E.R).bind λb=> bif (b.2.1 != (0:Int)) then (some (.inr (.inl ([],b.2.1,b.2.2.1,b.2.2.2)))) else ((Rt b.1 i h).bind λg=> some (.inl ((Ac (f+1)),b.2.2.1,b.2.2.2,g.1,g.2)))) else (some (.inr (.inr (f,k,j,i,h))))
theorem Bcs (G:CSz x) (hf:Hq x) {Z:Nat} (hk:k<=1000000) (V:Z<=400000) {c:Ao} (hc:RB k c) (h0:rq c≠0) {m:A3} (i:Anc x Z W m) (U:k+3638<=k0) (S:k0<=1000000000) (u:Col k0 (Q7 x Z W) ts) (R:ts.length<=4000000000) {E:List (ByteArray×Int)} {D:List (ByteArray×List Ap)} (z:Ew x.D x.V x.E E) (y:PMg x.D x.V x.E D) : ∃q j g,Ak (Acw x c [m0] [m]) (0,E,D,plc ts,ts)=some (.inr ((1:Int),q,j,plc g,g))/\Ew x.D x.V x.E q/\PMg x.D x.V x.E j/\Col (k0+(3*k+3660)) (Q7 x Z W) g/\g.length<=ts.length+1000000/\∀χ v,Ol x.D x.V x.E χ m.F->Mx v->G4 χ v g=G4 χ v ts+rq c*(mX χ v m:Rat):=by
 have N:Ac (0+1)=1:=by rw[Ac,Cl] <;> omega
 obtain⟨out,er,d1,d2,M,L,J,I⟩:=Bb5 G.ds hf.2.1 (hf.ctx G) (λv t h=>Bcj hf h) (K:=k) hc ω h0 i.fac i.atk i.deg z y;rcases I with⟨_,_,X⟩|⟨rfl,B⟩
 .exact (i.trip X).elim
 .have A:=B.canZ (W:=W) (λw hw=>i.vr w hw) i.lin i.deg i.siz V;have s:out.length<=1000000:=(by refine Nat.le_trans B.len ?_;have f0:=Lx (data:=x.D) (vars:=x.V) (res:=x.E) (l:=m.F) λf hf=>(i.fac.fac f hf).2.2;have hd:=i.deg;have h1:2 ^ Dp m.A<=10 ^ Dp m.A:=Nat.pow_le_pow_left δ _;have h2:=Nat.mul_le_mul_left (10 ^ (Cs x.D x.V x.E m.F).toNat) h1;rw[<-Nat.pow_add]at h2;exact Nat.le_trans h2 (Ahy ω));obtain⟨T,t1,t2,t3,t4⟩:=Bcd (k0:=k0) (K:=k+3636) (k:=k) (P:=Q7 x Z W) (λm h=>h.1.1.cmo) hc h0 out ts u (λw hw=>A w hw) ω ω ω s ω;refine⟨d1,d2,T,Ahz (b:=((1:Int),d1,d2,plc T,T)) ?_ ?_,L,J,⟨t2.dst,λw hw=>(t2.tb w hw).mono ω,t2.mo⟩,ω,λχ v h1 h2=>?_⟩
  .unfold Acw;dsimp only;rw[As (ltl _),Am,show Ag [m] 0=some m from rfl,Ad,M,Ad];dsimp only;rw[Gb rfl,Aq,t1,Ad,N]
  .unfold Acw;dsimp only;rw[A5 (Ah0 _),Aq]
  .have Y:G4 χ v T=G4 χ v (ts++out):=Axo λm=>by rw[t4,Agz]
   rw[Y,Axk,B.val h1 h2];unfold mX;rfl
abbrev Axt:Type:=Int×List (ByteArray×Int)×List (ByteArray×List Ap)×List (ByteArray×Int)×List Aj
noncomputable def Ane (x:B9) (fac:Bb->Option (List A3)) (atm:Bd->Option (A3×Int)) (p:List Aj):Axt->Option (Axt⊕(Ah1⊕(List (ByteArray×Int)×List (ByteArray×List Ap)×List (ByteArray×Int)×List Aj))):=λ(c,h,g,j,i)=>
 bif c<(p.length:Int) then (
 (Ag p c).bind λb=>
 (Ak (Acu fac b.M.F) (0,[(A3.mk [] [])])).bind λ(_,f)=>
 (Ak (Acv atm b.M.A f h g) (0,f)).bind λz=>
 match z with
 | .inl (B,A,y,u)=>(
 some (.inr (.inl (B,A,y,u)))
 )
 | .inr (_,J)=>(
 (Ak (Acw x b.C f J) (0,h,g,j,i)).bind λz=>
 match z with
 | .inl (s,q,l,k)=>(
 some (.inr (.inl (s,q,l,k)))
 )
 | .inr (_,I,G,E,D)=>(
 some (.inl ((Ac (c+1)),I,G,E,D))
 )
 )
 )
 else (
 some (.inr (.inr (h,g,j,i)))
 )
noncomputable def Anf (x:B9) (fac:Bb->Option (List A3)) (atm:Bd->Option (A3×Int)) (p:List Aj) (u:List (ByteArray×Int)) (s:List (ByteArray×List Ap)):Option Ah1 := (T5).bind λq=> (Ak (Ane x fac atm p) (0,u,s,q.1,q.2)).bind λz=> match z with
 | .inl (h,g,f,c)=>(some (h,g,f,c))
 | .inr (l,k,j,i)=>((P6 j i).bind λb=> some (b.1,b.2,l,k))
theorem Bct (x:B9) (p:List Aj) (l:Bn) (v:Int) (c:List (ByteArray×Int)) (b:List (ByteArray×List Ap)):Akr p l v c b x.D x.V x.E.G x.E.U x.E.R=Anf x Tz (λa=>T2 a l v) p c b:=rfl
def rpM (φ:Bb->A3) (ψ:Bd->A3) (m:A3):A3:=jn (jn (m.F.map φ)::m.A.map ψ)
def rpS (φ:Bb->A3) (ψ:Bd->A3) (χ:Bb->Nat) (v:Bn->Nat):List Aj->Rat
 | []=>0
 | t::p=>rq t.C*(mX χ v (rpM φ ψ t.M):Rat)+rpS φ ψ χ v p
theorem Axu (φ:Bb->A3) (ψ:Bd->A3) (χ:Bb->Nat) (v:Bn->Nat):∀p q:List Aj,rpS φ ψ χ v (p++q)=rpS φ ψ χ v p+rpS φ ψ χ v q
 | [],q=>by simp only[nil_append,rpS];grind
 | t::p,q=>by simp only[D9,rpS,Axu φ ψ χ v p q];grind
theorem Ang {φ:α->A3} {F:List α} (b:∀f∈F,(φ f).F.length<=1/\(φ f).A.length<=1) (c:F.length<=20):(jn (F.map φ)).F.length<=20/\(jn (F.map φ)).A.length<=20:=by unfold jn;dsimp only;rw[flatMap_map,flatMap_map];have h1:=Yh (λf=>(φ f).F) 1 F λf hf=>(b f hf).1;have h2:=Yh (λf=>(φ f).A) 1 F λf hf=>(b f hf).2;omega
theorem Axv (hz:CSz x) (hf:Hq x) {Z:Nat} (hk:k<=1000) (hZ:Z<=400000) {fac:Bb->Option (List A3)} {ψ:Bd->A3} (hp:I6 x p) (hc:∀t∈p,RB k t.C) (hl:p.length<=10) (y:∀t∈p,∀f∈t.M.F,fac f=some [φ f]) (A:∀t∈p,∀a∈t.M.A,atm a=some (ψ a,0)) (I:∀t∈p,∀f∈t.M.F,(φ f).F.length<=1/\(φ f).A.length<=1) (S:∀t∈p,∀a∈t.M.A,(ψ a).F.length<=1/\(ψ a).A.length<=1) (hm:∀t∈p,Anc x Z W (rpM φ ψ t.M)) {D:List (ByteArray×Int)} {B:List (ByteArray×List Ap)} (L:Ew x.D x.V x.E D) (J:PMg x.D x.V x.E B) : ∃R q g,Anf x fac atm p D B=some ((lim R).1,(lim R).2,q,g)/\CP R/\(∀t∈R,Q7 x Z W t.M/\RB 1000000 t.C)/\∀χ v,(∀t∈p,Ol x.D x.V x.E χ (rpM φ ψ t.M).F)->Mx v->G4 χ v R=rpS φ ψ χ v p:=by
 obtain⟨e,e1,q,g,T,rfl,V,y2,U⟩:=Ka (step:=Ane x fac atm p) (λs=>∃(j:Nat) (q:List (ByteArray×Int)) (g:List (ByteArray×List Ap)) (c:List Aj),s=((j:Int),q,g,plc c,c)/\j<=p.length/\Ew x.D x.V x.E q/\PMg x.D x.V x.E g/\Col (k+3638+j*(3*k+3660)) (Q7 x Z W) c/\c.length<=j*1000000/\∀χ v,(∀t∈p,Ol x.D x.V x.E χ (rpM φ ψ t.M).F)->Mx v->G4 χ v c=rpS φ ψ χ v (p.take j)) (λs=>p.length-s.1.toNat) (λz=>∃(q:List (ByteArray×Int)) (g:List (ByteArray×List Ap)) (c:List Aj),z = .inr (q,g,plc c,c)/\Col (k+3638+p.length*(3*k+3660)) (Q7 x Z W) c/\c.length<=p.length*1000000/\∀χ v,(∀t∈p,Ol x.D x.V x.E χ (rpM φ ψ t.M).F)->Mx v->G4 χ v c=rpS φ ψ χ v p) (by
   rintro _ ⟨j,q,g,c,rfl,hj,g1,g2,g3,g4,g5⟩;unfold Ane;dsimp only;rcases Cj j p.length with h|h
   .left;have hx:p[j]? = some p[j]:=Bs h;generalize p[j]=t at hx;have b:=Bu hx;have u:=(hp.mo t b).f;have lF:=Lx (data:=x.D) (vars:=x.V) (res:=x.E) (l:=t.M.F) u.fac;have lA:=u.as;have ld:=u.deg;unfold Yk at ld;have f0:=u.fsum0;have M:t.M.F.length<=20:=ω;have a8:t.M.A.length<=20:=ω;have k1:=Bcq (y t b) (λi=>by have:=Ang (φ:=φ) (F:=t.M.F.take i) (λf hf=>I t b f (mem_of_mem_take hf)) (by rw[length_take];omega);omega) (λf hf=>by have:=I t b f hf;omega) ω;have a7:=Ang (I t b) M;have k2:=Bcr (m0:=jn (t.M.F.map φ)) (A t b) (λi=>by
     have:=Ang (φ:=ψ) (F:=t.M.A.take i) (λf hf=>S t b f (mem_of_mem_take hf)) (by rw[length_take];omega);have e:∀(m:A3) (l:List A3),jn (m::l)=⟨m.F++(jn l).F,m.A++(jn l).A⟩:=λm l=>by unfold jn;simp
     rw[e];simp only[Ek];omega) (λa ha=>by have:=S t b a ha;omega) ω q g
    have a1:(j+1)*(3*k+3660)=j*(3*k+3660)+(3*k+3660):=Nat.succ_mul _ _;have a6:j*(3*k+3660)<=10*6660:=Nat.mul_le_mul ω ω;obtain⟨d1,d2,T,E,x1,Y,G,x4,X⟩:=Bcs hz hf (m0:=jn (t.M.F.map φ)) ω hZ (hc t b) (hp.cp.coe t b).2 (hm t b) ω ω g3 ω g1 g2;rw[As ω,Am,Br rfl hx,Ad,k1,Ad];dsimp only;rw[k2,Ad];dsimp only;have E:Ak (Acw x t.C [jn (t.M.F.map φ)] [jn (jn (t.M.F.map φ)::t.M.A.map ψ)]) (0,q,g,plc c,c)=_:=E;rw[E,Ad];refine⟨(((j+1:Nat):Int),d1,d2,plc T,T),?_,⟨j+1,d1,d2,T,rfl,ω,x1,Y,⟨G.dst,λw hw=>(G.tb w hw).mono ω,G.mo⟩,ω,λχ v h1 h2=>?_⟩,ζ⟩
    .dsimp only;rw[C5 h ω]
    .rw[X χ v (h1 t b) h2,g5 χ v h1 h2,C4 hx,Axu];simp only[rpS];grind
   .right;have:j=p.length:=ω;subst this;refine⟨_,by rw[A5 ω,Aq],⟨q,g,c,rfl,g3,g4,λχ v h1 h2=>by rw[g5 χ v h1 h2,Db]⟩⟩)
  (0,D,B,[],[]) ⟨0,D,B,[],rfl,ω,L,J,Col.nil _ _,by simp,λχ v h1 h2=>by rw[take_zero];rfl⟩;have hb:p.length*(3*k+3660)<=10*6660:=Nat.mul_le_mul hl ω;obtain⟨R,r1,r2,r3,N⟩:=Bce (P:=Q7 x Z W) (λm h=>h.1.1.cmo) (plc T) T V ω ω;refine⟨R,q,g,?_,r2,λt ht=>⟨(N t ht).1,(N t ht).2.mono ω⟩,λχ v h1 h2=>by rw[<-U χ v h1 h2];exact Axo r3⟩;unfold Anf T5;rw[Ad];dsimp only;rw[e1,Ad];dsimp only;rw[r1];rfl
end Go.Ab
