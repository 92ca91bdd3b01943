/- Plain laws. -/
import Derived.Test.YtgfjdimemmhmeaaGreatDoorMuPl5
import Derived.Test.YtgfjdimemmhmeaaGreatDoorMuPl4
open List
namespace Go.Ab
open Go
variable{P:A4->Prop}{g:A4->Rat}{Θ t:Ah}{u:Aj}{a:Ay}{χ:Bd->Nat}{x:Bh}{v:Bp->Nat}{W:Int->Prop}{C:Ds}{b1:At}{Ξ:A1}{R b p q:Ap}{Δ:Ad}{F l m:Ba}{A:A7}{B:Λ Ent}{D K L M N S k k0 n:Nat}{α:Type}
abbrev H4:=(List Bd×Rat)×Ent
inductive Gb(K:Nat):List Aj->List H4->Prop
 |nil:Gb K [] []
 |cons{t:Aj}{b:H4}{ts:List Aj}{bs:List H4}:t.M=⟨b.1.1,b.2.1⟩->rq t.C=b.1.2*(b.2.2:Rat)->RB K t.C->b.1.1.length<=1000->Gb K ts bs->Gb K (t::ts) (b::bs)
theorem Gb.len{ts:Ap}{bs:Λ H4}(h:Gb K ts bs):ts.length=bs.length:=by induction h with|nil=>rfl|cons _ _ _ _ _ ih=>simp[ih]
theorem Gb.app{ts c:Ap}{bs cs:Λ H4}(h:Gb K ts bs)(h':Gb K c cs):Gb K (ts++c) (bs++cs):=by induction h with|nil=>exact h'|cons a b d e _ ih=>exact .cons a b d e ih
theorem Gb.mono{c:Nat}{ts:Ap}{bs:Λ H4}(h:Gb K ts bs)(hk:K<=c):Gb c ts bs:=by induction h with|nil=>exact .nil|cons a b d e _ ih=>exact .cons a b (d.mono hk) e ih
theorem Gb.get{ts:Ap}{bs:Λ H4}(h:Gb K ts bs):∀{j:Nat}{t:Aj},ts[j]?=some t->∃b,bs[j]?=some b/\t.M=⟨b.1.1,b.2.1⟩/\rq t.C=b.1.2*(b.2.2:Rat)/\RB K t.C/\b.1.1.length<=1000:=by induction h with|nil=>intro j t h;simp at h|@cons t b ts bs e i o r _ ih=>intro j u d;cases j with|zero=>simp only[getElem?_cons_zero,Option.some.injEq]at d;subst d;exact⟨b,rfl,e,i,o,r⟩|succ j=>simp only[getElem?_cons_succ]at d;simpa using ih d
theorem Gb.mem{ts:Ap}{bs:Λ H4}(h:Gb K ts bs){t:Aj}(d:t∈ts):∃b∈bs,t.M=⟨b.1.1,b.2.1⟩/\rq t.C=b.1.2*(b.2.2:Rat)/\RB K t.C:=by obtain⟨j,e⟩:=Gl d;obtain⟨b,b1,i,f,c,_⟩:=h.get e;exact⟨b,Bm b1,i,f,c⟩
def U1(l:Bp)(k c:Nat)(b:H4):H4:=(b.1,(b.2.1++atO l k,b.2.2*c))
def Lp(B:Λ H4)(l:Bp)(f:Nat->Nat)(n:Nat):Λ H4:=(range n).flatMap λk=>if f k=0 then[]else B.map (U1 l k (f k))
theorem Ajz(B:Λ H4)(l:Bp)(f:Nat->Nat)(n:Nat):Lp B l f (n+1)=Lp B l f n++(if f n=0 then[]else B.map (U1 l n (f n))):=by unfold Lp;rw[range_succ,flatMap_append];simp
theorem Azf(B:Λ H4)(l:Bp)(f:Nat->Nat)(n:Nat):(Lp B l f n).length<=n*B.length:=by induction n with|zero=>simp[Lp]|succ n ih=>rw[Ajz,Fe,Nat.add_mul,Nat.one_mul];have:(if f n=0 then([]:Λ H4)else B.map (U1 l n (f n))).length<=B.length:=(by split<;>simp);omega
theorem Bdo{c o:Ap}{B:Λ H4}{l:Bp}{f:Nat}{x:Ay}(d:Gb K c B)(r:rq x=(f:Rat))(i:RB 200 x)(R:K<30000000000)(N:∀b∈B,b.2.1.length<=M)(L:M<=1000)(Z:o.length+c.length<=1000000000) :
  ∃T,Am (Aeh c l (k:Int) x) (0,o)=some ((c.length:Int),o++T)/\Gb (K+202) T (B.map (U1 l k f)):=by
 obtain⟨e,V,T,U,S⟩:=Kf (step:=Aeh c l (k:Int) x) (λs=>∃(j:Nat)(T:Ap),s=((j:Int),o++T)/\j<=c.length/\T.length=j/\Gb (K+202) T ((B.take j).map (U1 l k f))) (λs=>c.length-s.1.toNat)
  (λe=>∃T,e=((c.length:Int),o++T)/\Gb (K+202) T (B.map (U1 l k f))) (by
  rintro _ ⟨j,T,rfl,H,J,q⟩
  rcases Cj j c.length with h|h
  .left
   have g:c[j]?=some c[j]:=Bi h
   generalize c[j]=t at g
   obtain⟨b,b1,w,Y,X,y⟩:=d.get g
   have I:=N b (Bm b1)
   have:=Ayd l k
   obtain⟨u,G,E,D,z⟩:=Bb0 (F:=⟨b.1.1,y⟩) (A:=b.2.1) (B:=atO l k) w ω R X i
   refine⟨_,?_,⟨j+1,T++[u],rfl,ω,by simp[J],?_⟩,ζ⟩
   .unfold Aeh
    simp only[An (ω:(j:Int)<(c.length:Int)),Ak,Bq rfl g,Ac,Bbz,G,Dl h ω]
    rw[Dj ζ,Ac,append_assoc]
   .rw[Cs b1,map_append]
    refine q.app (.cons E ?_ z y .nil)
    rw[D,Y,r]
    show _=b.1.2*((b.2.2*f:Nat):Rat)
    rw[Rat.natCast_mul];grind
  .have:j=c.length:=ω
   subst this
   right
   rw[d.len,Dh]at q
   exact⟨_,by unfold Aeh;simp only[Au (ω:¬(c.length:Int)<(c.length:Int)),Al],T,rfl,q⟩) (0,o) ⟨0,[],ψ,ω,rfl,by simpa using Gb.nil⟩
 exact⟨T,by rw[<-U];exact V,S⟩
theorem Bdp{g:Ap}{B:Λ H4}{l:Bp}{f:Nat->Nat}(r:Gb K g B)(w:∀k,k<n->f k<F0)(J:K<30000000000)(I:∀b∈B,b.2.1.length<=M)(y:M<=1000)(H:n<=1000)(V:g.length<=1000000) :
  ∃T,Am (Ajm g l (Ls n f)) (0,[])=some ((n:Int),T)/\Gb (K+202) T (Lp B l f n):=by
 obtain⟨e,S,T,R,N⟩:=Kf (step:=Ajm g l (Ls n f)) (λs=>∃(j:Nat)(T:Ap),s=((j:Int),T)/\j<=n/\Gb (K+202) T (Lp B l f j)) (λs=>n-s.1.toNat)
  (λe=>∃T,e=((n:Int),T)/\Gb (K+202) T (Lp B l f n)) (by
  rintro _ ⟨j,T,rfl,Q,q⟩
  unfold Ajm
  rw[K4]
  rcases Cj j n with h|h
  .left
   have A:=Azf B l f j
   have G:=q.len
   have L:=r.len
   have z:j*B.length<=1000*1000000:=Nat.mul_le_mul ω ω
   have x:j*B.length+B.length<=1000*B.length:=by
    have:(j+1)*B.length<=1000*B.length:=Nat.mul_le_mul_right _ ω
    rw[Nat.add_mul]at this;omega
   have i:=w j h
   simp only[An (ω:(j:Int)<(n:Int)),Ak,Bq rfl (Mr f h),Ac,(Np.c i).sign,Dl h ω]
   by_cases d:f j=0
   .refine⟨_,by rw[Av d];rfl,⟨j+1,T,rfl,ω,?_⟩,ζ⟩
    rw[Ajz,Av d,append_nil];exact q
   .have u:RB 200 (cR (f j)):=(Np.c i).rb
    obtain⟨U,E,D⟩:=Bdo (o:=T) (l:=l) (k:=j) (f:=f j) r (Sh (f j)) u J I y ω
    refine⟨_,by rw[As d,E];rfl,⟨j+1,T++U,rfl,ω,?_⟩,ζ⟩
    rw[Ajz,As d]
    exact q.app D
  .have:j=n:=ω
   subst this
   right
   exact⟨_,by simp only[Au (ω:¬(j:Int)<(j:Int)),Al],T,rfl,q⟩) (0,[]) ⟨0,[],rfl,ω,.nil⟩
 exact⟨T,by rw[<-R];exact S,N⟩
def Sn(B:Λ H4):Λ Grp->Λ H4
 |[]=>B
 |q::d=>Sn (Lp B q.1 q.2.2 (q.2.1+1)) d
theorem Azg{B:Λ H4}{l:Bp}{f:Nat->Nat}{b:H4}(hb:b∈Lp B l f n):∃g∈B,b.1=g.1/\b.2∈Jk [g.2] l f n:=by unfold Lp at hb;rw[mem_flatMap]at hb;obtain⟨k,c,e⟩:=hb;split at e;cases e;rename_i h;obtain⟨d,i,rfl⟩:=mem_map.1 e;refine⟨d,i,rfl,?_⟩;unfold Jk;rw[mem_flatMap];exact⟨k,c,by rw[As h];exact mem_map.2 ⟨d.2,ψ,rfl⟩⟩
theorem Azh:∀(f:Λ Grp){B C:Λ Ent},(∀b∈B,b∈C)->∀b∈Oo B f,b∈Oo C f
 |[],B,C,h,b,e=>h b e
 |q::f,B,C,h,b,e=>by refine Azh f (B:=Jk B q.1 q.2.2 (q.2.1+1)) (λc j=>?_) b e;unfold Jk at j⊢;rw[mem_flatMap]at j⊢;obtain⟨k,i,g⟩:=j;refine⟨k,i,?_⟩;split at g;cases g;rename_i o;rw[As o];obtain⟨d,d1,d2⟩:=mem_map.1 g;exact mem_map.2 ⟨d,h d d1,d2⟩
theorem App:∀(f:Λ Grp){B:Λ H4}{b:H4},b∈Sn B f->∃g∈B,b.1=g.1/\b.2∈Oo [g.2] f
 |[],B,b,h=>⟨b,h,rfl,by simp[Oo]⟩
 |q::f,B,b,h=>by obtain⟨c,j,o,r⟩:=App f h;obtain⟨d,d1,d2,d3⟩:=Azg j;refine⟨d,d1,o.trans d2,?_⟩;exact Azh f (λe i=>by simp only[Fh]at i;rw[i];exact d3) b.2 r
theorem Bdq{B:Λ H4}{l:Bp}{f:Nat->Nat}(h:∀b∈B,b.2.1.length<=M):∀b∈Lp B l f n,b.2.1.length<=M+1:=by intro b e;obtain⟨g,i,_,j⟩:=Azg e;exact Bca (B:=[g.2]) (λc d=>by simp only[Fh]at d;rw[d];exact h g i) b.2 j
theorem Bdr:∀(n:Nat)(rest:A7)(i:Ap)(B:Λ H4)(K M:Nat),rest.length<=n->Aeg rest->Atk rest->Gb K i B->(∀b∈B,b.2.1.length<=M)->M+rest.length<=1000->K+202*rest.length<30000000000->B.length*2^Cq rest<=1000000->∃o g,Am Aei (i,rest)=some g/\Gs o rest/\Gb (K+202*rest.length) g (Sn B o)/\g.length<=B.length*2^Cq rest:=by intro n;induction n with|zero=>intro rest i B K M hn _ _ z _ _ _ _;have:rest=[]:=F5.1 ω;subst this;exact⟨[],i,Ej (by unfold Aei;simp),.nil,by simpa[Sn]using z,by rw[z.len];simp[Cq]⟩|succ n ih=>intro rest i B K M hn w L z Q ad hK A;cases c:rest with|nil=>exact⟨[],i,Ej (by unfold Aei;simp),.nil,by simpa[Sn]using z.mono ω,by rw[z.len];simp[Cq]⟩|cons a r'=>rw[<-c];have H:rest[0]?=some a:=(by rw[c];rfl);have aa:0<rest.length:=Dq H;(have hT:∀b∈rest,b.L.T.length<1099511627776:=λb e=>by have:=(Ajn (L.lin b e)).1;omega);have ae:=L.len;obtain⟨m,m1,m2,m3,m4,m5⟩:=Bb8 H hT ω;have s:rest=rest.take m++rest.drop m:=(take_append_drop m rest).symm;have J:=(s▸L:Atk (rest.take m++rest.drop m)).sub;have x:rest.take m≠[]:=(by intro h;have:=congrArg length h;rw[length_take]at this;simp only[length_nil]at this;omega);obtain⟨N,f,p1,p2,p3,p4⟩:=Bb7 J.1 x m4;have Y:Cq rest=Cq (rest.take m)+Cq (rest.drop m):=(by rw[<-Uv,take_append_drop]);have ab:=L.sum;have S:2^Cq rest=2^Cq (rest.take m)*2^Cq (rest.drop m):=(by rw[Y,Nat.pow_add]);have a8:B.length<=1000000:=Nat.le_trans (Nat.le_mul_of_pos_right _ (Nat.pow_pos δ)) A;obtain⟨T,t1,t2⟩:=Bdp (l:=a.L) (n:=N+1) z p4 ω Q ω ω (by rw[z.len];exact a8);have y:Aei (i,rest)=some (.inl (T,rest.drop m)):=(by have X:Ag rest 0=some a:=Bq (n:=0) rfl H;have R:Fb rest (m:Int) (rest.length:Int)=some (rest.drop m):=(by unfold Fb;simp[drop_take];omega);unfold Aei;simp only[An (ω:(rest.length:Int)>0),Ak,X,Ac,m1,Ww rfl m3,p1,t1,R]);have ac:(rest.drop m).length+m=rest.length:=(by rw[length_drop];omega);have a7:=Azf B a.L f (N+1);have I:(N+1)*B.length<=B.length*2^Cq (rest.take m):=(by rw[Nat.mul_comm];refine Nat.mul_le_mul_left _ (Nat.le_trans (Bb9 N) (Nat.pow_le_pow_right δ p3)));have u:(Lp B a.L f (N+1)).length*2^Cq (rest.drop m)<=B.length*2^Cq rest:=(by rw[S,<-Nat.mul_assoc];exact Nat.mul_le_mul_right _ (Nat.le_trans a7 I));obtain⟨o,g,g1,g2,g3,g4⟩:=ih (rest.drop m) T (Lp B a.L f (N+1)) (K+202) (M+1) ω (Pairwise.sublist (drop_sublist m rest) w) J.2 t2 (Bdq Q) ω ω (Nat.le_trans u A);refine⟨(a.L,N,f)::o,g,by rw[Ks y,g1],?_,g3.mono ω,Nat.le_trans g4 u⟩;(have V:∀b∈rest.drop m,Eh a.L b.L<0:=by intro b e;cases r:rest.drop m with|nil=>rw[r]at e;cases e|cons d D=>have j:rest[m]?=some d:=(by have:=congrArg (λl=>l[0]?) r;simpa using this);have a1:=m5 d j;have a6:¬Eh d.L a.L<0:=(by have G:=w;rw[c]at G;have Z:d∈r':=(by have U:m=(m-1)+1:=ω;rw[c,U,getElem?_cons_succ]at j;exact Bm j);exact(pairwise_cons.1 G).1 d Z);(have q:Eh a.L d.L<0:=by rcases Int.lt_trichotomy (Eh d.L a.L) 0 with k|k|k;exact(a6 k).elim;exact(a1 ((Ja.zero _ _ trivial trivial).1 k)).elim;rw[Ja.anti d.L a.L trivial trivial];omega);rw[r]at e;rcases En.1 e with rfl|e;exact q;have E:Aeg (rest.drop m):=Pairwise.sublist (drop_sublist m rest) w;rw[r]at E;have h3:=(pairwise_cons.1 E).1 b e;rcases Int.lt_trichotomy (Eh b.L d.L) 0 with k|k|k;exact(h3 k).elim;rw[(Ja.zero _ _ trivial trivial).1 k];exact q;exact Ja.trans a.L d.L b.L trivial trivial trivial q (by rw[Ja.anti b.L d.L trivial trivial];omega));have:=Gs.cons x m4 V p2 g2;rwa [take_append_drop]at this
def Ko(Δ:Ad)(t:Ah)(v:Int)(i:Af):Ba:=if dgo Δ t i=0 then[]else[⟨v,i⟩]
abbrev Ow:=List Bd×Nat
def Lq(c:Rat)(p:Ow):H4:=((p.1,c),([],p.2))
def Aae(Δ:Ad)(t:Ah)(v:Int)(p:Ow)(w:Af×Nat):Ow:=(p.1++Ko Δ t v w.1,p.2*w.2)
def upF(Δ:Ad)(t:Ah)(v:Int)(R:A0)(b:Λ Ow):Λ Ow:=b.flatMap λp=>R.map (Aae Δ t v p)
theorem Bds(r:Kz Δ Ξ Θ)(b2:Aw)(k:Ed Δ Ξ Θ b1){v:Int}(e:E5 Ξ Θ v=some t)(g:Fj v){i:Af}(q:S<=1048576)(s:D<=6)(hi:GI Δ t S D i):∃b,Vr v i b1 b2 Δ Ξ Θ.G Θ.U Θ.R=some (Ko Δ t v i,b)/\Ed Δ Ξ Θ b:=by obtain⟨y,w,d,o,u⟩:=hi;obtain⟨b,j,l⟩:=Adq (b2:=b2) r k ⟨v,i⟩ g w (by show Br i<=_;omega) (by show(E5 Ξ Θ v).isSome=true;rw[e];rfl);(have c:Dt Δ Ξ Θ ⟨v,i⟩=(d:Int):=by unfold Dt;rw[e];show G0 (C7 Δ i t)=_;rw[o,Sb ω]);(have f:dgo Δ t i=d:=by unfold dgo;rw[o]);refine⟨b,?_,l⟩;unfold Vr Ko;have j:N8 v i b1 b2 Δ Ξ Θ.G Θ.U Θ.R=some (Dt Δ Ξ Θ ⟨v,i⟩,b):=j;rw[j,Ac,c,f];by_cases h:d=0;rw[Av h,h];rfl;rw[As h];have:((d:Int)==0)=false:=Cx ω;simp only[this,Al]
theorem Bdt{fs:Ba}(b:u.M=⟨F,[]⟩)(g:F.length+fs.length<=1000)(f:K<30000000000)(d:RB K u.C)(e:n<F0):∃w,Pc u (cR n) ⟨fs,[]⟩=some w/\w.M=⟨F++fs,[]⟩/\rq w.C=rq u.C*(n:Rat)/\RB (K+202) w.C:=by obtain⟨c,h,i,_,j⟩:=Ai5 d (Np.c e).rb ω ω;refine⟨⟨c,⟨F++fs,[]⟩⟩,?_,rfl,by rw[j,Sh],i⟩;unfold Pc;rw[h,Ac,b,Ao6 _ _ (by show F.length+fs.length<=_;omega) ψ];rfl
theorem Bdu(Δ:Ad)(t:Ah)(v:Int)(i:Af):(Ko Δ t v i).length<=1:=by unfold Ko;split<;>simp
noncomputable def Aez(Δ:Ad)(Ξ:A1)(Θ:Ah)(b2:Aw)(v:Int)(R:Bs)(u:Aj):Int×List (Β×Int)×List Aj->Cb:=λ(b,g,f)=>bif b<(R.length:Int)then((Ag R b).bind λd=>(Vr v d.I g b2 Δ Ξ Θ.G Θ.U Θ.R).bind λc=>(Pc u d.C (A4.mk c.1 [])).bind λe=>(B5 104 f [e]).bind λh=>some (.inl (Aa (b+1),c.2,h)))else(some (.inr (b,g,f)))
noncomputable def Ae0(Δ:Ad)(Ξ:A1)(Θ:Ah)(b2:Aw)(v:Int)(R:Bs)(ts:Ap):Int×List (Β×Int)×List Aj->Cb:=λ(b,f,c)=>bif b<(ts.length:Int)then((Ag ts b).bind λd=>(Am (Aez Δ Ξ Θ b2 v R d) (0,f,c)).bind λ(_,h,g)=>some (.inl (Aa (b+1),h,g)))else(some (.inr (b,f,c)))
theorem Bdv(r:Kz Δ Ξ Θ)(b2:Aw){v:Int}(H:E5 Ξ Θ v=some t)(B:Fj v)(X:S<=1048576)(Q:D<=6){R:A0}(Z:∀w∈R,GI Δ t S D w.1/\w.2<F0)(Y:R.length<=1000){p:Ow}{c:Rat}(hK:K<30000000000)(hu:u.M=⟨p.1,[]⟩)(A:rq u.C=c*(p.2:Rat))(z:RB K u.C)(N:p.1.length<=900){k:At}(U:Ed Δ Ξ Θ k)(o:Ap)(ho:o.length<=100000000) :
  ∃(f:At)(T:Ap),Am (Aez Δ Ξ Θ b2 v (R.map A3) u) (0,k,o)=some ((R.length:Int),f,o++T)/\Ed Δ Ξ Θ f/\T.length=R.length/\Gb (K+202) T ((R.map (Aae Δ t v p)).map (Lq c)):=by
 have i:(((R.map A3).length:Nat):Int)=(R.length:Int):=by rw[C3]
 obtain⟨e,e1,f,T,e2,e3,e4,e5⟩:=Kf (step:=Aez Δ Ξ Θ b2 v (R.map A3) u) (λ(s:Int×List (Β×Int)×List Aj)=>∃(j:Nat)(m:At)(T:Ap),s=((j:Int),m,o++T)/\j<=R.length/\Ed Δ Ξ Θ m/\T.length=j/\Gb (K+202) T (((R.take j).map (Aae Δ t v p)).map (Lq c))) (λs=>R.length-s.1.toNat)
  (λ(e:Int×List (Β×Int)×List Aj)=>∃(m:At)(T:Ap),e=((R.length:Int),m,o++T)/\Ed Δ Ξ Θ m/\T.length=R.length/\Gb (K+202) T ((R.map (Aae Δ t v p)).map (Lq c))) (by
  rintro _ ⟨j,m,T,rfl,hj,g,E,b⟩
  rcases Cj j R.length with h|h
  .left
   have d:R[j]?=some R[j]:=Bi h
   generalize R[j]=w at d
   obtain⟨I,G⟩:=Z w (Bm d)
   have y:(R.map A3)[j]?=some (A3 w):=by rw[getElem?_map,d];rfl
   obtain⟨x,f1,f2⟩:=Bds r b2 g H B X Q I
   have f1:Vr v (A3 w).I m b2 Δ Ξ Θ.G Θ.U Θ.R=some (Ko Δ t v w.1,x):=f1
   have V:=Bdu Δ t v w.1
   obtain⟨q,l,M,L,J⟩:=Bdt (fs:=Ko Δ t v w.1) hu ω hK z G
   have l:Pc u (A3 w).C ⟨Ko Δ t v w.1,[]⟩=some q:=l
   refine⟨((j+1:Nat),x,o++(T++[q])),?_,⟨j+1,x,T++[q],rfl,ω,f2,by simp[E],?_⟩,ζ⟩
   .unfold Aez
    simp only[i,An (ω:(j:Int)<(R.length:Int)),Ak,Bq rfl y,Ac,f1,l,Dl h ω]
    rw[Dj ζ,Ac,append_assoc]
   .rw[Cs d,map_append,map_append]
    refine b.app (.cons M ?_ J (by show(p.1++Ko Δ t v w.1).length<=1000;rw[Fe];omega) .nil)
    rw[L,A]
    show _=c*((p.2*w.2:Nat):Rat)
    rw[Rat.natCast_mul];grind
  .have:j=R.length:=ω
   subst this
   rw[Dh]at b
   exact .inr ⟨_,by unfold Aez;simp only[i,Au (ω:¬(R.length:Int)<(R.length:Int)),Al],m,T,rfl,g,E,b⟩) (0,k,o) ⟨0,k,[],ψ,ω,U,rfl,by simpa using Gb.nil⟩
 exact⟨f,T,by rw[<-e2];exact e1,e3,e4,e5⟩
theorem Bdw(o:Kz Δ Ξ Θ)(b2:Aw){v:Int}(r:E5 Ξ Θ v=some t)(A:Fj v)(X:S<=1048576)(H:D<=6){R:A0}(Y:∀w∈R,GI Δ t S D w.1/\w.2<F0)(y:R.length<=1000){ts:Ap}{i:Λ Ow}{c:Rat}(Z:K<30000000000)(k:Gb K ts (i.map (Lq c)))(z:∀p∈i,p.1.length<=900)(hl:i.length*R.length<=90000000)(a1:i.length<=1000000){q:At}(M:Ed Δ Ξ Θ q) :
  ∃(g:At)(T:Ap),Am (Ae0 Δ Ξ Θ b2 v (R.map A3) ts) (0,q,[])=some ((ts.length:Int),g,T)/\Ed Δ Ξ Θ g/\Gb (K+202) T ((upF Δ t v R i).map (Lq c)):=by
 have x:ts.length=i.length:=by rw[k.len,C3]
 obtain⟨e,Q,g,T,e2,e3,e4⟩:=Kf (step:=Ae0 Δ Ξ Θ b2 v (R.map A3) ts) (λ(s:Int×List (Β×Int)×List Aj)=>∃(j:Nat)(m:At)(T:Ap),s=((j:Int),m,T)/\j<=ts.length/\Ed Δ Ξ Θ m/\T.length=j*R.length/\Gb (K+202) T ((upF Δ t v R (i.take j)).map (Lq c))) (λs=>ts.length-s.1.toNat)
  (λ(e:Int×List (Β×Int)×List Aj)=>∃(m:At)(T:Ap),e=((ts.length:Int),m,T)/\Ed Δ Ξ Θ m/\Gb (K+202) T ((upF Δ t v R i).map (Lq c))) (by
  rintro _ ⟨j,m,T,rfl,hj,l,V,f⟩
  rcases Cj j ts.length with h|h
  .left
   have d:ts[j]?=some ts[j]:=Bi h
   generalize ts[j]=u at d
   obtain⟨b,b1,B,b3,b4,b5⟩:=k.get d
   rw[getElem?_map]at b1
   obtain⟨p,hp,rfl⟩:=Option.map_eq_some_iff.1 b1
   have N:j*R.length<=i.length*R.length:=Nat.mul_le_mul_right _ ω
   obtain⟨E,U,L,J,I,G⟩:=Bdv o b2 r A X H Y y Z B b3 b4 (z p (Bm hp)) l T ω
   refine⟨((j+1:Nat),E,T++U),?_,⟨j+1,E,T++U,rfl,ω,J,by rw[Fe,V,I,Nat.add_mul,Nat.one_mul],?_⟩,ζ⟩
   .unfold Ae0
    simp only[An (ω:(j:Int)<(ts.length:Int)),Ak,Bq rfl d,Ac,L,Dl h ω]
   .unfold upF at f ⊢
    rw[Ajq _ hp,map_append]
    exact f.app G
  .have:j=ts.length:=ω
   subst this
   rw[x,Dh]at f
   exact .inr ⟨_,by unfold Ae0;simp only[Au (ω:¬(ts.length:Int)<(ts.length:Int)),Al],m,T,rfl,l,f⟩) (0,q,[]) ⟨0,q,[],rfl,ω,M,ψ,by simpa[upF]using Gb.nil⟩
 exact⟨g,T,by rw[<-e2];exact Q,e3,e4⟩
structure Ox(Δ:List Ao)(Ξ:List Ah)(Θ:Ah)(F:List Bd):Prop where
 fac:∀f∈F,Fj f.v/\iR f.I/\1<=Dt Δ Ξ Θ f
 siz:(F.map λf=>Br f.I).sum<=400000
 sum:Bo Δ Ξ Θ F<=6
theorem U2{f:Bd}(h:1<=Dt Δ Ξ Θ f):∃t d,E5 Ξ Θ f.v=some t/\C7 Δ f.I t=some d/\1<=d/\d<=6/\Dt Δ Ξ Θ f=(d:Nat):=by unfold Dt at h⊢;cases e:E5 Ξ Θ f.v with|none=>rw[e]at h;exact absurd (show(1:Int)<=-1 from h) δ|some t=>rw[e]at h;(rcases Ah4 (C7 Δ f.I t)with⟨i,_⟩|⟨d,i,j,o⟩);have h:1<=G0 (C7 Δ f.I t):=h;omega;have h:1<=G0 (C7 Δ f.I t):=h;exact⟨t,d,rfl,i,ω,j,o⟩
theorem L5(l m:Ba):Bo Δ Ξ Θ (l++m)=Bo Δ Ξ Θ l+Bo Δ Ξ Θ m:=by unfold Bo;simp[sum_append]
theorem L6{Δ:Ad}{Ξ:A1}{Θ:Ah}:∀{l:Ba},(∀f∈l,1<=Dt Δ Ξ Θ f)->(l.length:Int)<=Bo Δ Ξ Θ l
 |[],_=>by simp[Bo]
 |f::l,h=>by have e:=h f ψ;have i:=L6 (l:=l) λg d=>h g (by simp[d]);have:Bo Δ Ξ Θ (f::l)=Dt Δ Ξ Θ f+Bo Δ Ξ Θ l:=(by unfold Bo;simp);simp only[Eo];omega
theorem Ox.app(h:Ox Δ Ξ Θ (l++m)):Ox Δ Ξ Θ l/\Ox Δ Ξ Θ m:=by have h1:=h.siz;have h2:=h.sum;rw[map_append,sum_append]at h1;rw[L5]at h2;have f1:=L6 (Δ:=Δ) (Ξ:=Ξ) (Θ:=Θ) (l:=l) λf hf=>(h.fac f (by simp[hf])).2.2;have f2:=L6 (Δ:=Δ) (Ξ:=Ξ) (Θ:=Θ) (l:=m) λf hf=>(h.fac f (by simp[hf])).2.2;exact⟨⟨λf hf=>h.fac f (by simp[hf]),ω,ω⟩,⟨λf hf=>h.fac f (by simp[hf]),ω,ω⟩⟩
theorem Bdx{v:Int}{g:Ba}(u:g≠[])(hg:∀f∈g,f.v=v)(c:Ox Δ Ξ Θ g):∃t k o,E5 Ξ Θ v=some t/\Fj v/\g=fl v (k::o)/\GG Δ t (k::o)/\Bo Δ Ξ Θ g=(E2 Δ t (k::o):Nat)/\o.length+1<=E2 Δ t (k::o):=by cases g with|nil=>exact(u rfl).elim|cons f0 g=>have j:=hg f0 ψ;obtain⟨t,d0,w,_⟩:=U2 (c.fac f0 ψ).2.2;rw[j]at w;have x:∀l:Ba,(∀f∈l,f.v=v)->l=fl v (l.map (·.I)):=(by intro l;induction l with|nil=>intro _;rfl|cons a l ih=>intro h;have J:=h a ψ;have H:=ih λf e=>h f (by simp[e]);show a::l=⟨v,a.I⟩::fl v (l.map (·.I));rw[<-H,<-J]);(have I:∀f∈f0::g,C7 Δ f.I t=some (dgo Δ t f.I)/\Dt Δ Ξ Θ f=(dgo Δ t f.I:Nat)/\1<=dgo Δ t f.I:=λf e=>by obtain⟨t',d,t1,t2,t3,t4,t5⟩:=U2 (c.fac f e).2.2;rw[hg f e,w]at t1;cases t1;have:dgo Δ t f.I=d:=(by unfold dgo;rw[t2]);rw[this];exact⟨t2,t5,t3⟩);have y:∀l:Ba,(∀f∈l,f∈f0::g)->Bo Δ Ξ Θ l=(E2 Δ t (l.map (·.I)):Nat)/\l.length<=E2 Δ t (l.map (·.I)):=(by intro l;induction l with|nil=>intro _;exact⟨by simp[Bo,E2],ψ⟩|cons a l ih=>intro h;obtain⟨_,H,Q⟩:=I a (h a ψ);obtain⟨T,U⟩:=ih λf e=>h f (by simp[e]);have G:Bo Δ Ξ Θ (a::l)=Dt Δ Ξ Θ a+Bo Δ Ξ Θ l:=(by unfold Bo;simp);have E:E2 Δ t ((a::l).map (·.I))=dgo Δ t a.I+E2 Δ t (l.map (·.I)):=(by unfold E2;simp);rw[G,E];simp only[Eo];omega);obtain⟨A,z⟩:=y (f0::g) λf e=>e;have B:=c.sum;have s:∀l:Ba,(l.map λf=>Br f.I).sum=Bv (l.map (·.I)):=(by intro l;induction l with|nil=>rfl|cons a l ih=>simp only[map_cons,sum_cons,Bv,ih]);have b:=c.siz;rw[s]at b;have q:(f0::g).map (·.I)=f0.I::g.map (·.I):=rfl;rw[q]at A z b;simp only[Eo]at z;have D:=x (f0::g) hg;rw[q]at D;refine⟨t,f0.I,g.map (·.I),w,by rw[<-j];exact(c.fac f0 ψ).1,D,⟨λi r=>?_,λi r=>?_,b,ω,by rw[Eo,C3];omega⟩,A,by rw[C3];omega⟩;rw[<-q]at r;obtain⟨f,e,rfl⟩:=mem_map.1 r;exact(c.fac f e).2.1;rw[<-q]at r;obtain⟨f,e,rfl⟩:=mem_map.1 r;exact(I f e).1
def Kp(Δ:Ad)(Ξ:A1)(Θ:Ah)(χ:Bd->Nat)(P:Ba):Prop:=∀g∈P,∀t,E5 Ξ Θ g.v=some t->Apo Δ t (λi=>χ ⟨g.v,i⟩)/\∀i,C7 Δ i t=some 0->iR i->Br i<=400000->χ ⟨g.v,i⟩=1
structure So(Δ:List Ao)(Ξ:List Ah)(Θ:Ah)(P:List Bd)(FE:List Ow):Prop where
 pos:∀p∈FE,1<=p.2
 fac:∀p∈FE,∀f∈p.1,Fj f.v/\iR f.I/\Br f.I<=(P.map λf=>Br f.I).sum/\1<=Dt Δ Ξ Θ f/\∃g∈P,g.v=f.v
 asc:∀p∈FE,p.1.Pairwise λa b=>a.v<b.v
 sum:∀p∈FE,Bo Δ Ξ Θ p.1<=Bo Δ Ξ Θ P
 val:∀χ,Kp Δ Ξ Θ χ P->pv (λF=>Ey (F.map χ)) FE=Ey (P.map χ)
 len:FE.length<=10^(Bo Δ Ξ Θ P).toNat
theorem So.nil(Δ:Ad)(Ξ:A1)(Θ:Ah):So Δ Ξ Θ [] [([],1)]:=by(have h:∀p∈[(([]:Ba),1)],p=([],1):=λp hp=>by simpa using hp);refine⟨λp hp=>?_,λp hp f hf=>?_,λp hp=>?_,λp hp=>?_,λχ _=>rfl,Nat.le_refl _⟩;rw[h p hp];exact Nat.le_refl _;rw[h p hp]at hf;cases hf;rw[h p hp];exact Pairwise.nil;rw[h p hp];exact Int.le_refl _
theorem Aaf:∀(l m:Ca),Ey (l++m)=Ey l*Ey m
 |[],m=>by simp[Ey]
 |a::l,m=>by rw[Fd,Ey,Ey,Aaf l m,Nat.mul_assoc]
theorem Azi{α β:Type}(f:β->Nat)(g:α->β)(c:Nat):∀L:Λ (α×Nat),pv f (L.map λw=>(g w.1,c*w.2))=c*pv (λx=>f (g x)) L
 |[]=>rfl
 |p::L=>by rw[map_cons,pv,Azi f g c L,pv,Nat.mul_add,Nat.mul_assoc]
theorem So.step{P:Ba}{y:Λ Ow}(h:So Δ Ξ Θ P y){v:Int}(ht:E5 Ξ Θ v=some t)(M:Fj v){j:Af}{c:A2}(L:GG Δ t (j::c))(J:Bo Δ Ξ Θ (fl v (j::c))=(E2 Δ t (j::c):Nat))(V:c.length+1<=E2 Δ t (j::c))(hP:∀f∈P,f.v<v)(Z:0<=Bo Δ Ξ Θ P){R:A0}(x:PRg Δ t j c R):So Δ Ξ Θ (P++fl v (j::c)) (upF Δ t v R y):=by have hs:=L.siz;have X:=L.sum;(have s:∀q∈upF Δ t v R y,∃p∈y,∃w∈R,q=Aae Δ t v p w:=λq r=>by unfold upF at r;obtain⟨p,hp,r⟩:=mem_flatMap.1 r;obtain⟨w,o,rfl⟩:=mem_map.1 r;exact⟨p,hp,w,o,rfl⟩);(have B:∀w∈R,∀f∈Ko Δ t v w.1,f=⟨v,w.1⟩/\1<=dgo Δ t w.1:=λw o f hf=>by unfold Ko at hf;split at hf;cases hf;rename_i h0;simp only[Fh]at hf;exact⟨hf,ω⟩);(have z:∀w∈R,C7 Δ w.1 t=some (dgo Δ t w.1)/\dgo Δ t w.1<=E2 Δ t (j::c)/\Dt Δ Ξ Θ ⟨v,w.1⟩=(dgo Δ t w.1:Nat):=λw o=>by obtain⟨_,_,d,d1,d2⟩:=x.cw.mo w o;have e:dgo Δ t w.1=d:=(by unfold dgo;rw[d1]);rw[e];refine⟨d1,d2,?_⟩;unfold Dt;rw[ht];show G0 (C7 Δ w.1 t)=_;rw[d1,Sb ω]);(have u:((P++fl v (j::c)).map λf=>Br f.I).sum=(P.map λf=>Br f.I).sum+Bv (j::c):=by rw[map_append,sum_append];congr 1;(have H:∀l:A2,((fl v l).map λf=>Br f.I).sum=Bv l:=λl=>by induction l with|nil=>rfl|cons a l ih=>show Br a+((fl v l).map λf=>Br f.I).sum=Bv (a::l);rw[ih];simp only[Bv]);exact H _);(have G:Bo Δ Ξ Θ (P++fl v (j::c))=Bo Δ Ξ Θ P+(E2 Δ t (j::c):Nat):=by rw[L5,J]);have I:(Bo Δ Ξ Θ (P++fl v (j::c))).toNat=(Bo Δ Ξ Θ P).toNat+E2 Δ t (j::c):=ω;(have A:(upF Δ t v R y).length<=y.length*R.length:=by unfold upF;exact Aen _ _ _ λp _=>by rw[C3];exact Nat.le_refl _);have Y:R.length<=3^(E2 Δ t (j::c)*c.length):=Nat.le_trans (L3 x.cw.pos) x.cnt;refine⟨λq r=>?_,λq r f hf=>?_,λq r=>?_,λq r=>?_,λχ S=>?_,?_⟩;obtain⟨p,hp,w,o,rfl⟩:=s q r;exact Nat.mul_pos (h.pos p hp) (x.cw.pos w o);obtain⟨p,hp,w,o,rfl⟩:=s q r;rcases Ea.1 hf with hf|hf;obtain⟨a1,a2,a3,a4,g,Q,T⟩:=h.fac p hp f hf;exact⟨a1,a2,by rw[u];omega,a4,g,by simp[Q],T⟩;obtain⟨rfl,h1⟩:=B w o f hf;obtain⟨U,E,_⟩:=x.cw.mo w o;obtain⟨_,_,D⟩:=z w o;exact⟨M,E,by rw[u];show Br w.1<=_;omega,by rw[D];omega,⟨v,j⟩,by simp[fl],rfl⟩;obtain⟨p,hp,w,o,rfl⟩:=s q r;refine pairwise_append.2 ⟨h.asc p hp,?_,λa ha b hb=>?_⟩;unfold Ko;split<;>simp;obtain⟨rfl,_⟩:=B w o b hb;obtain⟨_,_,_,_,g,Q,T⟩:=h.fac p hp a ha;rw[<-T];exact hP g Q;obtain⟨p,hp,w,o,rfl⟩:=s q r;have h1:=h.sum p hp;obtain⟨_,y2,D⟩:=z w o;show Bo Δ Ξ Θ (p.1++Ko Δ t v w.1)<=_;rw[L5,G];(have:Bo Δ Ξ Θ (Ko Δ t v w.1)<=(E2 Δ t (j::c):Nat):=by unfold Ko;split;show(0:Int)<=_;omega;show Dt Δ Ξ Θ ⟨v,w.1⟩+0<=_;rw[D];omega);omega;obtain⟨m1,m2⟩:=S ⟨v,j⟩ (by simp[fl]) t ht;(have e1:pv (λF=>Ey (F.map χ)) (upF Δ t v R y)=pv (λF=>pv (λi=>χ ⟨v,i⟩) R*Ey (F.map χ)) y:=by unfold upF;refine Si _ _ _ _ λp hp=>?_;have e2:R.map (Aae Δ t v p)=R.map λw=>(p.1++Ko Δ t v w.1,p.2*w.2):=rfl;rw[e2,Azi (λF=>Ey (F.map χ)) (λi=>p.1++Ko Δ t v i) p.2 R];congr 1;rw[<-Nat.mul_comm (Ey _),<-Ln];refine Px λw o=>?_;show Ey ((p.1++Ko Δ t v w.1).map χ)=Ey (p.1.map χ)*χ ⟨v,w.1⟩;rw[map_append,Aaf];congr 1;obtain⟨U,E,_⟩:=x.cw.mo w o;obtain⟨N,_⟩:=z w o;unfold Ko;split;rename_i h0;rw[h0]at N;rw[m2 w.1 N E ω];rfl;show χ ⟨v,w.1⟩*1=_;omega);rw[e1,Ln,h.val χ λg hg=>S g (by simp[hg]),x.val,Aze m1 c j L,map_append,Aaf,Nat.mul_comm];congr 1;show _=χ ⟨v,j⟩*Ey ((fl v c).map χ);unfold fl;rw[map_map];rfl;rw[I,Nat.pow_add];refine Nat.le_trans A (Nat.mul_le_mul h.len ?_);have hl:=x.len;rcases Cj (E2 Δ t (j::c)) 3 with k|k;have hr:c.length<=1:=ω;have h1:(3:Nat)^(E2 Δ t (j::c)*c.length)<=3^(E2 Δ t (j::c)):=Nat.pow_le_pow_right δ (by have:=Nat.mul_le_mul_left (E2 Δ t (j::c)) hr;omega);have h2:(3:Nat)^(E2 Δ t (j::c))<=10^(E2 Δ t (j::c)):=Nat.pow_le_pow_left δ _;omega;have h1:(10:Nat)^3<=10^(E2 Δ t (j::c)):=Nat.pow_le_pow_right δ k;omega
noncomputable def Aj0(r:Ba)(v:Int):Int->Ο (Int⊕Int):=λb=>bif b<(r.length:Int)then((Ag r b).bind λc=>bif(c.v==v)then(some (.inl (Aa (b+1))))else(some (.inr b)))else(some (.inr b))
theorem Bdy{r:Ba}{a:Bd}(h0:r[0]?=some a)(q:r.length<=1000) :
  ∃n:Nat,Am (Aj0 r a.v) 1=some (n:Int)/\1<=n/\n<=r.length/\(∀b∈r.take n,b.v=a.v)/\∀b,r[n]?=some b->b.v≠a.v:=by
 have w:=Dq h0
 obtain⟨e,l,n,k,i⟩:=Kf (step:=Aj0 r a.v) (λs=>∃n:Nat,s=(n:Int)/\1<=n/\n<=r.length/\∀b∈r.take n,b.v=a.v) (λs=>r.length-s.toNat)
  (λe=>∃n:Nat,e=(n:Int)/\1<=n/\n<=r.length/\(∀b∈r.take n,b.v=a.v)/\∀b,r[n]?=some b->b.v≠a.v) (by
  rintro _ ⟨j,rfl,g,f,c⟩
  unfold Aj0
  rcases Cj j r.length with h|h
  .have y:r[j]?=some r[j]:=Bi h
   generalize r[j]=b at y
   simp only[An (ω:(j:Int)<(r.length:Int)),Ak,Bq rfl y,Ac,Dl h ω]
   by_cases E:b.v=a.v
   .left
    rw[Ew E]
    refine⟨_,rfl,⟨j+1,rfl,ω,ω,λd o=>?_⟩,ω⟩
    rw[Cs y]at o
    rcases Ea.1 o with o|o
    .exact c d o
    .simp only[Fh]at o
     rw[o];exact E
   .right
    rw[Cx E]
    exact⟨_,rfl,j,rfl,g,f,c,λd o=>by rw[y]at o;cases o;exact E⟩
  .right
   refine⟨_,by simp only[Au (ω:¬(j:Int)<(r.length:Int)),Al],j,rfl,g,f,c,λd o=>?_⟩
   have:=Dq o
   omega) 1 ⟨1,rfl,ω,ω,λb G=>by
    cases r with
    |nil=>simp at w
    |cons x r=>simp at G h0;rw[G,h0]⟩
 exact⟨n,by rw[<-k];exact l,i⟩
noncomputable def Aag(Δ:Ad)(Ξ:A1)(Θ:Ah):(List Aj×List Bd×List (Β×Int)×List (Β×List Aq))->Ο ((List Aj×List Bd×List (Β×Int)×List (Β×List Aq))⊕((List Aj×Int×List (Β×Int)×List (Β×List Aq))⊕(List Aj×List (Β×Int)×List (Β×List Aq)))):=λ(d,c,f,h)=>bif(c.length:Int)>(0:Int)then((Ag c 0).bind λe=>(Am (Aj0 c e.v) 1).bind λg=>(Fb c 0 g).bind λj=>(Tc j f h Δ Ξ Θ.G Θ.U Θ.R).bind λb=>bif(b.2.1 != (0:Int))then(some (.inr (.inl ([],b.2.1,f,b.2.2))))else((Am (Ae0 Δ Ξ Θ b.2.2 e.v b.1 d) (0,f,[])).bind λ(o,l,k)=>(Fb c g c.length).bind λi=>some (.inl (k,i,l,b.2.2))))else(some (.inr (.inr (d,f,h))))
theorem Azj(Δ:Ad)(t:Ah)(v:Int)(R:A0):∀b:Λ Ow,(upF Δ t v R b).length=b.length*R.length
 |[]=>by simp[upF]
 |p::b=>by have ih:=Azj Δ t v R b;unfold upF at ih⊢;rw[flatMap_cons,Fe,ih,C3,Eo,Nat.add_mul];omega
def Sp(l:Ba):Prop:=∃v:Int,3<=(l.filter λf=>f.v==v).length
theorem Sp.app(h:Sp m):Sp (l++m):=by obtain⟨v,h⟩:=h;exact⟨v,by rw[filter_append,Fe];omega⟩
theorem Sp.perm(hp:l.Perm m)(h:Sp l):Sp m:=by obtain⟨v,h⟩:=h;exact⟨v,by rw[<-(hp.filter _).length_eq];exact h⟩
theorem Aj1{d:Nat}(h:d<=6):10^d<=1000000:=Nat.le_trans (Nat.pow_le_pow_right δ h) δ
theorem Bdz(hz:DSz Δ)(hv:Ih Δ)(hx:Kz Δ Ξ Θ)(af:∀v t,E5 Ξ Θ v=some t->Hm Δ t=true){c:Rat}:∀(n:Nat)(rest P:Ba)(ts:Ap)(B:Λ Ow)(K:Nat)(q:At)(G:Aw),rest.length<=n->rest.Pairwise (λa b=>a.v<=b.v)->(∀f∈P,∀g∈rest,f.v<g.v)->Ox Δ Ξ Θ (P++rest)->Gb K ts (B.map (Lq c))->So Δ Ξ Θ P B->(∀p∈B,p.1.length<=6)->K+202*rest.length<30000000000->Ed Δ Ξ Θ q->PMg Δ Ξ Θ G ->
  ∃z,Am (Aag Δ Ξ Θ) (ts,rest,q,G)=some z/\((∃j s,Sp rest/\z=.inl ([],9,j,s)/\Ed Δ Ξ Θ j/\PMg Δ Ξ Θ s)\/(∃E M j s,z=.inr (E,j,s)/\Ed Δ Ξ Θ j/\PMg Δ Ξ Θ s/\Gb (K+202*rest.length) E (M.map (Lq c))/\So Δ Ξ Θ (P++rest) M)):=by
 intro n
 induction n with
 |zero=>
  intro rest P ts B K q G hn _ _ _ Q V _ _ k J
  have:rest=[]:=F5.1 ω
  subst this
  exact⟨.inr (ts,q,G),Ej (by unfold Aag;simp),.inr ⟨ts,B,q,G,rfl,k,J,by simpa using Q,by rw[append_nil];exact V⟩⟩
 |succ n ih=>
  intro rest P ts B K q G hn hS U N Q V am hK k J
  cases i:rest with
  |nil=>
   exact⟨.inr (ts,q,G),Ej (by unfold Aag;simp),.inr ⟨ts,B,q,G,rfl,k,J,by simpa using Q,by rw[append_nil];exact V⟩⟩
  |cons a r'=>
   rw[<-i]
   have h0:rest[0]?=some a:=by rw[i];rfl
   have ap:0<rest.length:=Dq h0
   have ak:=N.sum
   have a8:=L6 (Δ:=Δ) (Ξ:=Ξ) (Θ:=Θ) (l:=P++rest) λf o=>(N.fac f o).2.2
   rw[Fe]at a8
   obtain⟨m,m1,m2,m3,m4,m5⟩:=Bdy h0 ω
   have I:rest=rest.take m++rest.drop m:=(take_append_drop m rest).symm
   have Y:rest.take m≠[]:=by
    intro h
    have:=congrArg length h
    rw[length_take]at this
    simp only[length_nil]at this
    omega
   have a7:=N.app.2
   have ao:Ox Δ Ξ Θ (rest.take m):=by
    rw[I]at a7
    exact a7.app.1
   obtain⟨t,i0,H,t1,t2,t3,t4,t5,t6⟩:=Bdx Y m4 ao
   have aq:=(hx.sz a.v t t1)
   have X:Ag rest 0=some a:=Bq (n:=0) rfl h0
   have ac:Fb rest (m:Int) (rest.length:Int)=some (rest.drop m):=by
    unfold Fb
    simp[drop_take]
    omega
   have a6:0<=Bo Δ Ξ Θ P:=by
    have:=L6 (Δ:=Δ) (Ξ:=Ξ) (Θ:=Θ) (l:=P) λf o=>(N.fac f (by simp[o])).2.2
    omega
   have aj:(Bo Δ Ξ Θ P).toNat<=6:=by
    have:=L6 (Δ:=Δ) (Ξ:=Ξ) (Θ:=Θ) (l:=rest) λf o=>(N.fac f (by simp[o])).2.2
    rw[L5]at ak
    omega
   obtain⟨l,e,A,q1,q2,q3⟩:=Bdn hz hv (af a.v t t1) t1 t2 t4 q J
   rw[<-t3]at q1
   have ar:(rest.drop m).length+m=rest.length:=by rw[length_drop];omega
   rcases q3 with⟨rfl,rfl,r⟩|⟨rfl,R,rfl,y⟩
   .refine⟨.inl ([],9,q,A),Ej ?_,.inl ⟨q,A,⟨a.v,?_⟩,rfl,k,q2⟩⟩
    rotate_left
    .rw[<-take_append_drop m rest,filter_append,Fe,filter_eq_self.2 λf o=>by simp[m4 f o],t3]
     unfold fl
     rw[C3,Eo];omega
    unfold Aag
    simp only[An (ω:(rest.length:Int)>0),Ak,X,Ac,m1,Ww rfl m3,q1]
    rfl
   .have aa:=V.len
    have ax:=Aj1 aj
    have ai:=y.len
    have h9:B.length*R.length<=1000000:=by
     have ab:=V.step t1 t2 t4 (by rw[<-t3];exact t5) t6 (λf o=>by
      have:=U f o a (by rw[i];simp)
      exact this) a6 y
     have h1:=ab.len
     have h2:=Azj Δ t a.v R B
     rw[h2]at h1
     refine Nat.le_trans h1 (Aj1 ?_)
     rw[<-t3]
     have e1:Bo Δ Ξ Θ (P++rest.take m)+Bo Δ Ξ Θ (rest.drop m)=Bo Δ Ξ Θ (P++rest):=by rw[L5,L5,Int.add_assoc,<-L5 (rest.take m),take_append_drop]
     have e2:=L6 (Δ:=Δ) (Ξ:=Ξ) (Θ:=Θ) (l:=rest.drop m) λf o=>(N.fac f (by have:=mem_of_mem_drop o;simp[this])).2.2
     omega
    have ae:=t4.len
    simp only[Eo]at ae
    have ah:∀w∈R,GI Δ t (Bv (i0::H)) (E2 Δ t (i0::H)) w.1/\w.2<F0:=λw hw=>by
     refine⟨y.cw.mo w hw,?_⟩
     have h1:=Ou hw
     have h2:=y.cnt
     have h3:(3:Nat)^(E2 Δ t (i0::H)*H.length)<=3^36:=Nat.pow_le_pow_right δ (Nat.mul_le_mul t4.sum (show H.length<=6 by omega))
     have h4:(3:Nat)^36<F0:=by unfold F0;decide
     omega
    obtain⟨j,T,u1,u2,u3⟩:=Bdw hx A t1 t2 (by have:=t4.siz;omega) t4.sum ah ai ω Q (λp hp=>by have:=am p hp;omega) ω ω k
    have S:Aag Δ Ξ Θ (ts,rest,q,G)=some (.inl (T,rest.drop m,j,A)):=by
     unfold Aag
     simp only[An (ω:(rest.length:Int)>0),Ak,X,Ac,m1,Ww rfl m3,q1,show((0:Int) != 0)=false from rfl,Al,u1,ac]
    have L:=V.step t1 t2 t4 (by rw[<-t3];exact t5) t6 (λf o=>by
     have:=U f o a (by rw[i];simp)
     exact this) a6 y
    rw[<-t3]at L
    have ad:∀b∈rest.drop m,a.v<b.v:=by
     intro b r
     cases hd:rest.drop m with
     |nil=>rw[hd]at r;cases r
     |cons d D=>
      have u:rest[m]?=some d:=by
       have:=congrArg (λl=>l[0]?) hd
       simpa using this
      have au:=m5 d u
      have av:a.v<=d.v:=by
       have a1:=hS
       rw[i]at a1
       have ag:d∈r':=by
        have k:m=(m-1)+1:=ω
        rw[i,k,getElem?_cons_succ]at u
        exact Bm u
       exact(pairwise_cons.1 a1).1 d ag
      have Z:(rest.drop m).Pairwise (λa b=>a.v<=b.v):=Pairwise.sublist (drop_sublist m rest) hS
      rw[hd]at r Z
      rcases En.1 r with rfl|r
      .omega
      .have:=(pairwise_cons.1 Z).1 b r
       omega
    have x:P++rest.take m++rest.drop m=P++rest:=by rw[append_assoc,take_append_drop]
    obtain⟨z,z1,z2⟩:=ih (rest.drop m) (P++rest.take m) T (upF Δ t a.v R B) (K+202) j A ω (Pairwise.sublist (drop_sublist m rest) hS) (λf o g hg=>by
     rcases Ea.1 o with o|o
     .exact U f o g (mem_of_mem_drop hg)
     .rw[m4 f o];exact ad g hg) (by rw[x];exact N) u3 L (λp hp=>by
     have h1:=L.sum p hp
     have h2:=L6 (Δ:=Δ) (Ξ:=Ξ) (Θ:=Θ) (l:=p.1) λf o=>(L.fac p hp f o).2.2.2.1
     have e1:Bo Δ Ξ Θ (P++rest.take m)+Bo Δ Ξ Θ (rest.drop m)=Bo Δ Ξ Θ (P++rest):=by rw[<-L5,x]
     have e2:=L6 (Δ:=Δ) (Ξ:=Ξ) (Θ:=Θ) (l:=rest.drop m) λf o=>(N.fac f (by have:=mem_of_mem_drop o;simp[this])).2.2
     omega) ω u2 q2
    rw[x]at z2
    refine⟨z,by rw[Ks S,z1],?_⟩
    rcases z2 with⟨y1,y2,y3,y4⟩|⟨E,M,p1,p2,w1,w2,w3,w4,w5⟩
    .exact .inl ⟨y1,y2,by rw[<-take_append_drop m rest];exact y3.app,y4⟩
    .exact .inr ⟨E,M,p1,p2,w1,w2,w3,w4.mono ω,w5⟩
def IsE(A:A7)(B:Λ Ent):Prop:=∃d b,b.Perm A/\Aeg b/\Gs d b/\B=Oo [([],1)] d
def Xn(Ξ:A1)(Θ:Ah)(L:A7):Prop:=L.Pairwise (λa b=>Eh a.L b.L<0)/\∀a∈L,1<=a.P/\Ii a.L=true/\a.L.T.length≠0/\J2 Ξ Θ a.L=true
theorem Bd0(l m:A7):Co (l++m)=Co l+Co m:=by unfold Co;simp[sum_append]
theorem Bd1:∀{u:Λ Grp}{rest:A7},Gs u rest->(∀a∈rest,Ii a.L=true/\J2 Ξ Θ a.L=true)->∀(B:Λ Ent)(S:Int),(∀b∈B,Xn Ξ Θ b.1/\Co b.1<=S/\∀a∈b.1,∀r∈rest,Eh a.L r.L<0)->∀b∈Oo B u,Xn Ξ Θ b.1/\Co b.1<=S+(Cq rest:Nat):=by intro u rest h;induction h with|nil=>intro _ B S z b o;have:=z b o;exact⟨this.1,by have:=this.2.1;omega⟩|@cons l N f g rest u x U V G L ih=>intro A B S z;obtain⟨H,j⟩:∃a,a∈g:=(by cases g with|nil=>exact(x rfl).elim|cons a _=>exact⟨a,ψ⟩);have s:=U H j;have q:=A H (by simp[j]);rw[s]at q;(have I:∀k,k<N+1->k≠0->l.T.length≠0/\k<=Cq g:=by intro k w E;(rcases G with⟨X,T⟩|⟨_,T,_⟩);exact⟨X,by rw[<-T.1];omega⟩;omega);intro b o;have:=ih (λa e=>A a (by simp[e])) (Jk B l f (N+1)) (S+(Cq g:Nat)) (by intro b o;unfold Jk at o;rw[mem_flatMap]at o;obtain⟨k,i,w⟩:=o;have i:=mem_range.1 i;split at w;cases w;rw[mem_map]at w;obtain⟨d,hd,rfl⟩:=w;obtain⟨d1,d2,d3⟩:=z d hd;(have y:∀a∈d.1,Eh a.L l<0:=λa e=>by have:=d3 a e H (by simp[j]);rwa [s]at this);unfold atO;by_cases Q:k=0;rw[Av Q,append_nil];exact⟨d1,by show Co d.1<=S+((Cq g:Nat):Int);omega,λa e r c=>d3 a e r (by simp[c])⟩;rw[As Q];obtain⟨D,J⟩:=I k i Q;refine⟨⟨pairwise_append.2 ⟨d1.1,pairwise_singleton _ _,λa e b o=>?_⟩,λa e=>?_⟩,?_,λa e r c=>?_⟩;simp only[Fh]at o;subst o;exact y a e;rcases Ea.1 e with e|e;exact d1.2 a e;simp only[Fh]at e;subst e;exact⟨by show(1:Int)<=(k:Int);omega,q.1,D,q.2⟩;show Co (d.1++[⟨l,k⟩])<=_;rw[Bd0];have:Co [(⟨l,(k:Int)⟩:Bf)]=(k:Int):=(by simp[Co]);omega;rcases Ea.1 e with e|e;exact d3 a e r (by simp[c]);simp only[Fh]at e;subst e;exact V r c) b o;refine⟨this.1,?_⟩;rw[Uv];have:=this.2;omega
theorem Bd2{L:A7}(h:Xn x.V x.E L)(s:Co L<=6):Fm x ⟨[],L⟩:=by(have i:(L.length:Int)<=Co L:=by have d:∀l:A7,(∀a∈l,1<=a.P)->(l.length:Int)<=Co l:=(by intro l;induction l with|nil=>intro _;simp[Co]|cons f J ih=>intro c;have w:=c f ψ;have y:=ih λg E=>c g (by simp[E]);unfold Co at *;simp only[map_cons,sum_cons,Eo];omega);exact d _ λa o=>(h.2 a o).1);constructor;unfold Ji;have k:L.zipIdx.all (λq=>Lh x.V x.E L q.1 q.2)=true:=(by rw[Jq];rintro⟨a,j⟩ G;have r:L[j]?=some a:=mk_mem_zipIdx_iff_getElem?.1 G;obtain⟨w,y,H,u⟩:=h.2 a (Bm r);show Lh x.V x.E L a j=true;unfold Lh;have hp:Qx L a j=true:=(by unfold Qx;cases j with|zero=>rfl|succ j=>have c:=Dq r;have I:L[j]?=some L[j]:=Bi ω;have b:=pairwise_iff_getElem.1 h.1 j (j+1) ω c ω;have e:L[j+1]=a:=(by have:=Bi c;rw[r]at this;exact(E6 this).symm);rw[e]at b;simp only[Nat.add_sub_cancel,I,Bool.or_eq_true];exact .inr (decide_eq_true b));rw[hp,An w,y,u];simp only[Bool.true_and,Bool.and_true,Bool.not_eq_true',beq_eq_false_iff_ne,ne_eq];exact H);show(([]:Ba).zipIdx.all _&&L.zipIdx.all (λq=>Lh x.V x.E L q.1 q.2)&&decide (Bo x.D x.V x.E []+Co L<=6))=true;rw[k];have:Bo x.D x.V x.E []=0:=rfl;rw[this];simp;exact s;exact⟨ψ,by show L.length<=1048576;omega,nofun,nofun,λa o=>by have:=(Ajn (h.2 a o).2.1).1;omega⟩
def ec:Λ Ent->A4->Nat
 |[],_=>0
 |b::bs,m=>(if D5 ⟨[],b.1⟩ m=0 then b.2 else 0)+ec bs m
theorem Rep.mem{c:Rat}{ts:Ap}{bs:Λ Ent}(h:Rep c K ts bs){t:Aj}(d:t∈ts):∃b∈bs,t.M=⟨[],b.1⟩/\rq t.C=c*(b.2:Rat)/\RB K t.C:=by obtain⟨j,e⟩:=Gl d;obtain⟨b,b1,i⟩:=h.get e;exact⟨b,Bm b1,i⟩
def Apq(L:Nat)(p:Ap):Prop:=∀t∈p,∃z:Int,rq t.C=(z:Rat)/\Bw z.natAbs<=L
theorem Bd3{z:Int}(d:J3 a)(h:rq a=(z:Rat)):a=Cd (decide (z<0)) z.natAbs 1:=by refine Adx d (Us _ _ _ δ) ?_;rw[h,Ur _ _ _ δ,Ao7];congr 1;unfold sg;by_cases h:z<0;rw[An h,Av rfl];omega;rw[Au h,As δ];omega
theorem Bd4{z:Int}(d:J3 a)(h:rq a=(z:Rat))(b:Bw z.natAbs<=L):RB (L+1) a:=by rw[Bd3 d h];exact Sf _ _ _ _ ω (by rw[Um];omega) ω
theorem Apq.of(hc:CP p)(h:∀m,∃z:Int,cf p m=(z:Rat)/\Bw z.natAbs<=L):Apq L p:=λt d=>by obtain⟨z,b,e⟩:=h t.M;exact⟨z,by rw[<-Z1 hc d];exact b,e⟩
structure IP(x:Bh)(n L:Nat)(f:A4->Rat)(R:List Aj):Prop where
 cp:CP R
 val:∀m,cf R m=f m
 mo:∀t∈R,Fm x t.M
 len:R.length<=n
 int:Apq L R
theorem IP.can{f:A4->Rat}(h:IP x n L f R)(hn:n<=1000)(c:L<=1000000):Kd x R:=Kd.of h.cp h.mo (λt d=>by obtain⟨z,b,e⟩:=h.int t d;exact(Bd4 (h.cp.coe t d).1 b e).mono ω) (by have:=h.len;omega)
theorem IP.ext{y:Bh}{b c:Nat}{f:A4->Rat}{S:Ap}(h:IP x n L f R)(h':IP y b c g S)(e:∀m,f m=g m):R=S:=CP.ext h.cp h'.cp λm=>by rw[h.val,h'.val,e]
def cl:Cr->Int->Int
 |[],_=>0
 |t::l,v=>(if t.v=v then t.C else 0)+cl l v
theorem Ae1{l:Cr}{v:Int}(h:∀t∈l,t.v≠v):cl l v=0:=by induction l with|nil=>rfl|cons t l ih=>simp only[cl];rw[As (h t ψ),ih λu d=>h u (by simp[d])];rfl
structure Apr(L:List F3):Prop where
 srt:L.Pairwise λa b=>a.v<b.v
 nz:∀t∈L,t.C≠0
theorem Apr.ext:∀{L M:Cr},Apr L->Apr M->(∀v,cl L v=cl M v)->L=M:=by intro L;induction L with|nil=>(intro M _ b h;cases M with|nil=>rfl|cons t M=>have:=h t.v;simp only[cl,if_true]at this;rw[Ae1 λu d=>by have:=(pairwise_cons.1 b.srt).1 u d;omega]at this;exact(b.nz t ψ ω).elim)|cons s L ih=>intro M c b h;have g:cl (s::L) s.v=s.C:=(by simp only[cl,if_true];rw[Ae1 λu d=>by have:=(pairwise_cons.1 c.srt).1 u d;omega];omega);cases M with|nil=>have:=h s.v;rw[g]at this;exact(c.nz s ψ (by simpa[cl]using this)).elim|cons t M=>have i:cl (t::M) t.v=t.C:=(by simp only[cl,if_true];rw[Ae1 λu d=>by have:=(pairwise_cons.1 b.srt).1 u d;omega];omega);(have f:s.v=t.v:=by rcases Int.lt_trichotomy s.v t.v with k|k|k;have h1:=h s.v;rw[g,Ae1 (l:=t::M) λu d=>by rcases En.1 d with rfl|d;omega;have:=(pairwise_cons.1 b.srt).1 u d;omega]at h1;exact(c.nz s ψ h1).elim;exact k;have h1:=h t.v;rw[i,Ae1 (l:=s::L) λu d=>by rcases En.1 d with rfl|d;omega;have:=(pairwise_cons.1 c.srt).1 u d;omega]at h1;exact(b.nz t ψ h1.symm).elim);have hc:s.C=t.C:=(by rw[<-g,<-i,h,f]);have e:s=t:=(by cases s;cases t;simp only at f hc;rw[f,hc]);subst e;rw[ih (M:=M) ⟨(pairwise_cons.1 c.srt).2,λu d=>c.nz u (by simp[d])⟩ ⟨(pairwise_cons.1 b.srt).2,λu d=>b.nz u (by simp[d])⟩ λv=>by have:=h v;simp only[cl]at this;omega]
def NoF(x:Bh)(D:Nat)(m:A4):Prop:=Fm x m/\m.F=[]/\Co m.A<=(D:Nat)
theorem NoF.mono{D':Nat}{m:A4}(h:NoF x D m)(hd:D<=D'):NoF x D' m:=⟨h.1,h.2.1,by have:=h.2.2;omega⟩
theorem Gs.nil_of{c:Λ Grp}(h:Gs c A):A=[]->c=[]:=by cases h with|nil=>exactλ_=>rfl|cons b _ _ _ _=>exactλe=>absurd (append_eq_nil_iff.1 e).1 b
theorem IsE.one{a:Bf}(h:IsE [a] B):B.length<=1:=by obtain⟨gs,G,x,I,q,rfl⟩:=h;have E:G=[a]:=perm_singleton.1 x;rw[E]at q;generalize c:[a]=X at q;cases q with|nil=>cases c|@cons l N f g rest gs s T U z D=>have J:g.length+rest.length=1:=(by have:=congrArg length c;simpa using this.symm);have y:g.length=1:=(by have:=length_pos_iff.2 s;have:rest.length≠1\/g.length=0:=ω;omega);have b:rest=[]:=F5.1 ω;subst b;rw[append_nil]at c;subst c;have u:=D.nil_of rfl;subst u;show(Jk [([],1)] l f (N+1)).length<=1;(have o:∀n,(∀i j,i<n->j<n->f i≠0->f j≠0->i=j)->(Jk [(([],1):Ent)] l f n).length<=1/\((Jk [(([],1):Ent)] l f n).length=1->∃i,i<n/\f i≠0):=by intro n;induction n with|zero=>intro _;simp[Jk]|succ n ih=>intro h;obtain⟨H,w⟩:=ih λi j hi d=>h i j ω ω;rw[Aye,Fe];by_cases h0:f n=0;rw[Av h0];refine⟨by simpa using H,λe=>?_⟩;obtain⟨i,Q,r⟩:=w (by simpa using e);exact⟨i,ω,r⟩;rw[As h0];(have:(Jk [(([],1):Ent)] l f n).length≠1:=λe=>by obtain⟨i,Q,r⟩:=w e;have:=h i n ω ω r h0;omega);refine⟨by simp only[C3,length_singleton];omega,λ_=>⟨n,ω,h0⟩⟩);refine(o (N+1) ?_).1;(rcases z with⟨_,h2⟩|⟨_,h2,_⟩);(have e:∀k,k<N+1->f k=if k=N then 1 else 0:=by refine Ba2 λn _=>?_;rw[h2.2.2 n];have A:N=a.P.toNat:=(by have:=h2.1;simpa[Cq]using this);rw[Aea (k:=N) ω (λj d=>by simp[d])];simp[prb,A]);intro i j hi d h1 h2;rw[e i hi]at h1;rw[e j d]at h2;split at h1;split at h2;omega;exact(h2 rfl).elim;exact(h1 rfl).elim;intro i j hi d _ _;omega
noncomputable def eB(A:A7):Λ Ent:=open Classical in if h:∃B,IsE A B then Classical.choose h else[]
theorem IP.up{b c:Nat}{f:A4->Rat}(h:IP x n L f R)(hn:n<=b)(j:L<=c)(e:∀m,f m=g m):IP x b c g R:=⟨h.cp,λm=>by rw[h.val,e],h.mo,Nat.le_trans h.len hn,λt d=>by obtain⟨z,i,o⟩:=h.int t d;exact⟨z,i,ω⟩⟩
def cs(K:Nat):Nat->Nat
 |0=>0
 |j+1=>cs K j+(1+min j (K-j))
theorem Bd5(f:α->Int)(l:Λ α)(h:∀j x,l[j]?=some x->L0 f l x j=true):l.Pairwise λa b=>f a<f b:=by(have step:∀j x y,l[j]?=some x->l[j+1]?=some y->f x<f y:=by intro j x y r s;have:=h (j+1) y s;unfold L0 at this;rw[Nat.add_sub_cancel,r]at this;simpa using this);(have c:∀d j x y,l[j]?=some x->l[j+d+1]?=some y->f x<f y:=by intro d;induction d with|zero=>exactλj x y o e=>step j x y o e|succ d ih=>intro j x y o e;have g:l[j+d+1]?=some (l[j+d+1]'(by have:=Dq e;omega)):=Bi _;have H:=ih j x _ o g;have I:=step _ _ _ g e;omega);rw[pairwise_iff_getElem];intro i j w E k;obtain⟨d,G⟩:∃d,j=i+d+1:=⟨j-i-1,ω⟩;subst G;exact c d i _ _ (Bi w) (Bi E)
theorem Bd6(b2:Aw)(H:Kz Δ Ξ Θ)(z:Ed Δ Ξ Θ b1)(m:A4)(l:MSz m)(hp:Nv Δ Ξ Θ m=true):∃p:Int×List (Β×Int),Qd m b1 b2 Δ Ξ Θ.G Θ.U Θ.R=some p/\(p.1=Bo Δ Ξ Θ m.F+Co m.A\/(6<p.1/\6<Bo Δ Ξ Θ m.F+Co m.A))/\Ed Δ Ξ Θ p.2:=by have T:=l.nf;have U:=l.na;unfold Nv at hp;rw[Ec,Jq,Jq]at hp;unfold Qd;refine Ft (λ(d,u,g)=>∃j:Nat,u=j/\j<=m.F.length/\Ed Δ Ξ Θ g/\0<=d/\d<=12/\(d=Bo Δ Ξ Θ (m.F.take j)\/(6<d/\6<Bo Δ Ξ Θ (m.F.take j)))) (λ(_,u,_)=>m.F.length-u.toNat) (λ(d,g)=>Ed Δ Ξ Θ g/\0<=d/\d<=12/\(d=Bo Δ Ξ Θ m.F\/(6<d/\6<Bo Δ Ξ Θ m.F))) ⟨0,rfl,ω,z,ω,ω,.inl (by simp[Bo])⟩ ?_ ?_;rintro⟨d,u,g⟩ ⟨j,rfl,I,q,E,o,k⟩;rcases Cj j m.F.length with h|h;have e:m.F[j]?=some m.F[j]:=Bi h;generalize m.F[j]=f at e;have c:=Bm e;have r:=hp.1 f c;rw[Es]at r;have A:=(Aio Δ Ξ Θ f).2;have w:Bo Δ Ξ Θ (m.F.take (j+1))=Bo Δ Ξ Θ (m.F.take j)+Dt Δ Ξ Θ f:=Anv _ e;simp only[An (ω:(j:Int)<(m.F.length:Int)),Ak,Bq rfl e,Ac,Dl h ω];by_cases s:d<=6;(have x:(E5 Ξ Θ f.v).isSome=true:=by unfold Dt at r;cases J:E5 Ξ Θ f.v with|none=>rw[J]at r;have r:(0:Int)<=-1:=r;omega|some t=>rfl);obtain⟨B,d1,d2⟩:=Adq b2 H q f (l.fr f c).2 (l.fr f c).1 (l.fi f c) x;rw[An s];simp only[Ak,d1,Ac];have b:Aa (d+Dt Δ Ξ Θ f)=d+Dt Δ Ξ Θ f:=ξ;exact .inl ⟨_,rfl,⟨j+1,rfl,ω,d2,by simp only[b];omega,by simp only[b];omega,by simp only[b,w];omega⟩,ζ⟩;rw[Au s];exact .inl ⟨_,rfl,⟨j+1,rfl,ω,q,E,o,by simp only[w];omega⟩,ζ⟩;have:j=m.F.length:=ω;subst this;rw[Dh]at k;exact .inr ⟨(d,g),ψ,q,E,o,k⟩;rintro⟨d,g⟩ ⟨q,E,o,k⟩;simp only;refine Ft (λ(v,i)=>∃j:Nat,i=j/\j<=m.A.length/\0<=v/\v<=13/\(v=Bo Δ Ξ Θ m.F+Co (m.A.take j)\/(6<v/\6<Bo Δ Ξ Θ m.F+Co (m.A.take j)))) (λ(_,i)=>m.A.length-i.toNat) (λv=>(v=Bo Δ Ξ Θ m.F+Co m.A\/(6<v/\6<Bo Δ Ξ Θ m.F+Co m.A))) ⟨0,rfl,ω,E,ω,by simpa[Co]using k⟩ ?_ ?_;rintro⟨v,i⟩ ⟨j,rfl,I,Q,G,gv⟩;rcases Cj j m.A.length with h|h;have e:m.A[j]?=some m.A[j]:=Bi h;generalize m.A[j]=a at e;have r:=hp.2 a (Bm e);rw[Ec,Es]at r;have w:=Anw e;simp only[An (ω:(j:Int)<(m.A.length:Int)),Ak,Bq rfl e,Ac,Dl h ω];by_cases s:v<=6;rw[An s];simp only[Ak];by_cases y:7<a.P;rw[Av y];have b:Aa (v+7)=v+7:=ξ;exact .inl ⟨_,rfl,⟨j+1,rfl,ω,by simp only[b];omega,by simp only[b];omega,by simp only[b,w];omega⟩,ζ⟩;rw[As y];have b:Aa (v+a.P)=v+a.P:=ξ;exact .inl ⟨_,rfl,⟨j+1,rfl,ω,by simp only[b];omega,by simp only[b];omega,by simp only[b,w];omega⟩,ζ⟩;rw[Au s];exact .inl ⟨_,rfl,⟨j+1,rfl,ω,Q,G,by simp only[w];omega⟩,ζ⟩;have:j=m.A.length:=ω;subst this;rw[Dh]at gv;exact .inr ⟨v,ψ,gv⟩;intro v k;exact⟨(v,g),rfl,k,q⟩
def D2(x:Bh)(m:A4):Int:=Bo x.D x.V x.E m.F+Co m.A
structure Aah(x:Bh)(m:A4):Prop where
 fac:∀f∈m.F,1<=Dt x.D x.V x.E f
 asc:m.F.Pairwise λa b=>a.v<b.v
 atm:∀a∈m.A,1<=a.P/\Ii a.L=true/\a.L.T.length≠0/\J2 x.V x.E a.L=true
 srt:m.A.Pairwise λa b=>Eh a.L b.L<0
 deg:D2 x m<=6
theorem Fm.f{m:A4}(h:Fm x m):Aah x m:=by have hc:=h.1;unfold Ji at hc;rw[Ec,Ec,Es]at hc;obtain⟨⟨h1,h2⟩,h3⟩:=hc;(have o:∀j f,m.F[j]?=some f->1<=Dt x.D x.V x.E f/\L0 (·.v) m.F f j=true:=λj f e=>by have:=Kj h1 e;unfold M9 at this;rw[Ec,Es]at this;exact this);(have r:∀j a,m.A[j]?=some a->(1<=a.P/\Ii a.L=true/\a.L.T.length≠0/\J2 x.V x.E a.L=true)/\Qx m.A a j=true:=λj a e=>by have:=Kj h2 e;unfold Lh at this;simp only[Ec,Es,Bool.not_eq_true',beq_eq_false_iff_ne,ne_eq]at this;exact⟨⟨this.1.1.1.1,this.1.1.1.2,this.1.1.2,this.1.2⟩,this.2⟩);refine⟨λf hf=>?_,Bd5 _ _ λj f e=>(o j f e).2,λa ha=>?_,?_,h3⟩;obtain⟨j,e⟩:=Gl hf;exact(o j f e).1;obtain⟨j,e⟩:=Gl ha;exact(r j a e).1;have step:∀j x y,m.A[j]?=some x->m.A[j+1]?=some y->Eh x.L y.L<0:=(by intro j x y hx hy;have:=(r (j+1) y hy).2;unfold Qx at this;rw[Nat.add_sub_cancel,hx]at this;simpa using this);have b:∀d j x y,m.A[j]?=some x->m.A[j+d+1]?=some y->Eh x.L y.L<0:=(by intro d;induction d with|zero=>exactλj x y h1 h2=>step j x y h1 h2|succ d ih=>intro j x y h1 h2;have c:m.A[j+d+1]?=some (m.A[j+d+1]'(by have:=Dq h2;omega)):=Bi _;exact Z9.trs _ _ _ (ih j x _ h1 c) (step _ _ _ c h2));rw[pairwise_iff_getElem];intro i j hi e g;obtain⟨d,hd⟩:∃d,j=i+d+1:=⟨j-i-1,ω⟩;subst hd;exact b d i _ _ (Bi hi) (Bi e)
theorem Aah.fsum0{m:A4}(h:Aah x m):0<=Bo x.D x.V x.E m.F:=by(have d:∀l:Ba,(∀f∈l,1<=Dt x.D x.V x.E f)->0<=Bo x.D x.V x.E l:=λl=>by induction l with|nil=>intro _;simp[Bo]|cons f l ih=>intro b;have h1:=b f ψ;have h2:=ih λg e=>b g (by simp[e]);unfold Bo at *;simp only[map_cons,sum_cons];omega);exact d _ h.fac
theorem Aai{l:A7}(h:∀a∈l,1<=a.P):Co l=(Cq l:Nat)/\l.length<=Cq l:=by induction l with|nil=>exact⟨rfl,Nat.le_refl _⟩|cons a l ih=>obtain⟨e,c⟩:=ih λb d=>h b (by simp[d]);have f:=h a ψ;unfold Co at *;simp only[map_cons,sum_cons,Cq,Eo];omega
theorem Aah.as{m:A4}(h:Aah x m):Co m.A=(Cq m.A:Nat)/\m.A.length<=Cq m.A:=Aai λa ha=>(h.atm a ha).1
theorem Bd7{m:A4}(h:Aah x m):Nv x.D x.V x.E m=true:=by unfold Nv;rw[Ec,Jq,Jq];refine⟨λf d=>decide_eq_true (by have:=h.fac f d;omega),λa e=>?_⟩;obtain⟨i,_,_,b⟩:=h.atm a e;rw[b,An ω];rfl
theorem Bd8(b2:Aw)(j:Kz x.D x.V x.E)(c:Ed x.D x.V x.E b1){m:A4}(h:Fm x m):∃b,Qd m b1 b2 x.D x.V x.E.G x.E.U x.E.R=some (D2 x m,b)/\Ed x.D x.V x.E b:=by obtain⟨⟨d,b⟩,o,r,i⟩:=Bd6 b2 j c m h.2 (Bd7 h.f);have:=h.f.deg;unfold D2 at *;dsimp only at r i;have e:d=Bo x.D x.V x.E m.F+Co m.A:=ω;subst e;exact⟨b,o,i⟩
theorem Aps{m:A4}(h:Fm x m):0<=D2 x m:=by have d:=h.f.fsum0;have e:=h.f.as;unfold D2;omega
theorem Azk(b2:Aw)(U:Kz x.D x.V x.E)(k:Ed x.D x.V x.E b1)(q:Ap)(E:q.length<=1000000)(h:∀u∈q,Fm x u.M):∃G b,Ye q b1 b2 x.D x.V x.E.G x.E.U x.E.R=some (G,b)/\Ed x.D x.V x.E b/\0<=G/\G<=6/\(∀u∈q,D2 x u.M<=G)/\(G=0\/∃u∈q,D2 x u.M=G):=by unfold Ye;obtain⟨e,D,G,b,rfl,B⟩:=Kf (step:=(λ(I,J,l)=>bif J<(q.length:Int)then((Ag q J).bind λy=>(Qd y.M l b2 x.D x.V x.E.G x.E.U x.E.R).bind λQ=>some (.inl ((if Q.1>I then Q.1 else I),Aa (J+1),Q.2)))else(some (.inr (I,l))):Int×Int×List (Β×Int)->Ο ((Int×Int×List (Β×Int))⊕(Int×List (Β×Int))))) (λs=>∃(j:Nat)(G:Int)(b:At),s=(G,(j:Int),b)/\j<=q.length/\Ed x.D x.V x.E b/\0<=G/\G<=6/\(∀u∈q.take j,D2 x u.M<=G)/\(G=0\/∃u∈q,D2 x u.M=G)) (λs=>q.length-s.2.1.toNat) (λe=>∃G b,e=(G,b)/\Ed x.D x.V x.E b/\0<=G/\G<=6/\(∀u∈q,D2 x u.M<=G)/\(G=0\/∃u∈q,D2 x u.M=G)) (by rintro _ ⟨j,G,b,rfl,hj,k,V,A,g,o⟩;dsimp only;rcases Cj j q.length with T|T;left;have r:q[j]?=some q[j]:=Bi T;generalize q[j]=u at r;have i:=Bm r;have H:=h u i;obtain⟨c,X,c2⟩:=Bd8 b2 U k H;have z:=H.f.deg;refine⟨(if D2 x u.M>G then D2 x u.M else G,((j+1:Nat):Int),c),?_,⟨j+1,_,c,rfl,ω,c2,by split<;>omega,by split<;>omega,λw d=>?_,by split;exact .inr ⟨u,i,rfl⟩;exact o⟩,ζ⟩;rw[An ω,Ak,Bq rfl r,Ac,X,Ac,Dl T ω];rw[Cs r]at d;rcases Ea.1 d with d|d;have:=g w d;split<;>omega;rw[Fh]at d;subst d;split<;>omega;right;have:j=q.length:=ω;subst this;rw[Dh]at g;exact⟨(G,b),by rw[Au ω,Al],G,b,rfl,k,V,A,g,o⟩) (0,0,b1) ⟨0,0,b1,rfl,ω,k,ω,ω,λu H=>by simp at H,.inl rfl⟩;exact⟨G,b,Ff D rfl,B⟩
def Fa(v:Bp->Nat):A7->Nat
 |[]=>1
 |a::l=>bc (v a.L) a.P.toNat*Fa v l
theorem U3(v:Bp->Nat)(l m:A7):Fa v (l++m)=Fa v l*Fa v m:=by induction l with|nil=>simp[Fa]|cons a l ih=>simp only[Fd,Fa,ih,Nat.mul_assoc]
theorem Azl(v:Bp->Nat){l m:A7}(h:l.Perm m):Fa v l=Fa v m:=by induction h with|nil=>rfl|cons a _ ih=>simp only[Fa,ih]|swap a b l=>simp only[Fa];rw[<-Nat.mul_assoc,<-Nat.mul_assoc,Nat.mul_comm (bc (v b.L) _)]|trans _ _ d e=>exact d.trans e
theorem Apt{v:Bp->Nat}{l:Bp}:∀{g:A7},(∀a∈g,a.L=l)->Fa v g=prb (v l) g
 |[],_=>rfl
 |a::g,h=>by simp only[Fa,prb];rw[h a ψ,Apt λb d=>h b (by simp[d])]
def Ke(v:Bp->Nat):Λ Ent->Nat
 |[]=>0
 |b::bs=>b.2*Fa v b.1+Ke v bs
theorem Bd9(v:Bp->Nat)(B C:Λ Ent):Ke v (B++C)=Ke v B+Ke v C:=by induction B with|nil=>simp[Ke]|cons b B ih=>simp only[Fd,Ke,ih,Nat.add_assoc]
theorem Bea(v:Bp->Nat)(l:Bp)(k c:Nat)(B:Λ Ent):Ke v (B.map λb=>(b.1++atO l k,b.2*c))=Ke v B*(c*bc (v l) k):=by(have d:Fa v (atO l k)=bc (v l) k:=by unfold atO;by_cases h:k=0;subst h;rw[Av rfl,Kn];rfl;rw[As h];simp[Fa]);induction B with|nil=>simp[Ke]|cons b B ih=>simp only[map_cons,Ke,ih,U3,d];rw[Nat.add_mul];congr 1;rw[Nat.mul_assoc,Nat.mul_assoc,<-Nat.mul_assoc c,Nat.mul_comm c,Nat.mul_assoc]
theorem Azm(v:Bp->Nat)(B:Λ Ent)(l:Bp)(f:Nat->Nat):∀n,Ke v (Jk B l f n)=Ke v B*sm n λk=>f k*bc (v l) k
 |0=>by simp[Jk,Ke,sm]
 |n+1=>by rw[Aye,Bd9,Azm v B l f n];show _=Ke v B*(sm n (λk=>f k*bc (v l) k)+f n*bc (v l) n);rw[Nat.mul_add];congr 1;by_cases h:f n=0;rw[Av h,h];simp[Ke];rw[As h,Bea]
def L7(v:Bp->Nat):Prop:=∀l:Bp,l.T.length=0->v l=l.Q.toNat
theorem Gs.val(c:L7 v):∀{b:Λ Grp}{A:A7},Gs b A->∀B,Ke v (Oo B b)=Ke v B*Fa v A:=by intro b A h;induction h with|nil=>intro B;simp[Oo,Fa]|@cons l N f g rest b i d e j k ih=>intro B;show Ke v (Oo (Jk B l f (N+1)) b)=_;rw[ih,Azm,U3,Apt d,<-Nat.mul_assoc];congr 2;(rcases j with⟨_,_,_,h3⟩|⟨h1,h2,h3⟩);exact h3 (v l);subst h2;rw[c l h1];simp[sm,Kn,h3]
theorem IsE.val(f:L7 v)(h:IsE A B):Ke v B=Fa v A:=by obtain⟨gs,i,c,g,b,rfl⟩:=h;rw[b.val f,<-Azl v c];simp[Ke,Fa]
def eW(c:Rat)(B:Λ Ent):Cy:=B.map λb=>(c*(b.2:Rat),⟨[],b.1⟩)
theorem Azn{m:A4}(b:Fm x m){L:A7}(h:Xn x.V x.E L)(c:Bo x.D x.V x.E m.F+Co L<=6):Fm x ⟨m.F,L⟩:=by have j:=b.f.fsum0;obtain⟨d,i⟩:=Bd2 h ω;have e:=b.1;unfold Ji at e d;rw[Ec,Ec]at e d;refine⟨?_,⟨b.2.nf,i.na,b.2.fi,b.2.fr,i.al⟩⟩;unfold Ji;rw[Ec,Ec];exact⟨⟨e.1.1,d.1.2⟩,decide_eq_true c⟩
noncomputable def Aj2(x:Bh)(t:Aj)(q:Ap):(Int×List (Β×Int)×List (Β×List Aq)×List (Β×Int)×List Aj)->Ο ((Int×List (Β×Int)×List (Β×List Aq)×List (Β×Int)×List Aj)⊕((List Aj×Int)⊕(Int×List (Β×Int)×List (Β×List Aq)×List (Β×Int)×List Aj))):=λ(c,j,i,h,g)=>bif c<(q.length:Int)then((Ag q c).bind λf=>(H5 t.C f.C).bind λe=>(S8 t.M f.M).bind λk=>(S7 e k j i x.D x.V x.E.G x.E.U x.E.R).bind λb=>bif(b.2.1 != (0:Int))then(some (.inr (.inl ([],b.2.1))))else((Vq b.1 h g).bind λd=>some (.inl (Aa (c+1),b.2.2.1,b.2.2.2,d.1,d.2))))else(some (.inr (.inr (c,j,i,h,g))))
def ls(g:Int->Int):Cr->Int
 |[]=>0
 |t::l=>t.C*g t.v+ls g l
structure PX(x:Bh)(n k:Nat)(R:List Aj):Prop where
 cp:CP R
 mo:∀t∈R,Fm x t.M
 rb:∀t∈R,RB k t.C
 len:R.length<=n
theorem PX.can(h:PX x n k R)(hn:n<=1000)(hk:k<=1048576):Kd x R:=Kd.of h.cp h.mo (λt d=>(h.rb t d).mono hk) (Nat.le_trans h.len hn)
theorem PX.up{b c:Nat}(h:PX x n k R)(hn:n<=b)(hk:k<=c):PX x b c R:=⟨h.cp,h.mo,λt d=>(h.rb t d).mono hk,Nat.le_trans h.len hn⟩
theorem Beb:P8 (λa b:Bd=>a.v-b.v):=⟨λ_ h=>ω,λ_ _ _ d e=>ω,λ_ _ _ d e i=>ω⟩
theorem Bec(c:∀f∈F,-1<=f.v/\f.v<=1000000000)(g:F.length<20):∃R,Abl F=some R/\R.Perm F/\R.Pairwise (λa b=>a.v<=b.v):=by obtain⟨R,i,d,j⟩:=Ayc (cmp:=Yk) Beb F (λx o y r=>by have:=c x o;have:=c y r;unfold Yk;have w:Aa (x.v-y.v)=x.v-y.v:=ξ;rw[w]) g;refine⟨R,?_,d,j.imp λ{a b} h=>ω⟩;unfold Abl;have e:Agh (F.length:Int) F=Ajk Yk (F.length:Int) F:=rfl;rw[e,i,Ac,On d.length_eq.symm];rfl
theorem Apu(h:l.Perm m):Bo Δ Ξ Θ l=Bo Δ Ξ Θ m:=by induction h with|nil=>rfl|cons a _ ih=>simp only[Bo,map_cons,sum_cons]at ih⊢;omega|swap a b l=>simp only[Bo,map_cons,sum_cons];omega|trans _ _ d e=>exact d.trans e
theorem Azo{l m:Ca}(h:l.Perm m):l.sum=m.sum:=by induction h with|nil=>rfl|cons a _ ih=>simp only[sum_cons,ih]|swap a b l=>simp only[sum_cons];omega|trans _ _ d e=>exact d.trans e
theorem Ox.perm(hp:l.Perm m)(h:Ox Δ Ξ Θ m):Ox Δ Ξ Θ l:=by refine⟨λf hf=>h.fac f (hp.mem_iff.1 hf),?_,by rw[Apu hp];exact h.sum⟩;rw[Azo (hp.map λf=>Br f.I)];exact h.siz
structure Xo(Δ:List Ao)(Ξ:List Ah)(Θ:Ah)(c:Rat)(F:List Bd)(A:List Bf)(K:Nat)(out:List Aj):Prop where
 ex:∃Fs FE S gs,Fs.Perm F/\So Δ Ξ Θ Fs FE/\S.Perm A/\Aeg S/\Gs gs S/\Gb K out (Sn (FE.map (Lq c)) gs)
 len:out.length<=10^(Bo Δ Ξ Θ F).toNat*2^Cq A
theorem Bed(hz:DSz Δ)(hv:Ih Δ)(hx:Kz Δ Ξ Θ)(M:∀v t,E5 Ξ Θ v=some t->Hm Δ t=true){c:Ay}(w:RB K c)(hK:K<20000000000)(h0:rq c≠0)(E:Ox Δ Ξ Θ F)(B:Atk A)(hs:Bo Δ Ξ Θ F+(Cq A:Nat)<=6){b2:Aw}(m1:Ed Δ Ξ Θ b1)(m2:PMg Δ Ξ Θ b2):∃out e q k,S7 c ⟨F,A⟩ b1 b2 Δ Ξ Θ.G Θ.U Θ.R=some (out,e,q,k)/\Ed Δ Ξ Θ q/\PMg Δ Ξ Θ k/\((e=9/\out=[]/\Sp F)\/(e=0/\Xo Δ Ξ Θ (rq c) F A (K+3636) out)):=by have a7:=L6 (Δ:=Δ) (Ξ:=Ξ) (Θ:=Θ) (l:=F) λf o=>(E.fac f o).2.2;have a6:=E.sum;(have hT:∀b∈A,b.L.T.length<1099511627776:=λb H=>by have:=(Ajn (B.lin b H)).1;omega);have U:=B.len;have R:=B.sum;obtain⟨S,s1,j,Y⟩:=Bbw A hT ω;have g:Atk S:=⟨λa Q=>B.deg a (j.mem_iff.1 Q),λa Q=>B.lin a (j.mem_iff.1 Q),by rw[Ao5 j];exact R,by rw[j.length_eq];exact U⟩;obtain⟨G,f1,f2,f3⟩:=Bec (F:=F) (λf o=>by obtain⟨t,d,r,_⟩:=U2 (E.fac f o).2.2;have:=Avy Ξ Θ f.v;rw[r]at this;have:=of_decide_eq_true this.symm;have:=hx.nv;omega) ω;have x:=E.perm f2;(have s:Qz (rq c)≠0:=by unfold Qz;split;decide;split;decide;rename_i r T;exact(h0 (by grind)).elim);(have N:Abm A=some ([],A):=by unfold Abm Rj;rw[Dj ζ];rfl);(have h:Abk F=some ([],F):=by unfold Abk Rj;rw[Dj ζ];rfl);have i:=f2.length_eq;obtain⟨z,X,z2⟩:=Bdz hz hv hx M (c:=rq c) G.length G [] [⟨c,⟨[],[]⟩⟩] [([],1)] K b1 b2 (Nat.le_refl _) f3 (λf o=>by cases o) x (.cons rfl (by show rq c=rq c*((1:Nat):Rat);grind) w (by simp[Lq]) .nil) (So.nil _ _ _) (λp hp=>by simp only[Fh]at hp;subst hp;simp) ω m1 m2;(rcases z2 with⟨q,k,wt,rfl,L,J⟩|⟨ts,V,q,k,rfl,L,J,Z,I⟩);refine⟨[],9,q,k,?_,L,J,.inl ⟨rfl,rfl,wt.perm f2⟩⟩;unfold S7;rw[(W9 w ω).1,Ac,Cx s,Al,h,Ac];dsimp only;rw[f1,Ac,On i.symm,Ac];exact Ff X rfl;rw[nil_append]at I;have u:=I.len;rw[Apu f2]at u;have a1:0<=Bo Δ Ξ Θ F:=ω;have y:(V.map (Lq (rq c))).length*2^Cq S<=10^(Bo Δ Ξ Θ F).toNat*2^Cq A:=(by rw[C3,Ao5 j];exact Nat.mul_le_mul_right _ u);have D:10^(Bo Δ Ξ Θ F).toNat*2^Cq A<=1000000:=(by have r:2^Cq A<=10^Cq A:=Nat.pow_le_pow_left δ _;have T:=Nat.mul_le_mul_left (10^(Bo Δ Ξ Θ F).toNat) r;rw[<-Nat.pow_add]at T;exact Nat.le_trans T (Aj1 ω));obtain⟨gs,out,g1,g2,g3,g4⟩:=Bdr S.length S ts (V.map (Lq (rq c))) (K+202*G.length) 0 (Nat.le_refl _) Y g Z (λb H=>by obtain⟨p,_,rfl⟩:=mem_map.1 H;simp[Lq]) (by have:=g.len;omega) (by have:=g.len;omega) (Nat.le_trans y D);refine⟨out,0,q,k,?_,L,J,.inr ⟨rfl,⟨G,V,S,gs,f2,I,j,Y,g2,g3.mono (by have:=g.len;omega)⟩,Nat.le_trans g4 y⟩⟩;unfold S7;rw[(W9 w ω).1,Ac,Cx s,Al,h,Ac];dsimp only;rw[f1,Ac,On i.symm,Ac];refine Ff X ?_;dsimp only;rw[N,Ac];dsimp only;rw[s1,Ac,On j.length_eq.symm,Ac];exact Ff g1 rfl
def Jl(χ:Bd->Nat)(v:Bp->Nat):Λ H4->Nat
 |[]=>0
 |b::bs=>Ey (b.1.1.map χ)*(b.2.2*Fa v b.2.1)+Jl χ v bs
theorem Bee(χ:Bd->Nat)(v:Bp->Nat)(B C:Λ H4):Jl χ v (B++C)=Jl χ v B+Jl χ v C:=by induction B with|nil=>simp[Jl]|cons b B ih=>simp only[Fd,Jl,ih,Nat.add_assoc]
theorem Bef(χ:Bd->Nat)(v:Bp->Nat)(l:Bp)(k c:Nat)(B:Λ H4):Jl χ v (B.map (U1 l k c))=Jl χ v B*(c*bc (v l) k):=by(have d:Fa v (atO l k)=bc (v l) k:=by unfold atO;by_cases h:k=0;subst h;rw[Av rfl,Kn];rfl;rw[As h];simp[Fa]);induction B with|nil=>simp[Jl]|cons b B ih=>simp only[map_cons,Jl,ih,U1,U3,d];rw[Nat.add_mul];congr 1;ac_rfl
theorem Azp(χ:Bd->Nat)(v:Bp->Nat)(B:Λ H4)(l:Bp)(f:Nat->Nat):∀n,Jl χ v (Lp B l f n)=Jl χ v B*sm n λk=>f k*bc (v l) k
 |0=>by simp[Lp,Jl,sm]
 |n+1=>by rw[Ajz,Bee,Azp χ v B l f n];show _=Jl χ v B*(sm n (λk=>f k*bc (v l) k)+f n*bc (v l) n);rw[Nat.mul_add];congr 1;by_cases h:f n=0;rw[Av h,h];simp[Jl];rw[As h,Bef]
theorem Gs.valG(c:L7 v):∀{b:Λ Grp}{A:A7},Gs b A->∀B,Jl χ v (Sn B b)=Jl χ v B*Fa v A:=by intro b A h;induction h with|nil=>intro B;simp[Sn,Fa]|@cons l N f g rest b i d e j k ih=>intro B;show Jl χ v (Sn (Lp B l f (N+1)) b)=_;rw[ih,Azp,U3,Apt d,<-Nat.mul_assoc];congr 2;(rcases j with⟨_,_,_,h3⟩|⟨h1,h2,h3⟩);exact h3 (v l);subst h2;rw[c l h1];simp[sm,Kn,h3]
theorem Azq(χ:Bd->Nat)(v:Bp->Nat)(c:Rat):∀b:Λ Ow,Jl χ v (b.map (Lq c))=pv (λF=>Ey (F.map χ)) b
 |[]=>rfl
 |p::b=>by rw[map_cons,Jl,Azq χ v c b,pv];show Ey (p.1.map χ)*(p.2*1)+_=_;rw[Nat.mul_one,Nat.mul_comm]
def Ch(χ:Bd->Nat)(v:Bp->Nat):Ap->Rat
 |[]=>0
 |t::p=>rq t.C*((Ey (t.M.F.map χ)*Fa v t.M.A:Nat):Rat)+Ch χ v p
theorem Xp(χ:Bd->Nat)(v:Bp->Nat):∀p q:Ap,Ch χ v (p++q)=Ch χ v p+Ch χ v q
 |[],q=>by simp only[nil_append,Ch];grind
 |t::p,q=>by simp only[Fd,Ch,Xp χ v p q];grind
theorem Gb.polX{c:Rat}{ts:Ap}{bs:Λ H4}(h:Gb K ts bs)(hc:∀b∈bs,b.1.2=c):Go.Ab.Ch χ v ts=c*(Jl χ v bs:Rat):=by induction h with|nil=>simp only[Go.Ab.Ch,Jl];grind|@cons t b ts bs e i j o _ ih=>have hb:=hc b ψ;simp only[Go.Ab.Ch,Jl,ih λd hd=>hc d (by simp[hd]),e,i,hb,Rat.natCast_add,Rat.natCast_mul];grind
theorem Beg{l m:Ca}(h:l.Perm m):Ey l=Ey m:=by induction h with|nil=>rfl|cons a _ ih=>simp only[Ey,ih]|swap a b l=>simp only[Ey];ac_rfl|trans _ _ d e=>exact d.trans e
theorem Xo.val{c:Rat}{f:Ap}(h:Xo Δ Ξ Θ c F A K f)(i:Kp Δ Ξ Θ χ F)(j:L7 v):Ch χ v f=c*((Ey (F.map χ)*Fa v A:Nat):Rat):=by obtain⟨u,x,S,gs,h1,h2,h3,q,l,k⟩:=h.ex;rw[k.polX (c:=c) λb hb=>by obtain⟨s,b1,d,_⟩:=App gs hb;obtain⟨p,_,rfl⟩:=mem_map.1 b1;rw[d];rfl];rw[l.valG j,Azq,h2.val χ λg e=>i g (h1.mem_iff.1 e),Azl v h3,Beg (h1.map χ)]
theorem Beh{l:Bp}{f:Nat->Nat}{b:Ent}(hb:b∈Jk B l f n):∃c∈B,∀a∈b.1,a∈c.1\/a.L=l:=by unfold Jk at hb;rw[mem_flatMap]at hb;obtain⟨k,_,h⟩:=hb;split at h;cases h;obtain⟨d,i,rfl⟩:=mem_map.1 h;refine⟨d,i,λa e=>?_⟩;rcases Ea.1 e with e|e;exact .inl e;unfold atO at e;split at e;cases e;simp only[Fh]at e;right;rw[e]
theorem Bei{j:Λ Grp}(h:Gs j A):∀(B:Λ Ent)(b:Ent),b∈Oo B j->∃q∈B,∀a∈b.1,a∈q.1\/∃c∈A,a.L=c.L:=by induction h with|nil=>intro B b d;exact⟨b,d,λa e=>.inl e⟩|@cons l N f g o j k w I s u ih=>intro B b d;obtain⟨b1,y,E⟩:=ih _ b (show b∈Oo (Jk B l f (N+1)) j from d);obtain⟨q,d1,d2⟩:=Beh y;obtain⟨r,i⟩:∃a,a∈g:=(by cases g with|nil=>exact(k rfl).elim|cons a _=>exact⟨a,ψ⟩);refine⟨q,d1,λa e=>?_⟩;rcases E a e with h|⟨c,G,H⟩;rcases d2 a h with h|h;exact .inl h;exact .inr ⟨r,by simp[i],by rw[h,w r i]⟩;exact .inr ⟨c,by simp[G],H⟩
theorem Xo.mono{c:Rat}{i:Ap}(h:Xo Δ Ξ Θ c F A K i)(B:∀a∈A,Ii a.L=true/\J2 Ξ Θ a.L=true):∀t∈i,RB K t.C/\(∃n:Nat,rq t.C=c*(n:Rat))/\(∀f∈t.M.F,Fj f.v/\iR f.I/\Br f.I<=(F.map λf=>Br f.I).sum/\1<=Dt Δ Ξ Θ f)/\t.M.F.Pairwise (λa b=>a.v<b.v)/\Bo Δ Ξ Θ t.M.F<=Bo Δ Ξ Θ F/\Xn Ξ Θ t.M.A/\Co t.M.A<=(Cq A:Nat)/\(∀f∈t.M.F,∃g∈F,g.v=f.v)/\∀a∈t.M.A,∃c∈A,a.L=c.L:=by obtain⟨R,U,S,gs,h1,h2,h3,M,l,k⟩:=h.ex;intro t e;obtain⟨b,b1,o,L,J⟩:=k.mem e;obtain⟨N,c1,c2,c3⟩:=App gs b1;obtain⟨p,j,rfl⟩:=mem_map.1 c1;obtain⟨r,w⟩:=Bd1 (Ξ:=Ξ) (Θ:=Θ) l (λa ha=>B a (h3.mem_iff.1 ha)) [(Lq c p).2] 0 (λd hd=>by simp only[Fh]at hd;subst hd;exact⟨⟨Pairwise.nil,λ_ h=>by cases h⟩,by simp[Co,Lq],λ_ h=>by cases h⟩) b.2 c3;rw[Ao5 h3]at w;(have G:b.1.1=p.1:=by rw[c2];rfl);(have E:b.1.2=c:=by rw[c2];rfl);rw[o];dsimp only;rw[G];refine⟨J,⟨b.2.2,by rw[L,E]⟩,λf hf=>?_,h2.asc p j,by have:=h2.sum p j;rw[Apu h1]at this;exact this,r,ω,λf hf=>?_,λa ha=>?_⟩;obtain⟨z,y,x,u,_⟩:=h2.fac p j f hf;exact⟨z,y,by rw[<-Azo (h1.map λf=>Br f.I)];exact x,u⟩;obtain⟨_,_,_,_,g,s,q⟩:=h2.fac p j f hf;exact⟨g,h1.mem_iff.1 s,q⟩;obtain⟨d,d1,d2⟩:=Bei l _ _ c3;simp only[Fh]at d1;subst d1;rcases d2 a ha with h|⟨I,k,D⟩;cases h;exact⟨I,h3.mem_iff.1 k,D⟩
theorem Bej{c:Ay}(j:RB K a)(o:RB k c)(h:rq a=rq c*(n:Rat))(h0:rq c≠0):Bw n<=K+k+2:=by have y:=j.nv;have E:=o.dv;(have e:rq c*(n:Rat)=mkRat (sg (sv c) (nv c)*(n:Int)) (dv c):=by unfold rq;rw[show((n:Nat):Rat)=mkRat (n:Int) 1 from(Ao7 (n:Int)).symm,Rat.mkRat_mul_mkRat,Nat.mul_one]);rw[e]at h;unfold rq at h;rw[Rat.mkRat_eq_iff (G1 a) (G1 c)]at h;have b:nv c≠0:=λg=>h0 ((A9w c).2 g);have f:=congrArg Int.natAbs h;(have d:∀(s:Bool)(m:Nat),(sg s m).natAbs=m:=λs m=>by unfold sg;split<;>omega);rw[Int.natAbs_mul,Int.natAbs_mul,Int.natAbs_mul,d,d,Int.natAbs_natCast,Int.natAbs_natCast,Int.natAbs_natCast]at f;(have r:n<=nv a*dv c:=by rw[f];have d0:=Nat.pos_of_ne_zero (G1 a);have w:=Nat.pos_of_ne_zero b;have i:n<=nv c*n:=Nat.le_mul_of_pos_left _ w;exact Nat.le_trans i (Nat.le_mul_of_pos_right _ d0));have i:=Kx r;have G:=Jr (nv a) (dv c);omega
theorem Bek{x c:Ay}{j:Nat}(e:J3 x)(i:RB j a)(o:RB k c)(r:Bw n<=L)(f:1<=L)(h:rq x=rq a+rq c*(n:Rat))(y:j<10000000000)(E:k<10000000000)(b:L<10000000000):RB (j+k+L+5) x:=by obtain⟨m,G,s,H,w⟩:=Ai5 o (Ll r f) ω ω;obtain⟨d,d1,_,d3,d4,d5⟩:=Ady i s ω ω;have:x=d:=Adx e d4 (by rw[h,d5,w,Sh]);rw[this];exact d3.mono ω
def Tm(k0:Nat)(c:Ay)(N B:Nat)(t:Aj):Prop:=RB B t.C/\∃(a:Ay)(n:Nat),RB k0 a/\rq t.C=rq a+rq c*(n:Rat)/\n<=N
theorem Bel(hP:∀m,P m->CMo m){c:Ay}(hc:RB k c)(a6:rq c≠0)(l ts:Ap)(y:Col k0 P ts)(hl:∀t∈l,RB K t.C/\P t.M/\∃n:Nat,rq t.C=rq c*(n:Rat))(ac:k0<=2000000000)(hK:K<=2000000000)(hk:k<=2000000000)(ab:l.length<=1000000)(hn:ts.length<=1099511627776):∃f,Vq l (plc ts) ts=some (plc f,f)/\Col (max k0 K+k+(K+k+10)) P f/\f.length<=ts.length+l.length/\∀m,cf f m=cf ts m+cf l m:=by(have J:∀t∈l,∀n:Nat,rq t.C=rq c*(n:Rat)->n<1000000000^(K+k+2):=λt o n h=>by have T:=Bej (hl t o).1 hc h a6;exact Nat.lt_of_lt_of_le (Pp n) (Nat.pow_le_pow_right δ T));(have a7:∀N,N<=1000000*1000000000^(K+k+2)->Bw N<=K+k+3:=λN h=>by refine Ip (Nat.lt_of_le_of_lt h ?_);rw[show K+k+3=(K+k+2)+1 by omega,Nat.pow_succ];have a0:∀X:Nat,0<X->1000000*X<X*1000000000:=λX h=>ω;exact a0 (1000000000^(K+k+2)) (Nat.pow_pos (show 0<1000000000 by decide)));(have hB:∀(N:Nat)(x a:Ay),N<=1000000*1000000000^(K+k+2)->J3 x->RB (max k0 K) a->rq x=rq a+rq c*(N:Rat)->RB (max k0 K+k+(K+k+10)) x:=λN x a T h2 h3 h4=>by have h5:=Bek h2 h3 hc (a7 N T) ω h4 ω ω ω;exact h5.mono ω);unfold Vq;refine Adb (A:=List Aj) (λf=>(plc f,f)) ?_;refine Ft (λs=>∃(j:Nat)(u:Ap),s=((j:Int),plc u,u)/\j<=l.length/\Dst u/\(∀t∈u,P t.M)/\(∀t∈u,Tm (max k0 K) c (j*1000000000^(K+k+2)) (max k0 K+k+(K+k+10)) t)/\u.length<=ts.length+j/\∀m,cf u m=cf ts m+cf (l.take j) m) (λs=>l.length-s.1.toNat) (λz=>∃u,z=(plc u,u)/\Col (max k0 K+k+(K+k+10)) P u/\u.length<=ts.length+l.length/\∀m,cf u m=cf ts m+cf l m) ⟨0,ts,rfl,ω,y.dst,y.mo,λt o=>⟨(y.tb t o).mono ω,t.C,0,(y.tb t o).mono ω,by rw[show((0:Nat):Rat)=0 from rfl];grind,ω⟩,ω,λm=>by simp only[take_zero,cf];grind⟩ ?_ ?_;rintro _ ⟨j,u,rfl,hj,hu,B,M,Z,L⟩;rcases Cj j l.length with h|h;have H:l[j]?=some l[j]:=Bi h;generalize l[j]=x at H;obtain⟨Q,hm,n,I⟩:=hl x (Bm H);have aa:=J x (Bm H) n I;have ae:(j+1)*1000000000^(K+k+2)=j*1000000000^(K+k+2)+1000000000^(K+k+2):=(by rw[Nat.add_mul,Nat.one_mul]);have ad:(j+1)*1000000000^(K+k+2)<=1000000*1000000000^(K+k+2):=Nat.mul_le_mul_right _ ω;simp only[An (ω:(j:Int)<(l.length:Int)),Ak,Bq rfl H,Ac,A96 (hP _ hm),Dl h ω];left;by_cases r:∃t∈u,t.M=x.M;obtain⟨t,o,he⟩:=r;obtain⟨i,hi⟩:=Gl o;obtain⟨g1,g2⟩:=Baa hu hi;rw[he]at g1 g2;obtain⟨tb,a,Y,G,R,a8⟩:=M t o;obtain⟨E,c1,_,c3,c4,c5⟩:=Ady tb Q ω ω;have D:rq E=rq a+rq c*((Y+n:Nat):Rat):=(by rw[c5,R,I,Rat.natCast_add];grind);have a1:=hB (Y+n) E a ω c4 G D;refine⟨((j+1:Nat),plc (u.set i ⟨E,t.M⟩),u.set i ⟨E,t.M⟩),?_,⟨j+1,u.set i ⟨E,t.M⟩,rfl,ω,hu.set hi rfl,?_,?_,by rw[length_set];omega,λm=>?_⟩,ζ⟩;simp only[g1,g2,Ak,Ac,Bq rfl hi,c1,Gw rfl,A98 (u:=⟨E,t.M⟩) hi rfl];intro w d;rcases mem_or_eq_of_mem_set d with d|rfl;exact B w d;exact B t o;intro w d;rcases mem_or_eq_of_mem_set d with d|rfl;obtain⟨V,b,q,U,S,q4⟩:=M w d;exact⟨V,b,q,U,S,ω⟩;exact⟨a1,a,Y+n,G,D,ω⟩;rw[Aou (u:=⟨E,t.M⟩) hi rfl m,L m,Cs H,Sg,Pu];simp only[c5,he,cf];split<;>grind;have g:=A99 (m:=x.M) (ts:=u) λt o e=>r ⟨t,o,e⟩;refine⟨((j+1:Nat),plc (u++[x]),u++[x]),?_,⟨j+1,u++[x],rfl,ω,?_,?_,?_,ζ,λm=>?_⟩,ζ⟩;simp only[g,Al,Ac];rw[Dj ζ,Ac,Aot _ _ _ g,A97];refine pairwise_append.2 ⟨hu,pairwise_singleton _ _,λa ha b Q=>?_⟩;simp only[Fh]at Q;subst Q;exactλe=>r ⟨a,ha,e⟩;intro w d;rcases Ea.1 d with d|d;exact B w d;simp only[Fh]at d;subst d;exact hm;intro w d;rcases Ea.1 d with d|d;obtain⟨V,b,q,U,S,q4⟩:=M w d;exact⟨V,b,q,U,S,ω⟩;simp only[Fh]at d;subst d;exact⟨Q.mono ω,w.C,0,Q.mono ω,by rw[show((0:Nat):Rat)=0 from rfl];grind,ω⟩;rw[Sg,L m,Cs H,Sg];grind;have:j=l.length:=ω;subst this;rw[Dh]at L;simp only[Au (ω:¬(l.length:Int)<(l.length:Int)),Al];exact .inr ⟨_,rfl,u,rfl,⟨hu,λt o=>(M t o).1,B⟩,Z,L⟩;rintro _ ⟨u,rfl,T,h2,h3⟩;exact⟨_,rfl,u,rfl,T,h2,h3⟩
def lim(R:Ap):List Aj×Int:=if 1000<R.length then([],9)else(R,0)
theorem Apv(h:R.length<=1000):lim R=(R,0):=As ω
theorem Apw(h:1000<R.length):lim R=([],9):=Av h
theorem Bem(s:∀m,P m->CMo m)(o:At)(ts:Ap)(h:Col k P ts)(E:k<34359738000)(T:ts.length<=4000000000):∃R,S9 o ts=some (lim R)/\CP R/\(∀m,cf R m=cf ts m)/\∀t∈R,P t.M/\RB (k+1) t.C:=by have A:(ts.filter nzT).length<=ts.length:=length_filter_le _ _;(have g:∀{X:Dn},(bif(((ts.filter nzT).length:Nat):Int)>(1000:Int)then(some ([],9))else((Ro (ts.filter nzT)).bind λf=>(Hx (ts.filter nzT).length f).bind λH=>(Yn f).bind λr=>some (r,0)))=X->S9 o ts=X:=λ{X} B=>by unfold S9;refine Ff (a:=ts.filter nzT) ?_ B;rw[<-Option.bind_fun_some (Am _ _)];refine Fi ts (λj=>((j:Int),(ts.take j).filter nzT)) rfl ω ?_ ?_;intro j x U G w I J;have Q:=h.tb x (Bm G);have q:((ts.take j).filter nzT).length<=ts.length:=Nat.le_trans (length_filter_le _ _) (by rw[length_take];omega);simp only[w,I,J,Ak,Ac,(W9 Q E).1,Bap];rw[Axm G];by_cases l:rq x.C=0;have:nzT x=false:=(by simp[nzT,l]);rw[Au (by simpa using l),this];simp;have:nzT x=true:=(by simp[nzT,l]);rw[An l,this];simp only[Ak];rw[Dj ζ];simp;intro w;exact⟨ts.filter nzT,by simp only[w,Al,Dh],rfl⟩);obtain⟨S,z,c,y⟩:=Bbg (ts.filter nzT) (Pairwise.filter _ h.dst) λt d=>(s _ (h.mo t (mem_filter.1 d).1)).sz;(have b:∀t∈S,t∈ts/\rq t.C≠0:=by intro t d;have:=mem_filter.1 (c.mem_iff.1 d);exact⟨this.1,by simpa[nzT]using this.2⟩);refine⟨S.map clT,g ?_,⟨?_,?_⟩,?_,?_⟩;by_cases i:1000<(ts.filter nzT).length;rw[An ω,Ak,Apw (by rw[C3,c.length_eq];exact i)];rw[Au ω,Al,z,Ac,On c.length_eq.symm,Ac, Bal (k:=k) S E (λt d=>⟨h.tb t (b t d).1,(s _ (h.mo t (b t d).1)).sz⟩) (by rw[c.length_eq];omega),Apv (by rw[C3,c.length_eq];omega)];rfl;rw[pairwise_map];exact y;intro t d;obtain⟨u,e,rfl⟩:=mem_map.1 d;refine⟨Us _ _ _ (G1 _),?_⟩;show rq (Cd _ _ _)≠0;rw[Ur _ _ _ (G1 _)];exact(b u e).2;intro m;rw[Bam,Ban c,Bao];intro t d;obtain⟨u,e,rfl⟩:=mem_map.1 d;exact⟨h.mo u (b u e).1,Awh (h.tb u (b u e).1)⟩
def mX(χ:Bd->Nat)(v:Bp->Nat)(m:A4):Nat:=Ey (m.F.map χ)*Fa v m.A
theorem Ben(χ:Bd->Nat)(v:Bp->Nat)(p:Ap):Lm (mX χ v) (p.map wT)=Ch χ v p:=by induction p with|nil=>rfl|cons t p ih=>simp only[map_cons,Lm,Ch,ih,wT];rfl
theorem Beo(χ:Bd->Nat)(v:Bp->Nat)(p:Ap):Lm (mX χ v) (p.map nT) = - Ch χ v p:=by induction p with|nil=>show(0:Rat) = - 0;grind|cons t p ih=>simp only[map_cons,Lm,Ch,ih,nT];show-rq t.C*((Ey (t.M.F.map χ)*Fa v t.M.A:Nat):Rat)+_=_;grind
theorem Azr(h:∀m,cf q m<=cf p m):Ch χ v q<=Ch χ v p:=by have:=Bb2 (mX χ v) _ (p.map wT++q.map nT) (Nat.le_refl _) (λm=>by rw[Bb5,Bb3,Bb4];have:=h m;grind);rw[Bb6,Ben,Beo]at this;grind
theorem Aj3(h:∀m,cf q m=cf p m):Ch χ v q=Ch χ v p:=Rat.le_antisymm (Azr λm=>by rw[h m];exact Rat.le_refl) (Azr λm=>by rw[h m];exact Rat.le_refl)
theorem Azs(i:∀f∈F,Fj f.v/\iR f.I/\Br f.I<=1048576/\1<=Dt x.D x.V x.E f)(r:F.Pairwise λa b=>a.v<b.v)(G:Bo x.D x.V x.E F<=6):Fm x ⟨F,[]⟩:=by have g:=L6 (Δ:=x.D) (Ξ:=x.V) (Θ:=x.E) (l:=F) λf d=>(i f d).2.2.2;refine⟨?_,⟨by show F.length<=_;omega,ψ,λf d=>(i f d).2.2.1,λf d=>⟨(i f d).2.1,(i f d).1⟩,λa s=>by cases s⟩⟩;unfold Ji;(have h:F.zipIdx.all (λq=>M9 x.D x.V x.E F q.1 q.2)=true:=by rw[Jq];rintro⟨a,j⟩ w;have o:F[j]?=some a:=mk_mem_zipIdx_iff_getElem?.1 w;have y:=(i a (Bm o)).2.2.2;show M9 x.D x.V x.E F a j=true;unfold M9;have hp:L0 (·.v) F a j=true:=(by unfold L0;cases j with|zero=>rfl|succ j=>have g:=Dq o;have E:F[j]?=some F[j]:=Bi ω;have c:=pairwise_iff_getElem.1 r j (j+1) ω g ω;have e:F[j+1]=a:=(by have:=Bi g;rw[o]at this;exact(E6 this).symm);rw[e]at c;simp only[Nat.add_sub_cancel,E,Bool.or_eq_true];exact .inr (decide_eq_true c));rw[hp,An y];rfl);show(F.zipIdx.all (λq=>M9 x.D x.V x.E F q.1 q.2)&&([]:A7).zipIdx.all _&&decide (Bo x.D x.V x.E F+Co []<=6))=true;rw[h];have:Co []=0:=rfl;rw[this,An ω];rfl
def Jb(x:Bh)(Z:Nat)(m:A4):Prop:=Fm x m/\∀f∈m.F,Br f.I<=Z
def Oy(x:Bh)(Z:Nat)(W:Int->Prop)(m:A4):Prop:=Jb x Z m/\∀w∈Aed m,W w
theorem U4{m:A4}{w:Int}:w∈Aed m↔(∃f∈m.F,f.v=w)\/∃a∈m.A,w∈a.L.T.map (·.v):=by unfold Aed Axx;rw[Ea,mem_map,mem_flatMap]
theorem Xo.canZ{Z:Nat}{c:Rat}(h:Xo x.D x.V x.E c F A K b)(j:∀w∈Aed ⟨F,A⟩,W w)(q:∀a∈A,Ii a.L=true/\J2 x.V x.E a.L=true)(D:Bo x.D x.V x.E F+(Cq A:Nat)<=6)(l:(F.map λf=>Br f.I).sum<=Z)(k:Z<=400000):∀t∈b,RB K t.C/\Oy x Z W t.M/\∃n:Nat,rq t.C=c*(n:Rat):=by intro t d;obtain⟨h1,h2,h3,z,G,y,E,u,s⟩:=h.mono q t d;have i:=Azs (x:=x) (λf hf=>⟨(h3 f hf).1,(h3 f hf).2.1,by have:=(h3 f hf).2.2.1;omega,(h3 f hf).2.2.2⟩) z ω;have:=Azn i y (by show Bo x.D x.V x.E t.M.F+Co t.M.A<=6;omega);refine⟨h1,⟨⟨this,λf hf=>Nat.le_trans (h3 f hf).2.2.1 l⟩,λw e=>?_⟩,h2⟩;(rcases U4.1 e with⟨f,f1,f2⟩|⟨a,o,r⟩);obtain⟨g,H,I⟩:=u f f1;exact j w (U4.2 (.inl ⟨g,H,by rw[I,f2]⟩));obtain⟨B,c1,c2⟩:=s a o;exact j w (U4.2 (.inr ⟨B,c1,by rw[<-c2];exact r⟩))
structure TmZ(x:Bh)(k Z:Nat)(W:Int->Prop)(t:Aj):Prop where
 vr:∀w∈Aed t.M,W w
 mo:Jb x Z t.M
 rb:RB k t.C
 nz:rq t.C≠0
theorem Bep(d:I1 x){v:Int}(h:E5 x.V x.E v=some t):Hm x.D t=true:=by unfold E5 at h;split at h;cases h;exact d.2.2.1;exact Jq.1 d.2.2.2 t (Hb h).2.2.2
theorem Azt:∀(l:Ba)(Z:Nat),(∀f∈l,Br f.I<=Z)->(l.map λf=>Br f.I).sum<=l.length*Z
 |[],_,_=>ψ
 |f::l,Z,h=>by have e:=h f ψ;have i:=Azt l Z λg d=>h g (by simp[d]);rw[map_cons,sum_cons,Eo,Nat.add_mul];omega
def Nx(x:Bh)(χ:Bd->Nat)(p:Ap):Prop:=∀t∈p,Kp x.D x.V x.E χ t.M.F
theorem kb1{l:Nat}(h:k+l<=1000000):k+l+2+3636<=2000000000:=by omega
theorem kb2{l:Nat}(h:k+l<=1000000):k+l+2<=2000000000:=by omega
theorem Beq{G:Ba}(i:F.Pairwise λa b=>a.v<b.v)(c:G.Pairwise λa b=>a.v<b.v):¬Sp (F++G):=by(have one:∀{F:Ba}(v:Int),(F.Pairwise λa b=>a.v<b.v)->(F.filter λf=>f.v==v).length<=1:=λ{F} v h=>by induction F with|nil=>simp|cons f F ih=>have h:=pairwise_cons.1 h;by_cases e:f.v=v;(have:(F.filter λf=>f.v==v)=[]:=filter_eq_nil_iff.2 λg d=>by have:=h.1 g d;simp;omega);simp[filter_cons,e,this];simpa[filter_cons,e]using ih h.2);rintro⟨v,h⟩;have j:=one v i;have o:=one v c;rw[filter_append,Fe]at h;omega
theorem Ber(hz:CSz x)(hf:I1 x){l Z:Nat}(hk:k+l<=1000000)(hZ:Z<=33333){t:Aj}(o:TmZ x k Z W t)(hq:∀u∈q,TmZ x l Z W u)(hG:∀u∈q,D2 x t.M+D2 x u.M<=6)(ab:q.length<=1000)(ac:k+l+3638<=k0)(a6:k0+q.length*(3*(k+l)+3652)<=1000000000){ts:Ap}(I:Col k0 (Oy x (6*Z) W) ts)(aa:ts.length<=4000000000){V:At}{U:Aw}(Y:Ed x.D x.V x.E V)(X:PMg x.D x.V x.E U):∃z,Am (Aj2 x t q) (0,V,U,plc ts,ts)=some z/\(∃y i b,z=.inr ((q.length:Int),y,i,plc b,b)/\Ed x.D x.V x.E y/\PMg x.D x.V x.E i/\Col (k0+q.length*(3*(k+l)+3652)) (Oy x (6*Z) W) b/\b.length<=ts.length+q.length*1000000/\∀χ v,Kp x.D x.V x.E χ t.M.F->Nx x χ q->L7 v->Ch χ v b=Ch χ v ts+rq t.C*(mX χ v t.M:Rat)*Ch χ v q):=by have N:=hf.ctx hz;obtain⟨e,e1,e2⟩:=Kf (step:=Aj2 x t q) (λs=>∃(j:Nat)(y:At)(i:Aw)(b:Ap),s=((j:Int),y,i,plc b,b)/\j<=q.length/\Ed x.D x.V x.E y/\PMg x.D x.V x.E i/\Col (k0+j*(3*(k+l)+3652)) (Oy x (6*Z) W) b/\b.length<=ts.length+j*1000000/\∀χ v,Kp x.D x.V x.E χ t.M.F->Nx x χ q->L7 v->Ch χ v b=Ch χ v ts+rq t.C*(mX χ v t.M:Rat)*Ch χ v (q.take j)) (λs=>q.length-s.1.toNat) (λz=>∃(y:At)(i:Aw)(b:Ap),z=.inr ((q.length:Int),y,i,plc b,b)/\Ed x.D x.V x.E y/\PMg x.D x.V x.E i/\Col (k0+q.length*(3*(k+l)+3652)) (Oy x (6*Z) W) b/\b.length<=ts.length+q.length*1000000/\∀χ v,Kp x.D x.V x.E χ t.M.F->Nx x χ q->L7 v->Ch χ v b=Ch χ v ts+rq t.C*(mX χ v t.M:Rat)*Ch χ v q) (by rintro _ ⟨j,y,i,b,rfl,hj,g1,g2,g3,g4,g5⟩;unfold Aj2;dsimp only;rcases Cj j q.length with h|h;have hx:q[j]?=some q[j]:=Bi h;generalize q[j]=u at hx;have E:=Bm hx;have r:=hq u E;have M:=hG u E;obtain⟨c,c1,c2,_,c4⟩:=Ai5 o.rb r.rb ω ω;(have R:rq c≠0:=by rw[c4];intro h0;rcases Rat.mul_eq_zero.1 h0 with d|d;exact o.nz d;exact r.nz d);have D:=o.mo.1.f;have B:=r.mo.1.f;have am:=D.as;have au:=B.as;have f0:=D.fsum0;have f1:=B.fsum0;have l1:=L6 (Δ:=x.D) (Ξ:=x.V) (Θ:=x.E) (l:=t.M.F) D.fac;have l2:=L6 (Δ:=x.D) (Ξ:=x.V) (Θ:=x.E) (l:=u.M.F) B.fac;have af:Cq (t.M.A++u.M.A)=Cq t.M.A+Cq u.M.A:=Uv _ _;unfold D2 at M;have L:Bo x.D x.V x.E (t.M.F++u.M.F)+(Cq (t.M.A++u.M.A):Nat)<=6:=(by rw[L5];omega);(have A:∀a∈t.M.A++u.M.A,1<=a.P/\Ii a.L=true/\a.L.T.length≠0/\J2 x.V x.E a.L=true:=λa H=>by rcases Ea.1 H with h|h;exact D.atm a h;exact B.atm a h);have hA:Atk (t.M.A++u.M.A):=⟨λa H=>by have:=(A a H).1;omega,λa H=>(A a H).2.1,ω,by rw[Fe];omega⟩;(have J:((t.M.F++u.M.F).map λf=>Br f.I).sum<=6*Z:=by refine Nat.le_trans (Azt (t.M.F++u.M.F) Z λf hf=>?_) (Nat.mul_le_mul_right _ (by rw[Fe];omega));rcases Ea.1 hf with h|h;exact o.mo.2 f h;exact r.mo.2 f h);(have hF:Ox x.D x.V x.E (t.M.F++u.M.F):=by refine⟨λf hf=>?_,?_,by rw[L5];omega⟩;rcases Ea.1 hf with h|h;exact⟨(o.mo.1.2.fr f h).2,(o.mo.1.2.fr f h).1,D.fac f h⟩;exact⟨(r.mo.1.2.fr f h).2,(r.mo.1.2.fr f h).1,B.fac f h⟩;exact Nat.le_trans J ω);have a7:S8 t.M u.M=some ⟨t.M.F++u.M.F,t.M.A++u.M.A⟩:=Ao6 _ _ ω ω;obtain⟨out,er,d1,d2,x1,x2,x3,x4⟩:=Bed hz.ds hf.2.1 N (λv t h=>Bep hf h) (K:=k+l+2) c2 ω R hF hA L g1 g2;rw[An ω,Ak,Bq rfl hx,Ac,c1,Ac,a7,Ac,x1,Ac];dsimp only;(rcases x4 with⟨_,_,hT⟩|⟨rfl,hE⟩);exact(Beq D.asc B.asc hT).elim;left;have a8:=hE.canZ (W:=W) (λw hw=>by(rcases U4.1 hw with⟨f,f1,f2⟩|⟨a,a1,a2⟩);rcases Ea.1 f1 with f1|f1;exact o.vr w (U4.2 (.inl ⟨f,f1,f2⟩));exact r.vr w (U4.2 (.inl ⟨f,f1,f2⟩));rcases Ea.1 a1 with a1|a1;exact o.vr w (U4.2 (.inr ⟨a,a1,a2⟩));exact r.vr w (U4.2 (.inr ⟨a,a1,a2⟩))) (λa H=>⟨(A a H).2.1,(A a H).2.2.2⟩) L J ω;have S:out.length<=1000000:=(by refine Nat.le_trans hE.len ?_;have d:2^Cq (t.M.A++u.M.A)<=10^Cq (t.M.A++u.M.A):=Nat.pow_le_pow_left δ _;have Q:=Nat.mul_le_mul_left (10^(Bo x.D x.V x.E (t.M.F++u.M.F)).toNat) d;rw[<-Nat.pow_add]at Q;exact Nat.le_trans Q (Aj1 ω));have ae:j*(3*(k+l)+3652)+(3*(k+l)+3652)<=q.length*(3*(k+l)+3652):=(by rw[<-Nat.succ_mul];exact Nat.mul_le_mul_right _ h);have ad:(j+1)*(3*(k+l)+3652)=j*(3*(k+l)+3652)+(3*(k+l)+3652):=Nat.succ_mul _ _;have q1:k0+j*(3*(k+l)+3652)<=2000000000:=Nat.le_trans (Nat.add_le_add_left (Nat.mul_le_mul_right _ hj) k0) (Nat.le_trans a6 δ);have q2:k+l+2+3636<=2000000000:=kb1 hk;have q3:k+l+2<=2000000000:=kb2 hk;have q4:b.length<=1099511627776:=ω;obtain⟨T,t1,t2,t3,t4⟩:=Bel (k0:=k0+j*(3*(k+l)+3652)) (K:=k+l+2+3636) (k:=k+l+2) (P:=Oy x (6*Z) W) (λm h=>h.1.1.cmo) c2 R out b g3 (λw hw=>a8 w hw) q1 q2 q3 S q4;refine⟨(((j+1:Nat):Int),d1,d2,plc T,T),?_,⟨j+1,d1,d2,T,rfl,ω,x2,x3,⟨t2.dst,λw hw=>(t2.tb w hw).mono ω,t2.mo⟩,ω,λχ v d G Q=>?_⟩,ζ⟩;rw[Et rfl,Al,t1,Ac,Dl h ω];(have e1:Ch χ v T=Ch χ v (b++out):=Aj3 λm=>by rw[t4,Sg]);rw[e1,Xp,g5 χ v d G Q,hE.val (λg hg=>by rcases Ea.1 hg with hg|hg;exact d g hg;exact G u E g hg) Q,c4,Cs hx,Xp];show _=_+_*(_+(rq u.C*((Ey (u.M.F.map χ)*Fa v u.M.A:Nat):Rat)+0));rw[map_append,Aaf,U3];unfold mX;simp only[Rat.natCast_mul];grind;right;have:j=q.length:=ω;subst this;refine⟨_,by rw[Au ω,Al],⟨y,i,b,rfl,g1,g2,g3,g4,λχ v d G Q=>by rw[g5 χ v d G Q,Dh]⟩⟩) (0,V,U,plc ts,ts) ⟨0,V,U,ts,rfl,ω,Y,X,⟨I.dst,λw hw=>(I.tb w hw).mono ω,I.mo⟩,ω,λχ v d G Q=>by rw[take_zero];simp only[Ch];grind⟩;exact⟨e,e1,e2⟩
noncomputable def Aj4(x:Bh)(p q:Ap):(Int×List (Β×Int)×List (Β×List Aq)×List (Β×Int)×List Aj)->Ο ((Int×List (Β×Int)×List (Β×List Aq)×List (Β×Int)×List Aj)⊕((List Aj×Int)⊕(List (Β×Int)×List (Β×List Aq)×List (Β×Int)×List Aj))):=λ(c,k,j,i,b)=>
 bif c<(p.length:Int)then(
 (Ag p c).bind λf=>
 (Am (Aj2 x f q) (0,k,j,i,b)).bind λz=>
 match z with
 |.inl (h,g)=>(
 some (.inr (.inl (h,g)))
 )
 |.inr (_,y,u,s,l)=>(
 some (.inl (Aa (c+1),y,u,s,l))
 )
 )
 else(
 some (.inr (.inr (k,j,i,b)))
 )
theorem Bes(X:CSz x)(hf:I1 x){l Z:Nat}(hk:k+l<=1000000)(hZ:Z<=33333)(hp:∀t∈p,TmZ x k Z W t)(hq:∀u∈q,TmZ x l Z W u)(hG:∀t∈p,∀u∈q,D2 x t.M+D2 x u.M<=6)(a1:p.length<=1000)(I:q.length<=1000)(J:p.length*q.length<=4000)(hB:k+l+3638+p.length*(q.length*(3*(k+l)+3652))<=1000000000){B:At}{A:Aw}(M:Ed x.D x.V x.E B)(L:PMg x.D x.V x.E A):∃f c b,Am (Aj4 x p q) (0,B,A,[],[])=some (.inr (f,c,plc b,b))/\Col (k+l+3638+p.length*(q.length*(3*(k+l)+3652))) (Oy x (6*Z) W) b/\b.length<=4000000000/\∀χ v,Nx x χ p->Nx x χ q->L7 v->Ch χ v b=Ch χ v p*Ch χ v q:=by(have y:∀j,j<=p.length->j*(q.length*1000000)<=4000*1000000:=λj H=>by rw[<-Nat.mul_assoc];exact Nat.mul_le_mul_right _ (Nat.le_trans (Nat.mul_le_mul_right _ H) J));obtain⟨e,e1,f,c,b,rfl,e2,e3,e4⟩:=Kf (step:=Aj4 x p q) (λs=>∃(j:Nat)(f:At)(c:Aw)(b:Ap),s=((j:Int),f,c,plc b,b)/\j<=p.length/\Ed x.D x.V x.E f/\PMg x.D x.V x.E c/\Col (k+l+3638+j*(q.length*(3*(k+l)+3652))) (Oy x (6*Z) W) b/\b.length<=j*(q.length*1000000)/\∀χ v,Nx x χ p->Nx x χ q->L7 v->Ch χ v b=Ch χ v (p.take j)*Ch χ v q) (λs=>p.length-s.1.toNat) (λz=>∃(f:At)(c:Aw)(b:Ap),z=.inr (f,c,plc b,b)/\Col (k+l+3638+p.length*(q.length*(3*(k+l)+3652))) (Oy x (6*Z) W) b/\b.length<=p.length*(q.length*1000000)/\∀χ v,Nx x χ p->Nx x χ q->L7 v->Ch χ v b=Ch χ v p*Ch χ v q) (by rintro _ ⟨j,f,c,b,rfl,H,g1,g2,Q,g4,g5⟩;unfold Aj4;dsimp only;rcases Cj j p.length with h|h;have r:p[j]?=some p[j]:=Bi h;generalize p[j]=t at r;have g:=Bm r;have G:(j+1)*(q.length*(3*(k+l)+3652))=j*(q.length*(3*(k+l)+3652))+q.length*(3*(k+l)+3652):=Nat.succ_mul _ _;have Y:(j+1)*(q.length*1000000)=j*(q.length*1000000)+q.length*1000000:=Nat.succ_mul _ _;have E:(j+1)*(q.length*(3*(k+l)+3652))<=p.length*(q.length*(3*(k+l)+3652)):=Nat.mul_le_mul_right _ h;have b3:=y j ω;have N:k+l+3638+j*(q.length*(3*(k+l)+3652))+q.length*(3*(k+l)+3652)<=1000000000:=(by rw[Nat.add_assoc,<-G];exact Nat.le_trans (Nat.add_le_add_left E _) hB);obtain⟨z,R,d1,d2,T,rfl,V,U,D,y4,S⟩:=Ber X hf hk hZ (hp t g) hq (hG t g) I (Nat.le_add_right _ _) N Q (Nat.le_trans g4 b3) g1 g2;rw[An ω,Ak,Bq rfl r,Ac,R,Ac];left;refine⟨(((j+1:Nat):Int),d1,d2,plc T,T),?_,⟨j+1,d1,d2,T,rfl,ω,V,U,⟨D.dst,λw hw=>(D.tb w hw).mono ω,D.mo⟩,ω,λχ v d i o=>?_⟩,ζ⟩;dsimp only;rw[Dl h ω];rw[S χ v (d t g) i o,g5 χ v d i o,Cs r,Xp];show _=(_+(rq t.C*((Ey (t.M.F.map χ)*Fa v t.M.A:Nat):Rat)+0))*_;unfold mX;grind;right;have:j=p.length:=ω;subst this;refine⟨_,by rw[Au ω,Al],⟨f,c,b,rfl,Q,g4,λχ v d i o=>by rw[g5 χ v d i o,Dh]⟩⟩) (0,B,A,[],[]) ⟨0,B,A,[],rfl,ω,M,L,Col.nil _ _,ψ,λχ v d i o=>by rw[take_zero];simp only[Ch];grind⟩;refine⟨f,c,b,e1,e2,?_,e4⟩;exact Nat.le_trans e3 (y p.length (Nat.le_refl _))
def U5(x:Bh)(p q:Ap):Prop:=∃t∈p,∃u∈q,6<D2 x t.M+D2 x u.M
theorem Bet(L:CSz x)(hf:I1 x){l Z:Nat}(hk:k+l<=1000000)(hZ:Z<=33333)(hp:Kd x p)(hq:Kd x q)(i:∀t∈p,TmZ x k Z W t)(g:∀u∈q,TmZ x l Z W u)(S:p.length<=1000)(M:q.length<=1000)(N:p.length*q.length<=4000)(hB:k+l+3638+p.length*(q.length*(3*(k+l)+3652))<=1000000000) :
  (U5 x p q/\N6 x p q=some ([],13))\/(¬U5 x p q/\∃R,N6 x p q=some (lim R)/\CP R/\(∀t∈R,Oy x (6*Z) W t.M/\RB (k+l+3639+p.length*(q.length*(3*(k+l)+3652))) t.C)/\∀χ v,Nx x χ p->Nx x χ q->L7 v->Ch χ v R=Ch χ v p*Ch χ v q):=by
 have f:=hf.ctx L
 obtain⟨b',hb,j⟩:=Bbl L (ps:=[p,q]) (λr w=>by
  simp only[En,not_mem_nil,or_false]at w
  rcases w with rfl|rfl
  .exact hp.sz
  .exact hq.sz) ψ ⟨hf,λr w=>by
  simp only[En,not_mem_nil,or_false]at w
  rcases w with rfl|rfl
  .exact hp.can
  .exact hq.can⟩
 have fin:∀c:At,Ed x.D x.V x.E c->(∀t∈p,∀u∈q,D2 x t.M+D2 x u.M<=6)->∃R,((Am (Aj4 x p q) (0,c,[],[],[])).bind λz=>
 match z with
 |.inl (A,y)=>(
 some (A,y)
 )
 |.inr (a6,a1,D,B)=>(
 (S9 D B).bind λb=>
 some (b.1,b.2)
 ))=some (lim R)/\CP R/\(∀t∈R,Oy x (6*Z) W t.M/\RB (k+l+3639+p.length*(q.length*(3*(k+l)+3652))) t.C)/\∀χ v,Nx x χ p->Nx x χ q->L7 v->Ch χ v R=Ch χ v p*Ch χ v q:=by
  intro c hc J
  obtain⟨d1,d2,T,z1,y1,y2,y3⟩:=Bes L hf hk hZ i g J S M N hB hc (PMg.nil _ _ _)
  rw[z1,Ac]
  obtain⟨R,r1,r2,r3,r4⟩:=Bem (P:=Oy x (6*Z) W) (λm h=>h.1.1.cmo) (plc T) T y1 ω y2
  exact⟨R,by dsimp only;rw[r1];rfl,r2,λt d=>⟨(r4 t d).1,(r4 t d).2.mono ω⟩,λχ v H U o=>by rw[<-y3 χ v H U o];exact Aj3 r3⟩
 unfold N6
 rw[hb]
 simp only[Ac,Fc,Al,Abd]
 by_cases I:p.length=0
 .rw[Au ω]
  simp only[Al,Ac]
  have:p=[]:=F5.1 I
  exact .inr ⟨λ⟨t,d,_⟩=>(by rw[this]at d;cases d),fin b' j λt d=>by rw[this]at d;cases d⟩
 .rw[An ω]
  simp only[Ak]
  by_cases E:q.length=0
  .rw[Au ω]
   simp only[Al,Ac]
   have:q=[]:=F5.1 E
   exact .inr ⟨λ⟨_,_,u,e,_⟩=>(by rw[this]at e;cases e),fin b' j λt d u e=>by rw[this]at e;cases e⟩
  .rw[An ω]
   simp only[Ak]
   obtain⟨G,c,g1,g2,g3,g4,g5,g6⟩:=Azk [] f j p ω λt d=>(i t d).mo.1
   obtain⟨G',c',Y,X,a8,a7,s,V⟩:=Azk [] f g2 q ω λt d=>(g t d).mo.1
   have wG:Aa (G+G')=G+G':=by rw[Aa,Bz]<;>omega
   rw[g1]
   simp only[Ac]
   rw[Y]
   simp only[Ac,wG]
   by_cases J:G+G' > 6
   .rw[An J]
    have Q:∀{r:Ap}{G:Int},r.length≠0->(∀t∈r,Fm x t.M)->(∀t∈r,D2 x t.M<=G)->(G=0\/∃t∈r,D2 x t.M=G)->∃t∈r,D2 x t.M=G:=λ{r G} h0 hc H o=>by
     rcases o with rfl|o
     .cases r with
      |nil=>exact(h0 rfl).elim
      |cons t r=>
       have k1:=H t ψ
       have k2:=Aps (hc t ψ)
       exact⟨t,ψ,ω⟩
     .exact o
    obtain⟨t,d,e1⟩:=Q I (λt d=>(i t d).mo.1) g5 g6
    obtain⟨u,e,e2⟩:=Q E (λt d=>(g t d).mo.1) s V
    exact .inl ⟨⟨t,d,u,e,ω⟩,rfl⟩
   .rw[Au J]
    simp only[Al]
    refine .inr ⟨λ⟨t,d,u,e,h⟩=>?_,fin c' X λt d u e=>?_⟩
    .have H:=g5 t d
     have o:=s u e
     omega
    .have H:=g5 t d
     have o:=s u e
     omega
def J4:B3->Ca->Rat
 |c::cs,n::d=>c*(n:Rat)+J4 cs d
 |_,_=>0
def CbR(cs:B3)(N:Nat)(a:Rat):Prop:=∃d:Ca,d.length=cs.length/\d.sum<=N/\a=J4 cs d
theorem Apx:∀{cs:B3}{ns:Ca},ns.sum=0->J4 cs ns=0
 |[],_,_=>by simp only[J4]
 |_::_,[],_=>by simp only[J4]
 |c::cs,n::ns,h=>by rw[sum_cons]at h;have:n=0:=ω;subst this;rw[J4,Apx (ns:=ns) ω];grind
theorem CbR.mono{cs:B3}{a:Rat}(h:CbR cs N a)(b:N<=M):CbR cs M a:=by obtain⟨d,h1,h2,h3⟩:=h;exact⟨d,h1,ω,h3⟩
theorem CbR.zero(cs:B3)(N:Nat):CbR cs N 0:=by(have b:∀k:Nat,(replicate k 0).sum=0:=λk=>by induction k with|zero=>rfl|succ k ih=>rw[replicate_succ,sum_cons,ih]);exact⟨replicate cs.length 0,ψ,by rw[b];omega,(Apx (b _)).symm⟩
theorem CbR.add{cs:B3}{a b:Rat}(h:CbR cs N a)(h':CbR cs M b):CbR cs (N+M) (a+b):=by(have o:∀(cs:B3)(d e:Ca),d.length=cs.length->e.length=cs.length->∃f:Ca,f.length=cs.length/\f.sum=d.sum+e.sum/\J4 cs f=J4 cs d+J4 cs e:=by intro cs;induction cs with|nil=>intro d e _ _;exact⟨d++e,by simp_all,ψ,by simp only[J4];grind⟩|cons c cs ih=>intro d e h1 h2;cases d with|nil=>simp at h1|cons n d=>cases e with|nil=>simp at h2|cons m e=>obtain⟨f,i,j,g⟩:=ih d e (by simpa using h1) (by simpa using h2);refine⟨(n+m)::f,by simp[i],by simp only[sum_cons,j];omega,?_⟩;simp only[J4,g,Rat.natCast_add];grind);obtain⟨d,h1,h2,rfl⟩:=h;obtain⟨e,h3,k,rfl⟩:=h';obtain⟨f,i,j,g⟩:=o cs d e h1 h3;exact⟨f,i,ω,g.symm⟩
theorem CbR.smul{cs:B3}{a:Rat}(k:Nat)(h:CbR cs N a):CbR cs (k*N) (a*(k:Rat)):=by(have e:∀(cs:B3)(d:Ca),(d.map (k * ·)).sum=k*d.sum/\J4 cs (d.map (k * ·))=J4 cs d*(k:Rat):=by intro cs d;induction d generalizing cs with|nil=>exact⟨ψ,by cases cs<;>simp only[map_nil,J4]<;>grind⟩|cons n d ih=>refine⟨by rw[map_cons,sum_cons,(ih []).1,sum_cons,Nat.mul_add],?_⟩;cases cs with|nil=>simp only[J4];grind|cons c cs=>simp only[map_cons,J4,(ih cs).2,Rat.natCast_mul];grind);obtain⟨d,h1,h2,rfl⟩:=h;exact⟨d.map (k * ·),by simp[h1],by rw[(e cs d).1];exact Nat.mul_le_mul_left k h2,(e cs d).2.symm⟩
theorem CbR.mem{cs:B3}{c:Rat}(h:c∈cs):CbR cs 1 c:=by induction cs with|nil=>cases h|cons d cs ih=>rcases En.1 h with rfl|h;obtain⟨e,h1,h2,h3⟩:=CbR.zero cs 0;exact⟨1::e,by simp[h1],by rw[sum_cons];omega,by rw[J4,<-h3];grind⟩;obtain⟨e,h1,h2,h3⟩:=ih h;exact⟨0::e,by simp[h1],by rw[sum_cons];omega,by rw[J4,<-h3];grind⟩
theorem CbR.pos{cs:B3}{a:Rat}(h:CbR cs N a)(ha:a≠0):1<=N:=by obtain⟨d,h1,h2,rfl⟩:=h;by_cases e:d.sum=0;exact(ha (Apx e)).elim;omega
theorem CbR.rb{l:Ei}(A:∀c∈l,RB k c)(hk:k<=1000000)(hn:l.length<=1000)(E:N<=100000000)(ha:J3 a)(h:CbR (l.map rq) N (rq a)):RB (1+l.length*(k+10)) a:=by(have o:∀(l:Ei)(e:Ca),(∀c∈l,RB k c)->l.length<=1000->e.length=l.length->(∀n∈e,n<=100000000)->∃a:Ay,J3 a/\RB (1+l.length*(k+10)) a/\rq a=J4 (l.map rq) e:=by intro l;induction l with|nil=>intro e _ _ _ _;exact⟨cR 0,Us _ _ _ δ,(Ll (n:=0) (k:=1) (Ip δ) δ).mono ω,by rw[Sh];simp only[map_nil,J4];rfl⟩|cons c l ih=>intro e h1 h2 h3 i;cases e with|nil=>simp at h3|cons n e=>rw[Eo]at h2;obtain⟨a,H,r,w⟩:=ih e (λd hd=>h1 d (by simp[hd])) ω (by simpa using h3) λm z=>i m (by simp[z]);have g:l.length*(k+10)<=1000*1000010:=Nat.mul_le_mul ω ω;obtain⟨p,_,_,y,D,x⟩:=Adz (h1 c ψ) (Ll (n:=n) (k:=2) (Ip (by have:=i n ψ;omega)) δ) ω δ;obtain⟨s,_,_,u,q,j⟩:=Ady y r ω ω;refine⟨s,q,u.mono ?_,?_⟩;rw[Eo,Nat.add_mul];omega;rw[j,x,w,Sh,map_cons,J4]);obtain⟨e,h1,h2,h3⟩:=h;(have f:∀(e:Ca),∀n∈e,n<=e.sum:=λe=>by induction e with|nil=>intro n hn;cases hn|cons m e ih=>intro n hn;rw[sum_cons];rcases En.1 hn with rfl|hn;omega;have:=ih n hn;omega);(obtain⟨b,b1,G,B⟩:=o l e A hn (by rw[h1,C3]) λn hn=>by have:=f e n hn;omega);rw[Adx ha b1 (by rw[h3,B])];exact G
open Classical in
noncomputable def Im(C:Ds)(m:A4):Nat:=pv (λd=>if d=m then 1 else 0) C
theorem Beu(C:Ds)(m:A4):Im C m<=pv (λ_=>1) C:=Uy λp _=>by split<;>omega
theorem Azu{m:A4}(h:1<=Im C m):∃q∈C,q.1=m:=by obtain⟨q,c,b⟩:=Apj h;refine⟨q,c,?_⟩;by_cases e:q.1=m;exact e;simp only[As e]at b;omega
structure PIS(cs:List Rat)(K:Nat)(C:List (A4×Nat))(n:Nat)(b:List Aj):Prop where
 base:PSt K n b
 cmb:∀m,CbR cs (Im C m) (cf (b.take n) m)
theorem PIS.nil(cs:B3)(K:Nat):PIS cs K [] 0 []:=⟨⟨Nat.le_refl _,CP.nil,λt d=>by cases d⟩,λm=>CbR.zero _ _⟩
theorem PIS.mem{cs:B3}(h:PIS cs K C n b){t:Aj}(d:t∈b.take n):∃q∈C,q.1=t.M:=Azu ((h.cmb t.M).pos (by rw[Z1 h.base.cp d];exact(h.base.cp.coe t d).2))
open Classical in
theorem PIS.plus{cs:B3}{K:Nat}{C:Ds}{n:Nat}{b:Ap}(h:PIS cs K C n b){m:A4}{c:Ay}{N w:Nat}(hc:RB w c)(hm:MSz m)(E:CbR cs N (rq c))(G:∀N a,N<=100000000->J3 a->CbR cs N (rq a)->RB K a)(H:pv (λ_=>1) (C++[(m,N)])<=100000000)(hb:b.length<=100000)(s:K+w+3<30000000000):∃j o,J6 n m c b=some (j,o)/\o.length<=b.length+1/\PIS cs K (C++[(m,N)]) j o/\∀χ v,Ch χ v (o.take j)=Ch χ v (b.take n)+rq c*(mX χ v m:Rat):=by obtain⟨j,o,h1,h2,h3,y⟩:=Ax0 h.base hc hm s hb;(have i:∀d,CbR cs (Im (C++[(m,N)]) d) (cf (o.take j) d):=λd=>by have e:Im (C++[(m,N)]) d=Im C d+(if m=d then N else 0):=(by unfold Im;rw[Hn];simp only[pv];split<;>simp);rw[e,y];refine(h.cmb d).add ?_;by_cases e:m=d;rw[Av e,Av e];exact E;rw[As e,As e];exact CbR.zero _ _);refine⟨j,o,h1,h2,⟨⟨h3.le,h3.cp,λt r=>⟨G _ _ (Nat.le_trans (Beu _ _) H) (h3.cp.coe t r).1 (by rw[<-Z1 h3.cp r];exact i t.M),(h3.tm t r).2⟩⟩,i⟩,λχ v=>?_⟩;rw[Aj3 (p:=b.take n++[⟨c,m⟩]) (q:=o.take j) λd=>?_,Xp];simp only[Ch,mX];grind;rw[y,Sg];congr 1;show _=(if D5 m d=0 then rq c else 0)+0;by_cases e:m=d;rw[Av e,Av (Lj.2 e)];grind;rw[As e,As λh=>e (Lj.1 h)];grind
theorem Aj5(m:A4)(b:MSz m):Pn m=some (m,m.F,m.A):=by have g:=b.nf;have f:=b.na;unfold Pn;refine Fi m.F (λj=>((j:Int),m.F.take j)) rfl ω ?_ ?_;intro j x o d e h i;have c:=Bm d;have:=b.fi x c;simp only[e,h,i,Ak,Ac,Aoy 4000000 x.I ω ω];rw[Dj ζ,Ac,Cs d];intro e;refine⟨m.F,ψ,?_⟩;dsimp only;refine Fi m.A (λj=>((j:Int),m.A.take j)) rfl ω ?_ ?_;intro j x o d e h i;have c:=Bm d;have:=b.al x c;simp only[e,h,i,Ak,Ac,Yw];rw[Dj ζ,Ac,Ac,Dj ζ,Ac,Cs d];rfl;intro e;exact⟨m.A,ψ,rfl⟩
theorem Bev(b:Λ α)(z:α):Ef b b.length [z]=b++[z]:=by unfold Ef;simp
theorem Azv(b:Λ α)(k:Nat)(z x:α)(j:k<=b.length)(hb:b.length<=1000000):∃o:Λ α,((Jn (b++[z]).length (Aa ((k:Int)+1)) (((b++[z]).length:Nat):Int)).bind λr=>match r with|.inl d=>(Iy (b++[z]).length (k:Int) (((b++[z]).length:Nat):Int)).bind λc=>(Lt (b++[z]) (0+d.1) (d.2-d.1) (0+c.1) (c.2-c.1)).bind λf=>some f|.inr _=>(Iy (b++[z]).length (k:Int) (((b++[z]).length:Nat):Int)).bind λs=>some (b++[z]))=some o/\o.length=b.length+1/\o.set k x=b.take k++x::b.drop k:=by obtain⟨o,e,h,i⟩:=Aoz b b.length k z x (Nat.le_refl _) j hb;rw[Bev]at e;have g:(b++[z]).length=b.length+1:=ψ;rw[Nat.max_eq_right ω]at h;refine⟨o,?_,h,?_⟩;rw[g];exact e;rw[Dh,Hs (by rw[length_set];omega)]at i;exact i
end Go.Ab
