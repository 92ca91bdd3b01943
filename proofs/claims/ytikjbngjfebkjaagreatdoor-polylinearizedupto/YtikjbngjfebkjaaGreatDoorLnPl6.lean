/- Plain laws. -/
import Derived.Test.YtikjbngjfebkjaaGreatDoorLnPl5
import Derived.Test.YtikjbngjfebkjaaGreatDoorLnPl3
import Derived.Test.YtikjbngjfebkjaaGreatDoorLnPl4
open List
namespace Go.Ab
open Go
variable {m:A7} {P:A7->Prop} {res:Af} {a:Ao} {v:Bg->Nat} {χ:Bi->Nat} {t:Bt} {x:Ck} {vars:List Af} {data:List Aj} {R p q ts:List An} {A:List Bh} {F:List Bi} {l r:List Bt} {B:List Ent} {K L k n:Nat}
def Adw (vars:List Af) (res:Af) (L:List Bh):Prop:=L.Pairwise (λa b=>Ir a.L b.L<0)/\∀a∈L,1<=a.P/\D0 a.L=true/\a.L.T.length≠0/\I3 vars res a.L=true
theorem Bc4 (l m:List Bh):Eo (l++m)=Eo l+Eo m:=by unfold Eo;simp[sum_append]
theorem Bc5:∀{u:List Grp} {rest:List Bh},Gs u rest->(∀a∈rest,D0 a.L=true/\I3 vars res a.L=true) -> ∀(B:List Ent) (S:Int),(∀b∈B,Adw vars res b.1/\Eo b.1<=S/\∀a∈b.1,∀r∈rest,Ir a.L r.L<0)->∀b∈N2 B u,Adw vars res b.1/\Eo b.1<=S+(Dn rest:Nat):=by
 intro u rest h;induction h with
 | nil=>intro _ B S z b o;have:=z b o;exact⟨this.1,by have:=this.2.1;omega⟩
 | @cons l N f g rest u x U E I M ih=>
  intro A B S z;obtain⟨H,j⟩:∃a,a∈g:=(by cases g with| nil=>exact (x rfl).elim| cons a _=>exact⟨a,ψ⟩);have s:=U H j;have q:=A H (by simp[j]);rw[s]at q;have J:∀k,k<N+1->k≠0->l.T.length≠0/\k<=Dn g:=by
   intro k C G;rcases I with⟨V,T⟩|⟨_,T,_⟩
   .exact⟨V,by rw[<-T.1];omega⟩
   .omega
  intro b o;have:=ih (λa e=>A a (by simp[e])) (I5 B l f (N+1)) (S+(Dn g:Nat)) (by
   intro b o;unfold I5 at o;rw[mem_flatMap]at o;obtain⟨k,i,C⟩:=o;have i:=mem_range.1 i;split at C
   .cases C
   .rw[mem_map]at C;obtain⟨d,X,rfl⟩:=C;obtain⟨d1,d2,d3⟩:=z d X;have y:∀a∈d.1,Ir a.L l<0:=λa e=>by have:=d3 a e H (by simp[j]);rwa [s]at this
    unfold atO;by_cases Q:k=0
    .rw[Au Q,append_nil];exact⟨d1,by show Eo d.1<=S+((Dn g:Nat):Int);omega,λa e r c=>d3 a e r (by simp[c])⟩
    .rw[Ar Q];obtain⟨D,L⟩:=J k i Q;refine⟨⟨pairwise_append.2 ⟨d1.1,pairwise_singleton _ _,λa e b o=>?_⟩,λa e=>?_⟩,?_,λa e r c=>?_⟩
     .simp only[D5]at o;subst o;exact y a e
     .rcases En.1 e with e|e
      .exact d1.2 a e
      .simp only[D5]at e;subst e;exact⟨by show (1:Int)<=(k:Int);omega,q.1,D,q.2⟩
     .show Eo (d.1++[⟨l,k⟩])<=_;rw[Bc4];have:Eo [(⟨l,(k:Int)⟩:Bh)]=(k:Int):=(by simp[Eo]);omega
     .rcases En.1 e with e|e
      .exact d3 a e r (by simp[c])
      .simp only[D5]at e;subst e;exact E r c) b o
  refine⟨this.1,?_⟩;rw[Tg];have:=this.2;omega
theorem Bc6 {L:List Bh} (h:Adw x.V x.E L) (k:Eo L<=6):Jy x ⟨[],L⟩:=by
 have i:(L.length:Int)<=Eo L:=by have d:∀l:List Bh,(∀a∈l,1<=a.P)->(l.length:Int)<=Eo l:=(by intro l;induction l with| nil=>intro _;simp[Eo]| cons f M ih=>intro c;have y:=c f ψ;have C:=ih λg D=>c g (by simp[D]);unfold Eo at *;simp only[map_cons,sum_cons,D2];omega);exact d _ λa o=>(h.2 a o).1
 constructor
 .unfold Jw;have E:L.zipIdx.all (λq=>Ny x.V x.E L q.1 q.2)=true:=(by rw[Gt];rintro⟨a,j⟩ G;have s:L[j]? = some a:=mk_mem_zipIdx_iff_getElem?.1 G;obtain⟨y,C,H,I⟩:=h.2 a (Bz s);show Ny x.V x.E L a j=true;unfold Ny;have hp:Q7 L a j=true:=(by unfold Q7;cases j with| zero=>rfl| succ j=>have c:=Ek s;have J:L[j]? = some L[j]:=Bq ω;have b:=pairwise_iff_getElem.1 h.1 j (j+1) ω c ω;have e:L[j+1]=a:=(by have:=Bq c;rw[s]at this;exact (Eu this).symm);rw[e]at b;simp only[Nat.add_sub_cancel,J,Bool.or_eq_true];exact .inr (decide_eq_true b));rw[hp,As y,C,I];simp only[Bool.true_and,Bool.and_true,Bool.not_eq_true',beq_eq_false_iff_ne,ne_eq];exact H);show (([]:List Bi).zipIdx.all _&&L.zipIdx.all (λq=>Ny x.V x.E L q.1 q.2)&&decide (Cx x.D x.V x.E []+Eo L<=6))=true;rw[E];have:Cx x.D x.V x.E []=0:=rfl;rw[this];simp;exact k
 .exact⟨ψ,by show L.length<=1048576;omega,nofun,nofun,λa o=>by have:=(V2 (h.2 a o).2.1).1;omega⟩
def ec:List Ent->A7->Nat
 | [],_=>0
 | b::bs,m=>(if Fg ⟨[],b.1⟩ m=0 then b.2 else 0)+ec bs m
theorem Rep.mem {c:Rat} {bs:List Ent} (h:Rep c K ts bs) {t:An} (ht:t∈ts):∃b∈bs,t.M=⟨[],b.1⟩/\rq t.C=c*(b.2:Rat)/\RB K t.C:=by obtain⟨j,d⟩:=Hu ht;obtain⟨b,e,g⟩:=h.get d;exact⟨b,Bz e,g⟩
def Aob (L:Nat) (p:List An):Prop:=∀t∈p,∃z:Int,rq t.C=(z:Rat)/\Bs z.natAbs<=L
theorem Bc7 {z:Int} (d:G9 a) (h:rq a=(z:Rat)):a=Cg (decide (z<0)) z.natAbs 1:=by
 refine Ams d (P7 _ _ _ δ) ?_;rw[h,Nz _ _ _ δ,Adg];congr 1;unfold sg;by_cases h:z<0
 .rw[As h,Au rfl];omega
 .rw[Aw h,Ar δ];omega
theorem Bc8 {z:Int} (d:G9 a) (h:rq a=(z:Rat)) (b:Bs z.natAbs<=L):RB (L+1) a:=by rw[Bc7 d h];exact M4 _ _ _ _ ω (by rw[Oz];omega) ω
theorem Aob.of (hc:CP p) (h:∀m,∃z:Int,cf p m=(z:Rat)/\Bs z.natAbs<=L):Aob L p:=λt d=>by obtain⟨z,b,e⟩:=h t.M;exact⟨z,by rw[<-A8m hc d];exact b,e⟩
structure IP (x:Ck) (n L:Nat) (f:A7->Rat) (R:List An):Prop where
 cp:CP R
 val:∀m,cf R m=f m
 mo:∀t∈R,Jy x t.M
 len:R.length<=n
 int:Aob L R
theorem IP.can {f:A7->Rat} (h:IP x n L f R) (c:n<=1000) (g:L<=1000000):J5 x R := J5.of h.cp h.mo (λt d=>by obtain⟨z,b,e⟩:=h.int t d;exact (Bc8 (h.cp.coe t d).1 b e).mono ω) (by have:=h.len;omega)
theorem Aoc (a b:Bt):Om a b=some (Gg a.v b.v):=by unfold Om;rw[P1];rfl
theorem Qb {a b:Int}:Gg a b<0↔a<b:=by unfold Gg;split <;> (try split) <;> omega
theorem Ax7:Oe (λa b:Bt=>Gg a.v b.v) := ⟨λx h=>by have:=Qb.1 h;omega,λx y z d e=>by have:=Qb.1 d;have:=Qb.1 e;exact Qb.2 ω,λx y z d e h=>by have:=Qb.1 h;have:=mt Qb.2 d;have:=mt Qb.2 e;omega⟩
theorem Bc9 (c:List Bt) (f:c.length<=12):∃R,Up c=some R/\R.Perm c/\R.Pairwise (λa b=>a.v<=b.v):=by
 obtain⟨R,g,d,i⟩:=Ani (cmp:=Om) Ax7 c (λx _ y _=>Aoc x y) ω;obtain⟨v,j⟩:=Anb (n:=c.length) ω;refine⟨R,?_,d,i.imp λ{a b} h=>?_⟩
 .unfold Up;rw[Nat.ble_eq_true_of_le f,Ak];unfold Alf;rw[j,Ad];have hp:Abe 0 (c.length:Int) v c=some R:=(by unfold Abe;have e:Afx 0 (c.length:Int) c=Ym Om 0 (c.length:Int) c:=rfl;have w:Ac ((c.length:Int)-0)=(c.length:Int):=ξ;refine bnd (a:=R) (Ga ?_) rfl;rw[w,As ω,Ak,e,g,Ad,Lj d.length_eq.symm];rfl);rw[hp,Ad,Lj d.length_eq.symm];rfl
 .have:=mt Qb.2 h;omega
def cl:List Bt->Int->Int
 | [],_=>0
 | t::l,v=>(if t.v=v then t.C else 0)+cl l v
theorem Aiu (l m:List Bt) (v:Int):cl (l++m) v=cl l v+cl m v:=by induction l with| nil=>simp[cl]| cons t l ih=>simp only[D4,cl,ih];omega
theorem Bda {m:List Bt} (h:l.Perm m) (v:Int):cl l v=cl m v:=by induction h with| nil=>rfl| cons t _ ih=>simp only[cl,ih]| swap a b l=>simp only[cl];omega| trans _ _ d e=>exact d.trans e
theorem Tn {v:Int} (h:∀t∈l,t.v≠v):cl l v=0:=by induction l with| nil=>rfl| cons t l ih=>simp only[cl];rw[Ar (h t ψ),ih λu d=>h u (by simp[d])];rfl
structure N5 (L:List Bt):Prop where
 srt:L.Pairwise λa b=>a.v<b.v
 nz:∀t∈L,t.C≠0
theorem N5.ext:∀{L M:List Bt},N5 L->N5 M->(∀v,cl L v=cl M v)->L=M:=by
 intro L;induction L with
 | nil=>intro M _ b h;cases M with| nil=>rfl| cons t M=>have:=h t.v;simp only[cl,if_true]at this;rw[Tn λu d=>by have:=(pairwise_cons.1 b.srt).1 u d;omega]at this;exact (b.nz t ψ ω).elim
 | cons s L ih=>
  intro M c b h;have f:cl (s::L) s.v=s.C:=(by simp only[cl,if_true];rw[Tn λu d=>by have:=(pairwise_cons.1 c.srt).1 u d;omega];omega);cases M with
  | nil=>have:=h s.v;rw[f]at this;exact (c.nz s ψ (by simpa[cl] using this)).elim
  | cons t M=>
   have g:cl (t::M) t.v=t.C:=(by simp only[cl,if_true];rw[Tn λu d=>by have:=(pairwise_cons.1 b.srt).1 u d;omega];omega);have hv:s.v=t.v:=by
    rcases Int.lt_trichotomy s.v t.v with k|k|k
    .have h1:=h s.v;rw[f,Tn (l:=t::M) λu d=>by
      rcases Gl.1 d with rfl|d
      .omega
      .have:=(pairwise_cons.1 b.srt).1 u d;omega]at h1
     exact (c.nz s ψ h1).elim
    .exact k
    .have h1:=h t.v;rw[g,Tn (l:=s::L) λu d=>by
      rcases Gl.1 d with rfl|d
      .omega
      .have:=(pairwise_cons.1 c.srt).1 u d;omega]at h1
     exact (b.nz t ψ h1.symm).elim
   have hc:s.C=t.C:=(by rw[<-f,<-g,h,hv]);have e:s=t:=(by cases s;cases t;simp only at hv hc;rw[hv,hc]);subst e;rw[ih (M:=M) ⟨(pairwise_cons.1 c.srt).2,λu d=>c.nz u (by simp[d])⟩ ⟨(pairwise_cons.1 b.srt).2,λu d=>b.nz u (by simp[d])⟩ λv=>by have:=h v;simp only[cl]at this;omega]
noncomputable def Aiv (r:List Bt) (f:Int):Int×Int->Option ((Int×Int)⊕(Int×Int)):=λ(d,e)=> (show OB from bif d<(r.length:Int) then ((Ag r d).bind λg=> some (g.v==f)) else (some false)).bind λc=>
 bif c then ((Ag r d).bind λb=> some (.inl ((Ac (d+1)),(Ac (e+b.C))))) else (some (.inr (d,e)))
def LBd (l:List Bt):Prop:=∀t∈l,-1099511627776<=t.C/\t.C<=1099511627776
theorem Bdb (h:LBd l) (v:Int) : -(l.length*1099511627776:Int)<=cl l v/\cl l v<=(l.length*1099511627776:Int):=by induction l with| nil=>simp[cl]| cons t l ih=>have e:=h t ψ;have g:=ih λu d=>h u (by simp[d]);simp only[cl,D2];split <;> omega
theorem Bdc (M:r[k]? = some t) (G:r.length<=1000) (hb:LBd r) :
  ∃n:Nat,Am (Aiv r t.v) ((k:Int),0)=some ((n:Int),cl ((r.take n).drop k) t.v)/\k<n/\n<=r.length/\(∀u∈(r.take n).drop k,u.v=t.v)/\∀u,r[n]? = some u->u.v≠t.v:=by
 have x:=Ek M
 obtain⟨e,E,n,D,B⟩:=Kf (step:=Aiv r t.v) (λs=>∃n:Nat,s=((n:Int),cl ((r.take n).drop k) t.v)/\k<=n/\n<=r.length/\∀u∈(r.take n).drop k,u.v=t.v) (λs=>r.length-s.1.toNat)
  (λe=>∃n:Nat,e=((n:Int),cl ((r.take n).drop k) t.v)/\k<n/\n<=r.length/\(∀u∈(r.take n).drop k,u.v=t.v)/\∀u,r[n]? = some u->u.v≠t.v) (by
  rintro _ ⟨j,rfl,y,g,c⟩
  unfold Aiv
  rcases Cf j r.length with h|h
  .have C:r[j]? = some r[j]:=Bq h
   have i:=getElem_mem h
   generalize r[j]=b at C i
   have A:=hb b i
   have z:=Bdb (l:=(r.take j).drop k) (λu J=>hb u (mem_of_mem_take (mem_of_mem_drop J))) t.v
   have q:((r.take j).drop k).length<=1000:=by simp;omega
   have Q:Ac (cl ((r.take j).drop k) t.v+b.C)=cl ((r.take j).drop k) t.v+b.C:=by
    have I:(((r.take j).drop k).length:Int)*1099511627776<=1000*1099511627776:=Int.mul_le_mul_of_nonneg_right ω δ
    rw[Ac,B4] <;> omega
   have f:(r.take (j+1)).drop k=(r.take j).drop k++[b]:=by
    rw[Cz C,List.drop_append_of_le_length ζ]
   simp only[As (ω:(j:Int)<(r.length:Int)),Ak,Br rfl C,Ad,C6 h ω,Q]
   by_cases H:b.v=t.v
   .left
    rw[Ef H]
    refine⟨_,rfl,⟨j+1,?_,ω,ω,λd o=>?_⟩,ζ⟩
    .rw[f,Aiu]
     simp[cl,H]
    .rw[f]at o
     rcases En.1 o with o|o
     .exact c d o
     .simp only[D5]at o
      rw[o];exact H
   .right
    rw[Cu H]
    refine⟨_,rfl,j,rfl,?_,g,c,λd o=>by rw[C]at o;cases o;exact H⟩
    rcases Cf k j with N|N
    .exact N
    .have:j=k:=ω
     subst this
     rw[M]at C;cases C
     exact (H rfl).elim
  .right
   refine⟨_,by simp only[Aw (ω:¬(j:Int)<(r.length:Int)),Ap,Ad],j,rfl,ω,g,c,λd o=>?_⟩
   have:=Ek o
   omega) ((k:Int),0) ⟨k,by simp[cl],ω,ω,λu J=>by simp at J⟩
 exact⟨n,by rw[<-D];exact E,B⟩
noncomputable def Aiw (r:List Bt):Int×List Bt->Option ((Int×List Bt)⊕List Bt):=λ(d,b)=> bif d<((r.length:Nat):Int) then ((Ag r d).bind λe=> (Am (Aiv r e.v) (d,0)).bind λ(g,h)=> bif (h != (0:Int)) then ((B6 16 b [(Bt.mk e.v h)]).bind λc=> some (.inl (g,c))) else (some (.inl (g,b)))) else (some (.inr b))
theorem Bdd (I:r.Pairwise λa b=>a.v<=b.v) (J:r.length<=1000) (hb:LBd r):∃L,Am (Aiw r) (0,[])=some L/\N5 L/\(∀v,cl L v=cl r v)/\L.length<=r.length:=by
 obtain⟨L,R,N⟩:=Kf (step:=Aiw r) (λs=>∃(k:Nat) (L:List Bt),s=((k:Int),L)/\k<=r.length/\N5 L/\L.length<=k/\(∀v,cl L v=cl (r.take k) v)/\∀t∈L,∀u∈r.drop k,t.v<u.v) (λs=>r.length-s.1.toNat)
  (λL=>N5 L/\(∀v,cl L v=cl r v)/\L.length<=r.length) (by
  rintro _ ⟨k,L,rfl,X,x,M,C,T⟩
  unfold Aiw
  rcases Cf k r.length with h|h
  .left
   have H:r[k]? = some r[k]:=Bq h
   generalize r[k]=t at H
   obtain⟨n,G,E,B,V,D⟩:=Bdc H J hb
   have c:r.take n=r.take k++(r.take n).drop k:=by
    have h:=(take_append_drop k (r.take n)).symm
    rwa [take_take,Nat.min_eq_left ω]at h
   have j:∀v,v≠t.v->cl ((r.take n).drop k) v=0:=λv C=>Tn λu o e=>C (by rw[<-e,V u o])
   have i:∀u∈r.drop n,u∈r.drop k:=λu o=>by
    have:r.drop n=(r.drop k).drop (n-k):=by rw[drop_drop];congr 1;omega
    rw[this]at o
    exact mem_of_mem_drop o
   have z:t∈r.drop k:=by rw[Jv H];simp
   have f:∀u∈r.drop n,t.v<u.v:=by
    intro u o
    rcases Cf n r.length with U|U
    .have Q:r[n]? = some r[n]:=Bq U
     generalize r[n]=w at Q
     have hw:=D w Q
     have hp:=pairwise_append.1 (by rw[take_append_drop];exact I:(r.take n++r.drop n).Pairwise λa b=>a.v<=b.v)
     have A:t∈r.take n:=by
      rw[c]
      have:(r.take n).drop k=t::(r.take n).drop (k+1):=Jv (by rw[getElem?_take_of_lt E];exact H)
      rw[this];simp
     have y:w∈r.drop n:=by rw[Jv Q];simp
     have a1:=hp.2.2 t A w y
     have g:=hp.2.1
     rw[Jv Q]at g o
     rcases Gl.1 o with rfl|o
     .omega
     .have:=(pairwise_cons.1 g).1 u o;omega
    .rw[drop_eq_nil_of_le U]at o;cases o
   simp only[As (ω:(k:Int)<(r.length:Int)),Ak,Br rfl H,Ad,G]
   by_cases S:cl ((r.take n).drop k) t.v=0
   .refine⟨((n:Int),L),?_,⟨n,L,rfl,B,x,ω,λv=>?_,λa d u o=>T a d u (i u o)⟩,ζ⟩
    .rw[S];rfl
    .have q:cl (r.take n) v=cl (r.take k) v+cl ((r.take n).drop k) v:=(congrArg (λl=>cl l v) c).trans (Aiu _ _ _)
     rw[q,C]
     by_cases e:v=t.v
     .rw[e,S];omega
     .rw[j v e];omega
   .refine⟨((n:Int),L++[⟨t.v,cl ((r.take n).drop k) t.v⟩]),?_,⟨n,_,rfl,B,⟨?_,?_⟩,ζ,λv=>?_,λa d u o=>?_⟩,ζ⟩
    .rw[F7 S,Ak,Dl ζ];rfl
    .refine pairwise_append.2 ⟨x.srt,pairwise_singleton _ _,λa d b hb=>?_⟩
     simp only[D5]at hb
     subst hb
     exact T a d t z
    .intro a d
     rcases En.1 d with d|d
     .exact x.nz a d
     .simp only[D5]at d
      subst d;exact S
    .have q:cl (r.take n) v=cl (r.take k) v+cl ((r.take n).drop k) v:=(congrArg (λl=>cl l v) c).trans (Aiu _ _ _)
     rw[q,Aiu,C]
     simp only[cl]
     by_cases e:t.v=v
     .rw[Au e,<-e];omega
     .rw[Ar e,j v λh=>e h.symm];omega
    .rcases En.1 d with d|d
     .exact T a d u (i u o)
     .simp only[D5]at d
      subst d;exact f u o
  .right
   have:k=r.length:=ω
   subst this
   rw[Db]at C
   exact⟨L,by simp only[Aw (ω:¬(r.length:Int)<(r.length:Int)),Ap],x,C,M⟩) (0,[]) ⟨0,[],rfl,ω,⟨Pairwise.nil,λ_ h=>by cases h⟩,ψ,λv=>by simp[cl],λ_ h=>by cases h⟩
 exact⟨L,R,N⟩
def Aod (c:Int) (L:List Bt):Bg×Int:=if D0 ⟨c,L⟩=true then (⟨c,L⟩,0) else (⟨0,[]⟩,9)
theorem Aoe {a:Bg} (h:D0 a=true):∀t∈a.T,-1048576<=t.C/\t.C<=1048576:=by intro t d;obtain⟨j,e⟩:=Hu d;unfold D0 at h;rw[Cv,Gt]at h;have:=h.2 (t,j) (mk_mem_zipIdx_iff_getElem?.2 e);unfold P3 at this;simp only[Cv,Dk]at this;exact⟨this.1.2.2.2.1,this.1.2.2.2.2⟩
def NoF (x:Ck) (D:Nat) (m:A7):Prop:=Jy x m/\m.F = []/\Eo m.A<=(D:Nat)
theorem NoF.mono {D D':Nat} (h:NoF x D m) (hd:D<=D'):NoF x D' m:=⟨h.1,h.2.1,by have:=h.2.2;omega⟩
theorem Gs.nil_of {c:List Grp} (h:Gs c A):A = []->c = []:=by cases h with| nil=>exact λ_=>rfl| cons b _ _ _ _=>exact λe=>absurd (append_eq_nil_iff.1 e).1 b
theorem IsE.one {a:Bh} (h:IsE [a] B):B.length<=1:=by
 obtain⟨gs,G,x,I,q,rfl⟩:=h;have E:G = [a]:=perm_singleton.1 x;rw[E]at q;generalize c:[a]=X at q;cases q with
 | nil=>cases c
 | @cons l N f g rest gs s S J z D=>
  have L:g.length+rest.length=1:=(by have:=congrArg length c;simpa using this.symm);have y:g.length=1:=(by have:=length_pos_iff.2 s;have:rest.length≠1\/g.length=0:=ω;omega);have b:rest = []:=Fr.1 ω;subst b;rw[append_nil]at c;subst c;have u:=D.nil_of rfl;subst u
  .show (I5 [([],1)] l f (N+1)).length<=1;have o:∀n,(∀i j,i<n->j<n->f i≠0->f j≠0->i=j)->(I5 [(([],1):Ent)] l f n).length<=1/\((I5 [(([],1):Ent)] l f n).length=1->∃i,i<n/\f i≠0):=by
    intro n;induction n with
    | zero=>intro _;simp[I5]
    | succ n ih=>
     intro h;obtain⟨M,H⟩:=ih λi j hi d=>h i j ω ω;rw[Aw5,Ew];by_cases h0:f n=0
     .rw[Au h0];refine⟨by simpa using M,λe=>?_⟩;obtain⟨i,Q,C⟩:=H (by simpa using e);exact⟨i,ω,C⟩
     .rw[Ar h0];have:(I5 [(([],1):Ent)] l f n).length≠1:=λe=>by obtain⟨i,Q,C⟩:=H e;have:=h i n ω ω C h0;omega
      refine⟨by simp only[C5,length_singleton];omega,λ_=>⟨n,ω,h0⟩⟩
   refine (o (N+1) ?_).1;rcases z with⟨_,h2⟩|⟨_,h2,_⟩
   .have e:∀k,k<N+1->f k=if k=N then 1 else 0:=by refine A92 λn _=>?_;rw[h2.2.2 n];have A:N=a.P.toNat:=(by have:=h2.1;simpa[Dn] using this);rw[Ac8 (k:=N) ω (λj d=>by simp[d])];simp[prb,A]
    intro i j hi d h1 h2;rw[e i hi]at h1;rw[e j d]at h2;split at h1
    .split at h2
     .omega
     .exact (h2 rfl).elim
    .exact (h1 rfl).elim
   .intro i j hi d _ _;omega
noncomputable def eB (A:List Bh):List Ent:=open Classical in if h:∃B,IsE A B then Classical.choose h else []
def sq:Nat->(Nat->Rat)->Rat
 | 0,_=>0
 | n+1,f=>sq n f+f n
def cs (K:Nat):Nat->Nat
 | 0=>0
 | j+1=>cs K j+(1+min j (K-j))
theorem N5.cl {L:List Bt} (h:N5 L) (ht:t∈L):Ab.cl L t.v=t.C:=by
 induction L with
 | nil=>cases ht
 | cons s L ih=>
  simp only[Ab.cl];rcases Gl.1 ht with rfl|d
  .rw[Au rfl,Tn λu e=>by have:=(pairwise_cons.1 h.srt).1 u e;omega];omega
  .have:=(pairwise_cons.1 h.srt).1 t d;rw[Ar ω,ih ⟨(pairwise_cons.1 h.srt).2,λu e=>h.nz u (by simp[e])⟩ d];omega
theorem Bde {α:Type} (f:α->Int) (l:List α) (h:∀j x,l[j]? = some x->Ly f l x j=true):l.Pairwise λa b=>f a<f b:=by
 have step:∀j x y,l[j]? = some x->l[j+1]? = some y->f x<f y:=by intro j x y C D;have:=h (j+1) y D;unfold Ly at this;rw[Nat.add_sub_cancel,C]at this;simpa using this
 have c:∀d j x y,l[j]? = some x->l[j+d+1]? = some y->f x<f y:=by intro d;induction d with| zero=>exact λj x y o e=>step j x y o e| succ d ih=>intro j x y o e;have s:l[j+d+1]? = some (l[j+d+1]'(by have:=Ek e;omega)):=Bq _;have I:=ih j x _ o s;have J:=step _ _ _ s e;omega
 rw[pairwise_iff_getElem];intro i j E G g;obtain⟨d,H⟩:∃d,j=i+d+1:=⟨j-i-1,ω⟩;subst H;exact c d i _ _ (Bq E) (Bq G)
def Adx (x:Ck) (m:A7):Int:=Cx x.D x.V x.E m.F+Eo m.A
structure Y0 (x:Ck) (m:A7):Prop where
 fac:∀f∈m.F,1<=Eg x.D x.V x.E f
 asc:m.F.Pairwise λa b=>a.v<b.v
 atm:∀a∈m.A,1<=a.P/\D0 a.L=true/\a.L.T.length≠0/\I3 x.V x.E a.L=true
 srt:m.A.Pairwise λa b=>Ir a.L b.L<0
 deg:Adx x m<=6
theorem Jy.f (h:Jy x m):Y0 x m:=by
 have hc:=h.1;unfold Jw at hc;rw[Cv,Cv,Dk]at hc;obtain⟨⟨h1,h2⟩,h3⟩:=hc;have g:∀j f,m.F[j]? = some f->1<=Eg x.D x.V x.E f/\Ly (·.v) m.F f j=true:=λj f e=>by have:=Jo h1 e;unfold P5 at this;rw[Cv,Dk]at this;exact this
 have o:∀j a,m.A[j]? = some a->(1<=a.P/\D0 a.L=true/\a.L.T.length≠0/\I3 x.V x.E a.L=true)/\Q7 m.A a j=true:=λj a e=>by have:=Jo h2 e;unfold Ny at this;simp only[Cv,Dk,Bool.not_eq_true',beq_eq_false_iff_ne,ne_eq]at this;exact⟨⟨this.1.1.1.1,this.1.1.1.2,this.1.1.2,this.1.2⟩,this.2⟩
 refine⟨λf hf=>?_,Bde _ _ λj f e=>(g j f e).2,λa ha=>?_,?_,h3⟩
 .obtain⟨j,e⟩:=Hu hf;exact (g j f e).1
 .obtain⟨j,e⟩:=Hu ha;exact (o j a e).1
 .have step:∀j x y,m.A[j]? = some x->m.A[j+1]? = some y->Ir x.L y.L<0:=(by intro j x y hx hy;have:=(o (j+1) y hy).2;unfold Q7 at this;rw[Nat.add_sub_cancel,hx]at this;simpa using this);have b:∀d j x y,m.A[j]? = some x->m.A[j+d+1]? = some y->Ir x.L y.L<0:=(by intro d;induction d with| zero=>exact λj x y h1 h2=>step j x y h1 h2| succ d ih=>intro j x y h1 h2;have hz:m.A[j+d+1]? = some (m.A[j+d+1]'(by have:=Ek h2;omega)):=Bq _;exact Aia.trs _ _ _ (ih j x _ h1 hz) (step _ _ _ hz h2));rw[pairwise_iff_getElem];intro i j hi e c;obtain⟨d,hd⟩:∃d,j=i+d+1:=⟨j-i-1,ω⟩;subst hd;exact b d i _ _ (Bq hi) (Bq e)
theorem Y0.fsum0 (h:Y0 x m):0<=Cx x.D x.V x.E m.F:=by
 have d:∀l:List Bi,(∀f∈l,1<=Eg x.D x.V x.E f)->0<=Cx x.D x.V x.E l:=λl=>by induction l with| nil=>intro _;simp[Cx]| cons f l ih=>intro b;have h1:=b f ψ;have h2:=ih λg e=>b g (by simp[e]);unfold Cx at *;simp only[map_cons,sum_cons];omega
 exact d _ h.fac
theorem Bdf {l:List Bh} (h:∀a∈l,1<=a.P):Eo l=(Dn l:Nat)/\l.length<=Dn l:=by induction l with| nil=>exact⟨rfl,Nat.le_refl _⟩| cons a l ih=>obtain⟨e,c⟩:=ih λb d=>h b (by simp[d]);have f:=h a ψ;unfold Eo at *;simp only[map_cons,sum_cons,Dn,D2];omega
theorem Y0.as (h:Y0 x m):Eo m.A=(Dn m.A:Nat)/\m.A.length<=Dn m.A:=Bdf λa ha=>(h.atm a ha).1
def Gm (v:Bg->Nat):List Bh->Nat
 | []=>1
 | a::l=>bc (v a.L) a.P.toNat*Gm v l
theorem Ady (v:Bg->Nat) (l m:List Bh):Gm v (l++m)=Gm v l*Gm v m:=by induction l with| nil=>simp[Gm]| cons a l ih=>simp only[D4,Gm,ih,Nat.mul_assoc]
theorem Ax8 (v:Bg->Nat) {l m:List Bh} (h:l.Perm m):Gm v l=Gm v m:=by induction h with| nil=>rfl| cons a _ ih=>simp only[Gm,ih]| swap a b l=>simp only[Gm];rw[<-Nat.mul_assoc,<-Nat.mul_assoc,Nat.mul_comm (bc (v b.L) _)]| trans _ _ d e=>exact d.trans e
theorem Aof {v:Bg->Nat} {l:Bg}:∀{g:List Bh},(∀a∈g,a.L=l)->Gm v g=prb (v l) g
 | [],_=>rfl
 | a::g,h=>by simp only[Gm,prb];rw[h a ψ,Aof λb d=>h b (by simp[d])]
def J0 (v:Bg->Nat):List Ent->Nat
 | []=>0
 | b::bs=>b.2*Gm v b.1+J0 v bs
theorem Bdg (v:Bg->Nat) (B C:List Ent):J0 v (B++C)=J0 v B+J0 v C:=by induction B with| nil=>simp[J0]| cons b B ih=>simp only[D4,J0,ih,Nat.add_assoc]
theorem Bdh (v:Bg->Nat) (l:Bg) (k c:Nat) (B:List Ent):J0 v (B.map λb=>(b.1++atO l k,b.2*c))=J0 v B*(c*bc (v l) k):=by
 have d:Gm v (atO l k)=bc (v l) k:=by
  unfold atO;by_cases h:k=0
  .subst h;rw[Au rfl,J6];rfl
  .rw[Ar h];simp[Gm]
 induction B with| nil=>simp[J0]| cons b B ih=>simp only[map_cons,J0,ih,Ady,d];rw[Nat.add_mul];congr 1;rw[Nat.mul_assoc,Nat.mul_assoc,<-Nat.mul_assoc c,Nat.mul_comm c,Nat.mul_assoc]
theorem Ax9 (v:Bg->Nat) (B:List Ent) (l:Bg) (f:Nat->Nat):∀n,J0 v (I5 B l f n)=J0 v B*sm n λk=>f k*bc (v l) k
 | 0=>by simp[I5,J0,sm]
 | n+1=>by
  rw[Aw5,Bdg,Ax9 v B l f n];show _=J0 v B*(sm n (λk=>f k*bc (v l) k)+f n*bc (v l) n);rw[Nat.mul_add];congr 1;by_cases h:f n=0
  .rw[Au h,h];simp[J0]
  .rw[Ar h,Bdh]
def Rj (v:Bg->Nat):Prop:=∀l:Bg,l.T.length=0->v l=l.Q.toNat
theorem Gs.val (hv:Rj v):∀{b:List Grp} {A:List Bh},Gs b A->∀B,J0 v (N2 B b)=J0 v B*Gm v A:=by
 intro b A h;induction h with
 | nil=>intro B;simp[N2,Gm]
 | @cons l N f g rest b c d j i k ih=>
  intro B;show J0 v (N2 (I5 B l f (N+1)) b)=_;rw[ih,Ax9,Ady,Aof d,<-Nat.mul_assoc];congr 2;rcases i with⟨_,_,_,h3⟩|⟨h1,h2,h3⟩
  .exact h3 (v l)
  .subst h2;rw[hv l h1];simp[sm,J6,h3]
theorem IsE.val (hv:Rj v) (h:IsE A B):J0 v B=Gm v A:=by obtain⟨gs,g,c,f,b,rfl⟩:=h;rw[b.val hv,<-Ax8 v c];simp[J0,Gm]
def eW (c:Rat) (B:List Ent):List (Rat×A7):=B.map λb=>(c*(b.2:Rat),⟨[],b.1⟩)
def fv (val:Int->Az) (l:Bg):Nat:=(K1 val l).toNat
theorem Bdi (val:Int->Az):Rj (fv val):=λl h=>by unfold fv K1;rw[Fr.1 h];simp
theorem Bdj (x:Ck) (val:Int->Az) (L:List Bh):Th x val ⟨[],L⟩=Gm (fv val) L:=by
 unfold Th;have h:∀L:List Bh,D1 (L.map (Ra val))=Gm (fv val) L:=by intro L;induction L with| nil=>rfl| cons a L ih=>rw[map_cons];show Ra val a*D1 (L.map (Ra val))=_;rw[ih];rfl
 rw[h];show 1*_=_;rw[Nat.one_mul]
theorem Bdk (b:Jy x m) {L:List Bh} (h:Adw x.V x.E L) (c:Cx x.D x.V x.E m.F+Eo L<=6):Jy x ⟨m.F,L⟩:=by have i:=b.f.fsum0;obtain⟨d,g⟩:=Bc6 h ω;have e:=b.1;unfold Jw at e d;rw[Cv,Cv]at e d;refine⟨?_,⟨b.2.nf,g.na,b.2.fi,b.2.fr,g.al⟩⟩;unfold Jw;rw[Cv,Cv];exact⟨⟨e.1.1,d.1.2⟩,decide_eq_true c⟩
theorem Bdl (x:Ck) (val:Int->Az) (F:List Bi) (L:List Bh):Th x val ⟨F,L⟩=D1 (F.map (Kp x val))*Gm (fv val) L:=by have h:=Bdj x val L;unfold Th at h ⊢;rw[<-h];show _=_*(1*_);rw[Nat.one_mul]
def ls (g:Int->Int):List Bt->Int
 | []=>0
 | t::l=>t.C*g t.v+ls g l
def Kc (v:Int) (l:List Bt):List Bt:=l.filter λt=>!(t.v==v)
theorem Aog (g:Int->Int) (v:Int):∀l,ls g l=cl l v*g v+ls g (Kc v l)
 | []=>by simp[ls,cl,Kc]
 | t::l=>by
  have ih:=Aog g v l;unfold Kc at *;simp only[ls,cl,filter_cons];by_cases h:t.v=v
  .rw[Au h,Ef h,Ar δ,ih,<-h,Int.add_mul];omega
  .rw[Ar h,Cu h,Au δ];simp only[ls];rw[ih,Int.zero_add];omega
theorem Aoh (v w:Int):∀l,cl (Kc v l) w=if w=v then 0 else cl l w
 | []=>by simp[Kc,cl]
 | t::l=>by
  have ih:=Aoh v w l;unfold Kc at *;simp only[cl,filter_cons];by_cases h:t.v=v
  .rw[Ef h,Ar δ,ih];by_cases d:w=v
   .rw[Au d,Au d]
   .rw[Ar d,Ar d,Ar ω];omega
  .rw[Cu h,Au δ];simp only[cl];rw[ih];by_cases d:w=v
   .rw[Au d,Au d,Ar ω];rfl
   .rw[Ar d,Ar d]
theorem Aoi (v:Int) (l:List Bt):(Kc v l).length<=l.length:=length_filter_le _ _
theorem Bdm (g:Int->Int):∀(n:Nat) (L M:List Bt),L.length+M.length<=n->(∀v,cl L v=cl M v)->ls g L=ls g M:=by
 intro n;induction n with
 | zero=>intro L M h _;have i:L = []:=Fr.1 ω;have j:M = []:=Fr.1 ω;rw[i,j]
 | succ n ih=>
  intro L M h o;have d:∀v,(Kc v L).length+(Kc v M).length<L.length+M.length->ls g L=ls g M:=λv s=>by rw[Aog g v L,Aog g v M,o v,ih (Kc v L) (Kc v M) ω λw=>by rw[Aoh,Aoh,o w]]
  cases L with
  | cons t L=>refine d t.v ?_;have i:=Aoi t.v L;have j:=Aoi t.v M;have e:Kc t.v (t::L)=Kc t.v L:=(by unfold Kc;rw[filter_cons,Ef rfl,Ar δ]);rw[e];simp only[D2];omega
  | nil=>cases M with| nil=>rfl| cons t M=>refine d t.v ?_;have i:=Aoi t.v M;have e:Kc t.v (t::M)=Kc t.v M:=(by unfold Kc;rw[filter_cons,Ef rfl,Ar δ]);rw[e];simp only[D2,length_nil,Kc,filter_nil];unfold Kc at i;omega
theorem Bdn (g:Int->Int) (l m:List Bt):ls g (l++m)=ls g l+ls g m:=by induction l with| nil=>simp[ls]| cons t l ih=>simp only[D4,ls,ih];omega
theorem Aoj (val:Int->Az) (l:Bg):K1 val l=l.Q+ls (λv=>(val v).U) l.T:=by
 unfold K1;congr 1;have h:∀L:List Bt,(L.map λt=>t.C*(val t.v).U).sum=ls (λv=>(val v).U) L:=by intro L;induction L with| nil=>rfl| cons t L ih=>simp only[map_cons,sum_cons,ih,ls]
 exact h _
structure PX (x:Ck) (n k:Nat) (R:List An):Prop where
 cp:CP R
 mo:∀t∈R,Jy x t.M
 rb:∀t∈R,RB k t.C
 len:R.length<=n
theorem PX.can (h:PX x n k R) (b:n<=1000) (hk:k<=1048576):J5 x R := J5.of h.cp h.mo (λt d=>(h.rb t d).mono hk) (Nat.le_trans h.len b)
theorem Bdo:Oe (λa b:Bi=>a.v-b.v):=⟨λ_ h=>ω,λ_ _ _ d e=>ω,λ_ _ _ d e g=>ω⟩
theorem Bdp (d:∀f∈F,-1<=f.v/\f.v<=1000000000) (c:F.length<20):∃R,Aaf F=some R/\R.Perm F/\R.Pairwise (λa b=>a.v<=b.v):=by obtain⟨R,i,g,j⟩:=Aw3 (cmp:=W5) Bdo F (λx o y s=>by have:=d x o;have:=d y s;unfold W5;have w:Ac (x.v-y.v)=x.v-y.v:=ξ;rw[w]) c;refine⟨R,?_,g,j.imp λ{a b} h=>ω⟩;unfold Aaf;have e:Afm (F.length:Int) F=Ah9 W5 (F.length:Int) F:=rfl;rw[e,i,Ad,Lj g.length_eq.symm];rfl
theorem Aok {l m:List Bi} (h:l.Perm m):Cx data vars res l=Cx data vars res m:=by induction h with| nil=>rfl| cons a _ ih=>simp only[Cx,map_cons,sum_cons]at ih ⊢;omega| swap a b l=>simp only[Cx,map_cons,sum_cons];omega| trans _ _ d e=>exact d.trans e
theorem Aya {l m:List Nat} (h:l.Perm m):l.sum=m.sum:=by induction h with| nil=>rfl| cons a _ ih=>simp only[sum_cons,ih]| swap a b l=>simp only[sum_cons];omega| trans _ _ d e=>exact d.trans e
theorem N4.perm {l m:List Bi} (hp:l.Perm m) (h:N4 data vars res m):N4 data vars res l:=by refine⟨λf hf=>h.fac f (hp.mem_iff.1 hf),?_,by rw[Aok hp];exact h.sum⟩;rw[Aya (hp.map λf=>Bw f.I)];exact h.siz
structure V5 (data:List Aj) (vars:List Af) (res:Af) (c:Rat) (F:List Bi) (A:List Bh) (K:Nat) (out:List An):Prop where
 ex:∃Fs FE S gs,Fs.Perm F/\Ri data vars res Fs FE/\S.Perm A/\Ade S/\Gs gs S/\Fv K out (Rg (FE.map (K7 c)) gs)
 len:out.length<=10 ^ (Cx data vars res F).toNat*2 ^ Dn A
theorem Bdq (hz:DSz data) (hv:H9 data) (hx:Ox data vars res) (M:∀v t,D3 vars res v=some t->G4 data t=true) {c:Ao} (H:RB K c) (hK:K<20000000000) (h0:rq c≠0) (E:N4 data vars res F) (B:Atk A) (hs:Cx data vars res F+(Dn A:Nat)<=6) {b1:List (ByteArray×Int)} {b2:List (ByteArray×List Ax)} (m1:E4 data vars res b1) (m2:PMg data vars res b2) : ∃out e q k,R6 c ⟨F,A⟩ b1 b2 data vars res.G res.U res.R=some (out,e,q,k)/\E4 data vars res q/\PMg data vars res k/\((e=9/\out = []/\Tl F)\/(e=0/\V5 data vars res (rq c) F A (K+3636) out)):=by
 have a7:=L3 (data:=data) (vars:=vars) (res:=res) (l:=F) λf o=>(E.fac f o).2.2;have a6:=E.sum;have hT:∀b∈A,b.L.T.length<1099511627776:=λb Q=>by have:=(V2 (B.lin b Q)).1;omega
 have U:=B.len;have R:=B.sum;obtain⟨S,s1,j,Y⟩:=Bas A hT ω;have g:Atk S:=⟨λa T=>B.deg a (j.mem_iff.1 T),λa T=>B.lin a (j.mem_iff.1 T),by rw[Ant j];exact R,by rw[j.length_eq];exact U⟩;obtain⟨G,f1,f2,f3⟩:=Bdp (F:=F) (λf o=>by obtain⟨t,d,C,_⟩:=Adu (E.fac f o).2.2;have:=Ame vars res f.v;rw[C]at this;have:=of_decide_eq_true this.symm;have:=hx.nv;omega) ω;have x:=E.perm f2;have s:N0 (rq c)≠0:=by
  unfold N0;split
  .decide
  .split
   .decide
   .rename_i C h2;exact (h0 (by grind)).elim
 have N:Aag A=some ([],A):=by unfold Aag Lc;rw[Dl ζ];rfl
 have h:Aae F=some ([],F):=by unfold Aae Lc;rw[Dl ζ];rfl
 have i:=f2.length_eq;obtain⟨z,X,z2⟩:=Bc3 hz hv hx M (c:=rq c) G.length G [] [⟨c,⟨[],[]⟩⟩] [([],1)] K b1 b2 (Nat.le_refl _) f3 (λf o=>by cases o) x (.cons rfl (by show rq c=rq c*((1:Nat):Rat);grind) H (by simp[K7]) .nil) (Ri.nil _ _ _) (λp hp=>by simp only[D5]at hp;subst hp;simp) ω m1 m2;rcases z2 with⟨q,k,wt,rfl,L,J⟩|⟨ts,V,q,k,rfl,L,J,Z,I⟩
 .refine⟨[],9,q,k,?_,L,J,.inl ⟨rfl,rfl,wt.perm f2⟩⟩;unfold R6;rw[(Ahp H ω).1,Ad,Cu s,Ap,h,Ad];dsimp only;rw[f1,Ad,Lj i.symm,Ad];exact bnd X rfl
 .rw[nil_append]at I;have u:=I.len;rw[Aok f2]at u;have a1:0<=Cx data vars res F:=ω;have y:(V.map (K7 (rq c))).length*2 ^ Dn S<=10 ^ (Cx data vars res F).toNat*2 ^ Dn A:=(by rw[C5,Ant j];exact Nat.mul_le_mul_right _ u);have D:10 ^ (Cx data vars res F).toNat*2 ^ Dn A<=1000000:=(by have C:2 ^ Dn A<=10 ^ Dn A:=Nat.pow_le_pow_left δ _;have h2:=Nat.mul_le_mul_left (10 ^ (Cx data vars res F).toNat) C;rw[<-Nat.pow_add]at h2;exact Nat.le_trans h2 (Ait ω));obtain⟨gs,out,g1,g2,g3,g4⟩:=Bcv S.length S ts (V.map (K7 (rq c))) (K+202*G.length) 0 (Nat.le_refl _) Y g Z (λb Q=>by obtain⟨p,_,rfl⟩:=mem_map.1 Q;simp[K7]) (by have:=g.len;omega) (by have:=g.len;omega) (Nat.le_trans y D);refine⟨out,0,q,k,?_,L,J,.inr ⟨rfl,⟨G,V,S,gs,f2,I,j,Y,g2,g3.mono (by have:=g.len;omega)⟩,Nat.le_trans g4 y⟩⟩;unfold R6;rw[(Ahp H ω).1,Ad,Cu s,Ap,h,Ad];dsimp only;rw[f1,Ad,Lj i.symm,Ad];refine bnd X ?_;dsimp only;rw[N,Ad];dsimp only;rw[s1,Ad,Lj j.length_eq.symm,Ad];exact bnd g1 rfl
def I6 (χ:Bi->Nat) (v:Bg->Nat):List Hm->Nat
 | []=>0
 | b::bs=>D1 (b.1.1.map χ)*(b.2.2*Gm v b.2.1)+I6 χ v bs
theorem Bdr (χ:Bi->Nat) (v:Bg->Nat) (B C:List Hm):I6 χ v (B++C)=I6 χ v B+I6 χ v C:=by induction B with| nil=>simp[I6]| cons b B ih=>simp only[D4,I6,ih,Nat.add_assoc]
theorem Bds (χ:Bi->Nat) (v:Bg->Nat) (l:Bg) (k c:Nat) (B:List Hm):I6 χ v (B.map (Tk l k c))=I6 χ v B*(c*bc (v l) k):=by
 have d:Gm v (atO l k)=bc (v l) k:=by
  unfold atO;by_cases h:k=0
  .subst h;rw[Au rfl,J6];rfl
  .rw[Ar h];simp[Gm]
 induction B with
 | nil=>simp[I6]
 | cons b B ih=>
  simp only[map_cons,I6,ih,Tk,Ady,d];rw[Nat.add_mul];congr 1
  ac_rfl
theorem Ayb (χ:Bi->Nat) (v:Bg->Nat) (B:List Hm) (l:Bg) (f:Nat->Nat):∀n,I6 χ v (K6 B l f n)=I6 χ v B*sm n λk=>f k*bc (v l) k
 | 0=>by simp[K6,I6,sm]
 | n+1=>by
  rw[Air,Bdr,Ayb χ v B l f n];show _=I6 χ v B*(sm n (λk=>f k*bc (v l) k)+f n*bc (v l) n);rw[Nat.mul_add];congr 1;by_cases h:f n=0
  .rw[Au h,h];simp[I6]
  .rw[Ar h,Bds]
theorem Gs.valG (hv:Rj v):∀{b:List Grp} {A:List Bh},Gs b A->∀B,I6 χ v (Rg B b)=I6 χ v B*Gm v A:=by
 intro b A h;induction h with
 | nil=>intro B;simp[Rg,Gm]
 | @cons l N f g rest b c d j i k ih=>
  intro B;show I6 χ v (Rg (K6 B l f (N+1)) b)=_;rw[ih,Ayb,Ady,Aof d,<-Nat.mul_assoc];congr 2;rcases i with⟨_,_,_,h3⟩|⟨h1,h2,h3⟩
  .exact h3 (v l)
  .subst h2;rw[hv l h1];simp[sm,J6,h3]
theorem Ayc (χ:Bi->Nat) (v:Bg->Nat) (c:Rat):∀b:List N3,I6 χ v (b.map (K7 c))=pv (λF=>D1 (F.map χ)) b
 | []=>rfl
 | p::b=>by rw[map_cons,I6,Ayc χ v c b,pv];show D1 (p.1.map χ)*(p.2*1)+_=_;rw[Nat.mul_one,Nat.mul_comm]
def Hz (χ:Bi->Nat) (v:Bg->Nat):List An->Rat
 | []=>0
 | t::p=>rq t.C*((D1 (t.M.F.map χ)*Gm v t.M.A:Nat):Rat)+Hz χ v p
theorem Ayd (χ:Bi->Nat) (v:Bg->Nat):∀p q:List An,Hz χ v (p++q)=Hz χ v p+Hz χ v q
 | [],q=>by simp only[nil_append,Hz];grind
 | t::p,q=>by simp only[D4,Hz,Ayd χ v p q];grind
theorem Fv.polX {c:Rat} {bs:List Hm} (h:Fv K ts bs) (hc:∀b∈bs,b.1.2=c):Go.Ab.Hz χ v ts=c*(I6 χ v bs:Rat):=by induction h with| nil=>simp only[Go.Ab.Hz,I6];grind| @cons t b ts bs e g i j _ ih=>have hb:=hc b ψ;simp only[Go.Ab.Hz,I6,ih λd hd=>hc d (by simp[hd]),e,g,hb,Rat.natCast_add,Rat.natCast_mul];grind
theorem Bdt {l m:List Nat} (h:l.Perm m):D1 l=D1 m:=by induction h with| nil=>rfl| cons a _ ih=>simp only[D1,ih]| swap a b l=>simp only[D1];ac_rfl| trans _ _ d e=>exact d.trans e
theorem V5.val {c:Rat} {f:List An} (h:V5 data vars res c F A K f) (i:V4 data vars res χ F) (hv:Rj v):Hz χ v f=c*((D1 (F.map χ)*Gm v A:Nat):Rat):=by obtain⟨q,s,S,gs,h1,h2,h3,y,k,j⟩:=h.ex;rw[j.polX (c:=c) λb hb=>by obtain⟨l,d,e,_⟩:=Aoa gs hb;obtain⟨p,_,rfl⟩:=mem_map.1 d;rw[e];rfl];rw[k.valG hv,Ayc,h2.val χ λg o=>i g (h1.mem_iff.1 o),Ax8 v h3,Bdt (h1.map χ)]
theorem Bdu {l:Bg} {f:Nat->Nat} {b:Ent} (hb:b∈I5 B l f n):∃c∈B,∀a∈b.1,a∈c.1\/a.L=l:=by
 unfold I5 at hb;rw[mem_flatMap]at hb;obtain⟨k,_,g⟩:=hb;split at g
 .cases g
 .obtain⟨d,h,rfl⟩:=mem_map.1 g;refine⟨d,h,λa e=>?_⟩;rcases En.1 e with e|e
  .exact .inl e
  .unfold atO at e;split at e
   .cases e
   .simp only[D5]at e;right;rw[e]
theorem Bdv {j:List Grp} (h:Gs j A):∀(B:List Ent) (b:Ent),b∈N2 B j->∃q∈B,∀a∈b.1,a∈q.1\/∃c∈A,a.L=c.L:=by
 induction h with
 | nil=>intro B b d;exact⟨b,d,λa e=>.inl e⟩
 | @cons l N f g o j k C s u x ih=>
  intro B b d;obtain⟨I,D,E⟩:=ih _ b (show b∈N2 (I5 B l f (N+1)) j from d);obtain⟨q,d1,d2⟩:=Bdu D;obtain⟨y,i⟩:∃a,a∈g:=(by cases g with| nil=>exact (k rfl).elim| cons a _=>exact⟨a,ψ⟩);refine⟨q,d1,λa e=>?_⟩;rcases E a e with h|⟨c,G,H⟩
  .rcases d2 a h with h|h
   .exact .inl h
   .exact .inr ⟨y,by simp[i],by rw[h,C y i]⟩
  .exact .inr ⟨c,by simp[G],H⟩
theorem V5.mono {c:Rat} {i:List An} (h:V5 data vars res c F A K i) (B:∀a∈A,D0 a.L=true/\I3 vars res a.L=true):∀t∈i,RB K t.C/\(∃n:Nat,rq t.C=c*(n:Rat))/\(∀f∈t.M.F,Ee f.v/\iR f.I/\Bw f.I<=(F.map λf=>Bw f.I).sum/\1<=Eg data vars res f)/\t.M.F.Pairwise (λa b=>a.v<b.v)/\Cx data vars res t.M.F<=Cx data vars res F/\Adw vars res t.M.A/\Eo t.M.A<=(Dn A:Nat)/\(∀f∈t.M.F,∃g∈F,g.v=f.v)/\∀a∈t.M.A,∃c∈A,a.L=c.L:=by
 obtain⟨N,R,S,gs,h1,h2,h3,T,l,k⟩:=h.ex;intro t e;obtain⟨b,o,C,L,J⟩:=k.mem e;obtain⟨M,c1,c2,c3⟩:=Aoa gs o;obtain⟨p,j,rfl⟩:=mem_map.1 c1;obtain⟨H,Q⟩:=Bc5 (vars:=vars) (res:=res) l (λa ha=>B a (h3.mem_iff.1 ha)) [(K7 c p).2] 0 (λd hd=>by simp only[D5]at hd;subst hd;exact⟨⟨Pairwise.nil,λ_ h=>by cases h⟩,by simp[Eo,K7],λ_ h=>by cases h⟩) b.2 c3;rw[Ant h3]at Q;have G:b.1.1=p.1:=by rw[c2];rfl
 have E:b.1.2=c:=by rw[c2];rfl
 rw[C];dsimp only;rw[G];refine⟨J,⟨b.2.2,by rw[L,E]⟩,λf hf=>?_,h2.asc p j,by have:=h2.sum p j;rw[Aok h1]at this;exact this,H,ω,λf hf=>?_,λa ha=>?_⟩
 .obtain⟨z,y,x,u,_⟩:=h2.fac p j f hf;exact⟨z,y,by rw[<-Aya (h1.map λf=>Bw f.I)];exact x,u⟩
 .obtain⟨_,_,_,_,g,s,q⟩:=h2.fac p j f hf;exact⟨g,h1.mem_iff.1 s,q⟩
 .obtain⟨d,d1,d2⟩:=Bdv l _ _ c3;simp only[D5]at d1;subst d1;rcases d2 a ha with h|⟨I,k,D⟩
  .cases h
  .exact⟨I,h3.mem_iff.1 k,D⟩
theorem Bdw {c:Ao} (j:RB K a) (o:RB k c) (h:rq a=rq c*(n:Rat)) (h0:rq c≠0):Bs n<=K+k+2:=by
 have g:=j.nv;have E:=o.dv;have e:rq c*(n:Rat)=mkRat (sg (sv c) (nv c)*(n:Int)) (dv c):=by unfold rq;rw[show ((n:Nat):Rat)=mkRat (n:Int) 1 from (Adg (n:Int)).symm,Rat.mkRat_mul_mkRat,Nat.mul_one]
 rw[e]at h;unfold rq at h;rw[Rat.mkRat_eq_iff (F2 a) (F2 c)]at h;have b:nv c≠0:=λy=>h0 ((A8p c).2 y);have d:=congrArg Int.natAbs h;have f:∀(s:Bool) (m:Nat),(sg s m).natAbs=m:=λs m=>by unfold sg;split <;> omega
 rw[Int.natAbs_mul,Int.natAbs_mul,Int.natAbs_mul,f,f,Int.natAbs_natCast,Int.natAbs_natCast,Int.natAbs_natCast]at d;have C:n<=nv a*dv c:=by rw[d];have d0:=Nat.pos_of_ne_zero (F2 a);have D:=Nat.pos_of_ne_zero b;have i:n<=nv c*n:=Nat.le_mul_of_pos_left _ D;exact Nat.le_trans i (Nat.le_mul_of_pos_right _ d0)
 have i:=Ja C;have G:=H5 (nv a) (dv c);omega
theorem Bdx {x c:Ao} {j:Nat} (e:G9 x) (i:RB j a) (o:RB k c) (b:Bs n<=L) (g:1<=L) (h:rq x=rq a+rq c*(n:Rat)) (C:j<10000000000) (D:k<10000000000) (f:L<10000000000):RB (j+k+L+5) x:=by obtain⟨m,E,s,G,y⟩:=Tb o (O0 b g) ω ω;obtain⟨d,d1,_,d3,d4,d5⟩:=Acx i s ω ω;have:x=d:=Ams e d4 (by rw[h,d5,y,Vz]);rw[this];exact d3.mono ω
def Tm (k0:Nat) (c:Ao) (N B:Nat) (t:An):Prop:=RB B t.C/\∃(a:Ao) (n:Nat),RB k0 a/\rq t.C=rq a+rq c*(n:Rat)/\n<=N
theorem Bdy {k0:Nat} (hP:∀m,P m->CMo m) {c:Ao} (hc:RB k c) (a1:rq c≠0) (l ts:List An) (y:Col k0 P ts) (hl:∀t∈l,RB K t.C/\P t.M/\∃n:Nat,rq t.C=rq c*(n:Rat)) (ab:k0<=2000000000) (hK:K<=2000000000) (hk:k<=2000000000) (aa:l.length<=1000000) (hn:ts.length<=1099511627776) : ∃f,Ue l (plc ts) ts=some (plc f,f)/\Col (max k0 K+k+(K+k+10)) P f/\f.length<=ts.length+l.length/\∀m,cf f m=cf ts m+cf l m:=by
 have J:∀t∈l,∀n:Nat,rq t.C=rq c*(n:Rat)->n<1000000000 ^ (K+k+2):=λt o n h=>by have T:=Bdw (hl t o).1 hc h a1;exact Nat.lt_of_lt_of_le (Ou n) (Nat.pow_le_pow_right δ T)
 have a6:∀N,N<=1000000*1000000000 ^ (K+k+2)->Bs N<=K+k+3:=λN h=>by refine Kk (Nat.lt_of_le_of_lt h ?_);rw[show K+k+3=(K+k+2)+1 by omega,Nat.pow_succ];have a0:∀X:Nat,0<X->1000000*X<X*1000000000:=λX h=>ω;exact a0 (1000000000 ^ (K+k+2)) (Nat.pow_pos (show 0<1000000000 by decide))
 have hB:∀(N:Nat) (x a:Ao),N<=1000000*1000000000 ^ (K+k+2)->G9 x->RB (max k0 K) a->rq x=rq a+rq c*(N:Rat)->RB (max k0 K+k+(K+k+10)) x:=λN x a T h2 h3 h4=>by have h5:=Bdx h2 h3 hc (a6 N T) ω h4 ω ω ω;exact h5.mono ω
 unfold Ue;refine Ab2 (A:=List An) (λf=>(plc f,f)) ?_;refine Ej (λs=>∃(j:Nat) (u:List An),s=((j:Int),plc u,u)/\j<=l.length/\Dst u/\(∀t∈u,P t.M)/\(∀t∈u,Tm (max k0 K) c (j*1000000000 ^ (K+k+2)) (max k0 K+k+(K+k+10)) t)/\u.length<=ts.length+j/\∀m,cf u m=cf ts m+cf (l.take j) m) (λs=>l.length-s.1.toNat) (λz=>∃u,z=(plc u,u)/\Col (max k0 K+k+(K+k+10)) P u/\u.length<=ts.length+l.length/\∀m,cf u m=cf ts m+cf l m) ⟨0,ts,rfl,ω,y.dst,y.mo,λt o=>⟨(y.tb t o).mono ω,t.C,0,(y.tb t o).mono ω,by rw[show ((0:Nat):Rat)=0 from rfl];grind,ω⟩,ω,λm=>by simp only[take_zero,cf];grind⟩ ?_ ?_
 .rintro _ ⟨j,u,rfl,hj,hu,B,L,Y,hv⟩;rcases Cf j l.length with h|h
  .have H:l[j]? = some l[j]:=Bq h;generalize l[j]=x at H;obtain⟨Q,hm,n,I⟩:=hl x (Bz H);have a8:=J x (Bz H) n I;have ad:(j+1)*1000000000 ^ (K+k+2)=j*1000000000 ^ (K+k+2)+1000000000 ^ (K+k+2):=(by rw[Nat.add_mul,Nat.one_mul]);have ac:(j+1)*1000000000 ^ (K+k+2)<=1000000*1000000000 ^ (K+k+2):=Nat.mul_le_mul_right _ ω;simp only[As (ω:(j:Int)<(l.length:Int)),Ak,Br rfl H,Ad,A8z (hP _ hm),C6 h ω];left;by_cases C:∃t∈u,t.M=x.M
   .obtain⟨t,o,he⟩:=C;obtain⟨i,hi⟩:=Hu o;obtain⟨g1,g2⟩:=A83 hu hi;rw[he]at g1 g2;obtain⟨tb,a,V,G,M,a7⟩:=L t o;obtain⟨E,c1,_,c3,c4,c5⟩:=Acx tb Q ω ω;have D:rq E=rq a+rq c*((V+n:Nat):Rat):=(by rw[c5,M,I,Rat.natCast_add];grind);have Z:=hB (V+n) E a ω c4 G D;refine⟨((j+1:Nat),plc (u.set i ⟨E,t.M⟩),u.set i ⟨E,t.M⟩),?_,⟨j+1,u.set i ⟨E,t.M⟩,rfl,ω,hu.set hi rfl,?_,?_,by rw[length_set];omega,λm=>?_⟩,ζ⟩
    .simp only[g1,g2,Ak,Ad,Br rfl hi,c1,He rfl,A81 (u:=⟨E,t.M⟩) hi rfl]
    .intro w d;rcases mem_or_eq_of_mem_set d with d|rfl
     .exact B w d
     .exact B t o
    .intro w d;rcases mem_or_eq_of_mem_set d with d|rfl
     .obtain⟨U,b,q,S,R,q4⟩:=L w d;exact⟨U,b,q,S,R,ω⟩
     .exact⟨Z,a,V+n,G,D,ω⟩
    .rw[Av3 (u:=⟨E,t.M⟩) hi rfl m,hv m,Cz H,Ahs,Vt];simp only[c5,he,cf];split <;> grind
   .have g:=A82 (m:=x.M) (ts:=u) λt o e=>C ⟨t,o,e⟩;refine⟨((j+1:Nat),plc (u++[x]),u++[x]),?_,⟨j+1,u++[x],rfl,ω,?_,?_,?_,ζ,λm=>?_⟩,ζ⟩
    .simp only[g,Ap,Ad];rw[Dl ζ,Ad,Am9 _ _ _ g,A80]
    .refine pairwise_append.2 ⟨hu,pairwise_singleton _ _,λa ha b Q=>?_⟩;simp only[D5]at Q;subst Q;exact λe=>C ⟨a,ha,e⟩
    .intro w d;rcases En.1 d with d|d
     .exact B w d
     .simp only[D5]at d;subst d;exact hm
    .intro w d;rcases En.1 d with d|d
     .obtain⟨U,b,q,S,R,q4⟩:=L w d;exact⟨U,b,q,S,R,ω⟩
     .simp only[D5]at d;subst d;exact⟨Q.mono ω,w.C,0,Q.mono ω,by rw[show ((0:Nat):Rat)=0 from rfl];grind,ω⟩
    .rw[Ahs,hv m,Cz H,Ahs];grind
  .have:j=l.length:=ω;subst this;rw[Db]at hv;simp only[Aw (ω:¬(l.length:Int)<(l.length:Int)),Ap];exact .inr ⟨_,rfl,u,rfl,⟨hu,λt o=>(L t o).1,B⟩,Y,hv⟩
 .rintro _ ⟨u,rfl,T,h2,h3⟩;exact⟨_,rfl,u,rfl,T,h2,h3⟩
def lim (R:List An):List An×Int:=if 1000<R.length then ([],9) else (R,0)
theorem Bdz (h:R.length<=1000):lim R=(R,0):=Ar ω
theorem Bd0 (h:1000<R.length):lim R=([],9):=Au h
theorem Bd1 (q:∀m,P m->CMo m) (o:List (ByteArray×Int)) (ts:List An) (h:Col k P ts) (G:k<34359738000) (B:ts.length<=4000000000) : ∃R,R7 o ts=some (lim R)/\CP R/\(∀m,cf R m=cf ts m)/\∀t∈R,P t.M/\RB (k+1) t.C:=by
 have z:(ts.filter nzT).length<=ts.length:=length_filter_le _ _;have g:∀{X:Option (List An×Int)},(bif (((ts.filter nzT).length:Nat):Int)>(1000:Int) then (some ([],9)) else ((Qm (ts.filter nzT)).bind λf=> (F6 (ts.filter nzT).length f).bind λI=> (W8 f).bind λD=> some (D,0)))=X->R7 o ts=X:=λ{X} A=>by
  unfold R7;refine bnd (a:=ts.filter nzT) ?_ A;rw[<-Option.bind_fun_some (Am _ _)];refine Gd ts (λj=>((j:Int),(ts.take j).filter nzT)) rfl ω ?_ ?_
  .intro j x Q H E J M;have N:=h.tb x (Bz H);have l:((ts.take j).filter nzT).length<=ts.length:=Nat.le_trans (length_filter_le _ _) (by rw[length_take];omega);simp only[E,J,M,Ak,Ad,(Ahp N G).1,A9i];rw[Av5 H];by_cases e:rq x.C=0
   .have:nzT x=false:=(by simp[nzT,e]);rw[Aw (by simpa using e),this];simp
   .have:nzT x=true:=(by simp[nzT,e]);rw[As e,this];simp only[Ak];rw[Dl ζ];simp
  .intro E;exact⟨ts.filter nzT,by simp only[E,Ap,Db],rfl⟩
 obtain⟨S,y,c,s⟩:=Baa (ts.filter nzT) (Pairwise.filter _ h.dst) λt d=>(q _ (h.mo t (mem_filter.1 d).1)).sz;have b:∀t∈S,t∈ts/\rq t.C≠0:=by intro t d;have:=mem_filter.1 (c.mem_iff.1 d);exact⟨this.1,by simpa[nzT] using this.2⟩
 refine⟨S.map clT,g ?_,⟨?_,?_⟩,?_,?_⟩
 .by_cases i:1000<(ts.filter nzT).length
  .rw[As ω,Ak,Bd0 (by rw[C5,c.length_eq];exact i)]
  .rw[Aw ω,Ap,y,Ad,Lj c.length_eq.symm,Ad,
    A9e (k:=k) S G (λt d=>⟨h.tb t (b t d).1,(q _ (h.mo t (b t d).1)).sz⟩) (by rw[c.length_eq];omega),Bdz (by rw[C5,c.length_eq];omega)];rfl
 .rw[pairwise_map];exact s
 .intro t d;obtain⟨u,C,rfl⟩:=mem_map.1 d;refine⟨P7 _ _ _ (F2 _),?_⟩;show rq (Cg _ _ _)≠0;rw[Nz _ _ _ (F2 _)];exact (b u C).2
 .intro m;rw[A9f,A9g c,A9h]
 .intro t d;obtain⟨u,C,rfl⟩:=mem_map.1 d;exact⟨h.mo u (b u C).1,Aut (h.tb u (b u C).1)⟩
def mX (χ:Bi->Nat) (v:Bg->Nat) (m:A7):Nat:=D1 (m.F.map χ)*Gm v m.A
theorem Bd2 (χ:Bi->Nat) (v:Bg->Nat) (p:List An):K4 (mX χ v) (p.map wT)=Hz χ v p:=by induction p with| nil=>rfl| cons t p ih=>simp only[map_cons,K4,Hz,ih,wT];rfl
theorem Bd3 (χ:Bi->Nat) (v:Bg->Nat) (p:List An):K4 (mX χ v) (p.map nT) = - Hz χ v p:=by induction p with| nil=>show (0:Rat) = - 0;grind| cons t p ih=>simp only[map_cons,K4,Hz,ih,nT];show-rq t.C*((D1 (t.M.F.map χ)*Gm v t.M.A:Nat):Rat)+_=_;grind
theorem Aye (h:∀m,cf q m<=cf p m):Hz χ v q<=Hz χ v p:=by have:=Bbg (mX χ v) _ (p.map wT++q.map nT) (Nat.le_refl _) (λm=>by rw[Bbj,Bbh,Bbi];have:=h m;grind);rw[Bbk,Bd2,Bd3]at this;grind
theorem Ayf (h:∀m,cf q m=cf p m):Hz χ v q=Hz χ v p := Rat.le_antisymm (Aye λm=>by rw[h m];exact Rat.le_refl) (Aye λm=>by rw[h m];exact Rat.le_refl)
theorem Aol {x:Ck} (val:Int->Az):∀p:List An,Mm x val p=Hz (Kp x val) (fv val) p
 | []=>rfl
 | t::p=>by simp only[Mm,Hz,Aol val p];have:Th x val t.M=D1 (t.M.F.map (Kp x val))*Gm (fv val) t.M.A:=Bdl x val t.M.F t.M.A;rw[this]
theorem Bd4 (h:∀f∈F,Ee f.v/\iR f.I/\Bw f.I<=1048576/\1<=Eg x.D x.V x.E f) (o:F.Pairwise λa b=>a.v<b.v) (G:Cx x.D x.V x.E F<=6):Jy x ⟨F,[]⟩:=by
 have g:=L3 (data:=x.D) (vars:=x.V) (res:=x.E) (l:=F) λf d=>(h f d).2.2.2;refine⟨?_,⟨by show F.length<=_;omega,ψ,λf d=>(h f d).2.2.1,λf d=>⟨(h f d).2.1,(h f d).1⟩,λa s=>by cases s⟩⟩;unfold Jw;have y:F.zipIdx.all (λq=>P5 x.D x.V x.E F q.1 q.2)=true:=by rw[Gt];rintro⟨a,j⟩ C;have i:F[j]? = some a:=mk_mem_zipIdx_iff_getElem?.1 C;have D:=(h a (Bz i)).2.2.2;show P5 x.D x.V x.E F a j=true;unfold P5;have hp:Ly (·.v) F a j=true:=(by unfold Ly;cases j with| zero=>rfl| succ j=>have g:=Ek i;have E:F[j]? = some F[j]:=Bq ω;have c:=pairwise_iff_getElem.1 o j (j+1) ω g ω;have e:F[j+1]=a:=(by have:=Bq g;rw[i]at this;exact (Eu this).symm);rw[e]at c;simp only[Nat.add_sub_cancel,E,Bool.or_eq_true];exact .inr (decide_eq_true c));rw[hp,As D];rfl
 show (F.zipIdx.all (λq=>P5 x.D x.V x.E F q.1 q.2)&&([]:List Bh).zipIdx.all _&&decide (Cx x.D x.V x.E F+Eo []<=6))=true;rw[y];have:Eo []=0:=rfl;rw[this,As ω];rfl
def Bd5 (x:Ck) (Z:Nat) (m:A7):Prop:=Jy x m/\∀f∈m.F,Bw f.I<=Z
def To (x:Ck) (Z:Nat) (W:Int->Prop) (m:A7):Prop:=Bd5 x Z m/\∀w∈Jz m,W w
variable {m m0:A7} {t:Af} {res:Az} {l:Bg} {a:Bh} {er:Bh->Int} {atm:Bh->Option (A7×Int)} {φ:Bi->A7} {x:Ck} {u v w:Int} {val2:Int->Az} {W:Int->Prop} {p:List An} {b:List Az} {ms:List Bg} {A:List Bh} {F:List Bi} {vars:List Int} {k:Nat} {α:Type}
theorem V6:w∈Jz m↔(∃f∈m.F,f.v=w)\/∃a∈m.A,w∈a.L.T.map (·.v):=by unfold Jz M9;rw[En,mem_map,mem_flatMap]
theorem V5.canZ {Z:Nat} {c:Rat} {K:Nat} {b:List An} (h:V5 x.D x.V x.E c F A K b) (j:∀w∈Jz ⟨F,A⟩,W w) (q:∀a∈A,D0 a.L=true/\I3 x.V x.E a.L=true) (B:Cx x.D x.V x.E F+(Dn A:Nat)<=6) (l:(F.map λf=>Bw f.I).sum<=Z) (k:Z<=400000):∀t∈b,RB K t.C/\To x Z W t.M/\∃n:Nat,rq t.C=c*(n:Rat):=by
 intro t d;obtain⟨h1,h2,h3,e,E,y,D,u,s⟩:=h.mono q t d;have i:=Bd4 (x:=x) (λf hf=>⟨(h3 f hf).1,(h3 f hf).2.1,by have:=(h3 f hf).2.2.1;omega,(h3 f hf).2.2.2⟩) e ω;have:=Bdk i y (by show Cx x.D x.V x.E t.M.F+Eo t.M.A<=6;omega);refine⟨h1,⟨⟨this,λf hf=>Nat.le_trans (h3 f hf).2.2.1 l⟩,λw o=>?_⟩,h2⟩;rcases V6.1 o with⟨f,f1,f2⟩|⟨a,C,G⟩
 .obtain⟨g,H,I⟩:=u f f1;exact j w (V6.2 (.inl ⟨g,H,by rw[I,f2]⟩))
 .obtain⟨z,c1,c2⟩:=s a C;exact j w (V6.2 (.inr ⟨z,c1,by rw[<-c2];exact G⟩))
theorem Bd6 (d:Ij x) (h:D3 x.V x.E v=some t):G4 x.D t=true:=by
 unfold D3 at h;split at h
 .cases h;exact d.2.2.1
 .exact Gt.1 d.2.2.2 t (Hg h).2.2.2
theorem Bd7 (data:List Aj):∀n:Nat,(∀(i:Ai) (t:Af) (w:Az),Bw i<=n->Dj data i t=some 0->bv data i t w=1)/\(∀(is:List Ai) (ts:List Af) (c:List Az),Ci is<=n->C4 data is ts=some 0->bvs data is ts c=1):=by
 intro n;induction n with
 | zero=>refine⟨λi t w h=>by have:=Ey i;omega,λis ts c h _=>?_⟩;have:=Px is;have:is = []:=Fr.1 ω;subst this;exact Tf _ _ _
 | succ n ih=>
  have o:∀(i:Ai) (t:Af) (w:Az),Bw i<=n+1->Dj data i t=some 0->bv data i t w=1:=by
   intro i t w C d;have G:=Ey i;rw[Q9];rw[Mi]at d;by_cases j:t.G=6
   .rw[Au j]at d ⊢;by_cases e:i.U=0
    .rw[Au e]at d;exact ih.2 i.K t.R w.K ω d
    .rw[Ar e]at d;cases d
   .rw[Ar j]at d ⊢;by_cases g:t.G=7
    .rw[Au g]at d ⊢;by_cases e:0<=i.U/\i.U<=6/\i.K.length=0
     .rw[Au e]at d;have d:=Eu d;rw[d,J6]
     .rw[Ar e]at d;cases d
    .rw[Ar g]at d ⊢;by_cases k:t.G=5
     .rw[Au k]at d ⊢;have d:F1 data i.K t=some 0:=by
       by_cases e:i.U=0
       .rw[Au e]at d;exact d
       .rw[Ar e]at d;cases d
      have l:=Vi data _ _ _ d;have:i.K = []:=Fr.1 ω;rw[this];rw[Axd _ _ _ _ rfl ψ,length_nil,take_zero,V3]
     .rw[Ar k]
  refine⟨o,?_⟩;intro is;induction is with
  | nil=>intro ts c _ _;exact Tf _ _ _
  | cons i is f=>
   intro ts c C d;cases ts with
   | nil=>simp only[C4]at d;cases d
   | cons t ts=>
    cases c with
    | nil=>simp only[bvs]
    | cons w c=>
     simp only[Ci]at C;rw[Nx]at d;cases s:Dj data i t with
     | none=>rw[s]at d;cases d
     | some a=>cases y:C4 data is ts with| none=>rw[s,y]at d;cases d| some b=>rw[s,y]at d;have d:a+b=0:=Eu d;have D:a=0:=ω;have E:b=0:=ω;subst D;subst E;rw[Te,o i t w ω s,f ts c ω y]
theorem Bd8 (h:∀f∈F,Jd x b res f.v=true):V4 x.D x.V x.E (Kp x (Du b res)) F:=by
 intro g o t j;have d:=h g o;unfold Jd at d;rw[j]at d;have d:M6 x.D (Du b res g.v) t=true:=d;unfold M6 at d;rw[Cv]at d;have e:∀i,Kp x (Du b res) ⟨g.v,i⟩=bv x.D i t (Du b res g.v):=λi=>by unfold Kp;rw[j]
 have c:(λi=>Kp x (Du b res) ⟨g.v,i⟩)=λi=>bv x.D i t (Du b res g.v):=funext e;exact⟨by rw[c];exact Bcn x.D t d.2,λi s _ _=>by rw[e];exact (Bd7 x.D (Bw i)).1 i t _ (Nat.le_refl _) s⟩
theorem Bd9:∀(k:Nat) (i:Ai) (a:Int),Bw i<=k->k<1099511627776->-1099511627776<=a->a<=1099511627776->∃r,Un k i a=some r/\(r.1=true->r.2=a-Bw i/\0<=r.2)/\r.2<=a/\-1<=r.2+1099511627776:=by
 intro k;induction k with
 | zero=>intro i a h;have:=Ey i;omega
 | succ k ih=>
  intro i a h N Q S;have E:=Ey i;have G:=Px i.K;have w:Ac (a-1)=a-1:=ξ;rw[Un,w];by_cases H:a-1<0
  .rw[As H];exact⟨_,rfl,nofun,by show a-1<=a;omega,by show -1<=a-1+1099511627776;omega⟩
  .rw[Aw H,Ap];have D:∀j,Ci (i.K.take j)<=Ci i.K:=λj=>by have:=Vk (i.K.take j) (i.K.drop j);rw[take_append_drop]at this;omega
   refine Ej (λs=>∃j:Nat,s.1=j/\j<=i.K.length/\s.2=a-1-Ci (i.K.take j)/\0<=s.2) (λs=>i.K.length-s.1.toNat) (λz=>(∃c,z = .inl (false,c)/\c<=a/\-1<=c+1099511627776)\/(∃c,z = .inr c/\c=a-1-Ci i.K/\0<=c)) ⟨0,rfl,ω,by simp[Ci],by show 0<=a-1;omega⟩ ?_ ?_
   .rintro⟨_,b⟩ ⟨j,rfl,T,e,f⟩;dsimp only at e f;rcases Cf j i.K.length with o|o
    .have d:i.K[j]? = some i.K[j]:=Bq o;generalize i.K[j]=x at d;have J:=Km (Bz d);obtain⟨⟨y,z⟩,B,A,u,q⟩:=ih x b ω ω ω ω;have I:Ci (i.K.take (j+1))=Ci (i.K.take j)+Bw x:=(by rw[Cz d,Vk];simp[Ci]);simp only[As (ω:(j:Int)<(i.K.length:Int)),Ak,Br rfl d,Ad,B,C6 o ω];cases y with| false=>exact .inr ⟨_,rfl,.inl ⟨z,rfl,by dsimp only at u;omega,q⟩⟩| true=>obtain⟨l,g⟩:=A rfl;exact .inl ⟨_,rfl,⟨j+1,rfl,ω,by dsimp only at l ⊢;rw[I];omega,g⟩,by simp only[Int.toNat_natCast];omega⟩
    .have:j=i.K.length:=ω;subst this;rw[Db]at e;exact .inr ⟨.inr b,ψ,.inr ⟨b,rfl,e,f⟩⟩
   .rintro z (⟨c,rfl,M,C⟩|⟨c,rfl,M,C⟩)
    .exact⟨_,rfl,nofun,M,C⟩
    .exact⟨_,rfl,λ_=>⟨by dsimp only;omega,C⟩,by dsimp only;omega,by dsimp only;omega⟩
theorem Bea (i:Ai) (h:Bw i<=1048576):∃b,Aac i=some b/\(b=true->Bw i<=40):=by unfold Aac;obtain⟨r,d,e,_⟩:=Bd9 4000000 i 40 ω ω ω ω;exact⟨r.1,by rw[d];rfl,λc=>by have:=e c;omega⟩
theorem Beb (m:A7) (i:MSz m):∃b,Z5 m=some b/\(b=true->∀f∈m.F,Bw f.I<=40):=by
 unfold Z5;by_cases s:(m.F.length:Int)>8
 .rw[As s];exact⟨false,rfl,λh=>by cases h⟩
 .rw[Aw s];by_cases y:(m.A.length:Int)>8
  .rw[As y];exact⟨false,rfl,λh=>by cases h⟩
  .rw[Aw y];simp only[Ap,Ad];refine Ej (λv=>∃j:Nat,v=j/\j<=m.F.length/\∀f∈m.F.take j,Bw f.I<=40) (λv=>m.F.length-v.toNat) (λz=>z = .inl false\/(z = .inr ()/\∀f∈m.F,Bw f.I<=40)) ⟨0,rfl,ω,ψ⟩ ?_ ?_
   .rintro v ⟨j,rfl,C,c⟩;rcases Cf j m.F.length with d|d
    .have e:m.F[j]? = some m.F[j]:=Bq d;generalize m.F[j]=x at e;obtain⟨b,D,g⟩:=Bea x.I (i.fi x (Bz e));simp only[As (ω:(j:Int)<(m.F.length:Int)),Ak,Br rfl e,Ad,D,C6 d ω];cases b with
     | false=>exact .inr ⟨_,rfl,.inl rfl⟩
     | true=>
      refine .inl ⟨_,rfl,⟨j+1,rfl,ω,λf o=>?_⟩,by simp only[Int.toNat_natCast];omega⟩;rw[Cz e]at o;rcases En.1 o with o|o
      .exact c f o
      .rw[D5]at o;subst o;exact g rfl
    .have:j=m.F.length:=ω;subst this;rw[Db]at c;exact .inr ⟨.inr (),ψ,.inr ⟨rfl,c⟩⟩
   .rintro z (rfl|⟨rfl,c⟩)
    .exact⟨false,rfl,λh=>by cases h⟩
    .dsimp only;refine Ej (λv=>∃j:Nat,v=j/\j<=m.A.length) (λv=>m.A.length-v.toNat) (λ_=>True) ⟨0,rfl,ω⟩ ?_ ?_
     .rintro v ⟨j,rfl,C⟩;rcases Cf j m.A.length with d|d
      .have e:m.A[j]? = some m.A[j]:=Bq d;generalize m.A[j]=x at e;simp only[As (ω:(j:Int)<(m.A.length:Int)),Ak,Br rfl e,Ad,Wu,C6 d ω];cases decide ((x.L.T.length:Int)<=70) with| true=>exact .inl ⟨_,rfl,⟨j+1,rfl,ω⟩,by simp only[Int.toNat_natCast];omega⟩| false=>exact .inr ⟨_,rfl,trivial⟩
      .have:j=m.A.length:=ω;subst this;exact .inr ⟨.inr (),ψ,trivial⟩
     .rintro (z|z) _
      .exact⟨_,rfl,λ_=>c⟩
      .exact⟨_,rfl,λ_=>c⟩
def Tp (t:An):Prop:=t.C.U.length<=8/\t.C.B.length<=8/\∀f∈t.M.F,Bw f.I<=40
theorem Bec (a:Ao):∃b,Z6 a=some b/\(b=true->a.U.length<=8/\a.B.length<=8):=by
 unfold Z6;by_cases h:(a.U.length:Int)<=8
 .rw[As h];exact⟨_,rfl,λd=>by rw[Dk]at d;omega⟩
 .rw[Aw h];exact⟨_,rfl,λd=>by cases d⟩
theorem Bed (p:List An) (q:p.length<=1048576) (hp:∀t∈p,TSz t):∃b,Zx p 10=some b/\(b=true->p.length<=10/\∀t∈p,Tp t):=by
 unfold Zx;refine Ej (λv=>∃j:Nat,v=j/\j<=p.length/\j<=11/\∀t∈p.take j,Tp t) (λv=>p.length-v.toNat) (λz=>z = .inl false\/(z = .inr ()/\(p.length<=10->∀t∈p,Tp t))) ⟨0,rfl,ω,ω,ψ⟩ ?_ ?_
 .rintro v ⟨j,rfl,D,i,f⟩;rcases Cf j p.length with o|o
  .by_cases l:j<=10
   .have e:p[j]? = some p[j]:=Bq o;generalize p[j]=x at e;obtain⟨b,s,k⟩:=Beb x.M (hp x (Bz e)).mo;simp only[As (ω:(j:Int)<(p.length:Int)),As (ω:(j:Int)<=10),Ak,Br rfl e,Ad,s,C6 o ω];cases b with
    | false=>exact .inr ⟨_,rfl,.inl rfl⟩
    | true=>
     simp only[Fz,Ap];obtain⟨c,y,g⟩:=Bec x.C;rw[y,Ad];cases c with
     | false=>exact .inr ⟨_,rfl,.inl rfl⟩
     | true=>
      refine .inl ⟨_,rfl,⟨j+1,rfl,ω,ω,λt d=>?_⟩,by simp only[Int.toNat_natCast];omega⟩;rw[Cz e]at d;rcases En.1 d with d|d
      .exact f t d
      .rw[D5]at d;subst d;exact⟨(g rfl).1,(g rfl).2,k rfl⟩
   .refine .inr ⟨.inr (),?_,.inr ⟨rfl,λh=>ω⟩⟩;simp only[As (ω:(j:Int)<(p.length:Int)),Aw (ω:¬(j:Int)<=10),Ak,Ap,Ad]
  .have:j=p.length:=ω;subst this;rw[Db]at f;exact .inr ⟨.inr (),ψ,.inr ⟨rfl,λ_=>f⟩⟩
 .rintro z (rfl|⟨rfl,C⟩)
  .exact⟨false,rfl,λh=>by cases h⟩
  .refine⟨decide ((p.length:Int)<=10),rfl,λh=>?_⟩;rw[Dk]at h;exact⟨ω,C ω⟩
theorem Bee (x:Ck) (y:CSz x) (ps:List (List An)) (l:ps.length<=1048576) (hp:∀p∈ps,p.length<=1048576/\∀t∈p,TSz t) : ∃b,Zr x ps=some b/\(b=true->∀p∈ps,p.length<=10/\∀t∈p,Tp t):=by
 unfold Zr;refine Ej (λv=>∃j:Nat,v=j/\j<=ps.length/\∀p∈ps.take j,p.length<=10/\∀t∈p,Tp t) (λv=>ps.length-v.toNat) (λz=>z = .inl false\/(z = .inr ()/\∀p∈ps,p.length<=10/\∀t∈p,Tp t)) ⟨0,rfl,ω,ψ⟩ ?_ ?_
 .rintro v ⟨j,rfl,C,c⟩;rcases Cf j ps.length with o|o
  .have e:ps[j]? = some ps[j]:=Bq o;generalize ps[j]=p at e;obtain⟨i,g⟩:=hp p (Bz e);obtain⟨b,s,k⟩:=Bed p i g;simp only[As (ω:(j:Int)<(ps.length:Int)),Ak,Br rfl e,Ad,s,C6 o ω];cases b with
   | false=>exact .inr ⟨_,rfl,.inl rfl⟩
   | true=>
    refine .inl ⟨_,rfl,⟨j+1,rfl,ω,λq d=>?_⟩,by simp only[Int.toNat_natCast];omega⟩;rw[Cz e]at d;rcases En.1 d with d|d
    .exact c q d
    .rw[D5]at d;subst d;exact k rfl
  .have:j=ps.length:=ω;subst this;rw[Db]at c;exact .inr ⟨.inr (),ψ,.inr ⟨rfl,c⟩⟩
 .rintro z (rfl|⟨rfl,f⟩)
  .exact⟨false,rfl,λh=>by cases h⟩
  .obtain⟨b,s⟩:=A98 x y;exact⟨b,by dsimp only;rw[s];rfl,λ_=>f⟩
def jn (l:List A7):A7:=⟨l.flatMap (·.F),l.flatMap (·.A)⟩
theorem Ayg (l:List A7) (m:A7):jn (l++[m])=⟨(jn l).F++m.F,(jn l).A++m.A⟩:=by unfold jn;simp
theorem Aix {S E:Type} {step:S->Option (S⊕E)} {a b:S} {e:E} (d:step a=some (.inl b)) (g:step b=some (.inr e)):Am step a=some e:=by rw[Lm d,Ga g]
theorem ltl (a:α):(0:Int)<(([a].length:Nat):Int):=by simp
theorem Aiy (a:α):¬(1:Int)<(([a].length:Nat):Int):=by simp
noncomputable def Adz (fac:Bi->Option (List A7)) (F:List Bi):Int×List A7->Option ((Int×List A7)⊕(Int×List A7)):=λ(f,g)=> bif f<(F.length:Int) then ((Ag F f).bind λs=> (fac s).bind λh=> (Am (S:=(Int×List A7)) (E:=(Int×List A7)) (λ(c,j)=> bif c<((g.length:Nat):Int) then ((Ag g c).bind λq=> (Am (S:=(Int×List A7)) (E:=(Int×List A7)) (λ(b,i)=> bif b<(h.length:Int) then ((Ag h b).bind λl=> (Oh q l).bind λk=> (B6 48 i [k]).bind λy=> some (.inl ((Ac (b+1)),y))) else (some (.inr (b,i)))) (0,j)).bind λ(_,x)=> some (.inl ((Ac (c+1)),x))) else (some (.inr (c,j)))) (0,[])).bind λ(_,u)=> some (.inl ((Ac (f+1)),u))) else (some (.inr (f,g)))
theorem Bef {fac:Bi->Option (List A7)} (o:∀f∈F,fac f=some [φ f]) (y:∀j,(jn ((F.take j).map φ)).F.length<=1000/\(jn ((F.take j).map φ)).A.length<=1000) (k:∀f∈F,(φ f).F.length<=1000/\(φ f).A.length<=1000) (x:F.length<=1000) : Am (Adz fac F) (0,[⟨[],[]⟩])=some ((F.length:Int),[jn (F.map φ)]):=by
 have g:Ac (0+1)=1:=by rw[Ac,B4] <;> omega
 obtain⟨e,l,rfl⟩:=Kf (step:=Adz fac F) (λs=>∃j:Nat,s=((j:Int),[jn ((F.take j).map φ)])/\j<=F.length) (λs=>F.length-s.1.toNat) (λe=>e=((F.length:Int),[jn (F.map φ)])) (by
  rintro _ ⟨j,rfl,C⟩;rcases Cf j F.length with h|h
  .left;have d:F[j]? = some F[j]:=Bq h;generalize F[j]=f at d;have i:=Bz d;obtain⟨u,q⟩:=k f i;obtain⟨D,E⟩:=y j;have c:Oh (jn ((F.take j).map φ)) (φ f)=some (jn ((F.take (j+1)).map φ)):=(by rw[Aic _ _ ω ω,Cz d,map_append,List.map_singleton,Ayg]);refine⟨(((j+1:Nat):Int),[jn ((F.take (j+1)).map φ)]),?_,⟨j+1,rfl,ω⟩,ζ⟩;unfold Adz;dsimp only;rw[As ω,Ak,Br rfl d,Ad,o f i,Ad];refine bnd (a:=((1:Int),[jn ((F.take (j+1)).map φ)])) (Aix (b:=((1:Int),[jn ((F.take (j+1)).map φ)])) ?_ ?_) (by dsimp only;rw[C6 h ω])
   .dsimp only;rw[As (ltl _),Ak,show Ag [jn ((F.take j).map φ)] 0=some (jn ((F.take j).map φ)) from rfl,Ad];refine bnd (a:=((1:Int),[jn ((F.take (j+1)).map φ)])) (Aix (b:=((1:Int),[jn ((F.take (j+1)).map φ)])) ?_ ?_) (by dsimp only;rw[g])
    .dsimp only;rw[As (ltl _),Ak,show Ag [φ f] 0=some (φ f) from rfl,Ad,c,Ad,Dl ψ,Ad,g];rfl
    .dsimp only;rw[Aw (Aiy _),Ap]
   .dsimp only;rw[Aw (Aiy _),Ap]
  .right;have:j=F.length:=ω;subst this;exact⟨((F.length:Int),[jn (F.map φ)]),by unfold Adz;simp only[Aw (ω:¬(F.length:Int)<(F.length:Int)),Ap];rw[Db],rfl⟩) (0,[⟨[],[]⟩]) ⟨0,by simp[jn],ω⟩;exact l
abbrev Aiz:Type:=(List An)×Int×List (ByteArray×Int)×List (ByteArray×List Ax)
noncomputable def Ad0 (atm:Bh->Option (A7×Int)) (A:List Bh) (q:List A7) (u:List (ByteArray×Int)) (s:List (ByteArray×List Ax)):Int×List A7->Option ((Int×List A7)⊕(Aiz⊕(Int×List A7))):=λ(c,h)=> bif c<(A.length:Int) then ((Ag A c).bind λk=> (atm k).bind λg=> bif (g.2 != (0:Int)) then (some (.inr (.inl ([],9,u,s)))) else ((Am (S:=(Int×List A7)) (E:=(Int×List A7)) (λ(b,f)=> bif b<((q.length:Nat):Int) then ((Ag f b).bind λj=> (Oh j g.1).bind λi=> (Ag f b).bind λx=> some (.inl ((Ac (b+1)),(Ct f b i)))) else (some (.inr (b,f)))) (0,h)).bind λ(_,l)=> some (.inl ((Ac (c+1)),l)))) else (some (.inr (.inr (c,h))))
structure RpO (x:Ck) (Z:Nat) (W:Int->Prop) (m:A7):Prop where
 fac:N4 x.D x.V x.E m.F
 atk:Atk m.A
 lin:∀a∈m.A,D0 a.L=true/\I3 x.V x.E a.L=true
 deg:Cx x.D x.V x.E m.F+(Dn m.A:Nat)<=6
 siz:(m.F.map λf=>Bw f.I).sum<=Z
 vr:∀w∈Jz m,W w
noncomputable def Y1 (x:Ck) (c:Ao) (s q:List A7):(Int×List (ByteArray×Int)×List (ByteArray×List Ax)×List (ByteArray×Int)×List An)->Option ((Int×List (ByteArray×Int)×List (ByteArray×List Ax)×List (ByteArray×Int)×List An)⊕(Aiz⊕(Int×List (ByteArray×Int)×List (ByteArray×List Ax)×List (ByteArray×Int)×List An))):=λ(f,k,j,i,h)=> bif f<((s.length:Nat):Int) then ((Ag q f).bind λl=> (R6 c l k j x.D x.V x.E.G x.E.U x.E.R).bind λb=> bif (b.2.1 != (0:Int)) then (some (.inr (.inl ([],b.2.1,b.2.2.1,b.2.2.2)))) else ((Ue b.1 i h).bind λg=> some (.inl ((Ac (f+1)),b.2.2.1,b.2.2.2,g.1,g.2)))) else (some (.inr (.inr (f,k,j,i,h))))
abbrev Ayh:Type:=Int×List (ByteArray×Int)×List (ByteArray×List Ax)×List (ByteArray×Int)×List An
noncomputable def Aom (x:Ck) (fac:Bi->Option (List A7)) (atm:Bh->Option (A7×Int)) (p:List An):Ayh->Option (Ayh⊕(Aiz⊕(List (ByteArray×Int)×List (ByteArray×List Ax)×List (ByteArray×Int)×List An))):=λ(c,h,g,j,i)=>
 bif c<(p.length:Int) then (
 (Ag p c).bind λb=>
 (Am (Adz fac b.M.F) (0,[(A7.mk [] [])])).bind λ(_,f)=>
 (Am (Ad0 atm b.M.A f h g) (0,f)).bind λz=>
 match z with
 | .inl (B,A,y,u)=>(
 some (.inr (.inl (B,A,y,u)))
 )
 | .inr (_,J)=>(
 (Am (Y1 x b.C f J) (0,h,g,j,i)).bind λz=>
 match z with
 | .inl (s,q,l,k)=>(
 some (.inr (.inl (s,q,l,k)))
 )
 | .inr (_,I,G,E,D)=>(
 some (.inl ((Ac (c+1)),I,G,E,D))
 )
 )
 )
 else (
 some (.inr (.inr (h,g,j,i)))
 )
noncomputable def Aon (x:Ck) (fac:Bi->Option (List A7)) (atm:Bh->Option (A7×Int)) (p:List An) (u:List (ByteArray×Int)) (s:List (ByteArray×List Ax)):Option Aiz := (W0).bind λq=> (Am (Aom x fac atm p) (0,u,s,q.1,q.2)).bind λz=> match z with
 | .inl (h,g,f,c)=>(some (h,g,f,c))
 | .inr (l,k,j,i)=>((R7 j i).bind λb=> some (b.1,b.2,l,k))
def rpM (φ:Bi->A7) (ψ:Bh->A7) (m:A7):A7:=jn (jn (m.F.map φ)::m.A.map ψ)
def rpS (φ:Bi->A7) (ψ:Bh->A7) (χ:Bi->Nat) (v:Bg->Nat):List An->Rat
 | []=>0
 | t::p=>rq t.C*(mX χ v (rpM φ ψ t.M):Rat)+rpS φ ψ χ v p
theorem Ayi (φ:Bi->A7) (ψ:Bh->A7) (χ:Bi->Nat) (v:Bg->Nat):∀p q:List An,rpS φ ψ χ v (p++q)=rpS φ ψ χ v p+rpS φ ψ χ v q
 | [],q=>by simp only[nil_append,rpS];grind
 | t::p,q=>by simp only[D4,rpS,Ayi φ ψ χ v p q];grind
theorem Aoo {φ:α->A7} {F:List α} (b:∀f∈F,(φ f).F.length<=1/\(φ f).A.length<=1) (c:F.length<=20):(jn (F.map φ)).F.length<=20/\(jn (F.map φ)).A.length<=20:=by unfold jn;dsimp only;rw[flatMap_map,flatMap_map];have e:=Yx (λf=>(φ f).F) 1 F λf d=>(b f d).1;have g:=Yx (λf=>(φ f).A) 1 F λf d=>(b f d).2;omega
theorem Beg {ψ:Bh->A7} (E:∀a∈A,atm a=some (ψ a,er a)) (G:∀j,(jn (m0::(A.take j).map ψ)).F.length<=1000/\(jn (m0::(A.take j).map ψ)).A.length<=1000) (q:∀a∈A,(ψ a).F.length<=1000/\(ψ a).A.length<=1000) (D:A.length<=1000) (f:List (ByteArray×Int)) (c:List (ByteArray×List Ax)) : ∃z,Am (Ad0 atm A [m0] f c) (0,[m0])=some z/\((z = .inl ([],9,f,c))\/(z = .inr ((A.length:Int),[jn (m0::A.map ψ)])/\∀a∈A,er a=0)):=by
 have l:Ac (0+1)=1:=by rw[Ac,B4] <;> omega
 obtain⟨e,x,u⟩:=Kf (step:=Ad0 atm A [m0] f c) (λs=>∃j:Nat,s=((j:Int),[jn (m0::(A.take j).map ψ)])/\j<=A.length/\∀a∈A.take j,er a=0) (λs=>A.length-s.1.toNat) (λe=>e = .inl ([],9,f,c)\/(e = .inr ((A.length:Int),[jn (m0::A.map ψ)])/\∀a∈A,er a=0)) (by
  rintro _ ⟨j,rfl,I,i⟩;rcases Cf j A.length with h|h
  .have o:A[j]? = some A[j]:=Bq h;generalize A[j]=a at o;have k:=Bz o;unfold Ad0;dsimp only;rw[As ω,Ak,Br rfl o,Ad,E a k,Ad];by_cases C:er a=0
   .left;obtain⟨B,y⟩:=q a k;obtain⟨J,M⟩:=G j;have g:Oh (jn (m0::(A.take j).map ψ)) (ψ a)=some (jn (m0::(A.take (j+1)).map ψ)):=(by rw[Aic _ _ ω ω,Cz o,map_append,List.map_singleton,<-D4,Ayg]);refine⟨(((j+1:Nat):Int),[jn (m0::(A.take (j+1)).map ψ)]),?_,⟨j+1,rfl,ω,λb d=>?_⟩,ζ⟩
    .rw[G1 C,Ap];refine bnd (a:=((1:Int),[jn (m0::(A.take (j+1)).map ψ)])) (Aix (b:=((1:Int),[jn (m0::(A.take (j+1)).map ψ)])) ?_ ?_) (by dsimp only;rw[C6 h ω])
     .dsimp only;have H:Ag [jn (m0::(A.take j).map ψ)] 0=some (jn (m0::(A.take j).map ψ)):=rfl;rw[As (ltl _),Ak,H,Ad,g,Ad,Ad,l];rfl
     .dsimp only;rw[Aw (Aiy _),Ap]
    .rw[Cz o]at d;rcases En.1 d with d|d
     .exact i b d
     .rw[D5]at d;rw[d];exact C
   .right;rw[F7 C,Ak];exact⟨_,rfl,.inl rfl⟩
  .right;have:j=A.length:=ω;subst this;rw[Db]at i;exact⟨.inr ((A.length:Int),[jn (m0::A.map ψ)]),by unfold Ad0;simp only[Aw (ω:¬(A.length:Int)<(A.length:Int)),Ap];rw[Db],.inr ⟨rfl,i⟩⟩) (0,[m0]) ⟨0,by simp[jn],ω,by simp⟩;exact⟨e,x,u⟩
theorem Beh (H:CSz x) (d:Ij x) {Z:Nat} (hk:k<=1000000) (V:Z<=400000) {c:Ao} (Q:RB k c) (h0:rq c≠0) (i:RpO x Z W m) {k0:Nat} (U:k+3638<=k0) (S:k0<=1000000000) {ts:List An} (u:Col k0 (To x Z W) ts) (R:ts.length<=4000000000) {I:List (ByteArray×Int)} {G:List (ByteArray×List Ax)} (A:E4 x.D x.V x.E I) (y:PMg x.D x.V x.E G) : ∃z,Am (Y1 x c [m0] [m]) (0,I,G,plc ts,ts)=some z/\((∃d1 d2,z = .inl ([],9,d1,d2))\/∃q j g,z = .inr ((1:Int),q,j,plc g,g)/\E4 x.D x.V x.E q/\PMg x.D x.V x.E j/\Col (k0+(3*k+3660)) (To x Z W) g/\g.length<=ts.length+1000000/\∀χ v,V4 x.D x.V x.E χ m.F->Rj v->Hz χ v g=Hz χ v ts+rq c*(mX χ v m:Rat)):=by
 have N:Ac (0+1)=1:=by rw[Ac,B4] <;> omega
 obtain⟨out,er,d1,d2,E,M,L,J⟩:=Bdq H.ds d.2.1 (d.ctx H) (λv t h=>Bd6 d h) (K:=k) Q ω h0 i.fac i.atk i.deg A y;rcases J with⟨rfl,rfl,_⟩|⟨rfl,D⟩
 .refine⟨_,Ga ?_,.inl ⟨d1,d2,rfl⟩⟩;unfold Y1;dsimp only;rw[As (ltl _),Ak,show Ag [m] 0=some m from rfl,Ad,E,Ad];rfl
 .have B:=D.canZ (W:=W) (λw e=>i.vr w e) i.lin i.deg i.siz V;have s:out.length<=1000000:=(by refine Nat.le_trans D.len ?_;have f0:=L3 (data:=x.D) (vars:=x.V) (res:=x.E) (l:=m.F) λf d=>(i.fac.fac f d).2.2;have hd:=i.deg;have C:2 ^ Dn m.A<=10 ^ Dn m.A:=Nat.pow_le_pow_left δ _;have o:=Nat.mul_le_mul_left (10 ^ (Cx x.D x.V x.E m.F).toNat) C;rw[<-Nat.pow_add]at o;exact Nat.le_trans o (Ait ω));obtain⟨T,t1,t2,t3,t4⟩:=Bdy (k0:=k0) (K:=k+3636) (k:=k) (P:=To x Z W) (λm h=>h.1.1.cmo) Q h0 out ts u (λw e=>B w e) ω ω ω s ω;refine⟨_,Aix (b:=((1:Int),d1,d2,plc T,T)) ?_ ?_,.inr ⟨d1,d2,T,rfl,M,L,⟨t2.dst,λw e=>(t2.tb w e).mono ω,t2.mo⟩,ω,λχ v C o=>?_⟩⟩
  .unfold Y1;dsimp only;rw[As (ltl _),Ak,show Ag [m] 0=some m from rfl,Ad,E,Ad];dsimp only;rw[G1 rfl,Ap,t1,Ad,N]
  .unfold Y1;dsimp only;rw[Aw (Aiy _),Ap]
  .have X:Hz χ v T=Hz χ v (ts++out):=Ayf λm=>by rw[t4,Ahs]
   rw[X,Ayd,D.val C o];unfold mX;rfl
structure Aop (x:Ck) (Z:Nat) (W:Int->Prop) (φ:Bi->A7) (ψ:Bh->A7) (er:Bh->Int) (p R:List An):Prop where
 ok:∀t∈p,∀a∈t.M.A,er a=0
 cp:CP R
 len:R.length<=1000
 tm:∀t∈R,To x Z W t.M/\RB 1000000 t.C
 vl:∀χ v,(∀t∈p,V4 x.D x.V x.E χ (rpM φ ψ t.M).F)->Rj v->Hz χ v R=rpS φ ψ χ v p
theorem Bei (hz:CSz x) (d:Ij x) {Z:Nat} (hk:k<=1000) (hZ:Z<=400000) {fac:Bi->Option (List A7)} {ψ:Bh->A7} (hp:J5 x p) (hc:∀t∈p,RB k t.C) (hl:p.length<=10) (B:∀t∈p,∀f∈t.M.F,fac f=some [φ f]) (D:∀t∈p,∀a∈t.M.A,atm a=some (ψ a,er a)) (M:∀t∈p,∀f∈t.M.F,(φ f).F.length<=1/\(φ f).A.length<=1) (Y:∀t∈p,∀a∈t.M.A,(ψ a).F.length<=1/\(ψ a).A.length<=1) (hm:∀t∈p,(∀a∈t.M.A,er a=0)->RpO x Z W (rpM φ ψ t.M)) {G:List (ByteArray×Int)} {E:List (ByteArray×List Ax)} (S:E4 x.D x.V x.E G) (N:PMg x.D x.V x.E E) : ∃R e q g,Aon x fac atm p G E=some (R,e,q,g)/\(e=0->Aop x Z W φ ψ er p R):=by
 obtain⟨e,e1,e2⟩:=Kf (step:=Aom x fac atm p) (λs=>∃(j:Nat) (q:List (ByteArray×Int)) (g:List (ByteArray×List Ax)) (c:List An),s=((j:Int),q,g,plc c,c)/\j<=p.length/\E4 x.D x.V x.E q/\PMg x.D x.V x.E g/\Col (k+3638+j*(3*k+3660)) (To x Z W) c/\c.length<=j*1000000/\(∀t∈p.take j,∀a∈t.M.A,er a=0)/\∀χ v,(∀t∈p,V4 x.D x.V x.E χ (rpM φ ψ t.M).F)->Rj v->Hz χ v c=rpS φ ψ χ v (p.take j)) (λs=>p.length-s.1.toNat) (λz=>(∃d1 d2,z = .inl ([],9,d1,d2))\/∃(q:List (ByteArray×Int)) (g:List (ByteArray×List Ax)) (c:List An),z = .inr (q,g,plc c,c)/\Col (k+3638+p.length*(3*k+3660)) (To x Z W) c/\c.length<=p.length*1000000/\(∀t∈p,∀a∈t.M.A,er a=0)/\∀χ v,(∀t∈p,V4 x.D x.V x.E χ (rpM φ ψ t.M).F)->Rj v->Hz χ v c=rpS φ ψ χ v p) (by
   rintro _ ⟨j,q,g,c,rfl,hj,g1,g2,g3,g4,g6,g5⟩;unfold Aom;dsimp only;rcases Cf j p.length with h|h
   .have Q:p[j]? = some p[j]:=Bq h;generalize p[j]=t at Q;have b:=Bz Q;have A:=(hp.mo t b).f;have lF:=L3 (data:=x.D) (vars:=x.V) (res:=x.E) (l:=t.M.F) A.fac;have lA:=A.as;have ld:=A.deg;unfold Adx at ld;have f0:=A.fsum0;have V:t.M.F.length<=20:=ω;have a8:t.M.A.length<=20:=ω;have k1:=Bef (B t b) (λi=>by have:=Aoo (φ:=φ) (F:=t.M.F.take i) (λf d=>M t b f (mem_of_mem_take d)) (by rw[length_take];omega);omega) (λf d=>by have:=M t b f d;omega) ω;have a7:=Aoo (M t b) V;obtain⟨z,k2,I⟩:=Beg (m0:=jn (t.M.F.map φ)) (D t b) (λi=>by
     have:=Aoo (φ:=ψ) (F:=t.M.A.take i) (λf d=>Y t b f (mem_of_mem_take d)) (by rw[length_take];omega);have e:∀(m:A7) (l:List A7),jn (m::l)=⟨m.F++(jn l).F,m.A++(jn l).A⟩:=λm l=>by unfold jn;simp
     rw[e];simp only[Ew];omega) (λa ha=>by have:=Y t b a ha;omega) ω q g
    rw[As ω,Ak,Br rfl Q,Ad,k1,Ad];dsimp only;rw[k2,Ad];rcases I with rfl|⟨rfl,I⟩
    .exact .inr ⟨_,rfl,.inl ⟨_,_,rfl⟩⟩
    have a1:(j+1)*(3*k+3660)=j*(3*k+3660)+(3*k+3660):=Nat.succ_mul _ _;have a6:j*(3*k+3660)<=10*6660:=Nat.mul_le_mul ω ω;obtain⟨z,J,zz⟩:=Beh hz d (m0:=jn (t.M.F.map φ)) ω hZ (hc t b) (hp.cp.coe t b).2 (hm t b I) ω ω g3 ω g1 g2;dsimp only;have J:Am (Y1 x t.C [jn (t.M.F.map φ)] [jn (jn (t.M.F.map φ)::t.M.A.map ψ)]) (0,q,g,plc c,c)=_:=J;rw[J,Ad];rcases zz with⟨d1,d2,rfl⟩|⟨d1,d2,T,rfl,x1,x2,L,x4,x5⟩
    .exact .inr ⟨_,rfl,.inl ⟨_,_,rfl⟩⟩
    left;refine⟨(((j+1:Nat):Int),d1,d2,plc T,T),?_,⟨j+1,d1,d2,T,rfl,ω,x1,x2,⟨L.dst,λw hw=>(L.tb w hw).mono ω,L.mo⟩,ω,λu o=>?_,λχ v C H=>?_⟩,ζ⟩
    .dsimp only;rw[C6 h ω]
    .rw[Cz Q]at o;rcases En.1 o with o|o
     .exact g6 u o
     .rw[D5]at o;rw[o];exact I
    .rw[x5 χ v (C t b) H,g5 χ v C H,Cz Q,Ayi];simp only[rpS];grind
   .right;have:j=p.length:=ω;subst this;rw[Db]at g6;refine⟨_,by rw[Aw ω,Ap],.inr ⟨q,g,c,rfl,g3,g4,g6,λχ v C H=>by rw[g5 χ v C H,Db]⟩⟩)
  (0,G,E,[],[]) ⟨0,G,E,[],rfl,ω,S,N,Col.nil _ _,by simp,by simp,λχ v C H=>by rw[take_zero];rfl⟩;unfold Aon W0;rw[Ad];dsimp only;rw[e1,Ad];rcases e2 with⟨d1,d2,rfl⟩|⟨q,g,T,rfl,y1,y2,y4,y3⟩
 .exact⟨[],9,d1,d2,rfl,λh=>by cases h⟩
 have hb:p.length*(3*k+3660)<=10*6660:=Nat.mul_le_mul hl ω;obtain⟨R,r1,r2,r3,X⟩:=Bd1 (P:=To x Z W) (λm h=>h.1.1.cmo) (plc T) T y1 ω ω;dsimp only;rw[r1];refine⟨_,_,q,g,rfl,λU=>?_⟩;by_cases y:1000<R.length
 .unfold lim at U;rw[Au y]at U;cases U
 .unfold lim;rw[Ar y];exact⟨y4,r2,by show R.length<=1000;omega,λt ht=>⟨(X t ht).1,(X t ht).2.mono ω⟩,λχ v C H=>by rw[<-y3 χ v C H];exact Ayf r3⟩
theorem Bej {β:Type} (ts:List Bt) {k:List Bt->Option β} {r:β} (h:∀R,R.Perm ts->R.Pairwise (λa b=>a.v<=b.v)->k R=some r):(T7.mk Up Om ts).bind k=some r:=by
 unfold T7.bind;dsimp only;cases s:Nat.ble ts.length 12 with
 | true=>obtain⟨R,C,d,D⟩:=Bc9 ts (Nat.le_of_ble_eq_true s);rw[Ak,C,Ad];exact h R d D
 | false=>
  rw[Ap];have j:(ts.mergeSort λa b=>decide (a.v<=b.v)).Pairwise λa b=>a.v<=b.v:=(by have:=pairwise_mergeSort (le:=λa b:Bt=>decide (a.v<=b.v)) (λa b c C d=>by simp only[Dk]at *;omega) (λa b=>by simp only[Bool.or_eq_true,Dk];omega) ts;exact this.imp λh=>by simpa using h);refine A28 (o:=ts.mergeSort λa b=>decide (a.v<=b.v)) ⟨_,Ax7,λx _ y _=>Aoc x y,mergeSort_perm _ _,j.imp λ{a b} h d=>?_⟩ λo i=>?_
  .have:=Qb.1 d;omega
  .obtain⟨cf,E,f,hp,g⟩:=i;refine h o hp (g.imp_of_mem λ{a b} G s h=>?_);have e:=(f b (hp.mem_iff.1 s) a (hp.mem_iff.1 G)).symm.trans (Aoc b a);rw[Eu e]at h;have:=mt Qb.2 h;omega
theorem Bek (c:Int) (ts:List Bt) (x:ts.length<=1000) (hb:LBd ts):∃L,Aan c ts=some (Aod c L)/\N5 L/\∀v,cl L v=cl ts v:=by
 have d:∀R:List Bt,R.Perm ts->R.Pairwise (λa b=>a.v<=b.v)->∃L,Am (Aiw R) (0,[])=some L/\N5 L/\∀v,cl L v=cl ts v:=λR o y=>by obtain⟨L,j,i,g,_⟩:=Bdd y (by rw[o.length_eq];omega) λt C=>hb t (o.mem_iff.1 C);exact⟨L,j,i,λv=>by rw[g,Bda o]⟩
 have u:(ts.mergeSort λa b=>decide (a.v<=b.v)).Pairwise λa b=>a.v<=b.v:=by have:=pairwise_mergeSort (le:=λa b:Bt=>decide (a.v<=b.v)) (λa b c o y=>by simp only[Dk]at *;omega) (λa b=>by simp only[Bool.or_eq_true,Dk];omega) ts;exact this.imp λh=>by simpa using h
 obtain⟨L,_,q,l⟩:=d _ (mergeSort_perm _ _) u;refine⟨L,?_,q,l⟩;unfold Aan;have k:Vc ts=some ([],ts):=by unfold Vc Lc;rw[Dl ζ];rfl
 rw[k,Ad];dsimp only;refine Bej ts λR f s=>?_;obtain⟨M,j,i,g⟩:=d R f s;have e:M=L:=i.ext q λv=>by rw[g,l]
 subst e;rw[Lj f.length_eq.symm,Ad,<-f.length_eq];refine bnd j ?_;rw[X5,Ad];unfold Aod;cases D0 ⟨c,M⟩ <;> rfl
def lkp:List Int->List Bg->Int->Option Bg
 | v::d,m::ms,u=>if v=u then some m else lkp d ms u
 | _,_,_=>none
def sbT (s:Int->Option Bg):List Bt->List Bt
 | []=>[]
 | t::l=>(match s t.v with|none=>[t] | some m=>m.T.map λu=>⟨u.v,u.C*t.C⟩)++sbT s l
def sbC (s:Int->Option Bg):List Bt->Int
 | []=>0
 | t::l=>(match s t.v with|none=>0|some m=>t.C*m.Q)+sbC s l
theorem Ayj (g:Int->Int) (c:Int):∀l:List Bt,ls g (l.map λu=>⟨u.v,u.C*c⟩)=c*ls g l
 | []=>by simp[ls]
 | t::l=>by simp only[map_cons,ls,Ayj g c l,Int.mul_add];rw[Int.mul_comm t.C c,Int.mul_assoc]
theorem Ayk (s:Int->Option Bg) (g h:Int->Int):∀l:List Bt,(∀t∈l,h t.v=match s t.v with|none=>g t.v|some m=>m.Q+ls g m.T)->sbC s l+ls g (sbT s l)=ls h l
 | [],_=>by simp[sbC,sbT,ls]
 | t::l,d=>by have ih:=Ayk s g h l λu e=>d u (by simp[e]);simp only[sbC,sbT,ls,Bdn];rw[d t ψ];cases s t.v with| none=>simp only[ls];omega| some m=>simp only[Ayj,Int.mul_add];omega
theorem Ayl (s:Int->Option Bg):∀l m,sbT s (l++m)=sbT s l++sbT s m
 | [],m=>rfl
 | t::l,m=>by simp only[D4,sbT,Ayl s l m,append_assoc]
theorem Aym (s:Int->Option Bg):∀l m,sbC s (l++m)=sbC s l+sbC s m
 | [],m=>by simp[sbC]
 | t::l,m=>by simp only[D4,sbC,Aym s l m];omega
theorem Aoq {s:Int->Option Bg} {u:Bt}:∀{l:List Bt},u∈sbT s l->∃t∈l,(s t.v=none/\u=t)\/∃m,s t.v=some m/\∃w∈m.T,u=⟨w.v,w.C*t.C⟩
 | [],h=>by cases h
 | t::l,h=>by
  rw[sbT]at h;rcases En.1 h with h|h
  .refine⟨t,ψ,?_⟩;cases b:s t.v with| none=>rw[b]at h;exact .inl ⟨rfl,by simpa using h⟩| some m=>rw[b]at h;obtain⟨w,d,rfl⟩:=mem_map.1 h;exact .inr ⟨m,rfl,w,d,rfl⟩
  .obtain⟨t',e,g⟩:=Aoq h;exact⟨t',by simp[e],g⟩
theorem Bel (l:List Int) (g:l.length<=1000):∃b,Aak l=some b:=by
 unfold Aak;have f:Aa4 l=some ([],l):=by unfold Aa4 Lc;rw[Dl ζ];rfl
 have c:=length_mergeSort (le:=λx y:Int=>decide (x<=y)) l;obtain⟨m,o,d,_⟩:=Awe (l.mergeSort λx y=>decide (x<=y)) (Awd l) (by rw[c];omega);rw[c]at d;rw[f,Ad];dsimp only;rw[Awc,Ad,Lj c.symm,Ad,d];exact⟨_,rfl⟩
theorem Bem:∀{vs:List Int} {ms:List Bg} (u:Int),vs.length=ms.length->vs.length<=1000->∃i,Aal vs u=some i/\((i<0/\lkp vs ms u=none)\/∃(j:Nat) (m:Bg),i=j/\ms[j]? = some m/\lkp vs ms u=some m):=by
 intro vs ms u k g;unfold Aal;have c:∀(j:Nat) (vs:List Int) (ms:List Bg),(∀x∈vs.take j,u≠x)->lkp vs ms u=lkp (vs.drop j) (ms.drop j) u:=by
  intro j;induction j with
  | zero=>intro vs ms _;rfl
  | succ j ih=>
   intro vs ms h
   match vs,ms with| [],ms=>rfl| v::vs,[]=>rw[drop_nil];cases drop (j+1) (v::vs) <;> rfl| v::vs,m::ms=>rw[lkp,Ar λe=>h v ψ e.symm,ih vs ms λx d=>h x (by simp[d])];rfl
 refine Ej (λs=>∃j:Nat,s=j/\j<=vs.length/\∀x∈vs.take j,u≠x) (λs=>vs.length-s.toNat) (λz=>(∃(j:Nat) (m:Bg),z = .inl (j:Int)/\ms[j]? = some m/\lkp vs ms u=some m)\/(z = .inr ()/\lkp vs ms u=none)) ⟨0,rfl,ω,ψ⟩ ?_ ?_
 .rintro _ ⟨j,rfl,D,f⟩;rcases Cf j vs.length with h|h
  .have d:vs[j]? = some vs[j]:=Bq h;have y:ms[j]? = some (ms[j]' ω):=Bq ω;generalize vs[j]=v at d;generalize ms[j]=m at y;simp only[As (ω:(j:Int)<(vs.length:Int)),Ak,Br rfl d,Ad,C6 h ω];by_cases e:u=v
   .right;rw[Ef e];refine⟨_,rfl,.inl ⟨j,m,rfl,y,?_⟩⟩;rw[c j vs ms f,Jv d,Jv y,lkp,Au e.symm]
   .left;rw[Cu e];refine⟨_,rfl,⟨j+1,rfl,ω,λx b=>?_⟩,by simp only[Int.toNat_natCast];omega⟩;rw[Cz d]at b;rcases En.1 b with o|o
    .exact f x o
    .rw[D5]at o;rw[o];exact e
  .right;simp only[Aw (ω:¬(j:Int)<(vs.length:Int)),Ap];have:j=vs.length:=ω;subst this;refine⟨_,rfl,.inr ⟨rfl,?_⟩⟩;rw[c vs.length vs ms f,drop_length];cases drop vs.length ms <;> rfl
 .rintro z (⟨j,m,rfl,C,o⟩|⟨rfl,h⟩)
  .exact⟨_,rfl,.inr ⟨j,m,rfl,C,o⟩⟩
  .exact⟨_,rfl,.inl ⟨δ,h⟩⟩
theorem Aor {a c:Int} (a1 : -1048576<=a) (f:a<=1048576) (d : -1048576<=c) (e:c<=1048576) : -1099511627776<=a*c/\a*c<=1099511627776:=by
 have b:(a*c).natAbs<=1048576*1048576:=by rw[Int.natAbs_mul];exact Nat.mul_le_mul ω ω
 omega
theorem Ben (c:Int) (C : -1048576<=c) (D:c<=1048576) (ts:List Bt) (q:ts.length<=1000) (hb:∀t∈ts,-1048576<=t.C/\t.C<=1048576):Aam ts c=some (ts.map λu=>⟨u.v,u.C*c⟩):=by
 unfold Aam;have k:Vc ts=some ([],ts):=by unfold Vc Lc;rw[Dl ζ];rfl
 rw[k,Ad];dsimp only;obtain⟨f,s⟩:∃f:Bt->Bt,f=λu=>⟨u.v,u.C*c⟩:=⟨_,rfl⟩;rw[<-s];refine Jn ts.length (λj=>((j:Int),(ts.take j).map f++ts.drop j)) ψ ?_ ⟨ts.map f,?_,rfl⟩
 .intro j d;have o:ts[j]? = some ts[j]:=Bq d;have l:=getElem_mem d;generalize ts[j]=t at o l;have g:=hb t l;have e:(ts.take j).map f++ts.drop j=(ts.take j).map f++t::ts.drop (j+1):=(by rw[Jv o]);have b:((ts.take j).map f).length=j:=ζ;have E:Ag ((ts.take j).map f++ts.drop j) (j:Int)=some t:=(by refine Br rfl ?_;rw[e];have:=Anh ((ts.take j).map f) (ts.drop (j+1)) t;rwa [b]at this);have G:Ac (t.C*c)=t.C*c:=(by have hp:=Aor g.1 g.2 C D;rw[Ac,B4] <;> omega);have i:Ct ((ts.take j).map f++ts.drop j) (j:Int) (⟨t.v,t.C*c⟩:Bt)=(ts.take (j+1)).map f++ts.drop (j+1):=(by rw[He (n:=j) rfl,e,Cz o,map_append,append_assoc];have:∀(A R:List Bt) (x y:Bt),(A++x::R).set A.length y=A++y::R:=(by intro A R x y;induction A with| nil=>rfl| cons a A ih=>simp only[D4,D2,set_cons_succ,ih]);have h:=this ((ts.take j).map f) (ts.drop (j+1)) t ⟨t.v,t.C*c⟩;rw[b]at h;rw[h,s];rfl);simp only[As (ω:(j:Int)<((ts.length:Nat):Int)),Ak,E,Ad,C6 d ω,G,i]
 .simp
theorem Beo (b:List Bg) (hb:∀m∈b,D0 m=true) (f:b.length<=1000):Aaj b=some false:=by unfold Aaj Afp;refine bnd (a:=(-1:Int)) ?_ rfl;refine Jn b.length (λj=>(j:Int)) rfl (λj d=>?_) ⟨.inr (),by simp only[Aw (ω:¬(b.length:Int)<(b.length:Int)),Ap],rfl⟩;have e:b[j]? = some b[j]:=Bq d;have c:=hb _ (getElem_mem d);simp only[As (ω:(j:Int)<(b.length:Int)),Ak,Br rfl e,Ad,C6 d ω];unfold Aff;rw[X5,c];rfl
theorem Ayn (h:D0 l=true) : -1048576<=l.Q/\l.Q<=1048576:=by unfold D0 at h;rw[Cv,Dk]at h;exact⟨h.1.1,h.1.2.1⟩
theorem Bep (E:D0 l=true) (D:∀m∈ms,D0 m=true) (N:vars.length=ms.length) (G:vars.length<=1000) : ∃r,Ug l vars ms=some r/\(r.2=0->D0 r.1=true/\r.1.Q=l.Q+sbC (lkp vars ms) l.T/\N5 r.1.T/\∀v,cl r.1.T v=cl (sbT (lkp vars ms) l.T) v):=by
 unfold Ug;rw[X5,E,Ad];simp only[Fz,Ap];rw[Beo ms D ω,Ad,Ad,Ap,G1 ω,Ap];obtain⟨b,hb⟩:=Bel vars G;rw[hb,Ad];cases b with
 | true=>exact⟨_,rfl,λh=>by cases h⟩
 | false=>
  rw[Ap];have M:=(V2 E).1;have B:=Aoe E;have R:=Ayn E;have J:∀{u m},lkp vars ms u=some m->m∈ms:=by
   intro u m;clear hb N G D;induction vars generalizing ms with
   | nil=>intro h;cases h
   | cons v vs ih=>
    cases ms with
    | nil=>intro h;cases h
    | cons k ks=>
     intro h;rw[lkp]at h;split at h
     .cases h;simp
     .exact mem_cons_of_mem _ (ih h)
  refine Ej (λs=>∃j:Nat,s.2.1=j/\j<=l.T.length/\s.1=l.Q+sbC (lkp vars ms) (l.T.take j)/\s.2.2=sbT (lkp vars ms) (l.T.take j)/\s.2.2.length<=16*j/\-(1048576+1099511627776*j:Int)<=s.1/\s.1<=1048576+1099511627776*j) (λs=>l.T.length-s.2.1.toNat) (λe=>e.1=l.Q+sbC (lkp vars ms) l.T/\e.2=sbT (lkp vars ms) l.T/\e.2.length<=256) ⟨0,rfl,ω,by simp[sbC],rfl,ψ,ζ,ζ⟩ ?_ ?_
  .rintro⟨c,_,ts⟩ ⟨j,rfl,hj,o,d,y,b1,b2⟩;dsimp only at o d y b1 b2 ⊢;rcases Cf j l.T.length with h|h
   .left;have C:l.T[j]? = some l.T[j]:=Bq h;have x:=getElem_mem h;generalize l.T[j]=t at C x;have f:=B t x;have S:sbT (lkp vars ms) (l.T.take (j+1))=ts++sbT (lkp vars ms) [t]:=(by rw[Cz C,Ayl,d]);have U:l.Q+sbC (lkp vars ms) (l.T.take (j+1))=c+sbC (lkp vars ms) [t]:=(by rw[Cz C,Aym,o];omega);obtain⟨i,i1,Q⟩:=Bem (ms:=ms) t.v N G;rw[As ω,Ak,Br rfl C,Ad,i1,Ad,C6 h ω];rcases Q with⟨Q,H⟩|⟨q,m,rfl,H,T⟩
    .rw[As Q,Ak,Dl ζ,Ad];refine⟨_,rfl,⟨j+1,rfl,ω,?_,?_,?_,?_,?_⟩,by simp only[Int.toNat_natCast];omega⟩
     .rw[U];simp[sbC,H]
     .rw[S];simp[sbT,H]
     .simp;omega
     .dsimp only;omega
     .dsimp only;omega
    .have z:=D m (J T);have a1:=(V2 z).1;have g:=Aoe z;have A:=Ayn z;have hp:=Aor f.1 f.2 A.1 A.2;have X:Ac (t.C*m.Q)=t.C*m.Q:=ξ;have V:Ac (c+t.C*m.Q)=c+t.C*m.Q:=ξ;rw[Aw ω,Ap,Br rfl H,Ad,Ad,Ben t.C f.1 f.2 m.T ω g,Ad,Dl ζ,Ad,X,V];refine⟨_,rfl,⟨j+1,rfl,ω,?_,?_,?_,?_,?_⟩,by simp only[Int.toNat_natCast];omega⟩
     .rw[U];simp[sbC,T]
     .rw[S];simp[sbT,T]
     .simp;omega
     .dsimp only;omega
     .dsimp only;omega
   .right;have:j=l.T.length:=ω;subst this;rw[Db]at o d;exact⟨_,by rw[Aw ω,Ap],o,d,by dsimp only;omega⟩
  .rintro⟨c,ts⟩ ⟨o,d,y⟩;dsimp only at o d y ⊢;have I:LBd ts:=λu hu=>by
    rw[d]at hu;obtain⟨t,h1,h2⟩:=Aoq hu;have f:=B t h1;rcases h2 with⟨_,rfl⟩|⟨m,h3,w,h4,rfl⟩
    .omega
    .have g:=Aoe (D m (J h3)) w h4;exact Aor g.1 g.2 f.1 f.2
   obtain⟨L,l1,Z,Y⟩:=Bek c ts ω I;rw[l1];refine⟨_,rfl,λh0=>?_⟩;unfold Aod at h0 ⊢;split at h0
   .rename_i hk;rw[Au hk];exact⟨hk,o,Z,λv=>by rw[<-d];exact Y v⟩
   .cases h0
def dgM (x:Ck) (m:A7):Int:=Cx x.D x.V x.E m.F+(Dn m.A:Nat)
structure V7 (x:Ck) (W:Int->Prop) (m:A7):Prop where
 one:m.F.length+m.A.length<=1
 fac:∀f∈m.F,Ee f.v/\iR f.I/\1<=Eg x.D x.V x.E f/\Bw f.I<=40
 atm:∀a∈m.A,0<=a.P/\D0 a.L=true/\I3 x.V x.E a.L=true
 vr:∀w∈Jz m,W w
theorem Ai0 (m:A7) (l:List A7):jn (m::l)=⟨m.F++(jn l).F,m.A++(jn l).A⟩:=by unfold jn;simp
theorem Ayo (l k:List A7):jn (jn l::k)=jn (l++k):=by unfold jn;simp
theorem Ayp (x:Ck):∀l:List A7,dgM x (jn l)=(l.map (dgM x)).sum
 | []=>by unfold dgM jn Cx;simp[Dn]
 | m::l=>by have ih:=Ayp x l;rw[Ai0,map_cons,sum_cons,<-ih];unfold dgM;dsimp only;rw[Rh,Tg];omega
theorem Ayq (χ:Bi->Nat) (v:Bg->Nat):∀l:List A7,mX χ v (jn l)=D1 (l.map (mX χ v))
 | []=>rfl
 | m::l=>by rw[Ai0,map_cons,D1,<-Ayq χ v l];unfold mX;dsimp only;rw[map_append,Adv,Ady];ac_rfl
theorem Ayr:∀l:List A7,(∀m∈l,(m.F.length<=1/\∀f∈m.F,Bw f.I<=40))->((jn l).F.map λf=>Bw f.I).sum<=40*l.length
 | [],_=>by simp[jn]
 | m::l,h=>by have ih:=Ayr l λk e=>h k (by simp[e]);obtain⟨d,i⟩:=h m ψ;rw[Ai0];dsimp only;rw[map_append,sum_append,D2];have:(m.F.map λf=>Bw f.I).sum<=40:=(by match b:m.F with| []=>simp| [f]=>have:=i f (by simp[b]);simpa using this| f::g::r=>rw[b]at d;simp at d);omega
theorem Ays {l:List A7} {f:Bi} (h:f∈(jn l).F):∃m∈l,f∈m.F:=mem_flatMap.1 h
theorem Ayt {l:List A7} (h:a∈(jn l).A):∃m∈l,a∈m.A:=mem_flatMap.1 h
theorem Ayu:∀l:List A7,(∀m∈l,m.A.length<=1)->(jn l).A.length<=l.length
 | [],_=>by simp[jn]
 | m::l,h=>by have ih:=Ayu l λk d=>h k (by simp[d]);have:=h m ψ;rw[Ai0];dsimp only;rw[Ew,D2];omega
theorem rpO (h:Y0 x m) {ψ:Bh->A7} (C:∀f∈m.F,V7 x W (φ f)/\dgM x (φ f)=Eg x.D x.V x.E f) (D:∀a∈m.A,V7 x W (ψ a)/\dgM x (ψ a)=a.P):RpO x 240 W (rpM φ ψ m):=by
 have c:rpM φ ψ m=jn (m.F.map φ ++ m.A.map ψ):=Ayo _ _;have b:∀k∈m.F.map φ ++ m.A.map ψ,V7 x W k:=λk d=>by
  rcases En.1 d with d|d
  .obtain⟨f,o,rfl⟩:=mem_map.1 d;exact (C f o).1
  .obtain⟨a,e,rfl⟩:=mem_map.1 d;exact (D a e).1
 have G:dgM x (rpM φ ψ m)=Adx x m:=by rw[c,Ayp,map_append,sum_append];unfold Adx Cx Eo;rw[map_map,map_map];have u:m.F.map (dgM x ∘ φ)=m.F.map (Eg x.D x.V x.E):=map_congr_left λf o=>(C f o).2;have s:m.A.map (dgM x ∘ ψ)=m.A.map (·.P):=map_congr_left λa e=>(D a e).2;rw[u,s]
 have q:=h.deg;have z:=L3 (data:=x.D) (vars:=x.V) (res:=x.E) (l:=m.F) h.fac;have A:=h.as;have B:(m.F.map φ ++ m.A.map ψ).length<=6:=by unfold Adx at q;rw[Ew,C5,C5];omega
 have H:=Ayr _ λk d=>⟨by have:=(b k d).one;omega,λf o=>((b k d).fac f o).2.2.2⟩;have g:=Ayu _ λk d=>(by have:=(b k d).one;omega:k.A.length<=1);have j:∀f∈(rpM φ ψ m).F,Ee f.v/\iR f.I/\1<=Eg x.D x.V x.E f:=λf o=>by rw[c]at o;obtain⟨k,d,o⟩:=Ays o;have:=(b k d).fac f o;exact⟨this.1,this.2.1,this.2.2.1⟩
 have i:∀a∈(rpM φ ψ m).A,0<=a.P/\D0 a.L=true/\I3 x.V x.E a.L=true:=λa e=>by rw[c]at e;obtain⟨k,d,e⟩:=Ayt e;exact (b k d).atm a e
 have y:=L3 (data:=x.D) (vars:=x.V) (res:=x.E) (l:=(rpM φ ψ m).F) λf o=>(j f o).2.2;rw[<-c]at H g;unfold dgM at G;refine⟨⟨j,ω,ω⟩,⟨λa e=>(i a e).1,λa e=>(i a e).2.1,ω,ω⟩,λa e=>(i a e).2,ω,ω,λw E=>?_⟩;rw[c]at E;rcases V6.1 E with⟨f,f1,f2⟩|⟨a,I,J⟩
 .obtain⟨k,d,o⟩:=Ays f1;exact (b k d).vr w (V6.2 (.inl ⟨f,o,f2⟩))
 .obtain⟨k,d,e⟩:=Ayt I;exact (b k d).vr w (V6.2 (.inr ⟨a,e,J⟩))
theorem Ayv {f g:α->Nat} {l:List α} (h:∀a∈l,f a=g a):D1 (l.map f)=D1 (l.map g):=by rw[map_congr_left h]
theorem Ayw (v:Bg->Nat):∀l:List Bh,Gm v l=D1 (l.map λa=>bc (v a.L) a.P.toNat)
 | []=>rfl
 | a::l=>by rw[Gm,map_cons,D1,Ayw v l]
theorem Ayx {φ:Bi->A7} {ψ:Bh->A7} {χ b:Bi->Nat} {g c:Bg->Nat}:∀p:List An,(∀t∈p,(∀f∈t.M.F,mX χ g (φ f)=b f)/\∀a∈t.M.A,mX χ g (ψ a)=bc (c a.L) a.P.toNat)->rpS φ ψ χ g p=Hz b c p
 | [],_=>rfl
 | t::p,h=>by rw[rpS,Hz,Ayx p λu d=>h u (by simp[d])];obtain⟨e,i⟩:=h t (by simp);have:mX χ g (rpM φ ψ t.M)=D1 (t.M.F.map b)*Gm c t.M.A:=(by rw[show rpM φ ψ t.M=jn (t.M.F.map φ ++ t.M.A.map ψ) from Ayo _ _,Ayq,map_append,Adv,map_map,map_map,Ayw,Ayv (g:=b) (f:=mX χ g ∘ φ) e,Ayv (f:=mX χ g ∘ ψ) (g:=λa:Bh=>bc (c a.L) a.P.toNat) i]);rw[this]
theorem Ayy:∀(k:Nat) (i:Az) (a:Int),C1 i<=k->k<1099511627776->-1099511627776<=a->a<=1099511627776->∃r,R5 k i a=some r/\(r.1=true->r.2=a-C1 i/\0<=r.2)/\r.2<=a/\-1<=r.2+1099511627776:=by
 intro k;induction k with
 | zero=>intro i a h;have:=Mj i;omega
 | succ k ih=>
  intro i a h N Q S;have G:=Mj i;have I:=Vo i.K;have w:Ac (a-1)=a-1:=ξ;rw[R5,w];by_cases H:a-1<0
  .rw[As H];exact⟨_,rfl,nofun,by show a-1<=a;omega,by show -1<=a-1+1099511627776;omega⟩
  .rw[Aw H,Ap];have g:∀l m:List Az,Ec (l++m)=Ec l+Ec m:=λl m=>by induction l with| nil=>simp[Ec]| cons y l ih=>simp only[D4,Ec,ih];omega
   refine Ej (λs=>∃j:Nat,s.1=j/\j<=i.K.length/\s.2=a-1-Ec (i.K.take j)/\0<=s.2) (λs=>i.K.length-s.1.toNat) (λz=>(∃c,z = .inl (false,c)/\c<=a/\-1<=c+1099511627776)\/(∃c,z = .inr c/\c=a-1-Ec i.K/\0<=c)) ⟨0,rfl,ω,by simp[Ec],by show 0<=a-1;omega⟩ ?_ ?_
   .rintro⟨_,b⟩ ⟨j,rfl,T,e,f⟩;dsimp only at e f;rcases Cf j i.K.length with o|o
    .have d:i.K[j]? = some i.K[j]:=Bq o;generalize i.K[j]=x at d;have L:=M5 (Bz d);obtain⟨⟨y,z⟩,E,D,B,A⟩:=ih x b ω ω ω ω;have J:Ec (i.K.take (j+1))=Ec (i.K.take j)+C1 x:=(by rw[Cz d,g];simp[Ec]);simp only[As (ω:(j:Int)<(i.K.length:Int)),Ak,Br rfl d,Ad,E,C6 o ω];cases y with| false=>exact .inr ⟨_,rfl,.inl ⟨z,rfl,by dsimp only at B;omega,A⟩⟩| true=>obtain⟨u,q⟩:=D rfl;exact .inl ⟨_,rfl,⟨j+1,rfl,ω,by dsimp only at u ⊢;rw[J];omega,q⟩,by simp only[Int.toNat_natCast];omega⟩
    .have:j=i.K.length:=ω;subst this;rw[Db]at e;exact .inr ⟨.inr b,ψ,.inr ⟨b,rfl,e,f⟩⟩
   .rintro z (⟨c,rfl,M,C⟩|⟨c,rfl,M,C⟩)
    .exact⟨_,rfl,nofun,M,C⟩
    .exact⟨_,rfl,λ_=>⟨by dsimp only;omega,C⟩,by dsimp only;omega,by dsimp only;omega⟩
theorem Beq (l:List Az) (n:Int) (D:l.length<=1048576) (h:∀t∈l,C1 t<=1048576):∃b,Zz l n=some b/\(b=true->(l.length:Int)<=n/\∀t∈l,C1 t<=400):=by
 unfold Zz;refine Ej (λs=>∃j:Nat,s.1=j/\j<=l.length/\0<=s.2/\s.2<=400/\∀t∈l.take j,C1 t<=400) (λs=>l.length-s.1.toNat) (λz=>z = .inl false\/∃c,z = .inr c/\((l.length:Int)<=n->∀t∈l,C1 t<=400)) ⟨0,rfl,ω,δ,δ,ψ⟩ ?_ ?_
 .rintro⟨_,w⟩ ⟨j,rfl,H,i,g,f⟩;dsimp only at i g;rcases Cf j l.length with o|o
  .have e:l[j]? = some l[j]:=Bq o;generalize l[j]=x at e;obtain⟨⟨A,B⟩,E,y,u,_⟩:=Ayy 4000000 x w (by have:=h x (Bz e);omega) ω ω ω;simp only[As (ω:(j:Int)<(l.length:Int)),Ak,Br rfl e,Ad,E,C6 o ω];by_cases k:(j:Int)<=n
   .rw[As k];cases A with
    | false=>exact .inr ⟨_,rfl,.inl rfl⟩
    | true=>
     obtain⟨q,C⟩:=y rfl;refine .inl ⟨_,rfl,⟨j+1,rfl,ω,C,by dsimp only at u ⊢;omega,λt d=>?_⟩,by simp only[Int.toNat_natCast];omega⟩;rw[Cz e]at d;rcases En.1 d with d|d
     .exact f t d
     .rw[D5]at d;subst d;dsimp only at q C;omega
   .rw[Aw k];exact .inr ⟨_,rfl,.inr ⟨w,rfl,λh=>ω⟩⟩
  .have:j=l.length:=ω;subst this;rw[Db]at f;simp only[Aw (ω:¬(l.length:Int)<(l.length:Int)),Ap];exact .inr ⟨_,rfl,.inr ⟨w,rfl,λ_=>f⟩⟩
 .rintro z (rfl|⟨c,rfl,G⟩)
  .exact⟨_,rfl,λh=>by cases h⟩
  .exact⟨_,rfl,λh=>by rw[Dk]at h;exact⟨h,G h⟩⟩
theorem Ber (c:List Az) (res:Az) (i:c.length<=1048576) (g:∀v∈c,C1 v<=1048576) (k:C1 res<=1048576):∃b,Zs c res=some b/\(b=true->(∀v∈c,C1 v<=400)/\C1 res<=400):=by
 unfold Zs;obtain⟨a,d,j⟩:=Beq c 40 i g;obtain⟨r,l,f,_⟩:=Ayy 4000000 res 400 ω ω ω ω;obtain⟨n,q,_⟩:=Bbl 4000000 res ω ω;have e:Z0 res=some r.1:=by unfold Z0;rw[l];rfl
 rw[d,e,q];cases a with
 | false=>exact⟨_,rfl,λh=>by cases h⟩
 | true=>cases h:r.1 with| false=>exact⟨_,rfl,λh=>by cases h⟩| true=>exact⟨_,rfl,λ_=>⟨(j rfl).2,by have:=f h;omega⟩⟩
theorem Ayz (c:List Az) (res:Az) (v:Int):∃a b,T8 c res v=some (a,b)/\(b=true->a=Du c res v/\(v = -1\/(0<=v/\v<c.length))):=by
 unfold T8 Du;by_cases h:v = -1
 .rw[Ef h,Ab3 (.inl ω)];exact⟨_,_,rfl,λ_=>⟨rfl,.inl h⟩⟩
 .rw[Cu h,Ap];by_cases d:v<0
  .rw[As d];exact⟨_,_,rfl,λh=>by cases h⟩
  .rw[Aw d,Ap];by_cases e:v>=(c.length:Int)
   .rw[As e];exact⟨_,_,rfl,λh=>by cases h⟩
   .rw[Aw e];have g:Ag c v=some (c[v.toNat]' ω):=Br (n:=v.toNat) ω (Bq _);rw[g];exact⟨_,_,rfl,λ_=>⟨rfl,.inr ⟨ω,ω⟩⟩⟩
structure Ai1 (env:List Az) (res:Az) (v:Int) (a:Az) (env2:List Az) (res2:Az):Prop where
 len:env2.length=env.length
 at_:Du env2 res2 v=a
 off:∀u,u≠v->(u = -1\/(0<=u/\u<env.length))->Du env2 res2 u=Du env res u
 mem:∀N,C1 a<=N->(∀w∈env,C1 w<=N)->C1 res<=N->(∀w∈env2,C1 w<=N)/\C1 res2<=N
theorem Bes (b:List Az) (res:Az) (v:Int) (a:Az) (i:b.length<=1048576) (o:v = -1\/(0<=v/\v<b.length)):∃f c,Zw b res v a=some (f,c)/\Ai1 b res v a f c:=by
 unfold Zw;rw[Dl ζ,nil_append,Ad];by_cases h:v = -1
 .rw[Ef h,Ak];refine⟨b,a,rfl,rfl,by unfold Du;rw[Ab3 (.inl ω)],λu s d=>?_,λN e d y=>⟨d,e⟩⟩;rcases d with d|d
  .exact (s ω).elim
  .have j:Ag b u=some (b[u.toNat]' ω):=Br (n:=u.toNat) ω (Bq _);unfold Du;rw[j]
 .have o:0<=v/\v<b.length:=o.resolve_left h;obtain⟨n,rfl⟩:∃n:Nat,v=n:=⟨v.toNat,ω⟩;have j:Ag b (n:Int)=some (b[n]' ω):=Br rfl (Bq _);rw[Cu h,Ap,j,Ad,He (n:=n) rfl];refine⟨b.set n a,res,rfl,ψ,?_,λu s d=>?_,λN e d y=>⟨λw C=>?_,y⟩⟩
  .unfold Du;rw[Br (n:=n) (x:=a) rfl (by rw[getElem?_set_self ω])]
  .unfold Du;rcases d with d|d
   .rw[Ab3 (.inl ω),Ab3 (.inl ω)]
   .obtain⟨m,rfl⟩:∃m:Nat,u=m:=⟨u.toNat,ω⟩;have g:m<b.length:=ω;rw[Br (n:=m) (x:=b[m]) rfl (Bq g),Br (n:=m) (x:=b[m]) rfl (by rw[getElem?_set_ne ω,Bq g])]
  .rcases mem_or_eq_of_mem_set C with h|h
   .exact d w h
   .rw[h];exact e
theorem Bet {t:An} (h:TSz t) (b:Tp t):RB 8 t.C:=⟨h.co.num,h.co.den,b.1,b.2.1⟩
theorem Ay0 (e:CSz x) (hp:∀t∈p,TSz t) (f:∀v∈b,C1 v<=1048576) (c:C1 res<=1048576) : ∃r,Ry x p b res=some r/\(r.2≠0\/(Ij x/\Jr x.D x.V x.E p=true/\b.length=x.V.length/\(∀v∈Hy p,Jd x b res v=true)/\∃u,r=(u,0)/\V1 x p b res u)):=by
 obtain⟨r,i,g⟩:=Bbf x e p hp b res f c;refine⟨r,i,?_⟩;rcases g with⟨_,rfl⟩|⟨d,⟨_,rfl⟩|⟨h,⟨_,rfl⟩|⟨j,u,rfl,o⟩⟩⟩
 .exact .inl δ
 .exact .inl δ
 .exact .inl δ
 .exact .inr ⟨d.1,d.2,h,j,u,rfl,o⟩
theorem Beu:w∈Hy p↔∃t∈p,w∈Jz t.M:=by unfold Hy;rw[mem_flatMap]
def phB (f:Bi):A7:=⟨[f],[]⟩
theorem Bev (φ:Bi->A7) (ψ:Bh->A7) (m:A7):(rpM φ ψ m).F=m.F.flatMap (λf=>(φ f).F)++m.A.flatMap (λa=>(ψ a).F):=by unfold rpM jn;simp[flatMap_map]
abbrev TT:Int->Prop:=λ_=>True
theorem Bew {f:Bi} (e:Ee f.v) (h:iR f.I) (i:1<=Eg x.D x.V x.E f) (j:Bw f.I<=40):V7 x TT ⟨[f],[]⟩/\dgM x ⟨[f],[]⟩=Eg x.D x.V x.E f:=by refine⟨⟨ψ,λg d=>?_,nofun,λ_ _=>trivial⟩,by simp[dgM,Cx,Dn]⟩;rw[D5]at d;subst d;exact⟨e,h,i,j⟩
theorem Bex (e:0<=a.P) (h:D0 a.L=true) (i:I3 x.V x.E a.L=true):V7 x TT ⟨[],[a]⟩/\dgM x ⟨[],[a]⟩=a.P:=by refine⟨⟨ψ,nofun,λg d=>?_,λ_ _=>trivial⟩,by simp[dgM,Cx,Dn];omega⟩;rw[D5]at d;subst d;exact⟨e,h,i⟩
structure Ay1 (x:Ck) (p:List An):Prop where
 len:p.length<=10
 sz:∀t∈p,TSz t
 sh:∀t∈p,Tp t
theorem Aos {f c:List Az} {b:Az} {a:Az} (g:Ai1 f res v a c b) (h:f.length=x.V.length) (d:u≠v) (ht:(D3 x.V x.E u).isSome=true):Du c b u=Du f res u:=by rw[Ame,Dk]at ht;exact g.off u d ω
theorem Bey {f c:List Az} {b:Az} {a:Az} (i:Ai1 f res v a c b) (g:f.length=x.V.length) (e:u≠v) (h:Jd x c b u=true):Jd x f res u=true:=by unfold Jd at h ⊢;cases d:D3 x.V x.E u with| none=>rw[d]at h;exact h| some t=>rw[d]at h;rw[Aos i g e (by rw[d];rfl)]at h;exact h
theorem Bez {val:Int->Az} {f:Bi} (h:val2 f.v=val f.v):Kp x val2 f=Kp x val f:=by unfold Kp;rw[h]
theorem Be0 (χ:Bi->Nat) (g:Bg->Nat) (f:Bi):mX χ g ⟨[f],[]⟩=χ f:=by unfold mX;simp[D1,Gm]
theorem Be1 (χ:Bi->Nat) (g:Bg->Nat) (a:Bh):mX χ g ⟨[],[a]⟩=bc (g a.L) a.P.toNat:=by unfold mX;simp[D1,Gm]
theorem Be2 (h:I3 x.V x.E l=true):∀u∈l.T,(D3 x.V x.E u.v).isSome=true:=λu e=>by have d:=Gt.1 h u e;unfold P4 at d;cases g:D3 x.V x.E u.v with| none=>rw[g]at d;cases d| some s=>rfl
noncomputable def sbR (vars:List Int) (ms:List Bg) (l:Bg):Bg×Int:=(Ug l vars ms).getD (⟨0,[]⟩,1)
noncomputable def psL (vars:List Int) (ms:List Bg) (a:Bh):A7:=⟨[],[⟨(sbR vars ms a.L).1,a.P⟩]⟩
noncomputable def erL (vars:List Int) (ms:List Bg) (a:Bh):Int:=(sbR vars ms a.L).2
theorem Ai2 (f:D0 l=true) (c:∀m∈ms,D0 m=true) (g:vars.length=ms.length) (b:vars.length<=1000) : Ug l vars ms=some (sbR vars ms l)/\((sbR vars ms l).2=0->D0 (sbR vars ms l).1=true/\(sbR vars ms l).1.Q=l.Q+sbC (lkp vars ms) l.T/\N5 (sbR vars ms l).1.T/\∀v,cl (sbR vars ms l).1.T v=cl (sbT (lkp vars ms) l.T) v):=by
 obtain⟨r,d,h⟩:=Bep f c g b;have e:sbR vars ms l=r:=by unfold sbR;rw[d];rfl
 rw[e];exact⟨d,h⟩
theorem Be3 (f:D0 a.L=true) (c:∀m∈ms,D0 m=true) (g:vars.length=ms.length) (b:vars.length<=1000):Uf a vars ms=some (psL vars ms a,erL vars ms a):=by unfold Uf;rw[(Ai2 f c g b).1];rfl
theorem Be4 {m:Bg}:lkp vars ms u=some m->m∈ms:=by
 induction vars generalizing ms with
 | nil=>intro h;cases h
 | cons v d ih=>
  cases ms with
  | nil=>intro h;cases h
  | cons k b=>
   intro h;rw[lkp]at h;split at h
   .cases h;simp
   .exact mem_cons_of_mem _ (ih h)
theorem Be5 (x:D0 l=true) (s:∀m∈ms,D0 m=true) (y:vars.length=ms.length) (q:vars.length<=1000) (h0:(sbR vars ms l).2=0) {P:Int->Prop} (o:∀t∈l.T,lkp vars ms t.v=none->P t.v) (C:∀m∈ms,∀t∈m.T,P t.v):∀t∈(sbR vars ms l).1.T,P t.v:=by
 obtain⟨_,_,c,D⟩:=(Ai2 x s y q).2 h0;intro t d;by_cases e:∃u∈sbT (lkp vars ms) l.T,u.v=t.v
 .obtain⟨u,k,j⟩:=e;rw[<-j];obtain⟨w,i,g⟩:=Aoq k;rcases g with⟨b,rfl⟩|⟨m,b,z,f,rfl⟩
  .exact o _ i b
  .exact C m (Be4 b) z f
 .have:=Tn (l:=sbT (lkp vars ms) l.T) (v:=t.v) λu E h=>e ⟨u,E,h⟩;rw[<-D,c.cl d]at this;exact (c.nz t d this).elim
theorem Be6 (f:D0 l=true) (c:∀m∈ms,D0 m=true) (g:vars.length=ms.length) (b:vars.length<=1000) (h0:(sbR vars ms l).2=0) {val:Int->Az} (d:∀t∈l.T,(val2 t.v).U=match lkp vars ms t.v with|none=>(val t.v).U|some m=>K1 val m):fv val (sbR vars ms l).1=fv val2 l:=by
 obtain⟨_,e,_,h⟩:=(Ai2 f c g b).2 h0;unfold fv;rw[Aoj,Aoj,e,Bdm _ _ _ _ (Nat.le_refl _) h,<-Ayk (lkp vars ms) (λv=>(val v).U) (λv=>(val2 v).U) l.T λt i=>?_]
 .congr 1;omega
 .rw[d t i];cases lkp vars ms t.v with| none=>rfl| some m=>exact Aoj val m
theorem Be7 (x:Ck) (p:List An) (vars:List Int) (ms:List Bg) (c:List (ByteArray×Int)) (b:List (ByteArray×List Ax)):Ae8 p vars ms c b x.D x.V x.E.G x.E.U x.E.R=Aon x Z1 (λa=>Uf a vars ms) p c b:=rfl
theorem Be8 (S:CSz x) (hp:Ay1 x p) (v:Int) {m:Bg} (A:m.T.length<=1048576) : ∃R e,Zt x p v m=some (R,e)/\(e=0->Ij x/\J5 x p/\(∃t,D3 x.V x.E v=some t/\t.G=1)/\D0 m=true/\I3 x.V x.E m=true/\Aop x 240 TT phB (psL [v] [m]) (erL [v] [m]) p R):=by
 have i:∀q∈[p],∀t∈q,TSz t:=λq U=>by rw[D5]at U;subst U;exact hp.sz
 unfold Zt;by_cases N:Ij x/\∀q∈[p],Jr x.D x.V x.E q=true
 .obtain⟨D,B,I⟩:=Aws S i (by simp) N;have C:=N.1;have y:J5 x p:=⟨N.2 p (by simp),hp.sz⟩;rw[B];simp only[Ad,Fz,Ap,Amf D [] x.D x.V x.E];cases d:D3 x.V x.E v with
  | none=>exact⟨[],8,rfl,λh=>by cases h⟩
  | some t=>
   simp only[Option.isSome_some,Fz,Ap,X5,Ad];cases l:D0 m with
   | false=>exact⟨[],8,rfl,λh=>by cases h⟩
   | true=>
    simp only[Fz,Ap,Ack D [] x.D x.V x.E d,Ad];by_cases o:t.G=1
    .rw[G1 o];simp only[Ap,Aud D [] x.D x.V x.E m A,Ad];cases c:I3 x.V x.E m with
     | false=>exact⟨[],6,rfl,λh=>by cases h⟩
     | true=>
      simp only[Fz,Ap];have b:∀k∈[m],D0 k=true:=λk o=>by rw[D5]at o;subst o;exact l
      have j:∀u∈p,(∀a∈u.M.A,erL [v] [m] a=0)->(∀f∈u.M.F,V7 x TT (phB f)/\dgM x (phB f)=Eg x.D x.V x.E f)/\∀a∈u.M.A,V7 x TT (psL [v] [m] a)/\dgM x (psL [v] [m] a)=a.P:=λu Q M=>by
       have T:=(y.mo u Q).f;refine⟨λf C=>Bew ((hp.sz u Q).mo.fr f C).2 ((hp.sz u Q).mo.fr f C).1 (T.fac f C) ((hp.sh u Q).2.2 f C),λa H=>?_⟩;have g:=(T.atm a H).2;refine Bex (by have:=(T.atm a H).1;dsimp only;omega) ((Ai2 g.1 b rfl (by simp)).2 (M a H)).1 (Gt.2 (Be5 g.1 b rfl (by simp) (M a H) (P:=λw=>∀t:Bt,t.v=w->P4 x.V x.E t=true) (λt d _ s z=>?_) (λk o t d s z=>?_) · · _ rfl))
       .have:=Gt.1 g.2.2 t d;unfold P4 at this ⊢;rw[z];exact this
       .rw[D5]at o;subst o;have:=Gt.1 c t d;unfold P4 at this ⊢;rw[z];exact this
      obtain⟨R,e,L,J,G,E⟩:=Bei (W:=TT) (Z:=240) (k:=8) S C δ δ (fac:=Z1) (atm:=λa=>Uf a [v] [m]) (φ:=phB) (ψ:=psL [v] [m]) (er:=erL [v] [m]) y (λt d=>Bet (hp.sz t d) (hp.sh t d)) hp.len (λ_ _ _ _=>rfl) (λt d a H=>Be3 ((y.mo t d).f.atm a H).2.1 b rfl (by simp)) (λt d f C=>by simp[phB]) (λt d a H=>by simp[psL]) (λt d M=>rpO (y.mo t d).f (j t d M).1 (j t d M).2) I (PMg.nil _ _ _);unfold Ae9;simp only[Ad,Be7,G];exact⟨R,e,rfl,λh=>⟨C,y,⟨t,rfl,o⟩,trivial,trivial,E h⟩⟩
    .rw[F7 o];exact⟨[],6,rfl,λh=>by cases h⟩
 .have B:=Awr S i (by simp) N;rw[B];exact⟨[],1,rfl,λh=>by cases h⟩
theorem Be9 (I:J5 x p) {m:Bg} (ht:D3 x.V x.E v=some t) (Q:t.G=1) (M:D0 m=true) {j:List Az} {i:Az} (B:Ai1 b res v ⟨3,K1 (Du b res) m,[]⟩ j i) (G:b.length=x.V.length) (D:∀u∈Hy p,Jd x j i u=true) {R:List An} {Z:Nat} (L:Aop x Z W phB (psL [v] [m]) (erL [v] [m]) p R):Mm x (Du b res) R=Mm x (Du j i) p:=by
 have E:∀k∈[m],D0 k=true:=λk Q=>by rw[D5]at Q;subst Q;exact M
 have l:∀u∈p,∀f∈u.M.F,f.v≠v:=λu C f o e=>by
  obtain⟨s,d,J,A,N,_⟩:=Adu ((I.mo u C).f.fac f o);rw[e,ht]at J;cases J;rw[Mi,Ar ω,Ar ω,Ar ω]at A;split at A
  .cases A;omega
  .cases A
 rw[Aol,Aol,L.vl (Kp x (Du b res)) (fv (Du b res)) (λt ht g T=>?_) (Bdi _)]
 .refine Ayx p λu C=>⟨λf o=>?_,λa H=>?_⟩
  .obtain⟨c,_,V,_⟩:=Adu ((I.mo u C).f.fac f o);show mX _ _ ⟨[f],[]⟩=_;rw[Be0,Bez (Aos B G (l u C f o) (by rw[V];rfl))]
  .have z:=(I.mo u C).f.atm a H;have X:=Be2 z.2.2.2;show mX _ _ ⟨[],[⟨(sbR [v] [m] a.L).1,a.P⟩]⟩=_;rw[Be1];dsimp only;rw[Be6 (val2:=Du j i) z.2.1 E rfl ψ (L.ok u C a H) λc hc=>?_];by_cases e:v=c.v
   .rw[<-e,B.at_];show K1 (Du b res) m=_;rw[lkp,Au rfl]
   .rw[lkp,Ar e,Aos B G (λh=>e h.symm) (X c hc)];rfl
 .rw[Bev]at T;rcases En.1 T with o|o
  .obtain⟨S,y,o⟩:=mem_flatMap.1 o;simp only[phB,D5]at o;subst o;exact Bd8 (F:=[g]) (λq U=>by rw[D5]at U;subst U;exact Bey B G (l t ht _ y) (D _ (Beu.2 ⟨t,ht,V6.2 (.inl ⟨_,y,rfl⟩)⟩))) g ψ
  .obtain⟨a,_,H⟩:=mem_flatMap.1 o;cases H
end Go.Ab
