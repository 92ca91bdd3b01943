/- Plain laws: what the plain functions answer. -/
import Derived.Test.YtohelcameomopaaGreatDoorApPl4
import Derived.Test.YtohelcameomopaaGreatDoorApPl3
namespace Go.Ab
open Go
theorem Tc {a:Bb} (h:C2 a=true):∀t∈a.Terms,-1048576<=t.Coef/\t.Coef<=1048576:=by intro t ht;obtain ⟨j,hj⟩:=List.getElem?_of_mem ht;unfold C2 at h;rw [Dj,List.all_eq_true] at h;have:=h.2 (t,j) (List.mk_mem_zipIdx_iff_getElem?.2 hj);unfold Nk at this;simp only [Dj,decide_eq_true_eq] at this;exact ⟨this.1.2.2.2.1,this.1.2.2.2.2⟩
theorem Arp (a b:List A5) (h:a.length+b.length<=1000000):W1 [a,b]=some (a++b) := Ai0 (B:=16) δ (gr:=Aa4) (λn h=>Ai4 n h) a b h
def J0 (t:A5):A5:=⟨t.Var,-t.Coef⟩
theorem A31 (l:List A5) (v:Int):cl (l.map J0) v = - cl l v:=by induction l with| nil=>rfl| cons t l ih=>simp only [List.map_cons,cl,ih,J0];split <;> omega
theorem A32 (ts:List A5) (i:ts.length<=1000) (hb:∀t∈ts,-1048576<=t.Coef/\t.Coef<=1048576):W2 ts (-1)=some (ts.map J0):=by
 unfold W2;have f:Sj ts=some ([],ts):=by unfold Sj Nz;rw [C3 (by simp; omega)]; rfl
 rw [f,Ad];dsimp only;refine Ie ts.length (λj=>((j:Int),(ts.take j).map J0++ts.drop j)) ψ ?_ ⟨ts.map J0,?_,rfl⟩
 .intro j hj;have hx:ts[j]? = some ts[j]:=Bv hj;have hm:=List.getElem_mem hj;generalize ts[j]=t at hx hm;have g:=hb t hm;have e:(ts.take j).map J0++ts.drop j=(ts.take j).map J0++t::ts.drop (j+1):=(by rw [Ij hx]);have b:((ts.take j).map J0).length=j:=(by simp; omega);have hi:Ae ((ts.take j).map J0++ts.drop j) (j:Int)=some t:=(by refine Ce rfl ?_;rw [e];have:=Aiz ((ts.take j).map J0) (ts.drop (j+1)) t;rwa [b] at this);have hw:Aa (t.Coef * -1) = -t.Coef:=(by rw [Aa,Bm] <;> omega);have c:B9 ((ts.take j).map J0++ts.drop j) (j:Int) (⟨t.Var,-t.Coef⟩:A5)=(ts.take (j+1)).map J0++ts.drop (j+1):=(by rw [Fh (n:=j) rfl,e,C8 hx,List.map_append,List.append_assoc];have:∀(A R:List A5) (x y:A5),(A++x::R).set A.length y=A++y::R:=(by intro A R x y;induction A with| nil=>rfl| cons a A ih=>simp only [List.cons_append,List.length_cons,List.set_cons_succ,ih]);have h:=this ((ts.take j).map J0) (ts.drop (j+1)) t ⟨t.Var,-t.Coef⟩;rw [b] at h;rw [h]; rfl);simp only [Aj (by omega:(j:Int)<((ts.length:Nat):Int)),cond_true,hi,Ad,C6 hj ω,hw,c]
 .simp
theorem Ajb (a b:Bb) (h:a.Terms.length+b.Terms.length<=12) : (C2 a=true/\C2 b=true/\∃L,Ks a b=some (Qo (a.Const+b.Const) L)/\Jd L/\∀v,cl L v=cl a.Terms v+cl b.Terms v)\/((C2 a&&C2 b)=false/\Ks a b=some (⟨0,[]⟩,1)):=by
 unfold Ks;rw [Lq,Lq];cases ha:C2 a with
 | false=>exact .inr ⟨rfl,rfl⟩
 | true=>
  cases hb:C2 b with
  | false=>exact .inr ⟨rfl,rfl⟩
  | true=>
   left;have h1:=Kl ha;have h2:=Kl hb;obtain ⟨L,g,f,c⟩:=Arl (a.Const+b.Const) (a.Terms++b.Terms) (by simp; omega) (λt ht=>by
    rcases List.mem_append.1 ht with ht | ht
    .have:=Tc ha t ht; omega
    .have:=Tc hb t ht; omega);refine ⟨rfl,rfl,L,?_,f,λv=>by rw [c,Mu]⟩;have w:Aa (a.Const+b.Const)=a.Const+b.Const:=(by rw [Aa,Bm] <;> omega);simp only [Ad,Dk,cond_false,Arp a.Terms b.Terms ω,w,g]
theorem Ajc (a b:Bb) (h:a.Terms.length+b.Terms.length<=12) : (C2 a=true/\C2 b=true/\∃L,L8 a b=some (Qo (a.Const-b.Const) L)/\Jd L/\∀v,cl L v=cl a.Terms v-cl b.Terms v)\/((C2 a&&C2 b)=false/\L8 a b=some (⟨0,[]⟩,1)):=by
 unfold L8;rw [Lq,Lq];cases ha:C2 a with
 | false=>exact .inr ⟨rfl,rfl⟩
 | true=>
  cases hb:C2 b with
  | false=>exact .inr ⟨rfl,rfl⟩
  | true=>
   left;have h1:=Kl ha;have h2:=Kl hb;obtain ⟨L,g,f,c⟩:=Arl (a.Const-b.Const) (a.Terms++b.Terms.map J0) (by simp; omega) (λt ht=>by
    rcases List.mem_append.1 ht with ht | ht
    .have:=Tc ha t ht; omega
    .obtain ⟨u,hu,rfl⟩:=List.mem_map.1 ht;have:=Tc hb u hu;show _<=-u.Coef/\-u.Coef<=_;omega);refine ⟨rfl,rfl,L,?_,f,λv=>by rw [c,Mu,A31]; omega⟩;have w:Aa (a.Const-b.Const)=a.Const-b.Const:=(by rw [Aa,Bm] <;> omega);simp only [Ad,Dk,cond_false,A32 b.Terms ω (Tc hb),Arp a.Terms (b.Terms.map J0) (by simp; omega),w,g]
theorem A33 (a b:Bb) (c:a.Terms.length+b.Terms.length<=12):∃r,Ks a b=some r:=by rcases Ajb a b c with ⟨_,_,L,h,_⟩ | ⟨_,h⟩ <;> exact ⟨_,h⟩
theorem A34 (a b:Bb) (c:a.Terms.length+b.Terms.length<=12):∃r,L8 a b=some r:=by rcases Ajc a b c with ⟨_,_,L,h,_⟩ | ⟨_,h⟩ <;> exact ⟨_,h⟩
theorem Ajd (a:Eu) (j:a.E.Terms.length+a.F.Terms.length<=12):∃b,L7 a=some b/\(b=true↔C2 a.E=true/\C2 a.F=true/\0<=a.K/\a.K<=6/\((a.Kind=1/\∃s,Ks a.E a.F=some (s,0))\/(a.Kind=2/\∃s,L8 a.E a.F=some (s,0)))):=by
 obtain ⟨r,l⟩:=A33 a.E a.F j;obtain ⟨q,hq⟩:=A34 a.E a.F j;unfold L7;rw [Lq,Lq,l,hq];cases x:C2 a.E with
 | false=>exact ⟨false,rfl,ψ⟩
 | true=>
  cases u:C2 a.F with
  | false=>exact ⟨false,rfl,ψ⟩
  | true=>
   simp only [Ad,Dk,cond_false];by_cases h0:0<=a.K
   .rw [An ω];by_cases k:a.K<=6
    .rw [An ω];simp only [cond_false,Ad];by_cases f:a.Kind=1
     .rw [Dw f,cond_true];refine ⟨_,rfl,?_⟩;constructor
      .intro h;have h:=of_decide_eq_true (by simpa using h:decide (r.2=0)=true);exact ⟨trivial,trivial,h0,k,.inl ⟨f,r.1,by rw [<-h]⟩⟩
      .rintro ⟨_,_,_,_,⟨_,s,i⟩ | ⟨c,_⟩⟩
       .cases i; rfl
       .omega
     .rw [Ch f,cond_false];by_cases c:a.Kind=2
      .rw [Dw c,cond_true];refine ⟨_,rfl,?_⟩;constructor
       .intro h;have h:=of_decide_eq_true (by simpa using h:decide (q.2=0)=true);exact ⟨trivial,trivial,h0,k,.inr ⟨c,q.1,by rw [<-h]⟩⟩
       .rintro ⟨_,_,_,_,⟨g,_⟩ | ⟨_,s,i⟩⟩
        .exact (f g).elim
        .cases i; rfl
      .rw [Ch c,cond_false];exact ⟨false,rfl,by simp [f,c]⟩
    .rw [Aj ω];exact ⟨false,rfl,by simp; omega⟩
   .rw [Aj ω];exact ⟨false,rfl,by simp; omega⟩
theorem Arq (p:List Ah) (b:p.length<=1000) (h:∀t∈p,D9 t.Mono/\RB 2000000 t.Coef):O9 p p=some true:=by
 unfold O9;rw [bne_self_eq_false,cond_false];refine Gf p (λj=>(j:Int)) rfl ω ?_ ?_
 .intro j t hj hx h1 h2 h3;obtain ⟨m1,m2⟩:=h t (Cd hx);simp only [h1,h2,h3,cond_true,Ad,Y0 _ _ m1,Ah8,bne_self_eq_false,cond_false,Aym _ _ m2 δ]
 .intro h;exact ⟨.inr (),by simp only [h]; rfl,rfl⟩
theorem IP.alike {x:Bk} {n L:Nat} {f:Ba->Rat} {R:List Ah} (h:IP x n L f R) (c:n<=1000) (g:L<=1000000):O9 R R=some true := Arq R (by have:=h.len; omega) λt ht=>⟨(h.mo t ht).2,by obtain ⟨z,b,z2⟩:=h.int t ht;exact (V4 (h.cp.coe t ht).1 b z2).mono ω⟩
end Go.Ab
namespace Go.Ab
open Go
theorem A35:Aa0=some true:=κ
end Go.Ab
namespace Go.Ab
open Go
theorem A36 {x:Bk} {P:Ba->Prop} (g:∀m,P m->G6 x m) {k:Nat} {ts:List Ah} (h:Col k P ts) (hk:k<34359738000) (s:ts.length<=1000) (hi:∀m,∃z:Int,cf ts m=(z:Rat)):∃R,Ku (plc ts) ts=some (R,0)/\IP x ts.length (k+2) (cf ts) R/\∀t∈R,P t.Mono:=by
 obtain ⟨R,l,c,f,b,j⟩:=Aip (P:=P) (λm h=>(g m h).cmo) (plc ts) ts h ω s (λi _ h2 h3=>Aiu i h2 h3);refine ⟨R,l,⟨c,f,λt ht=>g _ (b t ht).1,j,λt ht=>?_⟩,λt ht=>(b t ht).1⟩;obtain ⟨z,q⟩:=hi t.Mono;have e:rq t.Coef=(z:Rat):=by rw [<-Y4 c ht,f,q]
 exact ⟨z,e,Ari (c.coe t ht).1 e (b t ht).2⟩
def NoF (x:Bk) (D:Nat) (m:Ba):Prop:=G6 x m/\m.Factors = []/\Cb m.Atoms<=(D:Nat)
theorem NoF.mono {x:Bk} {D D':Nat} {m:Ba} (h:NoF x D m) (hd:D<=D'):NoF x D' m:=⟨h.1,h.2.1,by have:=h.2.2; omega⟩
theorem IsE.noF {x:Bk} {A:List A7} {B:List Du} (h:IsE A B) (f:Atk A) (hi:∀a∈A,Ea x.Vars x.Res a.Lin=true) (i:Cm A<=6):∀b∈B,NoF x (Cm A) ⟨[],b.1⟩:=by intro b hb;refine ⟨h.good f hi i b hb,rfl,?_⟩;obtain ⟨gs,k,c,j,g,rfl⟩:=h;obtain ⟨h1,h2⟩:=Arg (vars:=x.Vars) (res:=x.Res) g (λa ha=>⟨f.lin a (c.mem_iff.1 ha),hi a (c.mem_iff.1 ha)⟩) [([],1)] 0 (λb hb=>by simp only [List.mem_singleton] at hb;subst hb;exact ⟨⟨List.Pairwise.nil,λ_ h=>by cases h⟩,by simp [Cb],λ_ h=>by cases h⟩) b hb;rw [V3 c] at h2;show Cb b.1<=_;omega
theorem A37 {x:Bk} {P:Ba->Prop} (E:∀m,P m->G6 x m) {A:List A7} (U:Atk A) (N:Cm A<=6) (s:∀B,IsE A B->∀b∈B,P ⟨[],b.1⟩) (b1:List (ByteArray×Int)) (b2:List (ByteArray×List Cs)) (D y:Int) (u:List Ai) : ∃R B,W6 ⟨[],A⟩ b1 b2 x.Data x.Vars D y u=some (R,0,b1,b2)/\IsE A B/\IP x B.length (2429+B.length*2430) (λm=>(ec B m:Rat)) R/\∀t∈R,P t.Mono:=by
 have f:rq (cR 1)=1:=by rw [Ta]; rfl
 obtain ⟨out,B,X,G,j,V⟩:=Ai7 (c:=cR 1) (K:=3) (A:=A) ((Ais (k:=1) (by rw [Ig]; decide) δ).mono δ) δ (by rw [f]; decide) U b1 b2 x.Data x.Vars D y u;have S:out.length<=64:=Nat.le_trans V (Nat.le_trans (Nat.pow_le_pow_right δ N) δ);have hm:=s B G;obtain ⟨v,J,v2,v3,v4⟩:=Ado (k0:=2427) (k:=2427) (P:=P) (λm h=>(E m h).cmo) out [] (Col.nil _ _) (λt ht=>by obtain ⟨b,hb,q,_,l⟩:=j.mem ht;exact ⟨l,by rw [q]; exact hm b hb⟩) (Nat.le_refl _) ω (by simp; omega);simp at v3;have i:∀m,cf v m=1*(ec B m:Rat):=λm=>by rw [v4,j.cf,f]; simp only [cf]; grind
 obtain ⟨R,M,g,L⟩:=A36 (x:=x) (P:=P) E v2 ω ω (λm=>by rw [i]; exact A3z);refine ⟨R,B,?_,G,⟨g.cp,λm=>by rw [g.val,i]; grind,g.mo,by have:=g.len; have:=j.len; omega,λt ht=>by obtain ⟨z,I,z2⟩:=g.int t ht;exact ⟨z,I,by rw [<-j.len]; omega⟩⟩,L⟩;unfold W6;rw [Adp,Ad,X,Ad];simp only [bne_self_eq_false,cond_false,Lj,Ad];rw [show Kt out [] []=some (plc v,v) from J,Ad,M]; rfl
theorem Gs.nil_of {c:List Grp} {A:List A7} (h:Gs c A):A = []->c = []:=by cases h with| nil=>exact λ_=>rfl| cons b _ _ _ _=>exact λe=>absurd (List.append_eq_nil_iff.1 e).1 b
theorem IsE.one {a:A7} {B:List Du} (h:IsE [a] B):B.length<=1:=by
 obtain ⟨gs,G,x,I,q,rfl⟩:=h;have E:G = [a]:=List.perm_singleton.1 x;rw [E] at q;generalize c:[a]=X at q;cases q with
 | nil=>cases c
 | @cons l N f g rest gs s M J z D=>
  have L:g.length+rest.length=1:=(by have:=congrArg List.length c;simpa using this.symm);have y:g.length=1:=(by have:=List.length_pos_iff.2 s;have:rest.length≠1\/g.length=0:=ω;omega);have b:rest = []:=List.length_eq_zero_iff.1 ω;subst b;rw [List.append_nil] at c;subst c;have u:=D.nil_of rfl;subst u
  .show (D7 [([],1)] l f (N+1)).length<=1;have key:∀n,(∀i j,i<n->j<n->f i≠0->f j≠0->i=j)->(D7 [(([],1):Du)] l f n).length<=1/\((D7 [(([],1):Du)] l f n).length=1->∃i,i<n/\f i≠0):=by
    intro n;induction n with
    | zero=>intro _; simp [D7]
    | succ n ih=>
     intro h;obtain ⟨i1,i2⟩:=ih λi j hi hj=>h i j ω ω;rw [Lt,List.length_append];by_cases h0:f n=0
     .rw [if_pos h0];refine ⟨by simpa using i1,λe=>?_⟩;obtain ⟨i,a1,a2⟩:=i2 (by simpa using e);exact ⟨i,ω,a2⟩
     .rw [if_neg h0];have:(D7 [(([],1):Du)] l f n).length≠1:=λe=>by obtain ⟨i,a1,a2⟩:=i2 e;have:=h i n ω ω a2 h0;omega
      refine ⟨by simp only [List.length_map,List.length_singleton]; omega,λ_=>⟨n,ω,h0⟩⟩
   refine (key (N+1) ?_).1;rcases z with ⟨_,h2⟩ | ⟨_,h2,_⟩
   .have e:∀k,k<N+1->f k=if k=N then 1 else 0:=by refine Aiy λn _=>?_;rw [h2.2.2 n];have A:N=a.Deg.toNat:=(by have:=h2.1; simpa [Cm] using this);rw [Zg (k:=N) ω (λj hj=>by simp [hj])];simp [En,A]
    intro i j hi hj h1 h2;rw [e i hi] at h1;rw [e j hj] at h2;split at h1
    .split at h2
     .omega
     .exact (h2 rfl).elim
    .exact (h1 rfl).elim
   .intro i j hi hj _ _;omega
theorem IsE.oneA {a:A7} {B:List Du} (h:IsE [a] B):∀b∈B,b.1.length<=1:=by obtain ⟨gs,A,q,x,k,rfl⟩:=h;have j:=q.length_eq;cases k with| nil=>intro b hb; simp only [Kk,List.mem_singleton] at hb; subst hb; simp| @cons l N f g rest gs c y i z u=>rw [List.length_append] at j;simp only [List.length_singleton] at j;have s:=List.length_pos_iff.2 c;have i:rest = []:=List.length_eq_zero_iff.1 ω;subst i;have:=u.nil_of rfl;subst this;exact Arf (M:=0) λb hb=>by simp only [List.mem_singleton] at hb; subst hb; simp
theorem Arr {x:Bk} (y:CSz x) (A:F0 x) {l:Bb} {k:Int} (g:C2 l=true) (h0:0<=k) (D:k<=6) (hi:Ea x.Vars x.Res l=true) : ∃R B,Li x l k=some (R,0)/\IsE [⟨l,k⟩] B/\IP x 1 4900 (λm=>(ec B m:Rat)) R/\∀t∈R,NoF x k.toNat t.Mono/\t.Mono.Atoms.length<=1:=by obtain ⟨q,hb,_⟩:=A2o y (ps:=[]) (λp hp=>by cases hp) ψ ⟨A,λp hp=>by cases hp⟩;obtain ⟨a1,a2⟩:=A30 g h0 D;obtain ⟨R,B,u,f,c,i⟩:=A37 (x:=x) (P:=λm=>NoF x (Cm [⟨l,k⟩]) m/\m.Atoms.length<=1) (λm h=>h.1.1) a1 a2 (λB j b hb=>⟨j.noF a1 (λa ha=>by simp only [List.mem_singleton] at ha; subst ha; exact hi) a2 b hb,j.oneA b hb⟩) q [] x.Res.Kind x.Res.Num x.Res.Args;refine ⟨R,B,?_,f,⟨c.cp,c.val,c.mo,Nat.le_trans c.len f.one,λt ht=>by obtain ⟨z,s,z2⟩:=c.int t ht;have:=f.one;exact ⟨z,s,ω⟩⟩,λt ht=>⟨(i t ht).1.mono (by simp [Cm]),(i t ht).2⟩⟩;unfold Li;rw [hb];simp only [Ad,Dk,cond_false,Lq,g,An (by omega:¬k<0),An (by omega:¬k>6)];rw [Apf q [] x.Data x.Vars x.Res l (by have:=(Kl g).1; omega),Ad,hi];simp only [Dk,cond_false,u,Ad]
end Go.Ab
namespace Go.Ab
open Go
theorem Ad0 {l:List A7} (h:∀a∈l,1<=a.Deg):0<=Cb l:=by induction l with| nil=>simp [Cb]| cons a l ih=>have h1:=h a ψ;have h2:=ih λb hb=>h b (by simp [hb]);unfold Cb at *;simp only [List.map_cons,List.sum_cons]; omega
theorem Ars {l:List A7} (h:∀a∈l,1<=a.Deg) (j:Nat):0<=Cb (l.take j)/\Cb (l.take j)<=Cb l:=by refine ⟨Ad0 λa ha=>h a (List.mem_of_mem_take ha),?_⟩;have e:=Ady (l.take j) (l.drop j);rw [List.take_append_drop] at e;have:=Ad0 (l:=l.drop j) λa ha=>h a (List.mem_of_mem_drop ha);omega
theorem A38 {x:Bk} {D:Nat} {m:Ba} (h:NoF x D m) (q:D<=6) (b1:List (ByteArray×Int)) (b2:List (ByteArray×List Cs)) (data:List A3) (vars:List Ai) (k i:Int) (g:List Ai) : Pq m b1 b2 data vars k i g=some (Cb m.Atoms,b1):=by
 obtain ⟨h1,h2,h3⟩:=h;have hm:=h1.cmo;have hd:∀a∈m.Atoms,1<=a.Deg:=λa ha=>(hm.al a ha).2.2.1;have l:=hm.na;unfold Pq;rw [h2];refine Dl (a:=(0,b1)) (Cz ψ) ?_;dsimp only;refine Ie m.Atoms.length (λj=>(Cb (m.Atoms.take j),(j:Int))) (by simp [Cb]) ?_ ⟨Cb m.Atoms,?_,rfl⟩
 .intro j hj;have hx:m.Atoms[j]? = some m.Atoms[j]:=Bv hj;have b:=List.getElem_mem hj;generalize m.Atoms[j]=a at hx b;have ha:=hm.al a b;have ht:=Ars hd j;have c:=Ars hd (j+1);rw [C8 hx,Ady] at c;have f:Cb [a]=a.Deg:=(by simp [Cb]);rw [f] at c;have e:(if (7:Int)<a.Deg then 7 else a.Deg)=a.Deg:=if_neg ω;have w:Aa (Cb (m.Atoms.take j)+a.Deg)=Cb (m.Atoms.take j)+a.Deg:=(by rw [Aa,Bm] <;> omega);simp only [Aj (by omega:(j:Int)<(m.Atoms.length:Int)),cond_true,Ce rfl hx,Ad,Aj (by omega:Cb (m.Atoms.take j)<=6),e,w,C6 hj ω,C8 hx,Ady,f]
 .simp only [An (by omega:¬(m.Atoms.length:Int)<(m.Atoms.length:Int)),cond_false,List.take_length]
theorem Art {x:Bk} {D:Nat} {t:Ah} (h:NoF x D t.Mono) (l:D<=6) (b1:List (ByteArray×Int)) (b2:List (ByteArray×List Cs)) (data:List A3) (vars:List Ai) (i g:Int) (f:List Ai) : ∃G,Up [t] b1 b2 data vars i g f=some (G,b1)/\0<=G/\G<=(D:Int):=by
 have hd:∀a∈t.Mono.Atoms,1<=a.Deg:=λa ha=>(h.1.cmo.al a ha).2.2.1;have h0:=Ad0 hd;have c:=h.2.2;refine ⟨Cb t.Mono.Atoms,?_,h0,c⟩;unfold Up;have i0:Ae [t] 0=some t:=rfl;have k:Aa (0+1)=1:=by rw [Aa,Bm] <;> omega
 refine Ie 1 (λj=>if j=0 then (0,0,b1) else (Cb t.Mono.Atoms,1,b1)) rfl ?_ ⟨(Cb t.Mono.Atoms,b1),?_,rfl⟩
 .intro j hj;have:j=0:=ω;subst this;have e:(if Cb t.Mono.Atoms>0 then Cb t.Mono.Atoms else 0)=Cb t.Mono.Atoms:=(by split <;> omega);have b:=A38 h l b1 b2 data vars i g f;simp only [if_true,List.length_singleton,i0,Ad,b,e,k];rfl
 .rfl
noncomputable def eB (A:List A7):List Du:=open Classical in if h:∃B,IsE A B then Classical.choose h else []
theorem Aje {A:List A7} {B:List Du} (h:IsE A B):eB A=B:=by unfold eB;rw [dif_pos ⟨B,h⟩];exact (Classical.choose_spec (⟨B,h⟩:∃B,IsE A B)).det h (List.Perm.refl _)
noncomputable def Oq:List Ah->List Ah->Ba->Rat
 | t::_,u::_,m=>rq t.Coef*rq u.Coef*(ec (eB (t.Mono.Atoms++u.Mono.Atoms)) m:Rat)
 | _,_,_=>0
theorem Aru {x:Bk} {D:Nat} {m:Ba} (h:NoF x D m) (f:D<=6):Atk m.Atoms/\Cm m.Atoms<=D/\(∀a∈m.Atoms,Ea x.Vars x.Res a.Lin=true)/\m.Atoms.length<=D:=by
 have hm:=h.1.cmo;have hd:∀l:List A7,(∀a∈l,1<=a.Deg)->(Cm l:Int)=Cb l/\(l.length:Int)<=Cb l:=by intro l;induction l with| nil=>intro _; simp [Cm,Cb]| cons a l ih=>intro h;have h1:=h a ψ;obtain ⟨h2,h3⟩:=ih λb hb=>h b (by simp [hb]);unfold Cb at *;simp only [Cm,List.map_cons,List.sum_cons,List.length_cons]; omega
 have c:=hd m.Atoms λa ha=>(hm.al a ha).2.2.1;have h3:=h.2.2;refine ⟨⟨λa ha=>by have:=(hm.al a ha).2.2.1; omega,λa ha=>(hm.al a ha).1,ω,ω⟩,ω,λa ha=>?_,ω⟩;have hc:=h.1.1;unfold Hh at hc;simp only [Dj,List.all_eq_true] at hc;obtain ⟨j,hj⟩:=List.getElem?_of_mem ha;have:=hc.1.2 (a,j) (List.mk_mem_zipIdx_iff_getElem?.2 hj);unfold Ik at this;simp only [Dj] at this;exact this.1.2
end Go.Ab
namespace Go.Ab
open Go
theorem V5 {B:List Du} {l:Bb} {f:Nat->Nat} {m:Nat} (h:∀k,k<m->f k=0):∀n,(D7 B l f n).length<=(n-m)*B.length
 | 0=>by simp [D7]
 | n+1=>by
  have ih:=V5 (B:=B) (l:=l) h n;rw [Lt,List.length_append];rcases Nat.lt_or_ge n m with h' | h'
  .rw [if_pos (h n h'),show n-m=0 by omega] at *;simp only [List.length_nil]; omega
  .have e:n+1-m=(n-m)+1:=ω;rw [e,Nat.add_mul,Nat.one_mul];have:(if f n=0 then ([]:List Du) else B.map λb=>(b.1++atO l n,b.2*f n)).length<=B.length:=(by split <;> simp);omega
theorem Ajf {x d:Nat} (h:x<d):bc x d=0:=by
 induction x generalizing d with
 | zero=>cases d with| zero=>omega| succ d=>rfl
 | succ x ih=>cases d with| zero=>omega| succ d=>show bc x d+bc x (d+1)=0;rw [ih ω,ih ω]
theorem Arv {x:Nat} {a:A7} (h:x<a.Deg.toNat):∀{l:List A7},a∈l->En x l=0
 | b::l,hm=>by
  simp only [En];rcases List.mem_cons.1 hm with rfl | hm
  .rw [Ajf h,Nat.zero_mul]
  .rw [Arv h hm,Nat.mul_zero]
theorem Zn {l:Bb} {N:Nat} {f:Nat->Nat} {g:List A7} (h:PwN g N f) {a:A7} (ha:a∈g) (b:a.Deg.toNat<=N):∀k,k<a.Deg.toNat->f k=0:=λk hk=>by have:=h.le (k:=k) ω;rw [Arv hk ha] at this;omega
theorem Arw {B:List Du} {l:Bb} {N:Nat} {f:Nat->Nat} {a:A7} (h:Pw l N f [a]):(D7 B l f (N+1)).length<=B.length:=by
 rcases h with ⟨_,h⟩ | ⟨_,h,_⟩
 .have b:N=a.Deg.toNat:=(by have:=h.1; simpa [Cm] using this);have:=V5 (B:=B) (l:=l) (Zn (l:=l) h (List.mem_singleton.2 rfl) ω) (N+1);rw [show N+1-a.Deg.toNat=1 by omega,Nat.one_mul] at this;exact this
 .subst h;have:=Adv B l f 1;rw [Nat.one_mul] at this;exact this
theorem A39 {B:List Du} {l:Bb} {N:Nat} {f:Nat->Nat} {a b:A7} (h:Pw l N f [a,b]):(D7 B l f (N+1)).length<=(1+min a.Deg.toNat b.Deg.toNat)*B.length:=by
 rcases h with ⟨_,h⟩ | ⟨_,h,_⟩
 .have c:N=a.Deg.toNat+b.Deg.toNat:=(by have:=h.1; simp only [Cm] at this; omega);have h1:=V5 (B:=B) (l:=l) (Zn (l:=l) h (a:=a) ψ ω) (N+1);have h2:=V5 (B:=B) (l:=l) (Zn (l:=l) h (a:=b) ψ ω) (N+1);rcases Nat.le_total a.Deg.toNat b.Deg.toNat with k | k
  .rw [Nat.min_eq_left k];rw [show N+1-b.Deg.toNat=1+a.Deg.toNat by omega] at h2;exact h2
  .rw [Nat.min_eq_right k];rw [show N+1-a.Deg.toNat=1+b.Deg.toNat by omega] at h1;exact h1
 .subst h;have h1:=Adv B l f 1;rw [Nat.one_mul] at h1;rw [Nat.add_mul,Nat.one_mul];exact Nat.le_trans h1 (Nat.le_add_right _ _)
theorem IsE.cnt1 {L M:List A7} {B:List Du} (h:IsE (L++M) B) (hL:L.length<=1) (hM:M.length<=1):B.length<=1+min (Cm L) (Cm M):=by
 obtain ⟨gs,A',j,S,V,rfl⟩:=h;have i:=j.length_eq;rw [List.length_append] at i;cases V with
 | nil=>simp only [Kk,List.length_singleton]; omega
 | @cons l N f g rest gs u hg D A U=>
  rw [List.length_append] at i;have G:=List.length_pos_iff.2 u
  match g,u,A,i,j,G with
  | [a],_,A,i,j,_=>
   have h1:=Arw (B:=[([],1)]) A;show (Kk (D7 [([],1)] l f (N+1)) gs).length<=_;simp only [List.length_singleton] at h1 i;have hB:(Kk (D7 [([],1)] l f (N+1)) gs).length<=(D7 [([],1)] l f (N+1)).length:=by
    generalize D7 [([],1)] l f (N+1)=B0;cases U with
    | nil=>exact Nat.le_refl _
    | @cons Z N' f' Y k X s _ _ q R=>
     have z:=List.length_pos_iff.2 s;rw [List.length_append] at i
     match Y,q,i,z with
     | [b],q,i,_=>simp only [List.length_singleton] at i;have D:k = []:=List.length_eq_zero_iff.1 ω;subst D;have:=R.nil_of rfl;subst this;exact Arw q
     | b::c::t,_,i,_=>simp only [List.length_cons] at i; omega
   omega
  | [a,b],_,A,i,j,_=>
   simp only [List.length_cons,List.length_nil] at i;have D:rest = []:=List.length_eq_zero_iff.1 ω;subst D;have:=U.nil_of rfl;subst this;rw [List.append_nil] at j;have h1:=A39 (B:=[([],1)]) A;have J:∃x,L = [x]:=List.length_eq_one_iff.1 ω;have I:∃x,M = [x]:=List.length_eq_one_iff.1 ω;obtain ⟨x,rfl⟩:=J;obtain ⟨y,rfl⟩:=I;have E:(a=x/\b=y)\/(a=y/\b=x):=by
    have ha:a∈[x]++[y]:=j.mem_iff.1 ψ;simp only [List.cons_append,List.nil_append,List.mem_cons,List.not_mem_nil,or_false] at ha;rcases ha with rfl | rfl
    .left;exact ⟨rfl,by have:=j.cons_inv; exact (List.singleton_perm_singleton.1 this)⟩
    .right;have S:[a,b].Perm [a,x]:=j.trans (List.Perm.swap a x []);exact ⟨rfl,List.singleton_perm_singleton.1 S.cons_inv⟩
   show (D7 [([],1)] l f (N+1)).length<=_;simp only [List.length_singleton,Nat.mul_one] at h1;simp only [Cm,Nat.add_zero];rcases E with ⟨rfl,rfl⟩ | ⟨rfl,rfl⟩
   .exact h1
   .rw [Nat.min_comm]; exact h1
  | a::b::c::t,_,_,i,_,_=>simp only [List.length_cons] at i; omega
end Go.Ab
namespace Go.Ab
open Go
theorem V6 {α:Type} {l:List α} (h:l.length<=1):l = []\/∃a,l = [a]:=by
 cases l with
 | nil=>exact .inl rfl
 | cons a l=>cases l with| nil=>exact .inr ⟨a,rfl⟩| cons b l=>simp at h
theorem Arx (x:Bk) (n L:Nat) (f:Ba->Rat) (b:∀m,f m=0):IP x n L f [] := ⟨CP.nil,λm=>(b m).symm,λ_ h=>(by cases h),ψ,λ_ h=>(by cases h)⟩
theorem A4a {x:Bk} (hz:CSz x) (hf:F0 x) {D D':Nat} (hD:D+D'<=6) {f g:Ba->Rat} {p q:List Ah} (hp:IP x 1 4900 f p) (hq:IP x 1 4900 g q) (np:∀t∈p,NoF x D t.Mono) (nq:∀t∈q,NoF x D' t.Mono) {n:Nat} (hn:∀t∈p,∀u∈q,∀B,IsE (t.Mono.Atoms++u.Mono.Atoms) B->B.length<=n) : ∃R,Rn x p q=some (R,0)/\IP x n 13000 (Oq p q) R:=by
 obtain ⟨j,hb⟩:=Aqr hz hf (hp.can δ δ) (hq.can δ δ);have s:Ku [] []=some ([],0):=by obtain ⟨R,E,l⟩:=Arn (x:=x) (k:=0) (Col.nil 0 _) δ ψ (λm=>⟨0,rfl⟩);have:R = []:=List.length_eq_zero_iff.1 (by have:=l.len; simpa using this);rw [this] at E;exact E
 have L:Aa (0+1)=1:=by rw [Aa,Bm] <;> omega
 rcases V6 hp.len with rfl | ⟨t,rfl⟩
 .refine ⟨[],?_,Arx x _ _ _ λm=>by cases q <;> rfl⟩;unfold Rn;rw [hb];simp only [Ad,Dk,cond_false,List.length_nil,Lj];rw [An δ,cond_false];simp only [Ad,cond_false];refine Dl (a:=.inr (j,[],[],[])) (Cz (by rfl)) ?_;simp only [s,Ad]
 .have ht:=np t ψ;have S:=Art ht ω j [] x.Data x.Vars x.Res.Kind x.Res.Num x.Res.Args;obtain ⟨G,g1,g2,g3⟩:=S;have it:Ae [t] 0=some t:=rfl;rcases V6 hq.len with rfl | ⟨u,rfl⟩
  .refine ⟨[],?_,Arx x _ _ _ λm=>rfl⟩;unfold Rn;rw [hb];simp only [Ad,Dk,cond_false,List.length_nil,List.length_singleton,Lj];rw [Aj δ,An δ,cond_true,cond_false];simp only [Ad,cond_false];refine Dl (a:=.inr (j,[],[],[])) ?_ (by simp only [s,Ad]);refine (Ft (s':=(1,j,[],[],[])) ?_).trans (Cz ?_)
   .simp only [it,Ad];rw [Aj δ,cond_true];refine Dl (a:=.inr (0,j,[],[],[])) (Cz (by rfl)) ?_;simp only [L]
   .rfl
  .have hu:=nq u ψ;obtain ⟨G',Z,a8,a7⟩:=Art hu ω j [] x.Data x.Vars x.Res.Kind x.Res.Num x.Res.Args;have iu:Ae [u] 0=some u:=rfl;obtain ⟨a1,a2,a3,a4⟩:=Aru ht ω;obtain ⟨c1,c2,c3,c4⟩:=Aru hu ω;obtain ⟨y,J,y2⟩:=hp.int t ψ;obtain ⟨z,I,z2⟩:=hq.int u ψ;have N:=V4 (hp.cp.coe t ψ).1 J y2;have M:=V4 (hq.cp.coe u ψ).1 I z2;obtain ⟨c,m1,m2,m3,m4⟩:=Ah5 N M δ δ;have hA:Atk (t.Mono.Atoms++u.Mono.Atoms):=⟨λa ha=>by
    rcases List.mem_append.1 ha with h | h
    .exact a1.deg a h
    .exact c1.deg a h,λa ha=>by
    rcases List.mem_append.1 ha with h | h
    .exact a1.lin a h
    .exact c1.lin a h,by rw [Nr]; omega,by rw [List.length_append]; omega⟩
   have hs:Cm (t.Mono.Atoms++u.Mono.Atoms)<=6:=(by rw [Nr]; omega);have hi:∀a∈t.Mono.Atoms++u.Mono.Atoms,Ea x.Vars x.Res a.Lin=true:=λa ha=>by
    rcases List.mem_append.1 ha with h | h
    .exact a3 a h
    .exact c3 a h
   have V:rq c≠0:=by
    rw [m4];exact λh=>by
     rcases Rat.mul_eq_zero.1 h with h | h
     .exact (hp.cp.coe t ψ).2 h
     .exact (hq.cp.coe u ψ).2 h
   obtain ⟨out,B,e1,e2,A,e4⟩:=Ai7 (c:=c) (K:=9804) (m2.mono δ) δ V hA j [] x.Data x.Vars x.Res.Kind x.Res.Num x.Res.Args;have a6:out.length<=64:=Nat.le_trans e4 (Nat.le_trans (Nat.pow_le_pow_right δ hs) δ);have hm:=e2.good (x:=x) hA hi hs;obtain ⟨v,v1,v2,v3,v4⟩:=Ado (k0:=12228) (k:=12228) (P:=G6 x) (λm h=>h.cmo) out [] (Col.nil _ _) (λw hw=>by obtain ⟨b,hb,Y,_,X⟩:=A.mem hw;exact ⟨X,by rw [Y]; exact hm b hb⟩) (Nat.le_refl _) ω (by simp; omega);simp at v3;have U:∀m,cf v m=Oq [t] [u] m:=λm=>by rw [v4,A.cf,m4];show cf [] m+_=rq t.Coef*rq u.Coef*(ec (eB (t.Mono.Atoms++u.Mono.Atoms)) m:Rat);rw [Aje e2];simp only [cf]; grind
   obtain ⟨R,E,l⟩:=Arn (x:=x) v2 ω ω (λm=>by rw [v4,A.cf,m4,J,I];exact ⟨y*z*(ec B m:Int),by rw [Rat.intCast_mul,Rat.intCast_mul,Rat.intCast_natCast]; simp only [cf]; grind⟩);refine ⟨R,?_,⟨l.cp,λm=>by rw [l.val,U],l.mo,by have:=l.len; have:=A.len; have:=hn t ψ u ψ B e2; omega,λw hw=>by obtain ⟨i,i1,i2⟩:=Arm w.Mono out (A.listI (z:=y*z) (by rw [m4,J,I,Rat.intCast_mul]));refine ⟨i,?_,ω⟩;rw [<-Y4 l.cp hw,l.val,v4,i1];show (0:Rat)+(i:Rat)=(i:Rat);grind⟩⟩;have hj:Pj t.Mono u.Mono=some ⟨[],t.Mono.Atoms++u.Mono.Atoms⟩:=(by rw [Ard _ _ (by rw [ht.2.1,hu.2.1]; simp) ω,ht.2.1,hu.2.1]; rfl);have wG:Aa (G+G')=G+G':=(by rw [Aa,Bm] <;> omega);unfold Rn;rw [hb];simp only [Ad,Dk,cond_false,List.length_singleton,Lj];rw [Aj δ,cond_true,cond_true,g1,Ad,Z,Ad,wG,An ω];simp only [Ad,cond_false];refine Dl (a:=.inr (j,[],plc v,v)) ?_ (by simp only [E,Ad]);refine (Ft (s':=(1,j,[],plc v,v)) ?_).trans (Cz ?_)
   .simp only [it,Ad];rw [Aj δ,cond_true];refine Dl (a:=.inr (1,j,[],plc v,v)) ?_ (by simp only [L]);refine (Ft (s':=(1,j,[],plc v,v)) ?_).trans (Cz ?_)
    .simp only [iu,Ad,m1,hj,e1];rw [Aj δ,cond_true];simp only [bne_self_eq_false,cond_false];rw [show Kt out [] []=some (plc v,v) from v1];simp only [Ad,L]
    .rfl
   .rfl
end Go.Ab
namespace Go.Ab
open Go
def sq:Nat->(Nat->Rat)->Rat
 | 0,_=>0
 | n+1,f=>sq n f+f n
theorem IP.up {x:Bk} {n b L L':Nat} {f g:Ba->Rat} {R:List Ah} (h:IP x n L f R) (i:n<=b) (j:L<=L') (e:∀m,f m=g m):IP x b L' g R := ⟨h.cp,λm=>by rw [h.val,e],h.mo,Nat.le_trans h.len i,λt ht=>by obtain ⟨z,c,z2⟩:=h.int t ht;exact ⟨z,c,ω⟩⟩
noncomputable def aP (x:Bk) (l:Bb) (k:Int):List Ah:=match Li x l k with | some r=>r.1 | none=>[]
theorem V7 {x:Bk} (h:CSz x) (j:F0 x) {l:Bb} {k:Int} (i:C2 l=true) (h0:0<=k) (q:k<=6) (hi:Ea x.Vars x.Res l=true) : Li x l k=some (aP x l k,0)/\IP x 1 4900 (λm=>(ec (eB [⟨l,k⟩]) m:Rat)) (aP x l k)/\∀t∈aP x l k,NoF x k.toNat t.Mono/\t.Mono.Atoms.length<=1:=by
 obtain ⟨R,B,b,g,f,c⟩:=Arr h j i h0 q hi;have e:aP x l k=R:=by unfold aP; rw [b]
 rw [e,Aje g];exact ⟨b,f,c⟩
noncomputable def shF (x:Bk) (E F s:Bb) (K:Nat) (m:Ba):Rat:=(ec (eB [⟨s,(K:Int)⟩]) m:Rat)-sq (K+1) λj=>Oq (aP x E (j:Int)) (aP x F ((K-j:Nat):Int)) m
theorem NoF.dsum_le {x:Bk} {D:Nat} {m:Ba} (h:NoF x D m):Cm m.Atoms<=D:=by
 have h1:=h.2.2;have h2:∀l:List A7,(∀a∈l,1<=a.Deg)->Cb l=(Cm l:Nat):=λl=>by induction l with| nil=>intro _; rfl| cons a l ih=>intro h;have e:=ih λb hb=>h b (by simp [hb]);have c:=h a ψ;unfold Cb at *;simp only [List.map_cons,List.sum_cons,Cm];omega
 rw [h2 _ λa ha=>(h.1.cmo.al a ha).2.2.1] at h1;omega
def cs (K:Nat):Nat->Nat
 | 0=>0
 | j+1=>cs K j+(1+min j (K-j))
theorem Ad1 {K j:Nat} (b:K<=6) (hj:j<=K+1):cs K j<=16:=(by decide:∀K,K<7->∀j,j<K+2->cs K j<=16) K ω j ω
theorem Ary {x:Bk} (b:CSz x) (c:F0 x) {E F:Bb} {K j:Nat} (y:C2 E=true) (s:C2 F=true) (q:Ea x.Vars x.Res E=true) (i:Ea x.Vars x.Res F=true) (A:K<=6) (hj:j<=K) : ∃R,T8 x ⟨1,E,F,(K:Int)⟩ (j:Int)=some (R,0)/\IP x (1+min j (K-j)) 13000 (Oq (aP x E (j:Int)) (aP x F ((K-j:Nat):Int))) R:=by
 obtain ⟨a1,a2,a3⟩:=V7 b c (l:=E) (k:=(j:Int)) y ω ω q;obtain ⟨b1,b2,f⟩:=V7 b c (l:=F) (k:=((K-j:Nat):Int)) s ω ω i;obtain ⟨R,h,g⟩:=A4a b c (D:=j) (D':=K-j) ω a2 b2 (λt ht=>(a3 t ht).1.mono ω) (λt ht=>(f t ht).1.mono ω) (n:=1+min j (K-j)) (λt ht u hu B z=>by have h1:=z.cnt1 (a3 t ht).2 (f u hu).2;have h2:=(a3 t ht).1.dsum_le;have h3:=(f u hu).1.dsum_le;omega);refine ⟨R,?_,g⟩;have w:Aa ((K:Int)-(j:Int))=((K-j:Nat):Int):=by rw [Aa,Bm] <;> omega
 unfold T8;simp only [a1,Ad,bne_self_eq_false,cond_false,w,b1,h]
theorem Arz {l:List A5} {v:Int} (h:cl l v≠0):∃t∈l,t.Var=v:=by
 rcases Classical.em (∃t∈l,t.Var=v) with h' | h'
 .exact h'
 .exact (h (Qm λt ht e=>h' ⟨t,ht,e⟩)).elim
theorem Jd.cl {L:List A5} (h:Jd L) {t:A5} (ht:t∈L):Ab.cl L t.Var=t.Coef:=by
 induction L with
 | nil=>cases ht
 | cons s L ih=>
  simp only [Ab.cl];rcases List.mem_cons.1 ht with rfl | ht'
  .rw [if_pos rfl,Qm λu hu=>by have:=(List.pairwise_cons.1 h.srt).1 u hu; omega]; omega
  .have:=(List.pairwise_cons.1 h.srt).1 t ht';rw [if_neg ω,ih ⟨(List.pairwise_cons.1 h.srt).2,λu hu=>h.nz u (by simp [hu])⟩ ht']; omega
theorem A4b {vars:List Ai} {res:Ai} {a b s:Bb} (c:Jd s.Terms) (h:∀v,cl s.Terms v=cl a.Terms v+cl b.Terms v) (ha:Ea vars res a=true) (hb:Ea vars res b=true):Ea vars res s=true:=by
 unfold Ea at *;rw [List.all_eq_true] at *;intro t ht;have h1:=c.cl ht;rw [h] at h1;have h2:=c.nz t ht;have key:∀u:A5,u.Var=t.Var->Gk vars res u=true->Gk vars res t=true:=λu e hu=>by unfold Gk at *; rw [<-e]; exact hu
 by_cases h3:cl a.Terms t.Var=0
 .obtain ⟨u,hu,e⟩:=Arz (l:=b.Terms) (v:=t.Var) ω;exact key u e (hb u hu)
 .obtain ⟨u,hu,e⟩:=Arz h3;exact key u e (ha u hu)
theorem A4c {x:Bk} (A:CSz x) (B:F0 x) {E F s:Bb} {K:Nat} (hE:C2 E=true) (hF:C2 F=true) (iE:Ea x.Vars x.Res E=true) (Z:Ea x.Vars x.Res F=true) (G:K<=6) (hs:Ks E F=some (s,0)) (X:C2 s=true) (Y:Ea x.Vars x.Res s=true) :
  ∃R,Wx x ⟨1,E,F,(K:Int)⟩=some (R,0)/\IP x 17 13010 (shF x E F s K) R:=by
 obtain ⟨a1,a2,a3⟩:=V7 A B (l:=s) (k:=(K:Int)) X ω ω Y
 unfold Wx
 simp only [hs,Ad,bne_self_eq_false,cond_false,a1]
 obtain ⟨r,N,M⟩:=Fe (J:=λ(z:Int×List Ah)=>match z with | (i,u)=>bif (i != (0:Int)) then some (([]:List Ah),i) else some (u,0)) (Q:=λr=>∃R,r=(R,(0:Int))/\IP x 17 13010 (shF x E F s K) R)
  (step:=λ(z:Int×List Ah×Int)=>match z with
   | (v9,f,b)=>
    (show OB from
    bif b<=(K:Int) then (
    some (v9==(0:Int))
    )
    else (
    some false
    )
    ).bind λv12=>
    bif v12 then (
    (T8 x ⟨1,E,F,(K:Int)⟩ b).bind λc=>
    bif (c.2==(0:Int)) then (
    (N0 x f c.1).bind λq=>
    some (.inl (q.2,q.1,(Aa (b+1))))
    )
    else (
    some (.inl (c.2,f,(Aa (b+1))))
    )
    )
    else (
    some (.inr (v9,f))
    )) (s:=(0,aP x s (K:Int),0))
  (λy=>∃(j:Nat) (R:List Ah),y=(0,R,(j:Int))/\j<=K+1/\IP x (1+cs K j) (13000+j) (λm=>(ec (eB [⟨s,(K:Int)⟩]) m:Rat)-sq j λj=>Oq (aP x E (j:Int)) (aP x F ((K-j:Nat):Int)) m) R) (λy=>K+1-y.2.2.toNat)
  (λe=>∃R,e=(0,R)/\IP x 17 13010 (shF x E F s K) R)
  ⟨0,_,rfl,ω,a2.up ω ω λm=>by simp only [sq]; grind⟩ (by
  rintro _ ⟨j,R,rfl,hj,g⟩
  rcases Nat.lt_or_ge j (K+1) with h | h
  .left
   obtain ⟨P,V,U⟩:=Ary A B hE hF iE Z G (by omega:j<=K)
   have D:=Ad1 G (j:=j+1) ω
   have a6:cs K (j+1)=cs K j+(1+min j (K-j)):=rfl
   obtain ⟨S,L,I⟩:=Ai9 A B g (U.up (L':=13000+j) (Nat.le_refl _) ω λ_=>rfl) ω ω
   refine ⟨(0,S,((j+1:Nat):Int)),?_,⟨j+1,S,rfl,ω,I.up ω ω λm=>by simp only [sq]; grind⟩,by simp; omega⟩
   simp only [Aj (by omega:(j:Int)<=(K:Int)),cond_true,beq_self_eq_true,Ad,V,L,C6 h ω]
  .right
   have:j=K+1:=ω
   subst this
   have D:=Ad1 G (j:=K+1) ω
   refine ⟨(0,R),by simp only [An (by omega:¬((K+1:Nat):Int)<=(K:Int)),cond_false,Ad],R,rfl,g.up ω ω λm=>rfl⟩) (by
  rintro _ ⟨R,rfl,g⟩
  exact ⟨_,rfl,R,rfl,g⟩)
 obtain ⟨R,rfl,g⟩:=M
 exact ⟨R,N,g⟩
end Go.Ab
namespace Go.Ab
open Go
theorem A4d {S E α:Type} {step:S->Option (S⊕E)} {s0:S} (l:List α) (I:Nat->S->Prop) (Q:E->Prop) (h0:I 0 s0) (f:l.length<4611686018427387904) (c:∀(j:Nat) (x:α) (s:S),j<l.length->l[j]? = some x->decide ((j:Int)<(l.length:Int))=true->Ae l (j:Int)=some x->Aa ((j:Int)+1)=((j+1:Nat):Int)->I j s->∃s',step s=some (.inl s')/\I (j+1) s') (g:decide ((l.length:Int)<(l.length:Int))=false->∀s,I l.length s->∃e,step s=some (.inr e)/\Q e):∃e,Al step s0=some e/\Q e:=by
 have key:∀n,n<=l.length->∃s,I n s/\Al step s0=Al step s:=by intro n;induction n with| zero=>exact λ_=>⟨s0,h0,rfl⟩| succ n ih=>intro h;obtain ⟨s,h1,h2⟩:=ih ω;have hx:l[n]? = some l[n]:=Bv ω;obtain ⟨s',h3,b⟩:=c n _ s ω hx (Aj ω) (Ce rfl hx) (C6 (n:=l.length) ω f) h1;exact ⟨s',b,by rw [h2,Ft h3]⟩
 obtain ⟨s,h1,h2⟩:=key l.length (Nat.le_refl _);obtain ⟨e,h3,b⟩:=g ψ s h1;exact ⟨e,by rw [h2,Cz h3],b⟩
theorem Ar0 {α:Type} (f:α->Int) (l:List α) (h:∀j x,l[j]? = some x->Kg f l x j=true):l.Pairwise λa b=>f a<f b:=by
 have step:∀j x y,l[j]? = some x->l[j+1]? = some y->f x<f y:=by intro j x y hx hy;have:=h (j+1) y hy;unfold Kg at this;rw [Nat.add_sub_cancel,hx] at this;simpa using this
 have c:∀d j x y,l[j]? = some x->l[j+d+1]? = some y->f x<f y:=by intro d;induction d with| zero=>exact λj x y h1 h2=>step j x y h1 h2| succ d ih=>intro j x y h1 h2;have g:l[j+d+1]? = some (l[j+d+1]'(by have:=Dx h2; omega)):=Bv _;have a1:=ih j x _ h1 g;have a2:=step _ _ _ g h2;omega
 rw [List.pairwise_iff_getElem];intro i j hi hj k;obtain ⟨d,hd⟩:∃d,j=i+d+1:=⟨j-i-1,ω⟩;subst hd;exact c d i _ _ (Bv hi) (Bv hj)
theorem A4e {a:Bb} (h:C2 a=true):Jd a.Terms:=by
 unfold C2 at h;rw [Dj] at h;have ht:∀j x,a.Terms[j]? = some x->Nk a.Terms x j=true:=λj x hx=>Hm h.2 hx;refine ⟨Ar0 (·.Var) a.Terms λj x hx=>?_,λt ht'=>?_⟩
 .have:=ht j x hx;unfold Nk at this;rw [Dj] at this;exact this.2
 .obtain ⟨j,hj⟩:=List.getElem?_of_mem ht';have:=ht j t hj;unfold Nk at this;rw [Dj,decide_eq_true_eq] at this;exact this.1.2.2.1
theorem A4f {α:Type} (g:α->Int) (b:List α) (n:Nat) (v:Int) (q:n<=b.length) (hb:n<=1000000) : ∃k:Nat,k<=n/\(∀(i:Nat) (y:α),i<k->b[i]? = some y->g y<v)/\(∀y,k<n->b[k]? = some y->v<=g y) /\ Al (S:=Int) (E:=Int) (λv2=> bif v2<((n:Nat):Int) then ((Ep b 0 n v2).bind λv3=> bif g v3<v then some (.inl (Aa (v2+1))) else some (.inr v2)) else some (.inr v2)) 0=some (k:Int):=by
 obtain ⟨e,h1,k,h2,h3,j,f⟩:=Ib (step:=(λv2:Int=> bif v2<((n:Nat):Int) then ((Ep b 0 n v2).bind λv3=> bif g v3<v then some (.inl (Aa (v2+1))) else some (.inr v2)) else some (.inr v2):Int->Option (Int⊕Int))) (λs=>∃k:Nat,s=(k:Int)/\k<=n/\∀(i:Nat) (y:α),i<k->b[i]? = some y->g y<v) (λs=>n-s.toNat) (λe=>∃k:Nat,e=(k:Int)/\k<=n/\(∀(i:Nat) (y:α),i<k->b[i]? = some y->g y<v)/\(∀y,k<n->b[k]? = some y->v<=g y)) (by
   rintro s ⟨k,rfl,hk,c⟩;rcases Nat.lt_or_ge k n with h | h
   .have hx:b[k]? = some (b[k]' ω):=Bv _;generalize b[k]'_=x at hx;rw [Aj (by omega:(k:Int)<(n:Int)),cond_true,Nq (l:=b) (off:=0) (n:=n) (i:=(k:Int)) rfl h (by rw [Nat.zero_add]; exact hx),Ad];by_cases e:g x<v
    .rw [Aj e,cond_true,C6 h ω];refine .inl ⟨_,rfl,⟨k+1,rfl,ω,λi y hi hy=>?_⟩,by simp only [Int.toNat_natCast]; omega⟩;rcases Nat.lt_or_ge i k with h' | h'
     .exact c i y h' hy
     .have:i=k:=ω;subst this;rw [hx] at hy; cases hy; exact e
    .rw [An e,cond_false];exact .inr ⟨_,rfl,k,rfl,hk,c,λy _ hy=>by rw [hx] at hy; cases hy; omega⟩
   .have:k=n:=ω;subst this;exact .inr ⟨(k:Int),by rw [An ω]; rfl,k,rfl,hk,c,λy hy=>ω⟩) 0 ⟨0,rfl,ω,λi y hi=>ω⟩;subst h2;exact ⟨k,h3,j,f,h1⟩
theorem A4g {α:Type} {L:List α} {k:Nat} {t:α} (h:L[k]? = some t):L.drop k=t::L.drop (k+1):=Ij h
theorem Ajg (L:List A5) (k:Nat) (v:Int):cl L v=cl (L.take k) v+cl (L.drop k) v:=by rw [<-Mu,List.take_append_drop]
structure LSt (M:Int) (n:Nat) (b:List A5):Prop where
 le:n<=b.length
 asc:Jd (b.take n)
 bd:∀t∈b.take n,-M<=t.Coef/\t.Coef<=M
theorem A4h {M Mc:Int} {n:Nat} {b:List A5} (h:LSt M n b) {v c:Int} (hc : -Mc<=c/\c<=Mc) (ah:0<=M) (hM:M+Mc<=1000000000000) (hb:b.length<=100000) : ∃(n':Nat) (o:List A5),Ui n v c b=some (n',o)/\o.length<=b.length+1/\LSt (M+Mc) n' o/\∀w,cl (o.take n') w=cl (b.take n) w+(if v=w then c else 0):=by
 have ag:=h.le;obtain ⟨k,k1,k2,k3,k4⟩:=A4f (λt:A5=>t.Var) b n v h.le ω;have ad:(b.take n).length=n:=by rw [List.length_take]; omega
 have f:∀i,i<n->(b.take n)[i]? = b[i]?:=λi hi=>by rw [List.getElem?_take,if_pos hi]
 have af:0<=Mc:=ω;unfold Ui;rw [k4,Ad];by_cases Y:∃t,k<n/\b[k]? = some t/\t.Var=v
 .obtain ⟨t,h1,L,hv⟩:=Y;have h2:(b.take n)[k]? = some t:=(by rw [f k h1]; exact L);have ae:=h.bd t (Cd h2);have w:Aa (t.Coef+c)=t.Coef+c:=(by rw [Aa,Bm] <;> omega);have a6:Ep b 0 n (k:Int)=some t:=Nq rfl h1 (by rw [Nat.zero_add]; exact L);have A:B9 b (((0:Nat):Int)+(k:Int)) (A5.mk t.Var (t.Coef+c))=b.set k ⟨t.Var,t.Coef+c⟩:=Fh (n:=k) ω _;have ab:(b.set k ⟨t.Var,t.Coef+c⟩)[k]? = some ⟨t.Var,t.Coef+c⟩:=(by rw [List.getElem?_set,if_pos rfl,if_pos (Dx L)]);have J:Ep (b.set k ⟨t.Var,t.Coef+c⟩) 0 n (k:Int)=some ⟨t.Var,t.Coef+c⟩:=Nq rfl h1 (by rw [Nat.zero_add]; exact ab);simp only [Aj (by omega:(k:Int)<(n:Int)),cond_true,a6,Ad,Dw hv,w,A,J];have B:(b.set k ⟨t.Var,t.Coef+c⟩).take n=(b.take n).set k ⟨t.Var,t.Coef+c⟩:=(by rw [List.take_set]);have I:(b.set k ⟨t.Var,t.Coef+c⟩).length=b.length:=List.length_set;have hd:=A4g h2;by_cases E:t.Coef+c=0
  .rw [Dw E,cond_true];have R:O4 n (k:Int)=some k:=(by unfold O4;rw [if_pos ω]; simp);rw [R,Ad];obtain ⟨o,d1,d2,d3,d4⟩:=Aqv 16 (b.set k ⟨t.Var,t.Coef+c⟩) n k ω h1 (by rw [I]; omega) ω;have aa:((b.take n).set k ⟨t.Var,t.Coef+c⟩).take k++((b.take n).set k ⟨t.Var,t.Coef+c⟩).drop (k+1)=(b.take n).take k++(b.take n).drop (k+1):=(by rw [List.take_set_of_le (Nat.le_refl _),List.drop_set_of_lt ω]);rw [B,aa] at d4;have z:((b.take n).take k++(b.take n).drop (k+1)).Sublist (b.take n):=(by have h1:((b.take n).drop (k+1)).Sublist ((b.take n).drop k):=(by rw [hd]; exact List.sublist_cons_self _ _);have:=(List.Sublist.refl ((b.take n).take k)).append h1;rwa [List.take_append_drop] at this);refine ⟨n-1,o,d1,ω,⟨d2,by rw [d4]; exact ⟨h.asc.srt.sublist z,λu hu=>h.asc.nz u (z.subset hu)⟩,λu hu=>?_⟩,λw=>?_⟩
   .rw [d4] at hu;have:=h.bd u (z.subset hu); omega
   .rw [d4,Mu,Ajg (b.take n) k w,hd];simp only [cl,hv];split <;> omega
  .rw [Ch E,cond_false];have U:∀w,cl ((b.take n).set k ⟨t.Var,t.Coef+c⟩) w=cl (b.take n) w+(if v=w then c else 0):=λw=>by rw [List.set_eq_take_append_cons_drop,if_pos ω,Mu,Ajg (b.take n) k w,hd];simp only [cl,hv];split <;> omega
   refine ⟨n,b.set k ⟨t.Var,t.Coef+c⟩,rfl,ω,⟨ω,?_,λu hu=>?_⟩,λw=>by rw [B]; exact U w⟩
   .rw [B];refine ⟨?_,λu hu=>?_⟩
    .rw [List.pairwise_iff_getElem];intro i j hi hj a8;have g:∀(q:Nat) (hq:q<((b.take n).set k ⟨t.Var,t.Coef+c⟩).length),(((b.take n).set k ⟨t.Var,t.Coef+c⟩)[q]).Var=((b.take n)[q]'(by rw [List.length_set] at hq; exact hq)).Var:=by
      intro q hq;rw [List.getElem_set];split
      .rename_i e;subst e;have:=Bv (l:=b.take n) (i:=k) ω;rw [h2] at this;rw [<-Option.some.inj this]
      .rfl
     rw [g i hi,g j hj];exact (List.pairwise_iff_getElem.1 h.asc.srt) i j _ _ a8
    .rcases List.mem_or_eq_of_mem_set hu with hu | rfl
     .exact h.asc.nz u hu
     .exact E
   .rw [B] at hu;rcases List.mem_or_eq_of_mem_set hu with hu | rfl
    .have:=h.bd u hu; omega
    .show -(M+Mc)<=t.Coef+c/\t.Coef+c<=M+Mc;omega
 .have S:∀t,k<n->b[k]? = some t->t.Var≠v:=λt hk ht e=>Y ⟨t,hk,ht,e⟩;have hq:(bif decide ((k:Int)<(n:Int)) then (Ep b 0 n (k:Int)).bind λv5=>some (v5.Var==v) else some false)=some false:=by
   by_cases h1:k<n
   .have hx:b[k]? = some (b[k]' ω):=Bv _;generalize b[k]'_=x at hx;rw [Aj (by omega:(k:Int)<(n:Int)),cond_true,Nq (l:=b) (off:=0) (n:=n) (i:=(k:Int)) rfl h1 (by rw [Nat.zero_add]; exact hx),Ad,Ch (S x h1 hx)]
   .rw [An ω]; rfl
  erw [hq];simp only [Ad,cond_false];by_cases E:c=0
  .rw [Dw E,cond_true];refine ⟨n,b,rfl,ω,⟨h.le,h.asc,λu hu=>?_⟩,λw=>?_⟩
   .have:=h.bd u hu; omega
   .rw [E];split <;> omega
  .rw [Ch E,cond_false];have ac:Kr 16 b n [(A5.mk 0 0)]=some (Dd b n [(A5.mk 0 0)],n+1):=(by unfold Kr;rw [if_pos ⟨h.le,by simp; omega⟩]; rfl);rw [ac,Ad];dsimp only;obtain ⟨s,g1,g2,g3⟩:=Ait b n k (A5.mk 0 0) ⟨v,c⟩ h.le k1 ω
   erw [g1];rw [Ad];have X:s[k]? = some (s[k]' ω):=Bv _;rw [Nq (l:=s) (off:=0) (n:=n+1) (i:=(k:Int)) rfl ω (by rw [Nat.zero_add]; exact X),Ad];have A:B9 s (((0:Nat):Int)+(k:Int)) (A5.mk v c)=s.set k ⟨v,c⟩:=Fh (n:=k) ω _;rw [A];refine ⟨n+1,s.set k ⟨v,c⟩,rfl,by rw [List.length_set]; omega,⟨by rw [List.length_set]; omega,?_,λu hu=>?_⟩,λw=>?_⟩
   .rw [g3];refine ⟨?_,λu hu=>?_⟩
    .rw [List.pairwise_append];refine ⟨h.asc.srt.sublist (List.take_sublist _ _),?_,?_⟩
     .rw [List.pairwise_cons];refine ⟨λu hu=>?_,h.asc.srt.sublist (List.drop_sublist _ _)⟩;obtain ⟨i,hi⟩:=List.getElem?_of_mem hu;rw [List.getElem?_drop] at hi;have Z:=Dx hi;have D:k<n:=ω;have hx:b[k]? = some (b[k]' ω):=Bv _;have a1:=k3 _ D hx;have a2:=S _ D hx;by_cases e:i=0
      .subst e;rw [Nat.add_zero,f k D,hx] at hi;cases hi;show v<_;omega
      .have V:k<(b.take n).length:=ω;have a3:=(List.pairwise_iff_getElem.1 h.asc.srt) k (k+i) V Z ω;rw [Bv Z] at hi;cases hi;have a4:(b.take n)[k]=b[k]' ω:=(by have:=f k D;rw [Bv V,hx] at this;exact Option.some.inj this);rw [a4] at a3;show v<_;omega
     .intro u hu y hy;obtain ⟨i,hi⟩:=List.getElem?_of_mem hu;rw [List.getElem?_take] at hi;split at hi
      .rename_i a7;have G:i<n:=ω;rw [f i G] at hi;have a1:=k2 i u a7 hi;rcases List.mem_cons.1 hy with rfl | hy
       .exact a1
       .obtain ⟨q,hq⟩:=List.getElem?_of_mem hy;rw [List.getElem?_drop] at hq;have N:=Dx hq;have a3:=(List.pairwise_iff_getElem.1 h.asc.srt) i (k+q) ω N ω;rw [Bv N] at hq;cases hq;have a4:(b.take n)[i]' ω=u:=(by have:=f i G;rw [Bv ω,hi] at this;exact Option.some.inj this);rw [a4] at a3;exact a3
      .cases hi
    .rw [List.mem_append,List.mem_cons] at hu;rcases hu with hu | rfl | hu
     .exact h.asc.nz u (List.mem_of_mem_take hu)
     .exact E
     .exact h.asc.nz u (List.mem_of_mem_drop hu)
   .rw [g3,List.mem_append,List.mem_cons] at hu;rcases hu with hu | rfl | hu
    .have:=h.bd u (List.mem_of_mem_take hu); omega
    .show -(M+Mc)<=c/\c<=M+Mc;omega
    .have:=h.bd u (List.mem_of_mem_drop hu); omega
   .rw [g3,Mu,Ajg (b.take n) k w];simp only [cl];omega
theorem Ar1 (a b:Bb) (z:Int) (u:z=1\/z = -1) (ha:C2 a=true) (hb:C2 b=true):∃L,Uc a b z=some ⟨a.Const+z*b.Const,L⟩/\Jd L/\∀v,cl L v=cl a.Terms v+z*cl b.Terms v:=by
 have Y:=Kl ha;have X:=Kl hb;have S:=Tc ha;have R:=Tc hb;unfold Uc;rw [C3 (by simp; omega),Ad,List.nil_append];have E:Aa (z*b.Const)=z*b.Const:=by rcases u with rfl | rfl <;> (rw [Aa,Bm] <;> omega)
 have D:Aa (a.Const+z*b.Const)=a.Const+z*b.Const:=by rcases u with rfl | rfl <;> (rw [Aa,Bm] <;> omega)
 rw [E,D];obtain ⟨⟨o,n⟩,N,B,A⟩:=A4d (step:=(λ(h,q,l)=> bif h<(b.Terms.length:Int) then ((Ae b.Terms h).bind λk=> (Ui l k.Var (Aa (z*k.Coef)) q).bind λv21=> some (.inl ((Aa (h+1)),v21.2,v21.1))) else some (.inr (q,l)):Int×List A5×Nat->Option ((Int×List A5×Nat)⊕(List A5×Nat)))) (s0:=(0,a.Terms,a.Terms.length)) b.Terms (λj s=>s.1=(j:Int)/\s.2.1.length<=16+j/\LSt (1048576*(1+j)) s.2.2 s.2.1/\∀v,cl (s.2.1.take s.2.2) v=cl a.Terms v+z*cl (b.Terms.take j) v) (λe=>Jd (e.1.take e.2)/\e.2<=e.1.length/\∀v,cl (e.1.take e.2) v=cl a.Terms v+z*cl b.Terms v) ⟨rfl,by dsimp only; omega,⟨Nat.le_refl _,by rw [List.take_length]; exact A4e ha,λt ht=>by rw [List.take_length] at ht; have:=S t ht; omega⟩,λv=>by rw [List.take_length,List.take_zero]; simp [cl]⟩ ω
  (by
   rintro j x ⟨i,o,n⟩ hj hx h1 h2 h3 ⟨hi,y,f,g⟩;dsimp only at hi y f g ⊢;subst hi;have M:=R x (Cd hx);have w:Aa (z*x.Coef)=z*x.Coef:=(by rcases u with rfl | rfl <;> (rw [Aa,Bm] <;> omega));obtain ⟨V,o',J,U,I,G⟩:=A4h f (v:=x.Var) (c:=z*x.Coef) (Mc:=1048576) (by rcases u with rfl | rfl <;> omega) ω ω ω;rw [h1,cond_true,h2,Ad,w,J,Ad,h3];refine ⟨_,rfl,rfl,by dsimp only; omega,?_,λv=>?_⟩
   .have e:(1048576*(1+(j:Int))+1048576)=1048576*(1+((j+1:Nat):Int)):=ω;rw [<-e]; exact I
   .dsimp only;rw [G,g,C8 hx,Mu];simp only [cl];rcases u with rfl | rfl <;> (split <;> omega)) (by rintro h1 ⟨i,o,n⟩ ⟨hi,y,f,g⟩;dsimp only at hi y f g ⊢;subst hi;rw [h1,cond_false];refine ⟨_,rfl,f.asc,f.le,λv=>by dsimp only; rw [g,List.take_length]⟩);dsimp only at B A;have ht:Iu o n=some (o.take n):=by unfold Iu;rw [if_pos A.1]
 refine ⟨o.take n,Dl N ?_,B,A.2⟩;dsimp only;rw [ht,Ad]
theorem Ar2 (c:Int) (L:List A5):Ub ⟨c,L⟩=some (Qo c L):=by unfold Ub Qo;rw [Nl,Ad];cases h:C2 ⟨c,L⟩ <;> simp
theorem Ar3 (a b:Bb) (h:a.Terms.length+b.Terms.length<=12):Rg a b=Ks a b:=by
 unfold Rg;rw [Nl,Nl];rcases Ajb a b h with ⟨h1,h2,L,h3,k,j⟩ | ⟨h1,h2⟩
 .obtain ⟨L',g,f,c⟩:=Ar1 a b 1 (.inl rfl) h1 h2;have i:L'=L:=f.ext k λv=>by rw [c,j]; omega
  subst i;rw [h1,h2,h3];simp only [Ad,Dk,cond_false,g,Ar2];rw [show a.Const+1*b.Const=a.Const+b.Const by omega]
 .rw [h2];cases ha:C2 a with| false=>rfl| true=>rw [ha] at h1; rw [show C2 b=false from h1]; rfl
theorem Ar4 (a b:Bb) (h:a.Terms.length+b.Terms.length<=12):T6 a b=L8 a b:=by
 unfold T6;rw [Nl,Nl];rcases Ajc a b h with ⟨h1,h2,L,h3,k,j⟩ | ⟨h1,h2⟩
 .obtain ⟨L',g,f,c⟩:=Ar1 a b (-1) (.inr rfl) h1 h2;have i:L'=L:=f.ext k λv=>by rw [c,j]; omega
  subst i;rw [h1,h2,h3];simp only [Ad,Dk,cond_false,g,Ar2];rw [show a.Const+(-1)*b.Const=a.Const-b.Const by omega]
 .rw [h2];cases ha:C2 a with| false=>rfl| true=>rw [ha] at h1; rw [show C2 b=false from h1]; rfl
theorem Ajh (a:Eu) (b:a.E.Terms.length+a.F.Terms.length<=12):Rf a=L7 a:=by unfold Rf L7;rw [Ar3 _ _ b,Ar4 _ _ b,Nl,Nl,Lq,Lq]
end Go.Ab
namespace Go.Ab
open Go
theorem Ar5 (x:Rat):Kh x<0↔x<0:=by
 unfold Kh;split
 .rename_i h; exact ⟨λ_=>h,λ_=>δ⟩
 .rename_i h;split <;> exact ⟨λh'=>absurd h' δ,λh'=>absurd h' h⟩
end Go.Ab
namespace Go.Ab
open Go
end Go.Ab
namespace Go.Ab
open Go
theorem Ar6 (a:Bb) (h:a.Terms.length<=1048576):T5 a=some a:=by unfold T5 Ud;rw [C3 (by simp; omega)]; rfl
end Go.Ab
namespace Go.Ab
open Go
def Ar7 (x:Bk) (m:Ba):Int:=D4 x.Data x.Vars x.Res m.Factors+Cb m.Atoms
structure A4i (x:Bk) (m:Ba):Prop where
 fac:∀f∈m.Factors,1<=Ff x.Data x.Vars x.Res f
 asc:m.Factors.Pairwise λa b=>a.Var<b.Var
 atm:∀a∈m.Atoms,1<=a.Deg/\C2 a.Lin=true/\a.Lin.Terms.length≠0/\Ea x.Vars x.Res a.Lin=true
 srt:m.Atoms.Pairwise λa b=>E8 a.Lin b.Lin<0
 deg:Ar7 x m<=6
theorem G6.f {x:Bk} {m:Ba} (h:G6 x m):A4i x m:=by
 have hc:=h.1;unfold Hh at hc;rw [Dj,Dj,decide_eq_true_eq] at hc;obtain ⟨⟨h1,h2⟩,h3⟩:=hc;have g1:∀j f,m.Factors[j]? = some f->1<=Ff x.Data x.Vars x.Res f/\Kg (·.Var) m.Factors f j=true:=λj f hj=>by have:=Hm h1 hj;unfold Nn at this;rw [Dj,decide_eq_true_eq] at this;exact this
 have g2:∀j a,m.Atoms[j]? = some a->(1<=a.Deg/\C2 a.Lin=true/\a.Lin.Terms.length≠0/\Ea x.Vars x.Res a.Lin=true)/\Nm m.Atoms a j=true:=λj a hj=>by have:=Hm h2 hj;unfold Ik at this;simp only [Dj,decide_eq_true_eq,Bool.not_eq_true',beq_eq_false_iff_ne,ne_eq] at this;exact ⟨⟨this.1.1.1.1,this.1.1.1.2,this.1.1.2,this.1.2⟩,this.2⟩
 refine ⟨λf k=>?_,Ar0 _ _ λj f hj=>(g1 j f hj).2,λa ha=>?_,?_,h3⟩
 .obtain ⟨j,hj⟩:=List.getElem?_of_mem k;exact (g1 j f hj).1
 .obtain ⟨j,hj⟩:=List.getElem?_of_mem ha;exact (g2 j a hj).1
 .have step:∀j x y,m.Atoms[j]? = some x->m.Atoms[j+1]? = some y->E8 x.Lin y.Lin<0:=(by intro j x y hx hy;have:=(g2 (j+1) y hy).2;unfold Nm at this;rw [Nat.add_sub_cancel,hx] at this;simpa using this);have b:∀d j x y,m.Atoms[j]? = some x->m.Atoms[j+d+1]? = some y->E8 x.Lin y.Lin<0:=(by intro d;induction d with| zero=>exact λj x y h1 h2=>step j x y h1 h2| succ d ih=>intro j x y h1 h2;have c:m.Atoms[j+d+1]? = some (m.Atoms[j+d+1]'(by have:=Dx h2; omega)):=Bv _;exact Qk.trs _ _ _ (ih j x _ h1 c) (step _ _ _ c h2));rw [List.pairwise_iff_getElem];intro i j hi hj g;obtain ⟨d,hd⟩:∃d,j=i+d+1:=⟨j-i-1,ω⟩;subst hd;exact b d i _ _ (Bv hi) (Bv hj)
theorem Ar8 {l:List A7} (h:∀a∈l,1<=a.Deg):Cb l=(Cm l:Nat)/\l.length<=Cm l:=by induction l with| nil=>exact ⟨rfl,Nat.le_refl _⟩| cons a l ih=>obtain ⟨e,c⟩:=ih λb hb=>h b (by simp [hb]);have f:=h a ψ;unfold Cb at *;simp only [List.map_cons,List.sum_cons,Cm,List.length_cons];omega
end Go.Ab
namespace Go.Ab
open Go
end Go.Ab
namespace Go.Ab
open Go
structure PX (x:Bk) (n k:Nat) (R:List Ah):Prop where
 cp:CP R
 mo:∀t∈R,G6 x t.Mono
 rb:∀t∈R,RB k t.Coef
 len:R.length<=n
theorem PX.can {x:Bk} {n k:Nat} {R:List Ah} (h:PX x n k R) (b:n<=1000) (hk:k<=1048576):Gr x R := Gr.of h.cp h.mo (λt ht=>(h.rb t ht).mono hk) (Nat.le_trans h.len b)
theorem PX.up {x:Bk} {n b k c:Nat} {R:List Ah} (h:PX x n k R) (f:n<=b) (hk:k<=c):PX x b c R:=⟨h.cp,h.mo,λt ht=>(h.rb t ht).mono hk,Nat.le_trans h.len f⟩
end Go.Ab
namespace Go.Ab
open Go
theorem Aji (m:Ba) (b:D9 m):Sk m=some (m,m.Factors,m.Atoms):=by
 have f:=b.nf;have c:=b.na;unfold Sk;refine Gf m.Factors (λj=>((j:Int),(m.Factors.take j))) rfl ω ?_ ?_
 .intro j x hj hx h1 h2 h3;have hm:=Cd hx;have:=b.fi x hm;simp only [h1,h2,h3,cond_true,Ad,Aqt 4000000 x.Index ω ω];rw [C3 (by simp; omega),Ad,C8 hx]
 .intro h1;refine ⟨m.Factors,ψ,?_⟩;dsimp only;refine Gf m.Atoms (λj=>((j:Int),(m.Atoms.take j))) rfl ω ?_ ?_
  .intro j x hj hx h1 h2 h3;have hm:=Cd hx;have:=b.al x hm;simp only [h1,h2,h3,cond_true,Ad,Ut];rw [C3 (by simp; omega),Ad,Ad,C3 (by simp; omega),Ad,C8 hx]; rfl
  .intro h1;exact ⟨m.Atoms,ψ,rfl⟩
theorem A4j {α:Type} (b:List α) (z:α):Dd b b.length [z]=b++[z]:=by unfold Dd;simp
theorem Ar9 {α:Type} (b:List α) (k:Nat) (z x:α) (hk:k<=b.length) (hb:b.length<=1000000) : ∃o:List α,((Hb (b++[z]).length (Aa ((k:Int)+1)) (((b++[z]).length:Nat):Int)).bind λv8=> match v8 with
    | .inl v9=> (Gt (b++[z]).length (k:Int) (((b++[z]).length:Nat):Int)).bind λc=> (Jk (b++[z]) (0+v9.1) (v9.2-v9.1) (0+c.1) (c.2-c.1)).bind λf=>some f
    | .inr _=>(Gt (b++[z]).length (k:Int) (((b++[z]).length:Nat):Int)).bind λv12=>some (b++[z]))=some o/\o.length=b.length+1/\o.set k x=b.take k++x::b.drop k:=by
 obtain ⟨o,h1,h2,h3⟩:=Ait b b.length k z x (Nat.le_refl _) hk hb;rw [A4j] at h1;have g:(b++[z]).length=b.length+1:=ψ;rw [Nat.max_eq_right ω] at h2;refine ⟨o,?_,h2,?_⟩
 .rw [g]; exact h1
 .rw [List.take_length,List.take_of_length_le (by rw [List.length_set]; omega)] at h3;exact h3
open Classical in
theorem A4k {R:List Ah} {m:Ba} (h:CP R) (hv:∀a,cf R a=if m=a then (1:Rat) else 0):R = [⟨cR 1,m⟩]:=by
 have h1:rq (cR 1)=1:=by rw [Ta]; rfl
 refine CP.ext h ⟨List.pairwise_singleton _ _,λt ht=>by simp only [List.mem_singleton] at ht; subst ht; exact ⟨Aiw 1,by show rq (cR 1)≠0; rw [h1]; decide⟩⟩ λa=>?_;rw [hv];simp only [cf,h1];by_cases e:m=a
 .rw [if_pos e,if_pos (G4.2 e)]; grind
 .rw [if_neg e,if_neg (λh=>e (G4.1 h))]; grind
theorem Zo (K:Nat):PSt K 0 []:=⟨ψ,by simpa using CP.nil,λt ht=>by simp at ht⟩
theorem Zp:RB 3 (cR 1):=(Ais (k:=1) (by rw [Ig]; decide) δ).mono δ
theorem V8:rq (cR 1)=1:=by rw [Ta]; rfl
open Classical in
theorem A4l {m:Ba} (hm:D9 m):∃n o,Jp 0 m (cR 1) []=some (n,o)/\Iu o n=some [⟨cR 1,m⟩]:=by
 obtain ⟨n,o,h1,h2,h3,h4⟩:=S9 (Zo 0) Zp hm δ ψ;refine ⟨n,o,h1,?_⟩;have hle:=h3.le;have e:Iu o n=some (o.take n):=by unfold Iu;rw [if_pos hle]
 rw [e,A4k (m:=m) h3.cp λa=>by rw [h4];simp only [List.take_nil,cf,V8];split <;> grind]
theorem A4m {F:List B7} {L:List A7} {l:Bb} {k:Int} (hm:D9 ⟨F,L++[⟨l,k⟩]⟩) (hk:k≠0) (U:l.Terms.length≠0) (u:∀a∈L,E8 a.Lin l<0) (G:L.length<=1000) :
  Jo [⟨cR 1,⟨F,L⟩⟩] l k=some [⟨cR 1,⟨F,L++[⟨l,k⟩]⟩⟩]:=by
 have R:=hm.na
 have N:F.length<=1048576:=hm.nf
 have i:D9 ⟨F,L⟩:=⟨hm.nf,by show L.length<=1048576; omega,hm.fi,hm.fr,λa h=>hm.al a (List.mem_append_left _ h)⟩
 obtain ⟨o,D,M,x⟩:=Ar9 L L.length ⟨⟨0,[]⟩,0⟩ ⟨l,k⟩ (Nat.le_refl _) ω
 obtain ⟨n,q,B,A⟩:=A4l hm
 have hx:o[L.length]? = some (o[L.length]' ω):=Bv _
 generalize o[L.length]'_=w at hx
 rw [List.take_length,List.drop_length] at x
 unfold Jo
 rw [Ch hk,cond_false]
 refine Dl (a:=(n,q)) ?_ (by dsimp only; rw [A]; rfl)
 refine (Ft (s':=(n,1,q)) ?_).trans (Cz (by rfl))
 have it:Ae [(⟨cR 1,⟨F,L⟩⟩:Ah)] 0=some ⟨cR 1,⟨F,L⟩⟩:=rfl
 have z:Aa (0+1)=1:=by rw [Aa,Bm] <;> omega
 have g:Al (S:=Int) (E:=Int) (λb=>
   bif b<(L.length:Int) then (
   (Ae L b).bind λc=>
   (I6 c.Lin l).bind λv91=>
   bif v91<(0:Int) then (
   some (.inl (Aa (b+1))))
   else (some (.inr b)))
   else (some (.inr b))) 0=some (L.length:Int):=by
  obtain ⟨e,J,I⟩:=Ib (step:=(λb:Int=>
   bif b<(L.length:Int) then (
   (Ae L b).bind λc=>
   (I6 c.Lin l).bind λv91=>
   bif v91<(0:Int) then (
   some (.inl (Aa (b+1))))
   else (some (.inr b)))
   else (some (.inr b)):Int->Option (Int⊕Int))) (λs=>∃j:Nat,s=(j:Int)/\j<=L.length) (λs=>L.length-s.toNat) (λe=>e=(L.length:Int)) (by
   rintro s ⟨j,rfl,hj⟩
   rcases Nat.lt_or_ge j L.length with h | h
   .have hy:L[j]? = some L[j]:=Bv h
    generalize L[j]=f at hy
    have y:=Cd hy
    have:=i.al f y
    rw [Aj ω,cond_true,Ce rfl hy,Ad,Ada f.Lin l ω,Ad,Aj (u f y),cond_true,C6 h ω]
    exact .inl ⟨_,rfl,⟨j+1,rfl,ω⟩,by simp only [Int.toNat_natCast]; omega⟩
   .have:j=L.length:=ω
    subst this
    exact .inr ⟨_,by rw [An ω,cond_false],rfl⟩) 0 ⟨0,rfl,ω⟩
  rw [J,I]
 dsimp only
 rw [Aj ψ,cond_true,it,Ad,Ch ω,cond_false]
 refine Dl g ?_
 dsimp only
 rw [An ω,cond_false,Ad,cond_false,Aji _ i,Ad]
 dsimp only
 rw [C3 (by simp; omega),Ad]
 refine Dl D ?_
 rw [Ce rfl hx,Ad,Fh (n:=L.length) rfl,x,B,Ad,z]
end Go.Ab
namespace Go.Ab
open Go
theorem Ad2 {α:Type} {o:List α} {n:Nat} (h:n<=o.length):Iu o n=some (o.take n):=by unfold Iu;rw [if_pos h]
end Go.Ab
namespace Go.Ab
open Go
end Go.Ab
namespace Go.Ab
open Go
theorem Asa:D9 ⟨[],[]⟩:=⟨ψ,ψ,(λf h=>by cases h),(λf h=>by cases h),λa h=>by cases h⟩
theorem A4n:W0 (cR 1)=some [⟨cR 1,⟨[],[]⟩⟩]:=by obtain ⟨c,i,b,g,f,h⟩:=Apv Zp δ;have hc:c=cR 1:=Ah4 g (Aiw 1) f;rw [hc] at b;unfold W0 Agn;rw [(S5 Zp δ).2,b,Aqu _ Asa];refine Dl (Dl (a:=()) (Cz rfl) ?_) rfl;rw [Ad,Ch (by rw [V8]; decide),cond_false,C3 ψ,Ad];rfl
theorem A4o (c:Int) (k:Nat) (hc : -1048576<=c/\c<=1048576) (hk:k<=12):∃z y,Iw c=some z/\Ug z (k:Int)=some y/\rq y=(bc c.toNat k:Rat)/\RB 200 y:=by
 have key:∀n:Nat,n<=1048576->∃y,Rt (A9 false n 1) (k:Int)=some y/\rq y=(bc n k:Rat)/\RB 200 y:=λn s=>by have e:A9 false (Ef n k) (D1 k)=cR (bc n k):=(by rw [Za,show A9 false (D1 k*bc n k) (D1 k)=A9 false (D1 k*bc n k) (D1 k*1) by rw [Nat.mul_one],Mm _ _ _ _ (Ss k)];rfl);have g:bc n k<Big:=(by have:=Tb (x:=n) (l:=[⟨⟨0,[]⟩,(k:Int)⟩]) s (by simp [Cm]; omega);simpa [En] using this);exact ⟨cR (bc n k),by rw [<-e]; exact Ayq n k ω ω,Ta _,(Np.c g).rb⟩
 by_cases h:c<0
 .refine ⟨A9 (decide (c<0)) c.natAbs 1,?_⟩;obtain ⟨y,q,j,i⟩:=key 0 ω;refine ⟨y,Sr c ω ω,?_,by rw [show c.toNat=0 by omega]; exact j,i⟩;obtain ⟨z,u,z2,z3,z4⟩:=A2r c ω ω;have f:RB 3 (A9 (decide (c<0)) c.natAbs 1):=Hf _ _ _ _ (Nd (n:=c.natAbs) ω) (by rw [Ig]; decide) δ;have hq:rq (A9 (decide (c<0)) c.natAbs 1)=(c:Rat):=(by rw [Lr _ _ _ δ,Zc];congr 1;unfold sg;rw [Aj h,if_pos rfl]; omega);have b:Kh (c:Rat)<0:=(Ar5 _).2 (by rw [<-Rat.intCast_zero]; exact Rat.intCast_lt_intCast.2 h);have z0:Iw 0=some (A9 false 0 1):=Sr 0 δ δ;unfold Ug;rw [(S5 f δ).2,Ad,hq,Aj b,cond_true,z0,Ad,q]; rfl
 .refine ⟨A9 false c.toNat 1,?_⟩;obtain ⟨y,q,j,i⟩:=key c.toNat ω;refine ⟨y,?_,?_,j,i⟩
  .have:=Sr c ω ω;rw [An h,show c.natAbs=c.toNat by omega] at this;exact this
  .have f:RB 3 (A9 false c.toNat 1):=Hf _ _ _ _ (Nd (n:=c.toNat) ω) (by rw [Ig]; decide) δ;have hq:rq (A9 false c.toNat 1)=(c.toNat:Rat):=Ta c.toNat;have b:¬Kh (c.toNat:Rat)<0:=λh=>by have h:=(Ar5 _).1 h;have h2:(0:Rat)<=(c.toNat:Rat):=Rat.natCast_nonneg;grind
   unfold Ug;rw [(S5 f δ).2,Ad,hq,An b,cond_false,q]; rfl
theorem Ajj {l:Bb} {k:Nat} {B:List Du} (h:IsE [⟨l,(k:Int)⟩] B):B=if l.Terms.length=0 then (if bc l.Const.toNat k=0 then [] else [([],bc l.Const.toNat k)]) else [(atO l k,1)]:=by
 obtain ⟨gs,V,D,Y,z,rfl⟩:=h;have S:V = [⟨l,(k:Int)⟩]:=List.perm_singleton.1 D;subst S;generalize q:[(⟨l,(k:Int)⟩:A7)]=X at z;cases z with
 | nil=>cases q
 | @cons E N f g rest gs u J Z L R=>
  have G:=congrArg List.length q;rw [List.length_append,List.length_singleton] at G;have I:=List.length_pos_iff.2 u;have c:rest = []:=List.length_eq_zero_iff.1 ω;subst c;rw [List.append_nil] at q;subst q;have y:=R.nil_of rfl;subst y;have x:l=E:=J ⟨l,(k:Int)⟩ ψ;subst x;show D7 [([],1)] l f (N+1)=_;rcases L with ⟨h1,h2⟩ | ⟨h1,h2,h3⟩
  .have M:N=k:=(by have:=h2.1; simpa [Cm] using this);subst M;have b:=Zn (l:=l) h2 (a:=⟨l,(N:Int)⟩) ψ ψ;have b:∀j,j<N->f j=0:=λj hj=>b j (by simpa using hj);have i:f N=1:=by
    have A:=h2.2.2 N;rw [Zg (k:=N) ω (λj hj=>by
     rcases Nat.lt_or_ge j N with h | h
     .rw [b j h,Nat.zero_mul]
     .rw [Ajf ω,Nat.mul_zero]),Ms] at A
    simp only [En,Int.toNat_natCast,Ms] at A;omega
   have s:D7 [(([],1):Du)] l f N = []:=(by have:=V5 (B:=[([],1)]) (l:=l) b N;exact List.length_eq_zero_iff.1 (by simpa using this));rw [if_neg h1,Lt,s,if_neg ω,i];simp
  .subst h2;have U:f 0=bc l.Const.toNat k:=(by rw [h3]; simp [En]);rw [if_pos h1,Lt,U];have s:D7 [(([],1):Du)] l f 0 = []:=rfl;rw [s];split
   .rfl
   .simp [atO]
end Go.Ab
namespace Go.Ab
open Go
theorem cp1 (m:Ba):CP [⟨cR 1,m⟩] := ⟨List.pairwise_singleton _ _,λt ht=>by simp only [List.mem_singleton] at ht; subst ht; exact ⟨Aiw 1,by show rq (cR 1)≠0; rw [V8]; decide⟩⟩
theorem cf1 (m a:Ba):cf [⟨cR 1,m⟩] a=if C4 m a=0 then 1 else 0:=by simp only [cf,V8]; grind
open Classical in
theorem A4p {l:Bb} {n:Nat} {B:List Du} (r2:IsE [⟨l,(n:Int)⟩] B) (h1:C2 l=true) (hn:n<=6) (hl:l.Terms.length<=1048576) : ∃S,Jo [⟨cR 1,⟨[],[]⟩⟩] l (n:Int)=some S/\CP S/\∀a,cf S a=(ec B a:Rat):=by
 have hB:=Ajj r2;by_cases n0:n=0
 .subst n0;have hB1:B = [([],1)]:=(by rw [hB];have:bc l.Const.toNat 0=1:=Kj _;simp [this,atO]);refine ⟨[⟨cR 1,⟨[],[]⟩⟩],by unfold Jo; rfl,cp1 _,λa=>?_⟩;rw [cf1,hB1];simp only [ec];split <;> rfl
 .by_cases ht:l.Terms.length=0
  .rw [if_pos ht] at hB;obtain ⟨z,y,z1,z2,z3,z4⟩:=A4o l.Const n (Kl h1).2 ω;obtain ⟨c,_,c1,c2,c3,c4⟩:=Add Zp z4 δ δ;obtain ⟨n',o,p1,p2,p3,p4⟩:=S9 (Zo 0) c2 Asa δ ψ;refine ⟨o.take n',?_,p3.cp,λa=>?_⟩
   .unfold Jo;rw [Ch ω,cond_false];refine Dl (a:=(n',o)) ?_ (by dsimp only; rw [Ad2 p3.le]; rfl);refine (Ft (s':=(n',1,o)) ?_).trans (Cz (by rfl));have it:Ae [(⟨cR 1,⟨[],[]⟩⟩:Ah)] 0=some ⟨cR 1,⟨[],[]⟩⟩:=rfl;have w1:Aa (0+1)=1:=(by rw [Aa,Bm] <;> omega);dsimp only;rw [Aj ψ,cond_true,it,Ad,Dw ω,cond_true,z1,Ad,z2,Ad,c1,Ad,p1,Ad,w1]
   .rw [p4,c4,V8,z3,hB];have e0:cf (List.take 0 ([]:List Ah)) a=0:=rfl;rw [e0];by_cases h0:bc l.Const.toNat n=0
    .rw [if_pos h0,h0];have:((0:Nat):Rat)=0:=rfl;simp only [ec,this];split <;> grind
    .rw [if_neg h0];simp only [ec];by_cases e:(⟨[],[]⟩:Ba)=a
     .rw [if_pos e,if_pos (G4.2 e),Nat.add_zero]; grind
     .rw [if_neg e,if_neg (λh=>e (G4.1 h))];have:((0+0:Nat):Rat)=0:=rfl;rw [this]; grind
  .rw [if_neg ht] at hB;have hms:D9 ⟨[],[]++[⟨l,(n:Int)⟩]⟩:=⟨ψ,ψ,(λf h=>by cases h),(λf h=>by cases h),λa h=>by simp only [List.nil_append,List.mem_singleton] at h; subst h; exact hl⟩;refine ⟨_,A4m hms ω ht (λa h=>by cases h) ψ,cp1 _,λa=>?_⟩;rw [cf1,hB];have:atO l n = [⟨l,(n:Int)⟩]:=(by unfold atO; rw [if_neg n0]);simp only [ec,this,List.nil_append];split <;> rfl
theorem A4q {x:Bk} (i:CSz x) (q:F0 x) {l:Bb} {k:Int} (h1:C2 l=true) (h2:0<=k) (h3:k<=6) (hi:Ea x.Vars x.Res l=true) (j:l.Terms.length<=1048576) : ∃R B,Li x l k=some (R,0)/\J4 x l k=some (R,0)/\IsE [⟨l,k⟩] B/\IP x 1 4900 (λm=>(ec B m:Rat)) R/\∀t∈R,NoF x k.toNat t.Mono/\t.Mono.Atoms.length<=1:=by
 obtain ⟨b,b1,b2⟩:=Apq x i;have hb:b=true:=b2.2 q;subst hb;obtain ⟨R,B,A,h,f,z⟩:=Arr i q h1 h2 h3 hi;obtain ⟨n,rfl⟩:∃n:Nat,k=(n:Int):=⟨k.toNat,ω⟩;have c:Iw 1=some (cR 1):=Sr 1 δ δ;obtain ⟨S,y,u,s⟩:=A4p h h1 ω j;have g:R=S:=CP.ext f.cp u λa=>by rw [f.val,s]
 subst g;refine ⟨R,B,A,?_,h,f,z⟩;unfold J4;rw [b1];simp only [Ad,Dk,cond_false,Nl,h1,An (by omega:¬(n:Int)<0),An (by omega:¬(n:Int)>6),Ah0 x l j,hi,c,A4n,y]
end Go.Ab
namespace Go.Ab
open Go
def pc (a b d:Nat):Nat:=if max a b<=d/\d<=a+b then D1 d / (D1 (d-a)*D1 (d-b)*D1 (a+b-d)) else 0
theorem A4r:∀a,a<7->∀b,b<7->a+b<=6->∀n,n<7->sm (a+b+1) (λk=>pc a b k*bc n k)=bc n a*bc n b:=by decide +kernel
theorem A4s {a b:Nat} (h:a+b<=6) {f:Nat->Nat} (c:∀x,sm (a+b+1) (λk=>f k*bc x k)=bc x a*bc x b):∀k,k<a+b+1->f k=pc a b k := Aiy λn g=>by rw [c n,A4r a ω b ω h n ω]
theorem A4t:∀a,a<7->∀b,b<7->a+b<=6->∀d,d<7->pc a b d<1000000:=by decide +kernel
theorem A4u:∀(a b:Nat),a+b<=6->Aa3 ((a:Nat):Int) ((b:Nat):Int)=some (Ls (a+b+1) (pc a b),true)
 | 0,0,_=>κ
 | 0,1,_=>κ
 | 0,2,_=>κ
 | 0,3,_=>κ
 | 0,4,_=>κ
 | 0,5,_=>κ
 | 0,6,_=>κ
 | 0,b+7,h=>absurd h ω
 | 1,0,_=>κ
 | 1,1,_=>κ
 | 1,2,_=>κ
 | 1,3,_=>κ
 | 1,4,_=>κ
 | 1,5,_=>κ
 | 1,b+6,h=>absurd h ω
 | 2,0,_=>κ
 | 2,1,_=>κ
 | 2,2,_=>κ
 | 2,3,_=>κ
 | 2,4,_=>κ
 | 2,b+5,h=>absurd h ω
 | 3,0,_=>κ
 | 3,1,_=>κ
 | 3,2,_=>κ
 | 3,3,_=>κ
 | 3,b+4,h=>absurd h ω
 | 4,0,_=>κ
 | 4,1,_=>κ
 | 4,2,_=>κ
 | 4,b+3,h=>absurd h ω
 | 5,0,_=>κ
 | 5,1,_=>κ
 | 5,b+2,h=>absurd h ω
 | 6,0,_=>κ
 | 6,b+1,h=>absurd h ω
 | a+7,b,h=>absurd h ω
theorem A4v (X Y:List Du) (a:Ba):ec (X++Y) a=ec X a+ec Y a:=by induction X with| nil=>simp [ec]| cons b X ih=>simp only [List.cons_append,ec,ih,Nat.add_assoc]
theorem Asb {B:List Du} {l:Bb} {f:Nat->Nat} {N:Nat} (g:∀j,j<N->f j=0) (c:f N=1):D7 B l f (N+1)=B.map λb=>(b.1++atO l N,b.2*1):=by
 have h:D7 B l f N = []:=by have:=V5 (B:=B) (l:=l) g N;exact List.length_eq_zero_iff.1 (by simpa using this)
 rw [Lt,h,c,if_neg δ]; simp
theorem Asd {l:Bb} {N:Nat} {f:Nat->Nat} {a:A7} (h:Pw l N f [a]) (i:l.Terms.length≠0):N=a.Deg.toNat/\(∀j,j<N->f j=0)/\f N=1:=by
 rcases h with ⟨_,h2⟩ | ⟨h1,_⟩
 .have c:N=a.Deg.toNat:=(by have:=h2.1; simpa [Cm] using this);have b:=Zn (l:=l) h2 (a:=a) ψ ω;rw [<-c] at b;refine ⟨c,b,?_⟩;have g:=h2.2.2 N;rw [Zg (k:=N) ω (λj hj=>by
   rcases Nat.lt_or_ge j N with h | h
   .rw [b j h,Nat.zero_mul]
   .rw [Ajf ω,Nat.mul_zero]),Ms] at g
  simp only [En,<-c,Ms] at g;omega
 .exact (i h1).elim
theorem Ad3 (a:A7) (h:1<=a.Deg):atO a.Lin a.Deg.toNat = [a]:=by unfold atO;rw [if_neg ω];have:((a.Deg.toNat:Nat):Int)=a.Deg:=ω;rw [this]
theorem Ase {x y:A7} {B:List Du} (h:IsE [x,y] B) (i:E8 x.Lin y.Lin<0) (hx:1<=x.Deg/\x.Lin.Terms.length≠0) (hy:1<=y.Deg/\y.Lin.Terms.length≠0):B = [([x,y],1)]:=by
 obtain ⟨gs,Z,z,p2,U,rfl⟩:=h;have hA:Z = [x,y]:=by
  have I:=z.length_eq
  match Z,I with
  | [u,v],_=>
   have hu:u∈[x,y]:=z.mem_iff.1 ψ;have hs:=(List.pairwise_cons.1 p2).1 v ψ;simp only [List.mem_cons,List.not_mem_nil,or_false] at hu;rcases hu with rfl | rfl
   .have:v=y:=List.singleton_perm_singleton.1 z.cons_inv;rw [this]
   .have D:[u,v].Perm [u,x]:=z.trans (List.Perm.swap u x []);have:v=x:=List.singleton_perm_singleton.1 D.cons_inv;subst this;exact (hs i).elim
 subst hA;generalize b:[x,y]=X at U;cases U with
 | nil=>cases b
 | @cons l N f g rest gs E k hr R V=>
  match g,E,k,R,b with
  | [u],_,k,R,b=>simp only [List.cons_append,List.nil_append,List.cons.injEq] at b;obtain ⟨rfl,rfl⟩:=b;have I:x.Lin=l:=k x ψ;subst I;obtain ⟨n1,n2,n3⟩:=Asd R hx.2;generalize A:[y]=Y at V;cases V with| nil=>cases A| @cons l' N' f' g' c a7 q L a1 M S=>have s:=congrArg List.length A;rw [List.length_append,List.length_singleton] at s;have a6:=List.length_pos_iff.2 q;have j:c = []:=List.length_eq_zero_iff.1 ω;subst j;rw [List.append_nil] at A;subst A;have J:=S.nil_of rfl;subst J;have G:y.Lin=l':=L y ψ;subst G;obtain ⟨m1,m2,m3⟩:=Asd M hy.2;show D7 (D7 [([],1)] x.Lin f (N+1)) y.Lin f' (N' + 1)=_;rw [Asb n2 n3,Asb m2 m3,n1,m1,Ad3 x hx.1,Ad3 y hy.1];rfl
  | u::v::g,_,k,_,b=>simp only [List.cons_append,List.cons.injEq] at b;obtain ⟨rfl,rfl,_⟩:=b;have e1:=k x ψ;have e2:=k y ψ;rw [e1,e2] at i;exact (Qk.irr _ i).elim
theorem A4w {x y:A7} {B:List Du} (h:IsE [x,y] B) (s:x.Lin=y.Lin) (hx:x.Lin.Terms.length≠0) (hd:x.Deg.toNat+y.Deg.toNat<=6):B=D7 [([],1)] x.Lin (pc x.Deg.toNat y.Deg.toNat) (x.Deg.toNat+y.Deg.toNat+1):=by
 obtain ⟨gs,A,q,S,E,rfl⟩:=h;have i:=q.length_eq;have b:∀a∈A,a.Lin=x.Lin:=λa ha=>by
  have:=q.mem_iff.1 ha;simp only [List.mem_cons,List.not_mem_nil,or_false] at this;rcases this with rfl | rfl
  .rfl
  .exact s.symm
 have z:Cm A=x.Deg.toNat+y.Deg.toNat:=by rw [V3 q]; simp [Cm]
 have j:∀n,En n A=bc n x.Deg.toNat*bc n y.Deg.toNat:=λn=>by rw [Ai3 n q]; simp [En]
 cases E with
 | nil=>simp at i
 | @cons l N f g rest gs k D G J M=>
  have c:rest = []:=by
   cases rest with
   | nil=>rfl
   | cons r rest=>obtain ⟨a,ha⟩:∃a,a∈g:=(by cases g with| nil=>exact (k rfl).elim| cons a _=>exact ⟨a,ψ⟩);have h1:=G r ψ;have h2:=D a ha;have h3:=b a (by simp [ha]);have R:=b r ψ;rw [<-h2,h3,R] at h1;exact (Qk.irr _ h1).elim
  subst c;rw [List.append_nil] at *;have u:=M.nil_of rfl;subst u;have I:l=x.Lin:=(by obtain ⟨a,ha⟩:∃a,a∈g:=(by cases g with| nil=>exact (k rfl).elim| cons a _=>exact ⟨a,ψ⟩);rw [<-D a ha,b a ha]);subst I;rcases J with ⟨_,h2⟩ | ⟨h1,_⟩
  .have L:N=x.Deg.toNat+y.Deg.toNat:=(by rw [h2.1,z]);subst L;show D7 [([],1)] x.Lin f (x.Deg.toNat+y.Deg.toNat+1)=_;exact Ai5 (A4s hd λn=>by rw [h2.2.2 n,j])
  .exact (hx h1).elim
open Classical in
theorem A4x {K:Nat} {m:Ba} {c:Ar} (hc:RB K c) (hK:K<=2000000) (hm:D9 m):∃n o,Jp 0 m c []=some (n,o)/\Iu o n=some (o.take n)/\CP (o.take n)/\(∀t∈o.take n,RB (K+3) t.Coef/\D9 t.Mono)/\o.length<=1/\∀a,cf (o.take n) a=if C4 m a=0 then rq c else 0:=by
 obtain ⟨n,o,h1,h2,h3,h4⟩:=S9 (Zo 0) hc hm ω ψ;refine ⟨n,o,h1,Ad2 h3.le,h3.cp,λt ht=>⟨(h3.tm t ht).1.mono ω,(h3.tm t ht).2⟩,by simpa using h2,λa=>?_⟩;rw [h4];have e0:cf (List.take 0 ([]:List Ah)) a=0:=rfl;rw [e0];by_cases e:m=a
 .rw [if_pos e,if_pos (G4.2 e)]; grind
 .rw [if_neg e,if_neg (λh=>e (G4.1 h))]; grind
theorem A4y {c:Ar} {K:Nat} (hc:RB K c) (hK:K<=100000) {L:List A7} (hL:L.length<=1) {y:A7} (hy:1<=y.Deg/\y.Lin.Terms.length≠0/\y.Lin.Terms.length<=1048576) (hx:∀a∈L,1<=a.Deg/\a.Lin.Terms.length≠0/\a.Lin.Terms.length<=1048576) (hd:Cm L+y.Deg.toNat<=6) {B:List Du} (hB:IsE (L++[y]) B) : ∃S,Jo [⟨c,⟨[],L⟩⟩] y.Lin y.Deg=some S/\(∀t∈S,RB (7*K+2000) t.Coef/\D9 t.Mono)/\S.length<=7/\∀a,cf S a=rq c*(ec B a:Rat):=by
 have it:Ae [(⟨c,⟨[],L⟩⟩:Ah)] 0=some ⟨c,⟨[],L⟩⟩:=rfl;have w1:Aa (0+1)=1:=by rw [Aa,Bm] <;> omega
 have N:∀M:List A7,M.length<=2->(∀a∈M,a.Lin.Terms.length<=1048576)->D9 ⟨[],M⟩:=λM h1 h2=>⟨ψ,by show M.length<=1048576; omega,(λf h=>by cases h),(λf h=>by cases h),h2⟩;have a8:D9 ⟨[],L⟩:=N L ω λa ha=>(hx a ha).2.2;have ag:⟨y.Lin,y.Deg⟩=y:=rfl;have ins:∀(at_:Nat),at_<=L.length->(Al (S:=Int) (E:=Int) (λi=>
   bif i<(L.length:Int) then ((Ae L i).bind λae=> (I6 ae.Lin y.Lin).bind λv91=> bif v91<(0:Int) then (some (.inl (Aa (i+1)))) else (some (.inr i))) else (some (.inr i))) 0=some (at_:Int))->((show OB from bif (at_:Int)<(L.length:Int) then ((Ae L (at_:Int)).bind λv93=> (I6 v93.Lin y.Lin).bind λad=> some (ad==(0:Int))) else (some false))=some false)->B = [(L.take at_++y::L.drop at_,1)]->∃S,Jo [⟨c,⟨[],L⟩⟩] y.Lin y.Deg=some S/\(∀t∈S,RB (7*K+2000) t.Coef/\D9 t.Mono)/\S.length<=7/\∀a,cf S a=rq c*(ec B a:Rat):=by
  intro at_ am I G R;obtain ⟨o,o1,o2,o3⟩:=Ar9 L at_ ⟨⟨0,[]⟩,0⟩ y am ω;have hM:D9 ⟨[],L.take at_++y::L.drop at_⟩:=N _ (by simp; omega) λa ha=>by
   simp only [List.mem_append,List.mem_cons] at ha;rcases ha with ha | rfl | ha
   .exact (hx a (List.mem_of_mem_take ha)).2.2
   .exact hy.2.2
   .exact (hx a (List.mem_of_mem_drop ha)).2.2
  obtain ⟨n,q,Z,p2,p3,p4,p5,p6⟩:=A4x hc ω hM;have a1:o[at_]? = some (o[at_]' ω):=Bv _;generalize o[at_]'_=w at a1;refine ⟨q.take n,?_,λt ht=>⟨(p4 t ht).1.mono ω,(p4 t ht).2⟩,by rw [List.length_take]; omega,λa=>?_⟩
  .unfold Jo;rw [Ch ω,cond_false];refine Dl (a:=(n,q)) ?_ (by dsimp only; rw [p2]; rfl);refine (Ft (s':=(n,1,q)) ?_).trans (Cz (by rfl));dsimp only;rw [Aj ψ,cond_true,it,Ad,Ch ω,cond_false];refine Dl I ?_;dsimp only;refine Dl G ?_;rw [cond_false,Aji _ a8,Ad];dsimp only;rw [C3 (by simp; omega),Ad];refine Dl o1 ?_;rw [Ce rfl a1,Ad,Fh (n:=at_) rfl,ag,o3,Z,Ad,w1]
  .rw [p6,R];simp only [ec];split
   .rw [show ((1+0:Nat):Rat)=1 from rfl]; grind
   .rw [show ((0+0:Nat):Rat)=0 from rfl]; grind
 rcases V6 hL with rfl | ⟨x,rfl⟩
 .refine ins 0 ψ (Cz (by rfl)) rfl ?_;have k:IsE [⟨y.Lin,((y.Deg.toNat:Nat):Int)⟩] B:=(by have:((y.Deg.toNat:Nat):Int)=y.Deg:=ω;rw [this]; exact hB);rw [Ajj k,if_neg hy.2.1,Ad3 y hy.1];rfl
 .have g:=hx x ψ;have U:Ae [x] 0=some x:=rfl;have b:I6 x.Lin y.Lin=some (E8 x.Lin y.Lin):=Ada _ _ ω;have k:IsE [x,y] B:=hB;rcases Int.lt_trichotomy (E8 x.Lin y.Lin) 0 with h | h | h
  .refine ins 1 ψ ?_ ψ (Ase k h ⟨g.1,g.2.1⟩ ⟨hy.1,hy.2.1⟩);refine (Ft (s':=1) ?_).trans (Cz (by rfl));rw [Aj ψ,cond_true,U,Ad,b,Ad,Aj h,cond_true,w1]
  .have aa:x.Lin=y.Lin:=(H6.zero _ _ trivial trivial).1 h;have l:x.Deg.toNat+y.Deg.toNat<=6:=(by simpa [Cm] using hd);have R:=A4w k aa g.2.1 l;generalize ha:x.Deg.toNat=p at *;generalize hb:y.Deg.toNat=q at *;have ah:x.Deg=((p:Nat):Int):=ω;have af:y.Deg=((q:Nat):Int):=ω;have a7:pc p q 0=0:=(by unfold pc;rw [if_neg ω]);obtain ⟨e,e1,n,o,rfl,e2,e3,e4⟩:=Ib (step:=(λ(A,v124,D)=> bif v124<((Ls (p+q+1) (pc p q)).length:Int) then ((Sk ⟨[],[x]⟩).bind λj=> (Ae j.2.2 0).bind λY=> (Ae (Ls (p+q+1) (pc p q)) v124).bind λX=> (I5 c X).bind λV=> (Jp A (Ba.mk j.2.1 (B9 j.2.2 0 (A7.mk Y.Lin v124))) V D).bind λu=> some (.inl (u.1,(Aa (v124+1)),u.2))) else (some (.inr (A,v124,D))):Nat×Int×List Ah->Option ((Nat×Int×List Ah)⊕(Nat×Int×List Ah)))) (λs=>∃(n d:Nat) (o:List Ah),s=(n,(d:Int),o)/\1<=d/\d<=p+q+1/\o.length<=d-1/\PSt ((d-1)*(K+205)) n o/\∀a,cf (o.take n) a=rq c*(ec (D7 [([],1)] x.Lin (pc p q) d) a:Rat)) (λs=>p+q+1-s.2.1.toNat) (λe=>∃(n:Nat) (o:List Ah),e=(n,((p+q+1:Nat):Int),o)/\o.length<=p+q/\PSt ((p+q)*(K+205)) n o/\∀a,cf (o.take n) a=rq c*(ec (D7 [([],1)] x.Lin (pc p q) (p+q+1)) a:Rat)) (by
     rintro _ ⟨n,d,o,rfl,aq,ap,k1,k2,k3⟩;dsimp only;rw [Mt];rcases Nat.lt_or_ge d (p+q+1) with h' | h'
     .left;have ai:=A4t p ω q ω l d ω;have ab:pc p q d<Big:=Nat.lt_of_lt_of_le ai δ;obtain ⟨z,_,z1,z2,z3,z4⟩:=Add hc (Np.c ab).rb ω δ;have aj:D9 ⟨[],[⟨x.Lin,((d:Nat):Int)⟩]⟩:=N _ ψ λa ha=>by simp only [List.mem_singleton] at ha;subst ha; exact g.2.2
      obtain ⟨n',o',Z,p2,p3,p4⟩:=S9 k2 z2 aj (by have:(d-1)*(K+205)<=6*(K+205):=Nat.mul_le_mul_right _ ω;omega) ω;refine ⟨(n',((d+1:Nat):Int),o'),?_,⟨n',d+1,o',rfl,ω,ω,ω,?_,λa=>?_⟩,by simp; omega⟩
      .rw [Aj ω,cond_true,Aji _ a8,Ad];dsimp only;rw [U,Ad,Ce rfl (K7 (pc p q) h'),Ad,z1,Ad];have a6:B9 [x] 0 (⟨x.Lin,((d:Nat):Int)⟩:A7) = [⟨x.Lin,((d:Nat):Int)⟩]:=rfl;rw [a6,Z,Ad,C6 h' ω]
      .have e:(d+1-1)*(K+205)=(d-1)*(K+205)+(K+205):=(by have:d+1-1=(d-1)+1:=ω;rw [this,Nat.add_mul,Nat.one_mul]);rw [e];exact p3.mono ω
      .rw [p4,k3,Lt,A4v,z4,Ta,Rat.natCast_add];have ac:atO x.Lin d = [⟨x.Lin,((d:Nat):Int)⟩]:=(by unfold atO; rw [if_neg ω]);by_cases J:pc p q d=0
       .rw [if_pos J,J];have z0:((0:Nat):Rat)=0:=rfl;simp only [ec,z0];split <;> grind
       .rw [if_neg J];simp only [List.map_cons,List.map_nil,ec,ac,List.nil_append,Nat.one_mul,Nat.add_zero];by_cases e:(⟨[],[⟨x.Lin,((d:Nat):Int)⟩]⟩:Ba)=a
        .rw [if_pos e,if_pos (G4.2 e)]; grind
        .rw [if_neg e,if_neg (λh=>e (G4.1 h))];have z0:((0:Nat):Rat)=0:=rfl;rw [z0]; grind
     .right;have:d=p+q+1:=ω;subst this;exact ⟨_,by rw [An ω,cond_false],n,o,rfl,ω,k2.mono (Nat.mul_le_mul_right _ ω),k3⟩)
    (0,1,[]) ⟨0,1,[],rfl,ω,ω,ψ,by simpa using Zo 0,λa=>by have:D7 [([],1)] x.Lin (pc p q) 1 = []:=(by rw [Lt,if_pos a7]; rfl);rw [this];have z0:((0:Nat):Rat)=0:=rfl;simp only [ec,z0,List.take_nil,cf]; grind⟩;refine ⟨o.take n,?_,λt ht=>⟨(e3.tm t ht).1.mono (by have:(p+q)*(K+205)<=6*(K+205):=Nat.mul_le_mul_right _ l;omega),(e3.tm t ht).2⟩,by rw [List.length_take]; omega,λa=>by rw [e4,R]⟩;unfold Jo;rw [Ch ω,cond_false];refine Dl (a:=(n,o)) ?_ (by dsimp only; rw [Ad2 e3.le]; rfl);refine (Ft (s':=(n,1,o)) ?_).trans (Cz (by rfl));dsimp only;rw [Aj ψ,cond_true,it,Ad,Ch ω,cond_false];refine Dl (a:=0) (Cz ?_) ?_
   .dsimp only;rw [Aj ψ,cond_true,U,Ad,b,Ad,An ω,cond_false]
   .dsimp only;rw [Aj ψ,cond_true,U,Ad,b,Ad,Dw h,Ad,cond_true,Ad,ah,af,A4u p q l,Ad];refine Dl e1 ?_;dsimp only;rw [w1]
  .have ak:E8 y.Lin x.Lin<0:=(by rw [H6.anti x.Lin y.Lin trivial trivial]; omega);have ao:IsE [y,x] B:=(by obtain ⟨gs,A',Z,p2,p3,rfl⟩:=k;exact ⟨gs,A',Z.trans (List.Perm.swap y x []),p2,p3,rfl⟩);refine ins 0 ψ (Cz ?_) ?_ (Ase ao ak ⟨hy.1,hy.2.1⟩ ⟨g.1,g.2.1⟩)
   .rw [Aj ψ,cond_true,U,Ad,b,Ad,An ω,cond_false]; rfl
   .rw [Aj ψ,cond_true];show (Ae [x] 0).bind _=_;rw [U,Ad,b,Ad,Ch ω]
end Go.Ab
namespace Go.Ab
open Go
theorem Ad4 {x:Bk} (c:CSz x) (f:F0 x) {p:List Ah} (hp:Gr x p):M2 x p=some true:=by obtain ⟨b,b1,b2⟩:=Apr x c p hp.sz;rw [b1,b2.2 ⟨f,hp.can⟩]
theorem Asf {x:Bk} (b:CSz x) (f:F0 x) {p q:List Ah} (hp:Gr x p) (hq:Gr x q) (k:p.length+q.length<=1000) {R:List Ah} (h:N0 x p q=some (R,0)):Pa x p q=some (R,0):=by
 obtain ⟨D,j,i⟩:=Aqz b f hp hq k;rw [h] at j;cases j;obtain ⟨c,B,A,z⟩:=A2m;obtain ⟨S,y,u,s,l⟩:=A2q hp hq A ω k;have g:R=S:=CP.ext i.cp s λm=>by rw [i.val,l,z]; grind
 subst g;unfold Pa;rw [Ad4 b f hp,Ad4 b f hq];simp only [Ad,Dk,cond_false,B,y,u]
structure M1 (x:Bk) (D:Nat) (m:Ba):Prop where
 no:NoF x D m
 one:m.Atoms.length<=1
theorem M1.cases {x:Bk} {D:Nat} {m:Ba} (h:M1 x D m):m=⟨[],[]⟩\/∃a,m=⟨[],[a]⟩:=by
 obtain ⟨F,L⟩:=m;have b:F = []:=h.no.2.1;subst b;rcases V6 h.one with e | ⟨a,e⟩
 .left;have e:L = []:=e;rw [e]
 .right;have e:L = [a]:=e;exact ⟨a,by rw [e]⟩
theorem A4z {x:Bk} {D:Nat} {m:Ba} (h:M1 x D m):Pf x m=some (Cb m.Atoms):=by
 have c:=h.no.1.f.atm;have b:=h.no.1.f.deg;have g:=h.no.1.2.al;rcases h.cases with rfl | ⟨a,rfl⟩
 .rfl
 .obtain ⟨d1,d2,d3,d4⟩:=c a ψ;have q:=g a ψ;have i:Cb [a]=a.Deg:=(by simp [Cb]);have s:a.Deg<=6:=(by unfold Ar7 at b;have e:D4 x.Data x.Vars x.Res ([]:List B7)=0:=rfl;rw [show (⟨[],[a]⟩:Ba).Atoms = [a] from rfl,show (⟨[],[a]⟩:Ba).Factors = [] from rfl,e,i] at b;omega);have l:Ae [a] 0=some a:=rfl;have k:Aa (0+1)=1:=(by rw [Aa,Bm] <;> omega);have j:Aa (0+a.Deg)=a.Deg:=(by have:(0:Int)+a.Deg=a.Deg:=ω;rw [this,Aa,Bm] <;> omega);unfold Pf;refine Dl (a:=.inr 0) (Cz (by rfl)) ?_;dsimp only;refine Dl (a:=.inr a.Deg) ?_ (by dsimp only; rw [An ω,cond_false,i]);refine (Ft (s':=(a.Deg,1)) ?_).trans (Cz (by rfl));dsimp only;rw [Aj ψ,cond_true,l,Ad,Nl,d2,Ad,Dk,cond_false,Ch ω,cond_false,Ah0 x a.Lin q,d4,Ad,Dk,cond_false,An ω,cond_false,An ω,cond_false,An ω,cond_false,k,j]
theorem Asg {x:Bk} {D:Nat} {t:Ah} (h:M1 x D t.Mono):M3 x [t]=some (Cb t.Mono.Atoms):=by
 have h0:=Ad0 λa ha=>(h.no.1.f.atm a ha).1;have it:Ae [t] 0=some t:=rfl;have b:Aa (0+1)=1:=by rw [Aa,Bm] <;> omega
 unfold M3;refine Dl (a:=Cb t.Mono.Atoms) ?_ rfl;refine (Ft (s':=(Cb t.Mono.Atoms,1)) ?_).trans (Cz (by rfl));dsimp only;rw [Aj ψ,cond_true,it,Ad,A4z h,Ad,b];have e:(if Cb t.Mono.Atoms>0 then Cb t.Mono.Atoms else 0)=Cb t.Mono.Atoms:=by split <;> omega
 rw [e]
theorem A40 (l:Bb) (k:Int):Jo [] l k=some []:=by
 unfold Jo;by_cases h:k=0
 .rw [Dw h]; rfl
 .rw [Ch h,cond_false];refine Dl (a:=(0,[])) (Cz (by rfl)) ?_;rfl
theorem A41 {x:Bk} {D D':Nat} (hD:D+D'<=6) {s:Ah} {m:Ba} {K:Nat} (hc:RB K s.Coef) (hK:K<=100000) (g:M1 x D s.Mono) (hm:M1 x D' m) : ∃S,Rj x [s] m=some S/\(∀t∈S,RB (7*K+2000) t.Coef/\D9 t.Mono)/\S.length<=7/\∀a,cf S a=rq s.Coef*(ec (eB (s.Mono.Atoms++m.Atoms)) a:Rat):=by
 have ds:=g.no.dsum_le;have dm:=hm.no.dsum_le;have j:=g.no.1.f.atm;have A:=hm.no.1.f.atm;have Z:=g.no.1.2.al;have lm:=hm.no.1.2.al;have l:Atk (s.Mono.Atoms++m.Atoms):=⟨λa ha=>by
  rcases List.mem_append.1 ha with h | h
  .have:=(j a h).1; omega
  .have:=(A a h).1; omega,λa ha=>by
  rcases List.mem_append.1 ha with h | h
  .exact (j a h).2.1
  .exact (A a h).2.1,by rw [Nr]; omega,by rw [List.length_append]; have:=g.one; have:=hm.one; omega⟩
 have k:rq (cR 1)≠0:=by rw [V8]; decide
 obtain ⟨_,B,_,i,_,_⟩:=Ai7 (c:=cR 1) (K:=3) Zp δ k l [] [] [] [] 0 0 [];rw [Aje i];unfold Rj;rcases hm.cases with rfl | ⟨y,rfl⟩
 .refine ⟨[s],?_,λt ht=>?_,ψ,λa=>?_⟩
  .refine Dl (a:=[s]) (Cz (by rfl)) ?_;refine Dl (a:=[s]) (Cz (by rfl)) rfl
  .simp only [List.mem_singleton] at ht;subst ht;exact ⟨hc.mono ω,g.no.1.2⟩
  .have q:B = [(s.Mono.Atoms,1)]:=by
    rw [show (⟨[],[]⟩:Ba).Atoms = [] from rfl,List.append_nil] at i;rcases g.cases with e | ⟨u,e⟩
    .rw [e] at i ⊢;obtain ⟨gs,A',Y,p2,X,rfl⟩:=i;have hA:A' = []:=List.Perm.eq_nil Y;have:=X.nil_of hA;subst this;rfl
    .rw [e] at i j ⊢;obtain ⟨N,_,M,_⟩:=j u ψ;have z:IsE [⟨u.Lin,((u.Deg.toNat:Nat):Int)⟩] B:=(by have:((u.Deg.toNat:Nat):Int)=u.Deg:=ω;rw [this]; exact i);rw [Ajj z,if_neg M,Ad3 u N]
   have b:(⟨[],s.Mono.Atoms⟩:Ba)=s.Mono:=(by have:=g.no.2.1;cases b:s.Mono with| mk F L=>rw [b] at this; have this:F = []:=this; subst this; rfl);rw [q];simp only [cf,ec,b];by_cases e:C4 s.Mono a=0
   .rw [if_pos e,if_pos e,show ((1+0:Nat):Rat)=1 from rfl]; grind
   .rw [if_neg e,if_neg e,show ((0+0:Nat):Rat)=0 from rfl]; grind
 .obtain ⟨I,_,G,_⟩:=A y ψ;have b:s=⟨s.Coef,⟨[],s.Mono.Atoms⟩⟩:=(by have:=g.no.2.1;obtain ⟨c,F,L⟩:=s;have this:F = []:=this;subst this; rfl);have dy:s.Mono.Atoms.length<=1:=g.one;obtain ⟨S,E,V,U,R⟩:=A4y hc hK g.one ⟨I,G,lm y ψ⟩ (λa ha=>⟨(j a ha).1,(j a ha).2.2.1,Z a ha⟩) (by have:Cm [y]=y.Deg.toNat:=(by simp [Cm]); have e:Cm (⟨[],[y]⟩:Ba).Atoms=Cm [y]:=rfl; omega) i;rw [<-b] at E;refine ⟨S,?_,V,U,R⟩;refine Dl (a:=[s]) (Cz (by rfl)) ?_;have iy:Ae [y] 0=some y:=rfl;have J:Aa (0+1)=1:=(by rw [Aa,Bm] <;> omega);refine Dl (a:=S) ?_ rfl;refine (Ft (s':=(S,1)) ?_).trans (Cz (by rfl));dsimp only;rw [Aj ψ,cond_true,iy,Ad,E,Ad,J]
open Classical in
theorem A42 {x:Bk} (hz:CSz x) (hf:F0 x) {D D':Nat} (hD:D+D'<=6) {f g:Ba->Rat} {p q:List Ah} (hp:IP x 1 4900 f p) (hq:IP x 1 4900 g q) (np:∀t∈p,M1 x D t.Mono) (nq:∀t∈q,M1 x D' t.Mono) {n:Nat} {R:List Ah} (hR:IP x n 13000 (Oq p q) R):Rh x p q=some (R,0):=by
 have vp:=Ad4 hz hf (hp.can δ δ);have vq:=Ad4 hz hf (hq.can δ δ);have w1:Aa (0+1)=1:=by rw [Aa,Bm] <;> omega
 have hnil:(∀a,Oq p q a=0)->R = []:=λh=>CP.ext hR.cp CP.nil λa=>by rw [hR.val,h]; rfl
 unfold Rh;rw [vp,vq];simp only [Ad,Dk,cond_false];rcases V6 hq.len with rfl | ⟨t,rfl⟩
 .have:R = []:=hnil λa=>by cases p <;> rfl
  subst this;have h0:(show OB from
    bif (p.length:Int)>(0:Int) then (bif (([]:List Ah).length:Int)>(0:Int) then ((M3 x p).bind λv5=> (M3 x []).bind λv6=> some (decide ((Aa (v5+v6))>(6:Int)))) else (some false)) else (some false))=some false:=by rw [An (by simp:¬((([]:List Ah).length:Int)>0))];cases decide ((p.length:Int)>(0:Int)) <;> rfl
  refine Dl h0 ?_;rw [cond_false];refine Dl (a:=(0,[])) (Cz (by rfl)) ?_;rfl
 .have ht:=nq t ψ;have it:Ae [t] 0=some t:=rfl;rcases V6 hp.len with rfl | ⟨s,rfl⟩
  .have:R = []:=hnil λa=>rfl;subst this;refine Dl (a:=false) (by rfl) ?_;rw [cond_false];have htm:Rj x [] t.Mono=some []:=by
    unfold Rj;have hF:=ht.no.2.1;rcases ht.cases with e | ⟨y,e⟩
    .rw [e];refine Dl (a:=[]) (Cz (by rfl)) ?_;exact Dl (a:=[]) (Cz (by rfl)) rfl
    .rw [e];refine Dl (a:=[]) (Cz (by rfl)) ?_;have iy:Ae [y] 0=some y:=rfl;refine Dl (a:=[]) ?_ rfl;refine (Ft (s':=([],1)) ?_).trans (Cz (by rfl));dsimp only;rw [Aj ψ,cond_true,iy,Ad,A40,Ad,w1]
   refine Dl (a:=(0,[])) ?_ (by rfl);refine (Ft (s':=(0,1,[])) ?_).trans (Cz (by rfl));dsimp only;rw [Aj ψ,cond_true,it,Ad,htm,Ad];refine Dl (a:=(0,0,[])) (Cz (by rfl)) ?_;dsimp only;rw [w1]
  .have hs:=np s ψ;obtain ⟨y,y1,y2⟩:=hp.int s ψ;obtain ⟨z,z1,z2⟩:=hq.int t ψ;have rbs:=V4 (hp.cp.coe s ψ).1 y1 y2;have rbt:=V4 (hq.cp.coe t ψ).1 z1 z2;have a1:=Ar8 λa ha=>(hs.no.1.f.atm a ha).1;have a2:=Ar8 λa ha=>(ht.no.1.f.atm a ha).1;have d1:=hs.no.dsum_le;have d2:=ht.no.dsum_le;obtain ⟨S,s1,s2,s3,s4⟩:=A41 hD rbs δ hs ht;have wG:Aa (Cb s.Mono.Atoms+Cb t.Mono.Atoms)=Cb s.Mono.Atoms+Cb t.Mono.Atoms:=(by rw [Aa,Bm] <;> omega);have h0:(show OB from
     bif (([s]:List Ah).length:Int)>(0:Int) then (bif (([t]:List Ah).length:Int)>(0:Int) then ((M3 x [s]).bind λv5=> (M3 x [t]).bind λv6=> some (decide ((Aa (v5+v6))>(6:Int)))) else (some false)) else (some false))=some false:=by rw [Aj ψ,cond_true,Aj ψ,cond_true,Asg hs,Asg ht,Ad,Ad,wG,An ω]
   refine Dl h0 ?_;rw [cond_false];obtain ⟨e,e1,n',o,rfl,e2,e3,e4⟩:=Ib (step:=(λ(v77,v78,o79)=> bif v78<(S.length:Int) then ((Ae S v78).bind λv80=> (I5 v80.Coef t.Coef).bind λv82=> (Jp v77 v80.Mono v82 o79).bind λv83=> some (.inl (v83.1,(Aa (v78+1)),v83.2))) else (some (.inr (v77,v78,o79))):Nat×Int×List Ah->Option ((Nat×Int×List Ah)⊕(Nat×Int×List Ah)))) (λs'=>∃(n d:Nat) (o:List Ah),s'=(n,(d:Int),o)/\d<=S.length/\o.length<=d/\PSt (d*50000) n o/\∀a,cf (o.take n) a=rq t.Coef*cf (S.take d) a) (λs'=>S.length-s'.2.1.toNat) (λe=>∃(n:Nat) (o:List Ah),e=(n,((S.length:Nat):Int),o)/\o.length<=S.length/\PSt (S.length*50000) n o/\∀a,cf (o.take n) a=rq t.Coef*cf S a) (by
     rintro _ ⟨n,d,o,rfl,hd,k1,k2,k3⟩;dsimp only;rcases Nat.lt_or_ge d S.length with h' | h'
     .left;have hx:S[d]? = some S[d]:=Bv h';generalize S[d]=u at hx;obtain ⟨u1,u2⟩:=s2 u (Cd hx);obtain ⟨c,_,c1,c2,c3,c4⟩:=Add u1 rbt δ δ;obtain ⟨n',o',p1,p2,p3,p4⟩:=S9 k2 c2 u2 ω ω;refine ⟨(n',((d+1:Nat):Int),o'),?_,⟨n',d+1,o',rfl,ω,ω,p3.mono ω,λa=>?_⟩,by simp; omega⟩
      .rw [Aj ω,cond_true,Ce rfl hx,Ad,c1,Ad,p1,Ad,C6 h' ω]
      .rw [p4,k3,C8 hx,Mq,c4];simp only [cf];by_cases e:u.Mono=a
       .rw [if_pos e,if_pos (G4.2 e)]; grind
       .rw [if_neg e,if_neg (λh=>e (G4.1 h))]; grind
     .right;have:d=S.length:=ω;subst this;rw [List.take_length] at k3;exact ⟨_,by rw [An ω,cond_false],n,o,rfl,k1,k2,k3⟩)
    (0,0,[]) ⟨0,0,[],rfl,ω,ψ,by simpa using Zo 0,λa=>by simp only [List.take_nil,List.take_zero,cf]; grind⟩;have hRo:R=o.take n':=CP.ext hR.cp e3.cp λa=>by rw [hR.val,e4,s4];simp only [Oq];grind
   refine Dl (a:=(n',o)) ?_ ?_
   .refine (Ft (s':=(n',1,o)) ?_).trans (Cz (by rfl));dsimp only;rw [Aj ψ,cond_true,it,Ad,s1,Ad];refine Dl e1 ?_;dsimp only;rw [w1]
   .dsimp only;rw [Ad2 e3.le,Ad,<-hRo];unfold Ri;have hlR:R.length<=7:=(by rw [hRo,List.length_take]; omega);rw [An ω,cond_false]; rfl
theorem Ash (x:Bk) (l:Bb) (i:l.Terms.length<=1048576) (g:x.Vars.length<=1048576):T3 x l=some (Ea x.Vars x.Res l):=by
 unfold T3;have f:Ea x.Vars x.Res l=l.Terms.zipIdx.all (λq=>Gk x.Vars x.Res q.1):=by
  unfold Ea;rw [Bool.eq_iff_iff,List.all_eq_true,List.all_eq_true];constructor
  .rintro h ⟨a,j⟩ hq;exact h a (Cd (List.mk_mem_zipIdx_iff_getElem?.1 hq))
  .intro h a ha;obtain ⟨j,hj⟩:=List.getElem?_of_mem ha;exact h (a,j) (List.mk_mem_zipIdx_iff_getElem?.2 hj)
 rw [f];refine (Od l.Terms (λq=>Gk x.Vars x.Res q.1) (λj=>(j:Int)) rfl ω (rt:=true) (rf:=false) ?_ ?_).trans (by rw [Ml])
 .intro j t ht _ h1 h2 h3;simp only [h1,h2,h3,cond_true,Ad];by_cases h0:t.Var>=0
  .by_cases c:t.Var<(x.Vars.length:Int)
   .have hx:x.Vars[t.Var.toNat]? = some x.Vars[t.Var.toNat]:=Bv ω;generalize x.Vars[t.Var.toNat]' ω=u at hx;have hi:Ae x.Vars t.Var=some u:=Ce (n:=t.Var.toNat) ω hx;have b:Gk x.Vars x.Res t=(u.Kind==1):=(by unfold Gk tyX;rw [if_neg ω,hi]);rw [b,Aj h0,Aj c,hi];simp only [cond_true,Ad];rw [An ω,cond_false,An ω,cond_false];by_cases hk:u.Kind=1
    .rw [De hk,Dw hk];exact ⟨λ_=>rfl,λh=>by cases h⟩
    .rw [Dh hk,Ch hk];exact ⟨(λh=>by cases h),λ_=>⟨.inl false,rfl,rfl⟩⟩
   .have b:Gk x.Vars x.Res t=false:=(by unfold Gk tyX;rw [if_neg ω,Ab6 (.inr ω)]);rw [b,Aj h0,An c];simp only [cond_true,cond_false,Ad];rw [An ω,cond_false,Aj ω,cond_true];exact ⟨(λh=>by cases h),λ_=>⟨.inl false,rfl,rfl⟩⟩
  .rw [An h0];simp only [cond_false,Ad];by_cases h1:t.Var = -1
   .have b:Gk x.Vars x.Res t=(x.Res.Kind==1):=(by unfold Gk tyX;rw [if_pos h1]);rw [b,An ω,cond_false,An ω,cond_false];by_cases hk:x.Res.Kind=1
    .rw [De hk,Dw hk];exact ⟨λ_=>rfl,λh=>by cases h⟩
    .rw [Dh hk,Ch hk];exact ⟨(λh=>by cases h),λ_=>⟨.inl false,rfl,rfl⟩⟩
   .have b:Gk x.Vars x.Res t=false:=(by unfold Gk tyX;rw [if_neg h1,Ab6 (.inl ω)]);rw [b,Aj ω,cond_true];exact ⟨(λh=>by cases h),λ_=>⟨.inl false,rfl,rfl⟩⟩
 .intro h _;exact ⟨.inr (),by simp only [h]; rfl,rfl⟩
theorem A43 (R:List Ah):Pb R [0,0,0]=some (R,0):=by
 unfold Pb;have f:Aa (0+1)=1:=by rw [Aa,Bm] <;> omega
 have c:Aa (1+1)=2:=by rw [Aa,Bm] <;> omega
 have b:Aa (2+1)=3:=by rw [Aa,Bm] <;> omega
 refine Dl (a:=.inr ()) ?_ rfl;refine (Ft (s':=1) ?_).trans ((Ft (s':=2) ?_).trans ((Ft (s':=3) ?_).trans (Cz (by rfl))))
 .rw [Aj ψ,cond_true,show Ae [(0:Int),0,0] 0=some 0 from rfl,Ad,De rfl,cond_false,f]
 .rw [Aj ψ,cond_true,show Ae [(0:Int),0,0] 1=some 0 from rfl,Ad,De rfl,cond_false,c]
 .rw [Aj ψ,cond_true,show Ae [(0:Int),0,0] 2=some 0 from rfl,Ad,De rfl,cond_false,b]
theorem A44 (R:List Ah):Pb R [0]=some (R,0):=by
 unfold Pb;have b:Aa (0+1)=1:=by rw [Aa,Bm] <;> omega
 refine Dl (a:=.inr ()) ?_ rfl;refine (Ft (s':=1) ?_).trans (Cz (by rfl));rw [Aj ψ,cond_true,show Ae [(0:Int)] 0=some 0 from rfl,Ad,De rfl,cond_false,b]
end Go.Ab
namespace Go.Ab
open Go
theorem aEq {x:Bk} (f:CSz x) (g:F0 x) {l:Bb} {k:Int} (b:C2 l=true) (h0:0<=k) (h:k<=6) (hi:Ea x.Vars x.Res l=true) : J4 x l k=some (aP x l k,0)/\IP x 1 4900 (λm=>(ec (eB [⟨l,k⟩]) m:Rat)) (aP x l k)/\∀t∈aP x l k,M1 x k.toNat t.Mono:=by obtain ⟨a1,a2,a3⟩:=V7 f g b h0 h hi;obtain ⟨R,B,c,i,_,_,_⟩:=A4q f g b h0 h hi (by have:=(Kl b).1; omega);rw [a1] at c;cases c;exact ⟨i,a2,λt ht=>⟨(a3 t ht).1,(a3 t ht).2⟩⟩
theorem A45 {x:Bk} (g:CSz x) (i:F0 x) {E F s:Bb} {K:Nat} (M:C2 E=true) (L:C2 F=true) (J:Ea x.Vars x.Res E=true) (I:Ea x.Vars x.Res F=true) (B:K<=6) (Y:C2 s=true) (Z:Ea x.Vars x.Res s=true) : ∃R,IP x 17 13010 (shF x E F s K) R/\(Al (S:=((List Ah)×Int×Int)) (E:=(((List Ah)×Int)⊕((List Ah)×Int))) (λ(v22,v23,v24)=> (show OB from bif v24<=(K:Int) then (some (v23==(0:Int))) else (some false)).bind λv25=>
   bif v25 then ((J4 x E v24).bind λv26=> (J4 x F (Aa ((K:Int)-v24))).bind λc=> (Rh x v26.1 c.1).bind λv28=> (show OB from bif (v26.2 != (0:Int)) then (some true) else (bif (c.2 != (0:Int)) then (some true) else (some (v28.2 != (0:Int))))).bind λf=> bif f then (some (.inr (.inl ([],9)))) else ((Pa x v22 v28.1).bind λb=> some (.inl (b.1,b.2,(Aa (v24+1))))))
   else (some (.inr (.inr (v22,v23))))) (aP x s (K:Int),0,0))=some (.inr (R,0)):=by
 obtain ⟨a1,a2,a3⟩:=aEq g i (l:=s) (k:=(K:Int)) Y ω ω Z;obtain ⟨e,e1,R,rfl,e2⟩:=Ib (step:=(λ(v22,v23,v24)=> (show OB from bif v24<=(K:Int) then (some (v23==(0:Int))) else (some false)).bind λv25=>
   bif v25 then ((J4 x E v24).bind λv26=> (J4 x F (Aa ((K:Int)-v24))).bind λc=> (Rh x v26.1 c.1).bind λv28=> (show OB from bif (v26.2 != (0:Int)) then (some true) else (bif (c.2 != (0:Int)) then (some true) else (some (v28.2 != (0:Int))))).bind λf=> bif f then (some (.inr (.inl ([],9)))) else ((Pa x v22 v28.1).bind λb=> some (.inl (b.1,b.2,(Aa (v24+1))))))
   else (some (.inr (.inr (v22,v23)))):List Ah×Int×Int->Option ((List Ah×Int×Int)⊕((List Ah×Int)⊕(List Ah×Int))))) (λu=>∃(j:Nat) (R:List Ah),u=(R,0,(j:Int))/\j<=K+1/\IP x (1+cs K j) (13000+j) (λm=>(ec (eB [⟨s,(K:Int)⟩]) m:Rat)-sq j λj=>Oq (aP x E (j:Int)) (aP x F ((K-j:Nat):Int)) m) R) (λu=>K+1-u.2.2.toNat) (λe=>∃R,e = .inr (R,0)/\IP x 17 13010 (shF x E F s K) R) (by
   rintro _ ⟨j,R,rfl,hj,q⟩;dsimp only;rcases Nat.lt_or_ge j (K+1) with h | h
   .left;obtain ⟨b1,b2,U⟩:=aEq g i (l:=E) (k:=(j:Int)) M ω ω J;obtain ⟨c1,c2,N⟩:=aEq g i (l:=F) (k:=((K-j:Nat):Int)) L ω ω I;obtain ⟨P,_,G⟩:=Ary g i M L J I B (by omega:j<=K);have hm:=A42 g i (D:=j) (D':=K-j) ω b2 c2 (λt ht=>⟨(U t ht).no.mono ω,(U t ht).one⟩) (λt ht=>⟨(N t ht).no.mono ω,(N t ht).one⟩) G;have A:=Ad1 B (j:=j+1) ω;have a6:cs K (j+1)=cs K j+(1+min j (K-j)):=rfl;have z:=G.up (L':=13000+j) (Nat.le_refl _) ω λ_=>rfl;obtain ⟨S,X,V⟩:=Ai9 g i q z ω ω;have y:=Asf g i (q.can ω ω) (z.can ω ω) (by have:=q.len; have:=z.len; omega) X;have w:Aa ((K:Int)-(j:Int))=((K-j:Nat):Int):=(by rw [Aa,Bm] <;> omega);refine ⟨(S,0,((j+1:Nat):Int)),?_,⟨j+1,S,rfl,ω,V.up ω ω λm=>by simp only [sq]; grind⟩,by simp; omega⟩;rw [Aj ω,cond_true,beq_self_eq_true,Ad,cond_true,b1,Ad,w,c1,Ad];dsimp only;rw [hm,Ad];dsimp only;rw [De rfl];simp only [cond_false,Ad];rw [y,Ad,C6 h ω]
   .right;have:j=K+1:=ω;subst this;have A:=Ad1 B (j:=K+1) ω;exact ⟨_,by rw [An ω,cond_false,Ad,cond_false],R,rfl,q.up ω ω λm=>rfl⟩)
  (aP x s (K:Int),0,0) ⟨0,_,rfl,ω,a2.up ω ω λm=>by simp only [sq]; grind⟩;exact ⟨R,e2,e1⟩
theorem A46 {x:Bk} (h:CSz x) (a:Eu) (hE:a.E.Terms.length<=6) (hF:a.F.Terms.length<=6) : ∃R e,T0 x a=some (R,e)/\Wt x a=some (R,e)/\O9 R R=some true:=by
 obtain ⟨k,E,F,K⟩:=a;have hE:E.Terms.length<=6:=hE;have hF:F.Terms.length<=6:=hF;have c:O9 [] []=some true:=Arq [] ψ (λt ht=>by cases ht);obtain ⟨v,v1,v2⟩:=Ajd ⟨k,E,F,K⟩ (by show E.Terms.length+F.Terms.length<=12; omega);obtain ⟨f,f1,f2⟩:=A0y x h [] (λt ht=>by cases ht);obtain ⟨g,g1,g2⟩:=Apr x h [] (λt ht=>by cases ht);have Z:f=g:=by
  cases f <;> cases g
  .rfl
  .exact absurd (f2.2 (g2.1 rfl)) δ
  .exact absurd (g2.2 (f2.1 rfl)) δ
  .rfl
 subst Z;have a7:=h.nv;have tE:=Aro x E ω ω;have tF:=Aro x F ω ω;have uE:=Ash x E ω ω;have uF:=Ash x F ω ω;have y:=Ajh ⟨k,E,F,K⟩ (by show E.Terms.length+F.Terms.length<=12; omega);rw [v1] at y;unfold T0 Wt;rw [v1,y,f1,g1,tE,tF,uE,uF];cases v with
 | false=>exact ⟨[],1,rfl,rfl,c⟩
 | true=>
  cases f with
  | false=>exact ⟨[],1,rfl,rfl,c⟩
  | true=>
   cases hi:Ea x.Vars x.Res E with
   | false=>exact ⟨[],6,rfl,rfl,c⟩
   | true=>
    cases hj:Ea x.Vars x.Res F with
    | false=>exact ⟨[],6,rfl,rfl,c⟩
    | true=>
     obtain ⟨I,G,k0,u,hk⟩:=v2.1 rfl;have k0:0<=K:=k0;have u:K<=6:=u;have j:=(f2.1 rfl).1;rcases hk with ⟨h1,s,q⟩ | ⟨h2,_⟩
     .have h1:k=1:=h1;subst h1;rcases Ajb E F ω with ⟨_,_,L,i,l2,l3⟩ | ⟨_,i⟩
      .have q:Ks E F=some (s,0):=q;rw [q] at i;have i:=Option.some.inj i;unfold Qo at i;by_cases hc:C2 ⟨E.Const+F.Const,L⟩=true
       .rw [if_pos hc] at i;have Y:s=⟨E.Const+F.Const,L⟩:=congrArg Prod.fst i;subst Y;have X:=A4b (vars:=x.Vars) (res:=x.Res) (a:=E) (b:=F) (s:=⟨E.Const+F.Const,L⟩) l2 l3 hi hj;obtain ⟨n,rfl⟩:∃n:Nat,K=(n:Int):=⟨K.toNat,ω⟩;obtain ⟨R,D,B⟩:=A4c h j (K:=n) I G hi hj ω q hc X;obtain ⟨S,s1,s2⟩:=A45 h j (K:=n) I G hi hj ω hc X;have a6:R=S:=B.ext s1 λm=>rfl;subst a6;have z:Rg E F=some (⟨E.Const+F.Const,L⟩,0):=(by rw [Ar3 E F ω]; exact q);obtain ⟨a1,_,_⟩:=aEq h j (l:=⟨E.Const+F.Const,L⟩) (k:=(n:Int)) hc ω ω X;have A:((1:Int)==2)=false:=rfl;refine ⟨R,0,?_,?_,B.alike δ δ⟩
        .simp only [Dk,Ad,cond_false,A,D]
        .simp only [Dk,Ad,cond_false,A,z,a1];refine Dl s2 ?_;dsimp only;rw [A44]; rfl
       .rw [if_neg hc] at i;exact absurd (show (0:Int)=9 from congrArg Prod.snd i) δ
      .have q:Ks E F=some (s,0):=q;rw [q] at i;exact absurd (show (0:Int)=1 from congrArg Prod.snd (Option.some.inj i)) δ
     .have h2:k=2:=h2;subst h2;obtain ⟨p1,U,_⟩:=V7 h j (l:=E) (k:=K) I k0 u hi;obtain ⟨q1,M,_⟩:=V7 h j (l:=F) (k:=K) G k0 u hj;obtain ⟨V,_,_⟩:=aEq h j (l:=E) (k:=K) I k0 u hi;obtain ⟨N,_,_⟩:=aEq h j (l:=F) (k:=K) G k0 u hj;obtain ⟨R,D,B⟩:=Ai9 h j U M δ δ;have J:=Asf h j (U.can δ δ) (M.can δ δ) (by have:=U.len; have:=M.len; omega) D;refine ⟨R,0,?_,?_,B.alike δ δ⟩
      .simp only [Dk,Ad,cond_false,beq_self_eq_true,cond_true];unfold Aa2;simp only [p1,q1,D,Ad,bne_self_eq_false,cond_false]
      .simp only [Dk,Ad,cond_false,beq_self_eq_true,cond_true,V,N,J,A43]
theorem Asi (l:Bb) (h:l.Terms.length<=1048576):T7 l l=some true:=by
 unfold T7;rw [bne_self_eq_false,bne_self_eq_false];simp only [cond_false,Ad];refine Gf l.Terms (λj=>(j:Int)) rfl ω ?_ ?_
 .intro j x hj hx h1 h2 h3;simp only [h1,h2,h3,cond_true,Ad,beq_self_eq_true,Bool.and_true,Dk,cond_false]
 .intro h;exact ⟨.inr (),by simp only [h]; rfl,rfl⟩
theorem A47 (l:Bb) (h:l.Terms.length<=1048576):Wv ⟨0,l,⟨0,[]⟩,0⟩ ⟨0,l,⟨0,[]⟩,0⟩=some true:=by unfold Wv;rw [Asi l h,Asi ⟨0,[]⟩ ψ]; rfl
theorem A48 (a:Eu) (f:a.E.Terms.length+a.F.Terms.length<=12):∃l,T1 a=some l/\Wu a=some l/\l.length<=2/\∀g∈l,g.Terms.length<=1048576:=by
 unfold T1 Wu;rw [Ajh a f,Ar4 _ _ f,Ar6 a.E ω,Ar6 a.F ω];obtain ⟨b,hb,_⟩:=Ajd a f;have k:∃r,L8 a.E a.F=some r/\r.1.Terms.length<=1048576:=by
  rcases Ajc a.E a.F f with ⟨_,_,L,h,_⟩ | ⟨_,h⟩
  .refine ⟨_,h,?_⟩;unfold Qo;split
   .rename_i hk;have:=(Kl hk).1;have e:(⟨a.E.Const-a.F.Const,L⟩:Bb).Terms=L:=rfl;rw [e] at this;show L.length<=1048576;omega
   .show ([]:List A5).length<=1048576;simp
  .exact ⟨_,h,by show ([]:List A5).length<=1048576; simp⟩
 obtain ⟨r,j,i⟩:=k;rw [hb,j];cases b with
 | false=>exact ⟨[],rfl,rfl,ψ,λg c=>by cases c⟩
 | true=>
  simp only [Ad,Dk,cond_false];cases a.Kind==1 with
  | true=>exact ⟨_,rfl,rfl,ψ,λg c=>by
    simp only [List.mem_cons,List.not_mem_nil,or_false] at c
    rcases c with rfl | rfl <;> omega⟩
  | false=>exact ⟨_,rfl,rfl,ψ,λg c=>by
    simp only [List.mem_singleton] at c
    subst c; exact i⟩
theorem A49 (x:Bk) (a:Eu) (u:CSz x) (A:a.E.Terms.length<=1048576) (z:a.F.Terms.length<=1048576):Aaz x a=some true:=by
 unfold Aaz Aa1;rw [A35];have hk:∃d,Ws x=some d:=by unfold Ws;cases decide ((x.Data.length:Int)<=2) <;> exact ⟨_,rfl⟩
 obtain ⟨d,d1⟩:=hk;rw [Ad,Dk,cond_false,d1];cases d with
 | false=>rfl
 | true=>
  by_cases h1:a.E.Terms.length<=4
  .rw [Aj ω,cond_true];by_cases h2:a.F.Terms.length<=4
   .rw [Aj ω];simp only [Ad,Dk,cond_false];obtain ⟨R,e,i,h,f⟩:=A46 u a ω ω;obtain ⟨l,s,q,y,k⟩:=A48 a ω;obtain ⟨v,c,_⟩:=Ajd a ω;have b:=Ajh a ω;rw [c] at b;simp only [i,h,s,q,Ad,bne_self_eq_false,cond_false];refine Gf l (λj=>(j:Int)) rfl ω ?_ ?_
    .intro j g hj hx g1 g2 g3;simp only [g1,g2,g3,cond_true,Ad,A47 g (k g (Cd hx)),Dk,cond_false]
    .intro g1;refine ⟨.inr (),by simp only [g1]; rfl,?_⟩;simp only [c,b,Ad,beq_self_eq_true,cond_true,f]
   .rw [An ω]; rfl
  .rw [An ω]; rfl
end Go.Ab
