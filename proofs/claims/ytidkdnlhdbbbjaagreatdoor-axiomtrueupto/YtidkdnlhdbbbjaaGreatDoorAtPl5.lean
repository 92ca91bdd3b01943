/- Plain laws: what the plain functions answer. -/
import Derived.Test.YtidkdnlhdbbbjaaGreatDoorAtPl4
namespace Go.Ab
open Go
theorem U2 {a:Be} (h:Cz a=true):∀t∈a.Terms,-1048576<=t.Coef/\t.Coef<=1048576:=by
 intro t ht
 obtain ⟨j,hj⟩:=List.getElem?_of_mem ht
 unfold Cz at h
 rw [Cu,List.all_eq_true] at h
 have:=h.2 (t,j) (List.mk_mem_zipIdx_iff_getElem?.2 hj)
 unfold Uk at this
 simp only [Cu,decide_eq_true_eq] at this
 exact ⟨this.1.2.2.2.1,this.1.2.2.2.2⟩
theorem Arl (a b:List Bb) (h:a.length+b.length<=1000000):Vu [a,b]=some (a++b) :=
 Ah3 (B:=16) (by decide) (gr:=Aac) (fun n h=>Ah6 n h) a b h
def H3 (t:Bb):Bb:=⟨t.Var,-t.Coef⟩
theorem Arm (l:List Bb) (v:Int):cl (l.map H3) v = - cl l v:=by
 induction l with
 | nil=>rfl
 | cons t l ih=>
  simp only [List.map_cons,cl,ih,H3]
  split <;> omega
theorem A4r (ts:List Bb) (k:ts.length<=1000) (hb:∀t∈ts,-1048576<=t.Coef/\t.Coef<=1048576):Vv ts (-1)=some (ts.map H3):=by
 unfold Vv
 have f:Rk ts=some ([],ts):=by
  unfold Rk M8
  rw [Dh (by simp; omega)]; rfl
 rw [f,Ad]
 dsimp only
 refine Hn ts.length (fun j=>((j:Int),(ts.take j).map H3++ts.drop j)) (by simp) ?_ ⟨ts.map H3,?_,rfl⟩
 .intro j hj
  have hx:ts[j]? = some ts[j]:=B0 hj
  have g:=List.getElem_mem hj
  generalize ts[j]=t at hx g
  have i:=hb t g
  have e:(ts.take j).map H3++ts.drop j=(ts.take j).map H3++t::ts.drop (j+1):=by rw [Iu hx]
  have b:((ts.take j).map H3).length=j:=by simp; omega
  have hi:Ag ((ts.take j).map H3++ts.drop j) (j:Int)=some t:=by
   refine Bw rfl ?_
   rw [e]
   have:=Ah2 ((ts.take j).map H3) (ts.drop (j+1)) t
   rwa [b] at this
  have hw:Ac (t.Coef * -1) = -t.Coef:=by rw [Ac,Bs] <;> omega
  have c:Ca ((ts.take j).map H3++ts.drop j) (j:Int) (⟨t.Var,-t.Coef⟩:Bb)=(ts.take (j+1)).map H3++ts.drop (j+1):=by
   rw [Ff (n:=j) rfl,e,C5 hx,List.map_append,List.append_assoc]
   have:∀(A R:List Bb) (x y:Bb),(A++x::R).set A.length y=A++y::R:=by
    intro A R x y
    induction A with
    | nil=>rfl
    | cons a A ih=>simp only [List.cons_append,List.length_cons,List.set_cons_succ,ih]
   have h:=this ((ts.take j).map H3) (ts.drop (j+1)) t ⟨t.Var,-t.Coef⟩
   rw [b] at h
   rw [h]; rfl
  simp only [Am (by omega:(j:Int)<((ts.length:Nat):Int)),cond_true,hi,Ad,C8 hj (by omega),hw,c]
 .simp
theorem Aid (a b:Be) (h:a.Terms.length+b.Terms.length<=12) :
  (Cz a=true/\Cz b=true/\∃L,K2 a b=some (R8 (a.Const+b.Const) L)/\Jq L/\∀v,cl L v=cl a.Terms v+cl b.Terms v)\/((Cz a&&Cz b)=false/\K2 a b=some (⟨0,[]⟩,1)):=by
 unfold K2
 rw [L7,L7]
 cases ha:Cz a with
 | false=>exact .inr ⟨rfl,rfl⟩
 | true=>
  cases hb:Cz b with
  | false=>exact .inr ⟨rfl,rfl⟩
  | true=>
   left
   have h1:=Mb ha
   have h2:=Mb hb
   obtain ⟨L,g,f,c⟩:=Ari (a.Const+b.Const) (a.Terms++b.Terms) (by simp; omega) (fun t ht=>by
    rcases List.mem_append.1 ht with ht | ht
    .have:=U2 ha t ht; omega
    .have:=U2 hb t ht; omega)
   refine ⟨rfl,rfl,L,?_,f,fun v=>by rw [c,Pq]⟩
   have w:Ac (a.Const+b.Const)=a.Const+b.Const:=by rw [Ac,Bs] <;> omega
   simp only [Ad,Dt,cond_false,Arl a.Terms b.Terms (by omega),w,g]
theorem Arn (a b:Be) (h:a.Terms.length+b.Terms.length<=12) :
  (Cz a=true/\Cz b=true/\∃L,Lq a b=some (R8 (a.Const-b.Const) L)/\Jq L/\∀v,cl L v=cl a.Terms v-cl b.Terms v)\/((Cz a&&Cz b)=false/\Lq a b=some (⟨0,[]⟩,1)):=by
 unfold Lq
 rw [L7,L7]
 cases ha:Cz a with
 | false=>exact .inr ⟨rfl,rfl⟩
 | true=>
  cases hb:Cz b with
  | false=>exact .inr ⟨rfl,rfl⟩
  | true=>
   left
   have h1:=Mb ha
   have h2:=Mb hb
   obtain ⟨L,g,f,c⟩:=Ari (a.Const-b.Const) (a.Terms++b.Terms.map H3) (by simp; omega) (fun t ht=>by
    rcases List.mem_append.1 ht with ht | ht
    .have:=U2 ha t ht; omega
    .obtain ⟨u,hu,rfl⟩:=List.mem_map.1 ht
     have:=U2 hb u hu
     show _<=-u.Coef/\-u.Coef<=_
     omega)
   refine ⟨rfl,rfl,L,?_,f,fun v=>by rw [c,Pq,Arm]; omega⟩
   have w:Ac (a.Const-b.Const)=a.Const-b.Const:=by rw [Ac,Bs] <;> omega
   simp only [Ad,Dt,cond_false,A4r b.Terms (by omega) (U2 hb),Arl a.Terms (b.Terms.map H3) (by simp; omega),w,g]
theorem A4s (a b:Be) (c:a.Terms.length+b.Terms.length<=12):∃r,K2 a b=some r:=by
 rcases Aid a b c with ⟨_,_,L,h,_⟩ | ⟨_,h⟩ <;> exact ⟨_,h⟩
theorem A4t (a b:Be) (c:a.Terms.length+b.Terms.length<=12):∃r,Lq a b=some r:=by
 rcases Arn a b c with ⟨_,_,L,h,_⟩ | ⟨_,h⟩ <;> exact ⟨_,h⟩
theorem Aie (a:Gn) (j:a.E.Terms.length+a.F.Terms.length<=12):∃b,Lp a=some b/\(b=true↔Cz a.E=true/\Cz a.F=true/\0<=a.K/\a.K<=6/\((a.Kind=1/\∃s,K2 a.E a.F=some (s,0))\/(a.Kind=2/\∃s,Lq a.E a.F=some (s,0)))):=by
 obtain ⟨r,l⟩:=A4s a.E a.F j
 obtain ⟨q,hq⟩:=A4t a.E a.F j
 unfold Lp
 rw [L7,L7,l,hq]
 cases x:Cz a.E with
 | false=>exact ⟨false,rfl,by simp⟩
 | true=>
  cases u:Cz a.F with
  | false=>exact ⟨false,rfl,by simp⟩
  | true=>
   simp only [Ad,Dt,cond_false]
   by_cases h0:0<=a.K
   .rw [Ar (by omega)]
    by_cases k:a.K<=6
    .rw [Ar (by omega)]
     simp only [cond_false,Ad]
     by_cases f:a.Kind=1
     .rw [Dj f,cond_true]
      refine ⟨_,rfl,?_⟩
      constructor
      .intro h
       have h:=of_decide_eq_true (by simpa using h:decide (r.2=0)=true)
       exact ⟨trivial,trivial,h0,k,.inl ⟨f,r.1,by rw [<-h]⟩⟩
      .rintro ⟨_,_,_,_,⟨_,s,i⟩ | ⟨c,_⟩⟩
       .cases i; rfl
       .omega
     .rw [Cp f,cond_false]
      by_cases c:a.Kind=2
      .rw [Dj c,cond_true]
       refine ⟨_,rfl,?_⟩
       constructor
       .intro h
        have h:=of_decide_eq_true (by simpa using h:decide (q.2=0)=true)
        exact ⟨trivial,trivial,h0,k,.inr ⟨c,q.1,by rw [<-h]⟩⟩
       .rintro ⟨_,_,_,_,⟨g,_⟩ | ⟨_,s,i⟩⟩
        .exact (f g).elim
        .cases i; rfl
      .rw [Cp c,cond_false]
       exact ⟨false,rfl,by simp [f,c]⟩
    .rw [Am (by omega)]
     exact ⟨false,rfl,by simp; omega⟩
   .rw [Am (by omega)]
    exact ⟨false,rfl,by simp; omega⟩
noncomputable def Kt (x:Bo) (v f:Bool) (E F:Be):Int:=bif !(v&&f) then 1 else bif !(Dm x.Vars x.Res E&&Dm x.Vars x.Res F) then 6 else 0
theorem A4u {x:Bo} (b:CSz x) (E F:Be) (K:Int) (S:E.Terms.length<=6) (N:F.Terms.length<=6) :
  ∃R v f,Od x ⟨2,E,F,K⟩=some (R,Kt x v f E F)/\Lp ⟨2,E,F,K⟩=some v/\Oe x []=some f/\(Kt x v f E F≠0->R = []) /\
   (Kt x v f E F=0->D9 x/\∃B C,IsE [⟨E,K⟩] B/\IsE [⟨F,K⟩] C/\IP x 128 200001 (fun m=>(ec B m:Rat)-(ec C m:Rat)) R):=by
 obtain ⟨v,i,v2⟩:=Aie ⟨2,E,F,K⟩ (by show E.Terms.length+F.Terms.length<=12; omega)
 obtain ⟨f,f1,f2⟩:=Agw x b [] (fun t ht=>by cases ht)
 have M:=b.nv
 have q:=Ac8 x E (by omega) (by omega)
 have j:=Ac8 x F (by omega) (by omega)
 unfold Od
 rw [i,f1,q,j]
 unfold Kt
 cases v with
 | false=>exact ⟨[],false,f,rfl,rfl,rfl,fun _=>rfl,fun h=>absurd (show (1:Int)=0 from h) (by decide)⟩
 | true=>
  cases f with
  | false=>exact ⟨[],true,false,rfl,rfl,rfl,fun _=>rfl,fun h=>absurd (show (1:Int)=0 from h) (by decide)⟩
  | true=>
   cases hi:Dm x.Vars x.Res E with
   | false=>exact ⟨[],true,true,rfl,rfl,rfl,fun _=>rfl,fun h=>absurd (show (6:Int)=0 from h) (by decide)⟩
   | true=>
    cases hj:Dm x.Vars x.Res F with
    | false=>exact ⟨[],true,true,rfl,rfl,rfl,fun _=>rfl,fun h=>absurd (show (6:Int)=0 from h) (by decide)⟩
    | true=>
     obtain ⟨L,J,k0,g,_⟩:=v2.1 rfl
     have c:=(f2.1 rfl).1
     obtain ⟨P,B,I,G,D⟩:=Ark b c (l:=E) (k:=K) L k0 g hi
     obtain ⟨Q,C,A,z,y⟩:=Ark b c (l:=F) (k:=K) J k0 g hj
     obtain ⟨R,u,s⟩:=Arh b c D y (by decide) (by decide)
     refine ⟨R,true,true,?_,rfl,rfl,fun h=>absurd rfl h,fun _=>⟨c,B,C,G,z,s⟩⟩
     simp only [Dt,Ad,cond_false,Bool.and_self,beq_self_eq_true,cond_true]
     unfold Z7
     simp only [I,A,u,Ad,bne_self_eq_false,cond_false]
end Go.Ab
namespace Go.Ab
open Go
theorem A4v:Z5=some true:=by kernel_rfl
end Go.Ab
namespace Go.Ab
open Go
theorem A4w {x:Bo} {P:A8->Prop} (g:∀m,P m->G2 x m) {k:Nat} {ts:List Aj} (h:Col k P ts) (hk:k<34359738000) (s:ts.length<=1000) (hi:∀m,∃z:Int,cf ts m=(z:Rat)):∃R,Ka (plc ts) ts=some (R,0)/\IP x ts.length (k+2) (cf ts) R/\∀t∈R,P t.Mono:=by
 obtain ⟨R,l,c,f,b,j⟩:=Ahi (P:=P) (fun m h=>(g m h).cmo) (plc ts) ts h (by omega) s (fun i _ h2 h3=>Ahp i h2 h3)
 refine ⟨R,l,⟨c,f,fun t ht=>g _ (b t ht).1,j,fun t ht=>?_⟩,fun t ht=>(b t ht).1⟩
 obtain ⟨z,q⟩:=hi t.Mono
 have e:rq t.Coef=(z:Rat):=by rw [<-Acg c ht,f,q]
 exact ⟨z,e,Arf (c.coe t ht).1 e (b t ht).2⟩
def NoF (x:Bo) (D:Nat) (m:A8):Prop:=G2 x m/\m.Factors = []/\Cv m.Atoms<=(D:Nat)
theorem NoF.mono {x:Bo} {D D':Nat} {m:A8} (h:NoF x D m) (hd:D<=D'):NoF x D' m:=⟨h.1,h.2.1,by have:=h.2.2; omega⟩
theorem IsE.noF {x:Bo} {A:List Ba} {B:List Ds} (h:IsE A B) (f:Atk A) (hi:∀a∈A,Dm x.Vars x.Res a.Lin=true) (i:Cx A<=6):∀b∈B,NoF x (Cx A) ⟨[],b.1⟩:=by
 intro b hb
 refine ⟨h.good f hi i b hb,rfl,?_⟩
 obtain ⟨gs,k,c,j,g,rfl⟩:=h
 obtain ⟨h1,h2⟩:=Ard (vars:=x.Vars) (res:=x.Res) g (fun a ha=>⟨f.lin a (c.mem_iff.1 ha),hi a (c.mem_iff.1 ha)⟩) [([],1)] 0 (fun b hb=>by
  simp only [List.mem_singleton] at hb
  subst hb
  exact ⟨⟨List.Pairwise.nil,fun _ h=>by cases h⟩,by simp [Cv],fun _ h=>by cases h⟩) b hb
 rw [Yh c] at h2
 show Cv b.1<=_
 omega
theorem A4x {x:Bo} {A:List Ba} (E:Atk A) (D:Cx A<=6) (hi:∀a∈A,Dm x.Vars x.Res a.Lin=true) (b1:List (ByteArray×Int)) (b2:List (ByteArray×List Dl)) (y u:Int) (s:List Ah) :
  ∃R B,Qm ⟨[],A⟩ b1 b2 x.Data x.Vars y u s=some (R,0)/\IsE A B/\IP x B.length (2429+B.length*2430) (fun m=>(ec B m:Rat)) R/\∀t∈R,NoF x (Cx A) t.Mono:=by
 have f:rq (cR 1)=1:=by rw [Pm]; rfl
 obtain ⟨out,B,V,G,j,U⟩:=Ac5 (c:=cR 1) (K:=3) (A:=A) ((Kn (k:=1) (by rw [L1]; decide) (by decide)).mono (by decide)) (by decide) (by rw [f]; decide) E b1 b2 x.Data x.Vars y u s
 have N:out.length<=64:=Nat.le_trans U (Nat.le_trans (Nat.pow_le_pow_right (by decide) D) (by decide))
 have S:=G.noF E hi D
 obtain ⟨v,J,v2,v3,v4⟩:=X6 (k0:=2427) (k:=2427) (P:=NoF x (Cx A)) (fun m h=>h.1.cmo) out [] (Col.nil _ _) (fun t ht=>by
  obtain ⟨b,hb,q,_,l⟩:=j.mem ht
  exact ⟨l,by rw [q]; exact S b hb⟩) (Nat.le_refl _) (by omega) (by simp; omega)
 simp at v3
 have i:∀m,cf v m=1*(ec B m:Rat):=fun m=>by rw [v4,j.cf,f]; simp only [cf]; grind
 obtain ⟨R,M,g,L⟩:=A4w (x:=x) (P:=NoF x (Cx A)) (fun m h=>h.1) v2 (by omega) (by omega) (fun m=>by rw [i]; exact Arj)
 refine ⟨R,B,?_,G,⟨g.cp,fun m=>by rw [g.val,i]; grind,g.mo,by have:=g.len; have:=j.len; omega,fun t ht=>by
  obtain ⟨z,I,z2⟩:=g.int t ht
  exact ⟨z,I,by rw [<-j.len]; omega⟩⟩,L⟩
 unfold Qm
 rw [Pk,Ad,V,Ad]
 simp only [bne_self_eq_false,cond_false,J9,Ad]
 rw [show Jv out [] []=some (plc v,v) from J,Ad,M]; rfl
theorem Gs.nil_of {c:List Grp} {A:List Ba} (h:Gs c A):A = []->c = []:=by
 cases h with
 | nil=>exact fun _=>rfl
 | cons b _ _ _ _=>exact fun e=>absurd (List.append_eq_nil_iff.1 e).1 b
theorem IsE.one {a:Ba} {B:List Ds} (h:IsE [a] B):B.length<=1:=by
 obtain ⟨gs,G,x,I,q,rfl⟩:=h
 have E:G = [a]:=List.perm_singleton.1 x
 rw [E] at q
 generalize c:[a]=X at q
 cases q with
 | nil=>cases c
 | @cons l N f g rest gs s M J z D=>
  have L:g.length+rest.length=1:=by
   have:=congrArg List.length c
   simpa using this.symm
  have y:g.length=1:=by
   have:=List.length_pos_iff.2 s
   have:rest.length≠1\/g.length=0:=by omega
   omega
  have b:rest = []:=List.length_eq_zero_iff.1 (by omega)
  subst b
  rw [List.append_nil] at c
  subst c
  have u:=D.nil_of rfl
  subst u
  .show (Fs [([],1)] l f (N+1)).length<=1
   have key:∀n,(∀i j,i<n->j<n->f i≠0->f j≠0->i=j)->(Fs [(([],1):Ds)] l f n).length<=1/\((Fs [(([],1):Ds)] l f n).length=1->∃i,i<n/\f i≠0):=by
    intro n
    induction n with
    | zero=>intro _; simp [Fs]
    | succ n ih=>
     intro h
     obtain ⟨i1,i2⟩:=ih fun i j hi hj=>h i j (by omega) (by omega)
     rw [Po,List.length_append]
     by_cases h0:f n=0
     .rw [if_pos h0]
      refine ⟨by simpa using i1,fun e=>?_⟩
      obtain ⟨i,a1,a2⟩:=i2 (by simpa using e)
      exact ⟨i,by omega,a2⟩
     .rw [if_neg h0]
      have:(Fs [(([],1):Ds)] l f n).length≠1:=fun e=>by
       obtain ⟨i,a1,a2⟩:=i2 e
       have:=h i n (by omega) (by omega) a2 h0
       omega
      refine ⟨by simp only [List.length_map,List.length_singleton]; omega,fun _=>⟨n,by omega,h0⟩⟩
   refine (key (N+1) ?_).1
   rcases z with ⟨_,h2⟩ | ⟨_,h2,_⟩
   .have e:∀k,k<N+1->f k=if k=N then 1 else 0:=by
     refine Aqz fun n _=>?_
     rw [h2.2.2 n]
     have A:N=a.Deg.toNat:=by have:=h2.1; simpa [Cx] using this
     rw [Acz (k:=N) (by omega) (fun j hj=>by simp [hj])]
     simp [prb,A]
    intro i j hi hj h1 h2
    rw [e i hi] at h1
    rw [e j hj] at h2
    split at h1
    .split at h2
     .omega
     .exact (h2 rfl).elim
    .exact (h1 rfl).elim
   .intro i j hi hj _ _
    omega
theorem Aro {x:Bo} (q:CSz x) (s:D9 x) {l:Be} {k:Int} (f:Cz l=true) (h0:0<=k) (u:k<=6) (hi:Dm x.Vars x.Res l=true) :
  ∃R B,Kc x l k=some (R,0)/\IsE [⟨l,k⟩] B/\IP x 1 4900 (fun m=>(ec B m:Rat)) R/\∀t∈R,NoF x k.toNat t.Mono:=by
 obtain ⟨g,hb,_⟩:=Ahq q (ps:=[]) (fun p hp=>by cases hp) (by simp) ⟨s,fun p hp=>by cases hp⟩
 obtain ⟨a1,a2⟩:=Aic f h0 u
 obtain ⟨R,B,j,c,b,i⟩:=A4x (x:=x) a1 a2 (fun a ha=>by simp only [List.mem_singleton] at ha; subst ha; exact hi) g [] x.Res.Kind x.Res.Num x.Res.Args
 refine ⟨R,B,?_,c,⟨b.cp,b.val,b.mo,Nat.le_trans b.len c.one,fun t ht=>by
  obtain ⟨z,h,z2⟩:=b.int t ht
  have:=c.one
  exact ⟨z,h,by omega⟩⟩,fun t ht=>(i t ht).mono (by simp [Cx])⟩
 unfold Kc
 rw [hb]
 simp only [Ad,Dt,cond_false,L7,f,Ar (by omega:¬k<0),Ar (by omega:¬k>6)]
 rw [Agu g [] x.Data x.Vars x.Res l (by have:=(Mb f).1; omega),Ad,hi]
 simp only [Dt,cond_false,j,Ad]
end Go.Ab
namespace Go.Ab
open Go
theorem Aif {l:List Ba} (h:∀a∈l,1<=a.Deg):0<=Cv l:=by
 induction l with
 | nil=>simp [Cv]
 | cons a l ih=>
  have h1:=h a (by simp)
  have h2:=ih fun b hb=>h b (by simp [hb])
  unfold Cv at *
  simp only [List.map_cons,List.sum_cons]; omega
theorem Arp {l:List Ba} (h:∀a∈l,1<=a.Deg) (j:Nat):0<=Cv (l.take j)/\Cv (l.take j)<=Cv l:=by
 refine ⟨Aif fun a ha=>h a (List.mem_of_mem_take ha),?_⟩
 have e:=Ac6 (l.take j) (l.drop j)
 rw [List.take_append_drop] at e
 have:=Aif (l:=l.drop j) fun a ha=>h a (List.mem_of_mem_drop ha)
 omega
theorem A4y {x:Bo} {D:Nat} {m:A8} (h:NoF x D m) (s:D<=6) (b1:List (ByteArray×Int)) (b2:List (ByteArray×List Dl)) (data:List Ap) (vars:List Ah) (l k:Int) (i:List Ah) :
  Oq m b1 b2 data vars l k i=some (Cv m.Atoms,b1):=by
 obtain ⟨h1,h2,h3⟩:=h
 have f:=h1.cmo
 have hd:∀a∈m.Atoms,1<=a.Deg:=fun a ha=>(f.al a ha).2.2.1
 have q:=f.na
 unfold Oq
 rw [h2]
 refine bnd (a:=(0,b1)) (Ee (by simp)) ?_
 dsimp only
 refine Hn m.Atoms.length (fun j=>(Cv (m.Atoms.take j),(j:Int))) (by simp [Cv]) ?_ ⟨Cv m.Atoms,?_,rfl⟩
 .intro j hj
  have hx:m.Atoms[j]? = some m.Atoms[j]:=B0 hj
  have b:=List.getElem_mem hj
  generalize m.Atoms[j]=a at hx b
  have ha:=f.al a b
  have ht:=Arp hd j
  have c:=Arp hd (j+1)
  rw [C5 hx,Ac6] at c
  have g:Cv [a]=a.Deg:=by simp [Cv]
  rw [g] at c
  have e:(if (7:Int)<a.Deg then 7 else a.Deg)=a.Deg:=if_neg (by omega)
  have w:Ac (Cv (m.Atoms.take j)+a.Deg)=Cv (m.Atoms.take j)+a.Deg:=by rw [Ac,Bs] <;> omega
  simp only [Am (by omega:(j:Int)<(m.Atoms.length:Int)),cond_true,Bw rfl hx,Ad,Am (by omega:Cv (m.Atoms.take j)<=6),e,w,C8 hj (by omega),C5 hx,Ac6,g]
 .simp only [Ar (by omega:¬(m.Atoms.length:Int)<(m.Atoms.length:Int)),cond_false,List.take_length]
theorem Arq {x:Bo} {D:Nat} {t:Aj} (h:NoF x D t.Mono) (l:D<=6) (b1:List (ByteArray×Int)) (b2:List (ByteArray×List Dl)) (data:List Ap) (vars:List Ah) (i g:Int) (f:List Ah) :
  ∃G,Tk [t] b1 b2 data vars i g f=some (G,b1)/\0<=G/\G<=(D:Int):=by
 have hd:∀a∈t.Mono.Atoms,1<=a.Deg:=fun a ha=>(h.1.cmo.al a ha).2.2.1
 have h0:=Aif hd
 have c:=h.2.2
 refine ⟨Cv t.Mono.Atoms,?_,h0,c⟩
 unfold Tk
 have i0:Ag [t] 0=some t:=rfl
 have k:Ac (0+1)=1:=by rw [Ac,Bs] <;> omega
 refine Hn 1 (fun j=>if j=0 then (0,0,b1) else (Cv t.Mono.Atoms,1,b1)) rfl ?_ ⟨(Cv t.Mono.Atoms,b1),?_,rfl⟩
 .intro j hj
  have:j=0:=by omega
  subst this
  have e:(if Cv t.Mono.Atoms>0 then Cv t.Mono.Atoms else 0)=Cv t.Mono.Atoms:=by split <;> omega
  have b:=A4y h l b1 b2 data vars i g f
  simp only [if_true,List.length_singleton,i0,Ad,b,e,k]
  rfl
 .rfl
noncomputable def eB (A:List Ba):List Ds:=open Classical in if h:∃B,IsE A B then Classical.choose h else []
theorem Ac9 {A:List Ba} {B:List Ds} (h:IsE A B):eB A=B:=by
 unfold eB
 rw [dif_pos ⟨B,h⟩]
 exact (Classical.choose_spec (⟨B,h⟩:∃B,IsE A B)).det h (List.Perm.refl _)
noncomputable def R9:List Aj->List Aj->A8->Rat
 | t::_,u::_,m=>rq t.Coef*rq u.Coef*(ec (eB (t.Mono.Atoms++u.Mono.Atoms)) m:Rat)
 | _,_,_=>0
theorem Ada {x:Bo} {D:Nat} {m:A8} (h:NoF x D m) (g:D<=6):Atk m.Atoms/\Cx m.Atoms<=D/\(∀a∈m.Atoms,Dm x.Vars x.Res a.Lin=true)/\m.Atoms.length<=D:=by
 have c:=h.1.cmo
 have hd:∀l:List Ba,(∀a∈l,1<=a.Deg)->(Cx l:Int)=Cv l/\(l.length:Int)<=Cv l:=by
  intro l
  induction l with
  | nil=>intro _; simp [Cx,Cv]
  | cons a l ih=>
   intro h
   have h1:=h a (by simp)
   obtain ⟨h2,h3⟩:=ih fun b hb=>h b (by simp [hb])
   unfold Cv at *
   simp only [Cx,List.map_cons,List.sum_cons,List.length_cons]; omega
 have f:=hd m.Atoms fun a ha=>(c.al a ha).2.2.1
 have h3:=h.2.2
 refine ⟨⟨fun a ha=>by have:=(c.al a ha).2.2.1; omega,fun a ha=>(c.al a ha).1,by omega,by omega⟩,by omega,fun a ha=>?_,by omega⟩
 have hc:=h.1.1
 unfold Iw at hc
 simp only [Cu,List.all_eq_true] at hc
 obtain ⟨j,hj⟩:=List.getElem?_of_mem ha
 have:=hc.1.2 (a,j) (List.mk_mem_zipIdx_iff_getElem?.2 hj)
 unfold Lb at this
 simp only [Cu] at this
 exact this.1.2
end Go.Ab
namespace Go.Ab
open Go
theorem Adb {α:Type} {l:List α} (h:l.length<=1):l = []\/∃a,l = [a]:=by
 cases l with
 | nil=>exact .inl rfl
 | cons a l=>
  cases l with
  | nil=>exact .inr ⟨a,rfl⟩
  | cons b l=>simp at h
theorem Arr (x:Bo) (n L:Nat) (f:A8->Rat) (b:∀m,f m=0):IP x n L f [] :=
 ⟨CP.nil,fun m=>(b m).symm,fun _ h=>(by cases h),by simp,fun _ h=>(by cases h)⟩
theorem A4z {x:Bo} (hz:CSz x) (hf:D9 x) {D D':Nat} (hD:D+D'<=6) {f g:A8->Rat} {p q:List Aj} (hp:IP x 1 4900 f p) (hq:IP x 1 4900 g q) (np:∀t∈p,NoF x D t.Mono) (nq:∀t∈q,NoF x D' t.Mono) :
  ∃R,Qo x p q=some (R,0)/\IP x 64 900000 (R9 p q) R:=by
 obtain ⟨X,hb⟩:=Ap7 hz hf (hp.can (by decide) (by decide)) (hq.can (by decide) (by decide))
 have l:Ka [] []=some ([],0):=by
  obtain ⟨R,s,j⟩:=Aib (x:=x) (k:=0) (Col.nil 0 _) (by decide) (by simp) (fun m=>⟨0,rfl⟩)
  have:R = []:=List.length_eq_zero_iff.1 (by have:=j.len; simpa using this)
  rw [this] at s
  exact s
 have A:Ac (0+1)=1:=by rw [Ac,Bs] <;> omega
 rcases Adb hp.len with rfl | ⟨t,rfl⟩
 .refine ⟨[],?_,Arr x _ _ _ fun m=>by cases q <;> rfl⟩
  unfold Qo
  rw [hb]
  simp only [Ad,Dt,cond_false,List.length_nil,J9]
  rw [Ar (by decide),cond_false]
  simp only [Ad,cond_false]
  refine bnd (a:=.inr ([],[])) (Ee (by rfl)) ?_
  simp only [l,Ad]
 .have ht:=np t (by simp)
  have J:=Arq ht (by omega) X [] x.Data x.Vars x.Res.Kind x.Res.Num x.Res.Args
  obtain ⟨G,g1,g2,g3⟩:=J
  have it:Ag [t] 0=some t:=rfl
  rcases Adb hq.len with rfl | ⟨u,rfl⟩
  .refine ⟨[],?_,Arr x _ _ _ fun m=>rfl⟩
   unfold Qo
   rw [hb]
   simp only [Ad,Dt,cond_false,List.length_nil,List.length_singleton,J9]
   rw [Am (by decide),Ar (by decide),cond_true,cond_false]
   simp only [Ad,cond_false]
   refine bnd (a:=.inr ([],[])) ?_ (by simp only [l,Ad])
   refine (Je (s':=(1,[],[])) ?_).trans (Ee ?_)
   .simp only [it,Ad]
    rw [Am (by decide),cond_true]
    refine bnd (a:=.inr (0,[],[])) (Ee (by rfl)) ?_
    simp only [A]
   .rfl
  .have hu:=nq u (by simp)
   obtain ⟨G',U,a8,a7⟩:=Arq hu (by omega) X [] x.Data x.Vars x.Res.Kind x.Res.Num x.Res.Args
   have iu:Ag [u] 0=some u:=rfl
   obtain ⟨a1,a2,a3,a4⟩:=Ada ht (by omega)
   obtain ⟨c1,c2,c3,c4⟩:=Ada hu (by omega)
   obtain ⟨y,Z,y2⟩:=hp.int t (by simp)
   obtain ⟨z,Y,z2⟩:=hq.int u (by simp)
   have I:=Ah9 (hp.cp.coe t (by simp)).1 Z y2
   have E:=Ah9 (hq.cp.coe u (by simp)).1 Y z2
   obtain ⟨c,m1,m2,m3,m4⟩:=Pi I E (by decide) (by decide)
   have hA:Atk (t.Mono.Atoms++u.Mono.Atoms):=⟨fun a ha=>by
    rcases List.mem_append.1 ha with h | h
    .exact a1.deg a h
    .exact c1.deg a h,fun a ha=>by
    rcases List.mem_append.1 ha with h | h
    .exact a1.lin a h
    .exact c1.lin a h,by rw [M2]; omega,by rw [List.length_append]; omega⟩
   have hs:Cx (t.Mono.Atoms++u.Mono.Atoms)<=6:=by rw [M2]; omega
   have hi:∀a∈t.Mono.Atoms++u.Mono.Atoms,Dm x.Vars x.Res a.Lin=true:=fun a ha=>by
    rcases List.mem_append.1 ha with h | h
    .exact a3 a h
    .exact c3 a h
   have M:rq c≠0:=by
    rw [m4]
    exact fun h=>by
     rcases Rat.mul_eq_zero.1 h with h | h
     .exact (hp.cp.coe t (by simp)).2 h
     .exact (hq.cp.coe u (by simp)).2 h
   obtain ⟨out,B,e1,e2,V,e4⟩:=Ac5 (c:=c) (K:=9804) (m2.mono (by decide)) (by decide) M hA X [] x.Data x.Vars x.Res.Kind x.Res.Num x.Res.Args
   have a6:out.length<=64:=Nat.le_trans e4 (Nat.le_trans (Nat.pow_le_pow_right (by decide) hs) (by decide))
   have hm:=e2.good (x:=x) hA hi hs
   obtain ⟨v,v1,v2,v3,v4⟩:=X6 (k0:=12228) (k:=12228) (P:=G2 x) (fun m h=>h.cmo) out [] (Col.nil _ _) (fun w hw=>by
    obtain ⟨b,hb,S,_,N⟩:=V.mem hw
    exact ⟨N,by rw [S]; exact hm b hb⟩) (Nat.le_refl _) (by omega) (by simp; omega)
   simp at v3
   have L:∀m,cf v m=R9 [t] [u] m:=fun m=>by
    rw [v4,V.cf,m4]
    show cf [] m+_=rq t.Coef*rq u.Coef*(ec (eB (t.Mono.Atoms++u.Mono.Atoms)) m:Rat)
    rw [Ac9 e2]
    simp only [cf]; grind
   obtain ⟨R,s,j⟩:=Aib (x:=x) v2 (by omega) (by omega) (fun m=>by
    rw [v4,V.cf,m4,Z,Y]
    exact ⟨y*z*(ec B m:Int),by rw [Rat.intCast_mul,Rat.intCast_mul,Rat.intCast_natCast]; simp only [cf]; grind⟩)
   refine ⟨R,?_,⟨j.cp,fun m=>by rw [j.val,L],j.mo,by have:=j.len; omega,fun w hw=>by
    obtain ⟨i,i1,i2⟩:=j.int w hw
    exact ⟨i,i1,by omega⟩⟩⟩
   have hj:Ol t.Mono u.Mono=some ⟨[],t.Mono.Atoms++u.Mono.Atoms⟩:=by
    rw [Aq9 _ _ (by rw [ht.2.1,hu.2.1]; simp) (by omega),ht.2.1,hu.2.1]; rfl
   have wG:Ac (G+G')=G+G':=by rw [Ac,Bs] <;> omega
   unfold Qo
   rw [hb]
   simp only [Ad,Dt,cond_false,List.length_singleton,J9]
   rw [Am (by decide),cond_true,cond_true,g1,Ad,U,Ad,wG,Ar (by omega)]
   simp only [Ad,cond_false]
   refine bnd (a:=.inr (plc v,v)) ?_ (by simp only [s,Ad])
   refine (Je (s':=(1,plc v,v)) ?_).trans (Ee ?_)
   .simp only [it,Ad]
    rw [Am (by decide),cond_true]
    refine bnd (a:=.inr (1,plc v,v)) ?_ (by simp only [A])
    refine (Je (s':=(1,plc v,v)) ?_).trans (Ee ?_)
    .simp only [iu,Ad,m1,hj,e1]
     rw [Am (by decide),cond_true]
     simp only [bne_self_eq_false,cond_false]
     rw [show Jv out [] []=some (plc v,v) from v1]
     simp only [Ad,A]
    .rfl
   .rfl
end Go.Ab
namespace Go.Ab
open Go
def sq:Nat->(Nat->Rat)->Rat
 | 0,_=>0
 | n+1,f=>sq n f+f n
theorem IP.up {x:Bo} {n b L L':Nat} {f g:A8->Rat} {R:List Aj} (h:IP x n L f R) (i:n<=b) (j:L<=L') (e:∀m,f m=g m):IP x b L' g R :=
 ⟨h.cp,fun m=>by rw [h.val,e],h.mo,Nat.le_trans h.len i,fun t ht=>by
  obtain ⟨z,c,z2⟩:=h.int t ht
  exact ⟨z,c,by omega⟩⟩
noncomputable def aP (x:Bo) (l:Be) (k:Int):List Aj:=match Kc x l k with | some r=>r.1 | none=>[]
theorem Ym {x:Bo} (h:CSz x) (j:D9 x) {l:Be} {k:Int} (i:Cz l=true) (h0:0<=k) (q:k<=6) (hi:Dm x.Vars x.Res l=true) :
  Kc x l k=some (aP x l k,0)/\IP x 1 4900 (fun m=>(ec (eB [⟨l,k⟩]) m:Rat)) (aP x l k)/\∀t∈aP x l k,NoF x k.toNat t.Mono:=by
 obtain ⟨R,B,b,g,f,c⟩:=Aro h j i h0 q hi
 have e:aP x l k=R:=by unfold aP; rw [b]
 rw [e,Ac9 g]
 exact ⟨b,f,c⟩
noncomputable def shF (x:Bo) (E F s:Be) (K:Nat) (m:A8):Rat:=(ec (eB [⟨s,(K:Int)⟩]) m:Rat)-sq (K+1) fun j=>R9 (aP x E (j:Int)) (aP x F ((K-j:Nat):Int)) m
theorem A40 {x:Bo} (b:CSz x) (c:D9 x) {E F:Be} {K j:Nat} (s:Cz E=true) (q:Cz F=true) (i:Dm x.Vars x.Res E=true) (h:Dm x.Vars x.Res F=true) (y:K<=6) (hj:j<=K) :
  ∃R,S5 x ⟨1,E,F,(K:Int)⟩ (j:Int)=some (R,0)/\IP x 64 900000 (R9 (aP x E (j:Int)) (aP x F ((K-j:Nat):Int))) R:=by
 obtain ⟨a1,a2,a3⟩:=Ym b c (l:=E) (k:=(j:Int)) s (by omega) (by omega) i
 obtain ⟨b1,b2,u⟩:=Ym b c (l:=F) (k:=((K-j:Nat):Int)) q (by omega) (by omega) h
 obtain ⟨R,g,f⟩:=A4z b c (D:=j) (D':=K-j) (by omega) a2 b2 (fun t ht=>(a3 t ht).mono (by omega)) (fun t ht=>(u t ht).mono (by omega))
 refine ⟨R,?_,f⟩
 have w:Ac ((K:Int)-(j:Int))=((K-j:Nat):Int):=by rw [Ac,Bs] <;> omega
 unfold S5
 simp only [a1,Ad,bne_self_eq_false,cond_false,w,b1,g]
theorem Ars {l:List Bb} {v:Int} (h:cl l v≠0):∃t∈l,t.Var=v:=by
 rcases Classical.em (∃t∈l,t.Var=v) with h' | h'
 .exact h'
 .exact (h (Ps fun t ht e=>h' ⟨t,ht,e⟩)).elim
theorem Jq.cl {L:List Bb} (h:Jq L) {t:Bb} (ht:t∈L):Ab.cl L t.Var=t.Coef:=by
 induction L with
 | nil=>cases ht
 | cons s L ih=>
  simp only [Ab.cl]
  rcases List.mem_cons.1 ht with rfl | ht'
  .rw [if_pos rfl,Ps fun u hu=>by have:=(List.pairwise_cons.1 h.srt).1 u hu; omega]; omega
  .have:=(List.pairwise_cons.1 h.srt).1 t ht'
   rw [if_neg (by omega),ih ⟨(List.pairwise_cons.1 h.srt).2,fun u hu=>h.nz u (by simp [hu])⟩ ht']; omega
theorem A41 {vars:List Ah} {res:Ah} {a b s:Be} (c:Jq s.Terms) (h:∀v,cl s.Terms v=cl a.Terms v+cl b.Terms v) (ha:Dm vars res a=true) (hb:Dm vars res b=true):Dm vars res s=true:=by
 unfold Dm at *
 rw [List.all_eq_true] at *
 intro t ht
 have h1:=c.cl ht
 rw [h] at h1
 have h2:=c.nz t ht
 have key:∀u:Bb,u.Var=t.Var->Jn vars res u=true->Jn vars res t=true:=fun u e hu=>by unfold Jn at *; rw [<-e]; exact hu
 by_cases h3:cl a.Terms t.Var=0
 .obtain ⟨u,hu,e⟩:=Ars (l:=b.Terms) (v:=t.Var) (by omega)
  exact key u e (hb u hu)
 .obtain ⟨u,hu,e⟩:=Ars h3
  exact key u e (ha u hu)
theorem A42 {x:Bo} (y:CSz x) (A:D9 x) {E F s:Be} {K:Nat} (hE:Cz E=true) (Z:Cz F=true) (V:Dm x.Vars x.Res E=true) (U:Dm x.Vars x.Res F=true) (Y:K<=6) (X:K2 E F=some (s,0)) (ls:Cz s=true) (N:Dm x.Vars x.Res s=true) :
  ∃R,Vp x ⟨1,E,F,(K:Int)⟩=some (R,0)/\IP x 500 900010 (shF x E F s K) R:=by
 obtain ⟨a1,a2,a3⟩:=Ym y A (l:=s) (k:=(K:Int)) ls (by omega) (by omega) N
 unfold Vp
 simp only [X,Ad,bne_self_eq_false,cond_false,a1]
 obtain ⟨r,I,G⟩:=Ef (J:=fun (z:Int×List Aj)=>match z with | (g,q)=>bif (g != (0:Int)) then some (([]:List Aj),g) else some (q,0)) (Q:=fun r=>∃R,r=(R,(0:Int))/\IP x 500 900010 (shF x E F s K) R)
  (step:=fun (z:Int×List Aj×Int)=>match z with
   | (v9,c,v11)=>
    (show Option Bool from
    bif (decide (v11<=(K:Int))) then (
    some (v9==(0:Int))
    )
    else (
    some false
    )
    ).bind fun v12=>
    bif v12 then (
    (S5 x ⟨1,E,F,(K:Int)⟩ v11).bind fun b=>
    bif (b.2==(0:Int)) then (
    (Og x c b.1).bind fun i=>
    some (.inl (i.2,i.1,(Ac (v11+1))))
    )
    else (
    some (.inl (b.2,c,(Ac (v11+1))))
    )
    )
    else (
    some (.inr (v9,c))
    )) (s:=(0,aP x s (K:Int),0))
  (fun u=>∃(j:Nat) (R:List Aj),u=(0,R,(j:Int))/\j<=K+1/\IP x (1+64*j) (900000+j) (fun m=>(ec (eB [⟨s,(K:Int)⟩]) m:Rat)-sq j fun j=>R9 (aP x E (j:Int)) (aP x F ((K-j:Nat):Int)) m) R) (fun u=>K+1-u.2.2.toNat)
  (fun e=>∃R,e=(0,R)/\IP x 500 900010 (shF x E F s K) R)
  ⟨0,_,rfl,by omega,a2.up (by omega) (by omega) fun m=>by simp only [sq]; grind⟩ (by
  rintro _ ⟨j,R,rfl,hj,f⟩
  rcases Nat.lt_or_ge j (K+1) with h | h
  .left
   obtain ⟨P,M,L⟩:=A40 y A hE Z V U Y (by omega:j<=K)
   obtain ⟨S,D,B⟩:=Arh y A f (L.up (L':=900000+j) (Nat.le_refl _) (by omega) fun _=>rfl) (by omega) (by omega)
   refine ⟨(0,S,((j+1:Nat):Int)),?_,⟨j+1,S,rfl,by omega,B.up (by omega) (by omega) fun m=>by simp only [sq]; grind⟩,by simp; omega⟩
   simp only [Am (by omega:(j:Int)<=(K:Int)),cond_true,beq_self_eq_true,Ad,M,D,C8 h (by omega)]
  .right
   have:j=K+1:=by omega
   subst this
   refine ⟨(0,R),by simp only [Ar (by omega:¬((K+1:Nat):Int)<=(K:Int)),cond_false,Ad],R,rfl,f.up (by omega) (by omega) fun m=>rfl⟩) (by
  rintro _ ⟨R,rfl,f⟩
  exact ⟨_,rfl,R,rfl,f⟩)
 obtain ⟨R,rfl,f⟩:=G
 exact ⟨R,I,f⟩
theorem A43 {x:Bo} (j:CSz x) (E F:Be) (K:Int) (V:E.Terms.length<=6) (U:F.Terms.length<=6) :
  ∃R v f,Od x ⟨1,E,F,K⟩=some (R,Kt x v f E F)/\Lp ⟨1,E,F,K⟩=some v/\Oe x []=some f/\(Kt x v f E F≠0->R = []) /\
   (Kt x v f E F=0->D9 x/\0<=K/\K<=6/\Cz E=true/\Cz F=true/\Dm x.Vars x.Res E=true/\Dm x.Vars x.Res F=true/\∃s,K2 E F=some (s,0)/\IP x 500 900010 (shF x E F s K.toNat) R):=by
 obtain ⟨v,B,v2⟩:=Aie ⟨1,E,F,K⟩ (by show E.Terms.length+F.Terms.length<=12; omega)
 obtain ⟨f,f1,f2⟩:=Agw x j [] (fun t ht=>by cases ht)
 have S:=j.nv
 have G:=Ac8 x E (by omega) (by omega)
 have D:=Ac8 x F (by omega) (by omega)
 unfold Od
 rw [B,f1,G,D]
 unfold Kt
 cases v with
 | false=>exact ⟨[],false,f,rfl,rfl,rfl,fun _=>rfl,fun h=>absurd (show (1:Int)=0 from h) (by decide)⟩
 | true=>
  cases f with
  | false=>exact ⟨[],true,false,rfl,rfl,rfl,fun _=>rfl,fun h=>absurd (show (1:Int)=0 from h) (by decide)⟩
  | true=>
   cases hi:Dm x.Vars x.Res E with
   | false=>exact ⟨[],true,true,rfl,rfl,rfl,fun _=>rfl,fun h=>absurd (show (6:Int)=0 from h) (by decide)⟩
   | true=>
    cases hj:Dm x.Vars x.Res F with
    | false=>exact ⟨[],true,true,rfl,rfl,rfl,fun _=>rfl,fun h=>absurd (show (6:Int)=0 from h) (by decide)⟩
    | true=>
     obtain ⟨z,y,k0,i,hk⟩:=v2.1 rfl
     have k0:0<=K:=k0
     have i:K<=6:=i
     have A:=(f2.1 rfl).1
     rcases hk with ⟨_,s,g⟩ | ⟨h2,_⟩
     .rcases Aid E F (by omega) with ⟨_,_,L,c,M,J⟩ | ⟨_,c⟩
      .rw [g] at c
       have c:=Option.some.inj c
       unfold R8 at c
       by_cases hc:Cz ⟨E.Const+F.Const,L⟩=true
       .rw [if_pos hc] at c
        have k:s=⟨E.Const+F.Const,L⟩:=congrArg Prod.fst c
        subst k
        have N:=A41 (vars:=x.Vars) (res:=x.Res) (a:=E) (b:=F) (s:=⟨E.Const+F.Const,L⟩) M J hi hj
        have l:((K.toNat:Nat):Int)=K:=by omega
        obtain ⟨R,u,I⟩:=A42 j A (K:=K.toNat) z y hi hj (by omega) g hc N
        rw [l] at u
        refine ⟨R,true,true,?_,rfl,rfl,fun h=>absurd rfl h,fun _=>⟨A,k0,i,z,y,rfl,rfl,_,g,I⟩⟩
        have q:((1:Int)==2)=false:=rfl
        simp only [Dt,Ad,cond_false,Bool.and_self,q,u]
       .rw [if_neg hc] at c
        exact absurd (show (0:Int)=9 from congrArg Prod.snd c) (by decide)
      .rw [g] at c
       exact absurd (show (0:Int)=1 from congrArg Prod.snd (Option.some.inj c)) (by decide)
     .exact absurd (show (1:Int)=2 from h2) (by decide)
end Go.Ab
namespace Go.Ab
open Go
theorem Jq.neg {L:List Bb} (h:Jq L):Jq (L.map H3):=by
 refine ⟨?_,?_⟩
 .rw [List.pairwise_map]
  exact h.srt
 .intro t ht
  obtain ⟨u,hu,rfl⟩:=List.mem_map.1 ht
  have:=h.nz u hu
  show -u.Coef≠0
  omega
end Go.Ab
namespace Go.Ab
open Go
theorem IsE.zero {l:Be} {B:List Ds} (h:IsE [⟨l,0⟩] B):B = [([],1)]:=by
 obtain ⟨gs,E,q,G,i,rfl⟩:=h
 have D:E = [⟨l,0⟩]:=List.perm_singleton.1 q
 rw [D] at i
 generalize c:[(⟨l,0⟩:Ba)]=X at i
 cases i with
 | nil=>cases c
 | @cons s N f g rest gs j L I y A=>
  have J:g.length+rest.length=1:=by
   have:=congrArg List.length c
   simpa using this.symm
  have u:g.length=1:=by
   have:=List.length_pos_iff.2 j
   omega
  have b:rest = []:=List.length_eq_zero_iff.1 (by omega)
  subst b
  rw [List.append_nil] at c
  subst c
  have k:=A.nil_of rfl
  subst k
  have z:N=0/\f 0=1:=by
   rcases y with ⟨_,h1,h2,h3⟩ | ⟨_,h1,h2⟩
   .have h1:N=0:=by simpa [Cx] using h1
    subst h1
    have:=h3 0
    simp [sm,prb,F8] at this
    exact ⟨rfl,this⟩
   .exact ⟨h1,by rw [h2]; simp [prb,F8]⟩
  obtain ⟨rfl,x⟩:=z
  show Fs [([],1)] s f (0+1) = [([],1)]
  rw [Po,x]
  simp [Fs,atO]
theorem IsE.nil:IsE [] [([],1)]:=⟨[],[],List.Perm.refl _,List.Pairwise.nil,Gs.nil,rfl⟩
end Go.Ab
namespace Go.Ab
open Go
def Fy (v:Be->Nat):List Ba->Nat
 | []=>1
 | a::l=>bc (v a.Lin) a.Deg.toNat*Fy v l
theorem Aig (v:Be->Nat) (l m:List Ba):Fy v (l++m)=Fy v l*Fy v m:=by
 induction l with
 | nil=>simp [Fy]
 | cons a l ih=>simp only [List.cons_append,Fy,ih,Nat.mul_assoc]
theorem A44 (v:Be->Nat) {l m:List Ba} (h:l.Perm m):Fy v l=Fy v m:=by
 induction h with
 | nil=>rfl
 | cons a _ ih=>simp only [Fy,ih]
 | swap a b l=>simp only [Fy]; rw [<-Nat.mul_assoc,<-Nat.mul_assoc,Nat.mul_comm (bc (v b.Lin) _)]
 | trans _ _ h1 h2=>exact h1.trans h2
theorem Art {v:Be->Nat} {l:Be}:∀{g:List Ba},(∀a∈g,a.Lin=l)->Fy v g=prb (v l) g
 | [],_=>rfl
 | a::g,h=>by simp only [Fy,prb]; rw [h a (by simp),Art fun b hb=>h b (by simp [hb])]
def Gu (v:Be->Nat):List Ds->Nat
 | []=>0
 | b::bs=>b.2*Fy v b.1+Gu v bs
theorem A45 (v:Be->Nat) (B C:List Ds):Gu v (B++C)=Gu v B+Gu v C:=by
 induction B with
 | nil=>simp [Gu]
 | cons b B ih=>simp only [List.cons_append,Gu,ih,Nat.add_assoc]
theorem A46 (v:Be->Nat) (l:Be) (k c:Nat) (B:List Ds):Gu v (B.map fun b=>(b.1++atO l k,b.2*c))=Gu v B*(c*bc (v l) k):=by
 have ha:Fy v (atO l k)=bc (v l) k:=by
  unfold atO
  by_cases h:k=0
  .subst h; rw [if_pos rfl,F8]; rfl
  .rw [if_neg h]; simp [Fy]
 induction B with
 | nil=>simp [Gu]
 | cons b B ih=>
  simp only [List.map_cons,Gu,ih,Aig,ha]
  rw [Nat.add_mul]
  congr 1
  rw [Nat.mul_assoc,Nat.mul_assoc,<-Nat.mul_assoc c,Nat.mul_comm c,Nat.mul_assoc]
theorem Aru (v:Be->Nat) (B:List Ds) (l:Be) (f:Nat->Nat):∀n,Gu v (Fs B l f n)=Gu v B*sm n fun k=>f k*bc (v l) k
 | 0=>by simp [Fs,Gu,sm]
 | n+1=>by
  rw [Po,A45,Aru v B l f n]
  show _=Gu v B*(sm n (fun k=>f k*bc (v l) k)+f n*bc (v l) n)
  rw [Nat.mul_add]
  congr 1
  by_cases h:f n=0
  .rw [if_pos h,h]; simp [Gu]
  .rw [if_neg h,A46]
def Aih (v:Be->Nat):Prop:=∀l:Be,l.Terms.length=0->v l=l.Const.toNat
theorem Gs.val {v:Be->Nat} (hv:Aih v):∀{b:List Grp} {A:List Ba},Gs b A->∀B,Gu v (Ks B b)=Gu v B*Fy v A:=by
 intro b A h
 induction h with
 | nil=>intro B; simp [Ks,Fy]
 | @cons l N f g rest b c i k j q ih=>
  intro B
  show Gu v (Ks (Fs B l f (N+1)) b)=_
  rw [ih,Aru,Aig,Art i,<-Nat.mul_assoc]
  congr 2
  rcases j with ⟨_,_,_,h3⟩ | ⟨h1,h2,h3⟩
  .exact h3 (v l)
  .subst h2
   rw [hv l h1]
   simp [sm,F8,h3]
theorem IsE.val {v:Be->Nat} (hv:Aih v) {A:List Ba} {B:List Ds} (h:IsE A B):Gu v B=Fy v A:=by
 obtain ⟨gs,g,c,f,b,rfl⟩:=h
 rw [b.val hv,<-A44 v c]
 simp [Gu,Fy]
end Go.Ab
namespace Go.Ab
open Go
def Sa (p:Rat×A8):Rat×A8:=(-p.1,p.2)
theorem Aii (L:List (Rat×A8)) (m:A8):cfW (L.map Sa) m = - cfW L m:=by
 induction L with
 | nil=>show (0:Rat) = -0; grind
 | cons t L ih=>simp only [List.map_cons,cfW,ih,Sa]; split <;> grind
theorem Arv (v:A8->Nat) (L:List (Rat×A8)):Fi v (L.map Sa) = - Fi v L:=by
 induction L with
 | nil=>show (0:Rat) = -0; grind
 | cons t L ih=>simp only [List.map_cons,Fi,ih,Sa]; grind
theorem A47 {v:A8->Nat} {L M:List (Rat×A8)} (h:∀m,cfW L m=cfW M m):Fi v L=Fi v M:=by
 have h1:=Aqt v _ (L++M.map Sa) (Nat.le_refl _) (fun m=>by rw [Acy,Aii,h]; grind)
 have h2:=Aqt v _ (M++L.map Sa) (Nat.le_refl _) (fun m=>by rw [Acy,Aii,h]; grind)
 rw [Ah0,Arv] at h1 h2
 grind
theorem Aij {x:Bo} {val:Int->Ay} {R:List Aj} {L:List (Rat×A8)} (h:∀m,cf R m=cfW L m):Hk x val R=Fi (Kr x val) L:=by
 rw [<-A3h]
 exact A47 fun m=>by rw [A3g,h]
def eW (c:Rat) (B:List Ds):List (Rat×A8):=B.map fun b=>(c*(b.2:Rat),⟨[],b.1⟩)
theorem Yn (c:Rat) (B:List Ds) (m:A8):cfW (eW c B) m=c*(ec B m:Rat):=by
 induction B with
 | nil=>simp only [eW,List.map_nil,cfW,ec]; grind
 | cons b B ih=>
  have ih:cfW (List.map (fun b=>(c*(b.2:Rat),(⟨[],b.1⟩:A8))) B) m=c*(ec B m:Rat):=ih
  simp only [eW,List.map_cons,cfW,ec,ih]
  rw [Rat.natCast_add]
  by_cases h:C9 ⟨[],b.1⟩ m=0
  .rw [if_pos h,if_pos (Km.1 h)]; grind
  .rw [if_neg h,if_neg fun e=>h (Km.2 e)]; grind
def fv (val:Int->Ay) (l:Be):Nat:=(E2 val l).toNat
theorem Yo (val:Int->Ay):Aih (fv val):=fun l h=>by
 unfold fv E2
 rw [List.length_eq_zero_iff.1 h]; simp
theorem Arw (x:Bo) (val:Int->Ay) (L:List Ba):Kr x val ⟨[],L⟩=Fy (fv val) L:=by
 unfold Kr
 have h:∀L:List Ba,Hq (L.map (Nx val))=Fy (fv val) L:=by
  intro L
  induction L with
  | nil=>rfl
  | cons a L ih=>
   rw [List.map_cons]
   show Nx val a*Hq (L.map (Nx val))=_
   rw [ih]; rfl
 rw [h]
 show 1*_=_
 rw [Nat.one_mul]
theorem Yp (x:Bo) (val:Int->Ay) (c:Rat) (B:List Ds):Fi (Kr x val) (eW c B)=c*(Gu (fv val) B:Rat):=by
 induction B with
 | nil=>simp only [eW,List.map_nil,Fi,Gu]; grind
 | cons b B ih=>
  have ih:Fi (Kr x val) (List.map (fun b=>(c*(b.2:Rat),(⟨[],b.1⟩:A8))) B)=c*(Gu (fv val) B:Rat):=ih
  simp only [eW,List.map_cons,Fi,Gu,ih,Arw]
  rw [Rat.natCast_add,Rat.natCast_mul]; grind
theorem A48 {x:Bo} (val:Int->Ay) {A:List Ba} {B:List Ds} {n L:Nat} {R:List Aj} (h:IsE A B) (b:IP x n L (fun m=>(ec B m:Rat)) R):Hk x val R=(Fy (fv val) A:Rat):=by
 rw [Aij (L:=eW 1 B) (fun m=>by rw [Yn,b.val]; grind),Yp,h.val (Yo val)]
 grind
theorem IP.sub_val {x:Bo} (val:Int->Ay) {A b:List Ba} {B C:List Ds} {n L:Nat} {R:List Aj} (h:IsE A B) (h':IsE b C) (c:IP x n L (fun m=>(ec B m:Rat)-(ec C m:Rat)) R):Hk x val R=(Fy (fv val) A:Rat)-(Fy (fv val) b:Rat):=by
 rw [Aij (L:=eW 1 B++eW (-1) C) (fun m=>by rw [Acy,Yn,Yn,c.val]; grind),Ah0,Yp,Yp,h.val (Yo val),h'.val (Yo val)]
 grind
end Go.Ab
namespace Go.Ab
open Go
theorem Arx {A:List Ba} (f:Atk A):∃B,IsE A B:=by
 have b:rq (cR 1)=1:=by rw [Pm]; rfl
 obtain ⟨out,B,_,g,_⟩:=Ac5 (c:=cR 1) (K:=3) (A:=A) ((Kn (k:=1) (by rw [L1]; decide) (by decide)).mono (by decide)) (by decide) (by rw [b]; decide) f [] [] [] [] 0 0 []
 exact ⟨B,g⟩
noncomputable def Yq:List Aj->List Aj->List (Rat×A8)
 | t::_,u::_=>eW (rq t.Coef*rq u.Coef) (eB (t.Mono.Atoms++u.Mono.Atoms))
 | _,_=>[]
theorem A49 (p q:List Aj) (m:A8):cfW (Yq p q) m=R9 p q m:=by
 cases p with
 | nil=>cases q <;> rfl
 | cons t p=>
  cases q with
  | nil=>rfl
  | cons u q=>exact Yn _ _ m
theorem Ary {x:Bo} {D:Nat} {val:Int->Ay} {m:A8} (h:NoF x D m):Kr x val m=Fy (fv val) m.Atoms:=by
 have e:m=⟨[],m.Atoms⟩:=by
  have:=h.2.1
  cases m
  simp only at this
  subst this; rfl
 rw [e,Arw]
theorem A5a {x:Bo} {val:Int->Ay} {D D':Nat} (j:D+D'<=6) {p q:List Aj} (hp:p.length<=1) (hq:q.length<=1) (g:∀t∈p,NoF x D t.Mono) (f:∀t∈q,NoF x D' t.Mono):Fi (Kr x val) (Yq p q)=Hk x val p*Hk x val q:=by
 rcases Adb hp with rfl | ⟨t,rfl⟩
 .cases q <;> (simp only [Yq,Fi,Hk]; grind)
 .rcases Adb hq with rfl | ⟨u,rfl⟩
  .simp only [Yq,Fi,Hk]; grind
  .have ht:=g t (by simp)
   have hu:=f u (by simp)
   obtain ⟨a1,a2,a3,a4⟩:=Ada ht (by omega)
   obtain ⟨c,s,l,k⟩:=Ada hu (by omega)
   have i:Atk (t.Mono.Atoms++u.Mono.Atoms):=⟨fun a ha=>by
    rcases List.mem_append.1 ha with h | h
    .exact a1.deg a h
    .exact c.deg a h,fun a ha=>by
    rcases List.mem_append.1 ha with h | h
    .exact a1.lin a h
    .exact c.lin a h,by rw [M2]; omega,by rw [List.length_append]; omega⟩
   obtain ⟨B,b⟩:=Arx i
   show Fi (Kr x val) (eW (rq t.Coef*rq u.Coef) (eB (t.Mono.Atoms++u.Mono.Atoms)))=_
   rw [Yp,Ac9 b,b.val (Yo val),Aig,Rat.natCast_mul]
   simp only [Hk,Ary ht,Ary hu]
   grind
noncomputable def shW (x:Bo) (E F s:Be) (K:Nat):Nat->List (Rat×A8)
 | 0=>eW 1 (eB [⟨s,(K:Int)⟩])
 | j+1=>shW x E F s K j++(Yq (aP x E (j:Int)) (aP x F ((K-j:Nat):Int))).map Sa
theorem Arz (x:Bo) (E F s:Be) (K:Nat) (m:A8):∀n,cfW (shW x E F s K n) m=(ec (eB [⟨s,(K:Int)⟩]) m:Rat)-sq n fun j=>R9 (aP x E (j:Int)) (aP x F ((K-j:Nat):Int)) m
 | 0=>by simp only [shW,Yn,sq]; grind
 | n+1=>by
  simp only [shW,Acy,Aii,A49,Arz x E F s K m n,sq]; grind
theorem Ar0 (f:Nat->Nat):∀n,sq n (fun j=>(f j:Rat))=((sm n f:Nat):Rat)
 | 0=>by simp [sq,sm]
 | n+1=>by simp only [sq,sm,Ar0 f n]; rw [Rat.natCast_add]
theorem Ar1 {x:Bo} (g:CSz x) (i:D9 x) (val:Int->Ay) {l:Be} {k:Nat} (h:Cz l=true) (q:k<=6) (hi:Dm x.Vars x.Res l=true):Hk x val (aP x l (k:Int))=(bc (fv val l) k:Rat):=by
 obtain ⟨R,B,f,c,b,j⟩:=Aro g i (k:=(k:Int)) h (by omega) (by omega) hi
 have e:aP x l (k:Int)=R:=by unfold aP; rw [f]
 rw [e,A48 val c b]
 simp [Fy]
theorem Ar2 {x:Bo} (b:CSz x) (c:D9 x) (val:Int->Ay) {E F s:Be} {K:Nat} (i:Cz E=true) (h:Cz F=true) (q:Cz s=true) (g:Dm x.Vars x.Res E=true) (f:Dm x.Vars x.Res F=true) (y:K<=6) :
  ∀n,n<=K+1->Fi (Kr x val) (shW x E F s K n)=(bc (fv val s) K:Rat)-sq n fun j=>((bc (fv val E) j*bc (fv val F) (K-j):Nat):Rat)
 | 0,_=>by
  obtain ⟨a1,a2⟩:=Aic (l:=s) (k:=(K:Int)) q (by omega) (by omega)
  obtain ⟨B,u⟩:=Arx a1
  simp only [shW,Yp,sq]
  rw [Ac9 u,u.val (Yo val)]
  simp [Fy]
  grind
 | n+1,A=>by
  obtain ⟨a1,a2,a3⟩:=Ym b c (l:=E) (k:=(n:Int)) i (by omega) (by omega) g
  obtain ⟨b1,b2,z⟩:=Ym b c (l:=F) (k:=((K-n:Nat):Int)) h (by omega) (by omega) f
  simp only [shW,Ah0,Arv,sq]
  rw [Ar2 b c val i h q g f y n (by omega),A5a (D:=n) (D':=K-n) (by omega) a2.len b2.len (fun t ht=>(a3 t ht).mono (by omega)) (fun t ht=>(z t ht).mono (by omega)),Ar1 b c val i (by omega) g,Ar1 b c val h (by omega) f,Rat.natCast_mul]
  grind
theorem A5b {x:Bo} (f:CSz x) (h:D9 x) (val:Int->Ay) {E F s:Be} {K n L:Nat} {R:List Aj} (l:Cz E=true) (k:Cz F=true) (g:Cz s=true) (c:Dm x.Vars x.Res E=true) (b:Dm x.Vars x.Res F=true) (j:K<=6)
  (i:IP x n L (shF x E F s K) R) (hv:fv val s=fv val E+fv val F):Hk x val R=0:=by
 rw [Aij (L:=shW x E F s K (K+1)) (fun m=>by rw [i.val,Arz]; rfl),Ar2 f h val l k g c b j (K+1) (Nat.le_refl _),Ar0,hv,Ah1]
 grind
end Go.Ab
namespace Go.Ab
open Go
def ls (g:Int->Int):List Bb->Int
 | []=>0
 | t::l=>t.Coef*g t.Var+ls g l
def H4 (v:Int) (l:List Bb):List Bb:=l.filter fun t=>!(t.Var==v)
theorem Aik (g:Int->Int) (v:Int):∀l,ls g l=cl l v*g v+ls g (H4 v l)
 | []=>by simp [ls,cl,H4]
 | t::l=>by
  have ih:=Aik g v l
  unfold H4 at *
  simp only [ls,cl,List.filter_cons]
  by_cases h:t.Var=v
  .rw [if_pos h,Dj h,if_neg (by decide),ih,<-h,Int.add_mul]; omega
  .rw [if_neg h,Cp h,if_pos (by decide)]
   simp only [ls]
   rw [ih,Int.zero_add]; omega
theorem Ail (v w:Int):∀l,cl (H4 v l) w=if w=v then 0 else cl l w
 | []=>by simp [H4,cl]
 | t::l=>by
  have ih:=Ail v w l
  unfold H4 at *
  simp only [cl,List.filter_cons]
  by_cases h:t.Var=v
  .rw [Dj h,if_neg (by decide),ih]
   by_cases hw:w=v
   .rw [if_pos hw,if_pos hw]
   .rw [if_neg hw,if_neg hw,if_neg (by omega)]; omega
  .rw [Cp h,if_pos (by decide)]
   simp only [cl]
   rw [ih]
   by_cases hw:w=v
   .rw [if_pos hw,if_pos hw,if_neg (by omega)]; rfl
   .rw [if_neg hw,if_neg hw]
theorem Aim (v:Int) (l:List Bb):(H4 v l).length<=l.length:=List.length_filter_le _ _
theorem Ar3 (g:Int->Int):∀(n:Nat) (L M:List Bb),L.length+M.length<=n->(∀v,cl L v=cl M v)->ls g L=ls g M:=by
 intro n
 induction n with
 | zero=>
  intro L M h _
  have h1:L = []:=List.length_eq_zero_iff.1 (by omega)
  have h2:M = []:=List.length_eq_zero_iff.1 (by omega)
  rw [h1,h2]
 | succ n ih=>
  intro L M h hc
  have key:∀v,(H4 v L).length+(H4 v M).length<L.length+M.length->ls g L=ls g M:=fun v hv=>by
   rw [Aik g v L,Aik g v M,hc v,ih (H4 v L) (H4 v M) (by omega) fun w=>by rw [Ail,Ail,hc w]]
  cases L with
  | cons t L=>
   refine key t.Var ?_
   have h1:=Aim t.Var L
   have h2:=Aim t.Var M
   have e:H4 t.Var (t::L)=H4 t.Var L:=by unfold H4; rw [List.filter_cons,Dj rfl,if_neg (by decide)]
   rw [e]
   simp only [List.length_cons]; omega
  | nil=>
   cases M with
   | nil=>rfl
   | cons t M=>
    refine key t.Var ?_
    have h1:=Aim t.Var M
    have e:H4 t.Var (t::M)=H4 t.Var M:=by unfold H4; rw [List.filter_cons,Dj rfl,if_neg (by decide)]
    rw [e]
    simp only [List.length_cons,List.length_nil,H4,List.filter_nil]
    unfold H4 at h1
    omega
theorem Ain (g:Int->Int) (l m:List Bb):ls g (l++m)=ls g l+ls g m:=by
 induction l with
 | nil=>simp [ls]
 | cons t l ih=>simp only [List.cons_append,ls,ih]; omega
theorem A5c (g:Int->Int) (l:List Bb):ls g (l.map H3) = - ls g l:=by
 induction l with
 | nil=>rfl
 | cons t l ih=>
  simp only [List.map_cons,ls,ih,H3]
  rw [Int.neg_mul]; omega
theorem Sb (val:Int->Ay) (l:Be):E2 val l=l.Const+ls (fun v=>(val v).Num) l.Terms:=by
 unfold E2
 congr 1
 have h:∀L:List Bb,(L.map fun t=>t.Coef*(val t.Var).Num).sum=ls (fun v=>(val v).Num) L:=by
  intro L
  induction L with
  | nil=>rfl
  | cons t L ih=>simp only [List.map_cons,List.sum_cons,ih,ls]
 exact h _
theorem A5d {val:Int->Ay} {a b:Be} {c:Int} {L:List Bb} (hc:c=a.Const+b.Const) (h:∀v,cl L v=cl a.Terms v+cl b.Terms v):E2 val ⟨c,L⟩=E2 val a+E2 val b:=by
 rw [Sb,Sb,Sb,hc]
 show a.Const+b.Const+ls _ L=_
 rw [Ar3 _ _ L (a.Terms++b.Terms) (Nat.le_refl _) fun v=>by rw [h,Pq],Ain]
 omega
theorem A5e {val:Int->Ay} {a b:Be} {c:Int} {L:List Bb} (hc:c=a.Const-b.Const) (h:∀v,cl L v=cl a.Terms v-cl b.Terms v):E2 val ⟨c,L⟩=E2 val a-E2 val b:=by
 rw [Sb,Sb,Sb,hc]
 show a.Const-b.Const+ls _ L=_
 rw [Ar3 _ _ L (a.Terms++b.Terms.map H3) (Nat.le_refl _) fun v=>by rw [h,Pq,Arm]; omega,Ain,A5c]
 omega
theorem A5f (k:Nat):∀{m n:Nat},m<=n->bc m k<=bc n k:=by
 intro m n h
 induction n with
 | zero=>
  have:m=0:=by omega
  subst this; exact Nat.le_refl _
 | succ n ih=>
  rcases Nat.lt_or_ge m (n+1) with h' | h'
  .refine Nat.le_trans (ih (by omega)) ?_
   cases k with
   | zero=>rw [F8,F8]; exact Nat.le_refl _
   | succ k=>rw [Ny]; omega
  .have:m=n+1:=by omega
   subst this; exact Nat.le_refl _
end Go.Ab
namespace Go.Ab
open Go
def gv (vs:List Int) (v:Int):Int:=match Ag vs v with | some n=>n | none=>0
theorem A5g (l:Be) (vs:List Int) (k:Cz l=true) (hv:∀n∈vs,-128<=n/\n<=127) (D:vs.length<=1000) :
  ∃r:Int×Bool,Qd l vs=some r/\(r.2=true->r.1=l.Const+ls (gv vs) l.Terms/\∀t∈l.Terms,0<=t.Var/\t.Var<(vs.length:Int)):=by
 have i:=Mb k
 have f:=U2 k
 unfold Qd
 refine Ef (fun s=>∃j:Nat,s=(l.Const+ls (gv vs) (l.Terms.take j),(j:Int))/\j<=l.Terms.length/\(∀t∈l.Terms.take j,0<=t.Var/\t.Var<(vs.length:Int))/\-(1048576+134217728*(j:Int))<=l.Const+ls (gv vs) (l.Terms.take j)/\l.Const+ls (gv vs) (l.Terms.take j)<=1048576+134217728*(j:Int)) (fun s=>l.Terms.length-s.2.toNat)
  (fun e=>e = .inl (0,false)\/(e = .inr (l.Const+ls (gv vs) l.Terms)/\∀t∈l.Terms,0<=t.Var/\t.Var<(vs.length:Int))) ⟨0,by simp [ls],by omega,by simp,by simp [ls]; omega,by simp [ls]; omega⟩ ?_ ?_
 .rintro _ ⟨j,rfl,hj,c,b1,b2⟩
  rcases Nat.lt_or_ge j l.Terms.length with h | h
  .have hx:l.Terms[j]? = some l.Terms[j]:=B0 h
   have g:=List.getElem_mem h
   generalize l.Terms[j]=t at hx g
   have ht:=f t g
   simp only [Am (by omega:(j:Int)<(l.Terms.length:Int)),cond_true,Bw rfl hx,Ad]
   by_cases h0:t.Var<0
   .rw [Am h0]
    exact .inr ⟨_,rfl,.inl rfl⟩
   .rw [Ar h0,cond_false]
    by_cases h1:t.Var<(vs.length:Int)
    .rw [Ar (by omega)]
     have hy:vs[t.Var.toNat]? = some vs[t.Var.toNat]:=B0 (by omega)
     have b:=List.getElem_mem (show t.Var.toNat<vs.length by omega)
     generalize vs[t.Var.toNat]'(by omega)=y at hy b
     have A:=hv y b
     have hi:Ag vs t.Var=some y:=Bw (n:=t.Var.toNat) (by omega) hy
     have B:gv vs t.Var=y:=by unfold gv; rw [hi]
     have z:Ac y=y:=by rw [Ac,Bs] <;> omega
     have hp : -134217728<=t.Coef*y/\t.Coef*y<=134217728:=by
      have hab:(t.Coef*y).natAbs<=1048576*128:=by
       rw [Int.natAbs_mul]
       exact Nat.mul_le_mul (by omega) (by omega)
      omega
     have x:Ac (t.Coef*y)=t.Coef*y:=by rw [Ac,Bs] <;> omega
     have q:Ac (l.Const+ls (gv vs) (l.Terms.take j)+t.Coef*y)=l.Const+ls (gv vs) (l.Terms.take j)+t.Coef*y:=by rw [Ac,Bs] <;> omega
     have e:ls (gv vs) (l.Terms.take (j+1))=ls (gv vs) (l.Terms.take j)+t.Coef*y:=by
      rw [C5 hx,Ain]
      simp [ls,B]
     left
     simp only [Ad,cond_false,hi,z,x,q,C8 h (by omega)]
     refine ⟨_,rfl,⟨j+1,by rw [e,Int.add_assoc],by omega,fun u hu=>?_,by rw [e]; omega,by rw [e]; omega⟩,by simp; omega⟩
     rw [C5 hx] at hu
     rcases List.mem_append.1 hu with hu | hu
     .exact c u hu
     .simp only [List.mem_singleton] at hu
      subst hu; omega
    .rw [Am (by omega)]
     exact .inr ⟨_,rfl,.inl rfl⟩
  .have:j=l.Terms.length:=by omega
   subst this
   rw [List.take_length] at c
   right
   exact ⟨.inr (l.Const+ls (gv vs) (l.Terms.take l.Terms.length)),by simp only [Ar (by omega:¬(l.Terms.length:Int)<(l.Terms.length:Int)),cond_false],.inr ⟨by rw [List.take_length],c⟩⟩
 .rintro e (rfl | ⟨rfl,h⟩)
  .exact ⟨_,rfl,fun h=>by cases h⟩
  .exact ⟨_,rfl,fun _=>⟨rfl,h⟩⟩
end Go.Ab
namespace Go.Ab
open Go
def M3:Ah:=⟨1,0,[]⟩
def Hr (n:Nat):Bo:=⟨[],List.replicate n M3,M3⟩
theorem A5h:∀n:Nat,n<=4->Vn (n:Int)=some (Hr n):=by
 intro n b
 rcases (by omega:n=0\/n=1\/n=2\/n=3\/n=4) with rfl | rfl | rfl | rfl | rfl <;> kernel_rfl
theorem Ar4 {n:Nat} (b:n<=4):CSz (Hr n):=by
 have ht:Bx M3<=1048576:=by decide
 refine ⟨⟨by simp [Hr],fun _ h=>by simp [Hr] at h,fun _ h=>by simp [Hr] at h,fun _ h=>by simp [Hr] at h⟩,by simp [Hr]; omega,fun t h=>?_,ht⟩
 have:t=M3:=List.eq_of_mem_replicate h
 rw [this]; exact ht
def Ft (vs:List Int):List Ay:=vs.map fun v=>⟨3,v,[]⟩
theorem Ar5 {R:Type} (vs:List Int) (hv:∀n∈vs,-128<=n/\n<=127) (i:vs.length<=4) {J:List Ay->Option R} {r:R} (h:J (Ft vs)=some r) :
  (Al (S:=(Int×(List Ay))) (E:=(List Ay)) (fun (v25,b)=>
 bif (decide (v25<(vs.length:Int))) then (
 (Ag vs v25).bind fun c=>
 (B9 40 b [(Ay.mk 3 (Ac c) [])]).bind fun f=>
 some (.inl ((Ac (v25+1)),f))
 )
 else (
 some (.inr b)
 )
  ) (0,[])).bind J=some r:=by
 refine Hn vs.length (fun j=>((j:Int),Ft (vs.take j))) rfl ?_ ⟨Ft vs,?_,h⟩
 .intro j hj
  have hx:vs[j]? = some vs[j]:=B0 hj
  have g:=List.getElem_mem hj
  generalize vs[j]=y at hx g
  have hy:=hv y g
  have w:Ac y=y:=by rw [Ac,Bs] <;> omega
  have k:(Ft (vs.take j)).length<=4:=by simp [Ft]; omega
  have e:Ft (vs.take (j+1))=Ft (vs.take j)++[⟨3,y,[]⟩]:=by
   rw [C5 hx]; simp [Ft]
  simp only [Am (by omega:(j:Int)<(vs.length:Int)),cond_true,Bw rfl hx,Ad,w,C8 hj (by omega)]
  rw [Dh (by simp; omega),Ad,e]
 .simp only [Ar (by omega:¬(vs.length:Int)<(vs.length:Int)),cond_false,List.take_length]
theorem A5i {vs:List Int} {v:Int} (h0:0<=v) (h1:v<(vs.length:Int)):(Dk (Ft vs) ⟨3,0,[]⟩ v).Num=gv vs v:=by
 have hx:vs[v.toNat]? = some vs[v.toNat]:=B0 (by omega)
 generalize vs[v.toNat]'(by omega)=y at hx
 unfold Dk gv
 rw [Bw (n:=v.toNat) (by omega) hx,Bw (l:=Ft vs) (n:=v.toNat) (x:=⟨3,y,[]⟩) (by omega) (by simp [Ft,hx])]
theorem A5j {vs:List Int} {l:Be} (h:∀t∈l.Terms,0<=t.Var/\t.Var<(vs.length:Int)):E2 (Dk (Ft vs) ⟨3,0,[]⟩) l=l.Const+ls (gv vs) l.Terms:=by
 rw [Sb]
 congr 1
 have key:∀L:List Bb,(∀t∈L,0<=t.Var/\t.Var<(vs.length:Int))->ls (fun v=>(Dk (Ft vs) ⟨3,0,[]⟩ v).Num) L=ls (gv vs) L:=by
  intro L
  induction L with
  | nil=>intro _; rfl
  | cons t L ih=>
   intro h
   have:=h t (by simp)
   simp only [ls,ih fun u hu=>h u (by simp [hu]),A5i this.1 this.2]
 exact key _ h
end Go.Ab
namespace Go.Ab
open Go
theorem Ar6 {R:Type} (P:List Be) (vs:List Int) (G:∀p∈P,Cz p=true) (D:P.length<=1000) (hv:∀n∈vs,-128<=n/\n<=127) (B:vs.length<=1000) {J:Bool⊕Unit->Option R} {r:R} (l:J (.inl true)=some r)
  (k:(∀p∈P,0<=E2 (Dk (Ft vs) ⟨3,0,[]⟩) p)->J (.inr ())=some r) :
  (Al (S:=Int) (E:=(Bool⊕Unit)) (fun v12=>
 bif (decide (v12<(P.length:Int))) then (
 (Ag P v12).bind fun g=>
 (Qd g vs).bind fun c=>
 bif (!c.2) then (
 some (.inr (.inl true))
 )
 else (
 bif (decide (c.1<(0:Int))) then (
 some (.inr (.inl true))
 )
 else (
 some (.inl (Ac (v12+1)))
 )
 )
 )
 else (
 some (.inr (.inr ()))
 )
  ) 0).bind J=some r:=by
 obtain ⟨q,h1,h2⟩:=Ef (J:=J) (Q:=fun q=>q=r) (step:=fun v12:Int=>
  bif (decide (v12<(P.length:Int))) then (
  (Ag P v12).bind fun g=>
  (Qd g vs).bind fun c=>
  bif (!c.2) then (
  some (.inr (.inl true))
  )
  else (
  bif (decide (c.1<(0:Int))) then (
  some (.inr (.inl true))
  )
  else (
  some (.inl (Ac (v12+1)))
  )
  )
  )
  else (
  some (.inr (.inr ()))
  )) (s:=0) (fun s=>∃j:Nat,s=(j:Int)/\j<=P.length/\∀p∈P.take j,0<=E2 (Dk (Ft vs) ⟨3,0,[]⟩) p) (fun s=>P.length-s.toNat)
  (fun e=>e = .inl true\/(e = .inr ()/\∀p∈P,0<=E2 (Dk (Ft vs) ⟨3,0,[]⟩) p)) ⟨0,rfl,by omega,by simp⟩ (by
  rintro _ ⟨j,rfl,hj,i⟩
  rcases Nat.lt_or_ge j P.length with h | h
  .have hx:P[j]? = some P[j]:=B0 h
   have x:=List.getElem_mem h
   generalize P[j]=p at hx x
   obtain ⟨⟨n,b⟩,A,z⟩:=A5g p vs (G p x) hv B
   simp only [Am (by omega:(j:Int)<(P.length:Int)),cond_true,Bw rfl hx,Ad,A]
   cases b with
   | false=>exact .inr ⟨_,rfl,.inl rfl⟩
   | true=>
    obtain ⟨y,I⟩:=z rfl
    have y:n=p.Const+ls (gv vs) p.Terms:=y
    by_cases f:n<0
    .simp only [Dt,cond_false,Am f,cond_true]
     exact .inr ⟨_,rfl,.inl rfl⟩
    .simp only [Dt,cond_false,Ar f,C8 h (by omega)]
     refine .inl ⟨_,rfl,⟨j+1,rfl,by omega,fun u hu=>?_⟩,by omega⟩
     rw [C5 hx] at hu
     rcases List.mem_append.1 hu with hu | hu
     .exact i u hu
     .simp only [List.mem_singleton] at hu
      subst hu
      rw [A5j I]; omega
  .have:j=P.length:=by omega
   subst this
   rw [List.take_length] at i
   right
   exact ⟨.inr (),by simp only [Ar (by omega:¬(P.length:Int)<(P.length:Int)),cond_false],.inr ⟨rfl,i⟩⟩) (by
  rintro e (rfl | ⟨rfl,h⟩)
  .exact ⟨r,l,rfl⟩
  .exact ⟨r,k h,rfl⟩)
 rw [<-h2]
 exact h1
theorem Ar7 {n:Nat} (b:n<=4):D9 (Hr n):=by
 refine ⟨by simp [Hr]; omega,?_,?_,?_⟩
 .have h:Ig []:=by
   unfold Ig
   simp
  exact h
 .show Gg [] M3=true
  decide
 .show (List.replicate n M3).all (Gg [])=true
  rw [List.all_eq_true]
  intro t ht
  rw [List.eq_of_mem_replicate ht]
  decide
end Go.Ab
namespace Go.Ab
open Go
theorem A5k {vs:List Int} (hv:∀n∈vs,-128<=n/\n<=127) {v:Int} {t:Ah} (ht:D2 (Hr vs.length).Vars (Hr vs.length).Res v=some t):Iy (Hr vs.length) (Ft vs) ⟨3,0,[]⟩ v=true:=by
 unfold Iy
 rw [ht]
 have key:∀y:Int,-128<=y/\y<=127->Kl [] (⟨3,y,[]⟩:Ay) M3=true:=by
  intro y hy
  have h1:Gg [] M3=true:=by decide
  have h2:C6 (⟨3,y,[]⟩:Ay)=1:=by simp [C6,Dv]
  unfold Kl
  rw [h1,h2]
  unfold Fr
  simp [M3]
  omega
 have b:∃y,Dk (Ft vs) ⟨3,0,[]⟩ v=⟨3,y,[]⟩/\-128<=y/\y<=127:=by
  unfold Dk
  cases h:Ag (Ft vs) v with
  | none=>exact ⟨0,rfl,by omega,by omega⟩
  | some w=>
   unfold Ag at h
   split at h
   .have:=B7 h
    obtain ⟨y,hy,rfl⟩:=List.mem_map.1 this
    exact ⟨y,rfl,hv y hy⟩
   .cases h
 have ht':t=M3:=by
  unfold D2 at ht
  split at ht
  .cases ht; rfl
  .unfold Ag at ht
   split at ht
   .exact List.eq_of_mem_replicate (B7 ht)
   .cases ht
 obtain ⟨y,e,hy⟩:=b
 rw [e,ht']
 exact key y hy
theorem Ar8 {vs:List Int} (hv:∀n∈vs,-128<=n/\n<=127) (i:vs.length<=4) {m L:Nat} {f:A8->Rat} {R:List Aj} (j:IP (Hr vs.length) m L f R) (q:m<=1000) (s:L<=1000000) :
  ∃u,Qf (Hr vs.length) R (Ft vs) ⟨3,0,[]⟩=some (u,0)/\RB 2000000000 u/\rq u=Hk (Hr vs.length) (Dk (Ft vs) ⟨3,0,[]⟩) R:=by
 have hc:=j.can q s
 obtain ⟨r,l,k⟩:=A3f (Hr vs.length) (Ar4 i) R hc.sz (Ft vs) ⟨3,0,[]⟩ (fun w hw=>by
  obtain ⟨y,_,rfl⟩:=List.mem_map.1 hw
  simp [C6,Dv]) (by simp [C6,Dv])
 rcases k with ⟨h,_⟩ | ⟨_,h⟩
 .exact (h ⟨Ar7 i,hc.can⟩).elim
 .rcases h with ⟨h,_⟩ | ⟨_,h⟩
  .exact (h (by simp [Ft,Hr])).elim
  .rcases h with ⟨h,_⟩ | ⟨_,u,rfl,hu⟩
   .refine (h fun v b=>?_).elim
    unfold F9 at b
    rw [List.mem_flatMap] at b
    obtain ⟨t,ht,c⟩:=b
    obtain ⟨ty,g⟩:=Aqq (j.mo t ht) v c
    exact A5k hv g
   .exact ⟨u,l,hu.rb,hu.val⟩
end Go.Ab
namespace Go.Ab
open Go
theorem Ar9 (x:Bo) (E F:Be) (h:Kt x true true E F≠0):Kt x true true E F=6:=by
 unfold Kt at *
 cases h1:Dm x.Vars x.Res E with
 | false=>rfl
 | true=>
  cases h2:Dm x.Vars x.Res F with
  | false=>rfl
  | true=>rw [h1,h2] at h; exact (h rfl).elim
theorem Asa (l:Be) (h:l.Terms.length<=1000):S3 l=some l:=by
 unfold S3 S8
 rw [Dh (by simp; omega)]; rfl
theorem A5l {val:Int->Ay} {E F s:Be} (c:0<=E2 val E) (b:0<=E2 val F) (h:E2 val s=E2 val E+E2 val F):fv val s=fv val E+fv val F:=by
 unfold fv
 omega
theorem A5m {E F s:Be} (h:E.Terms.length+F.Terms.length<=12) (f:K2 E F=some (s,0)) (val:Int->Ay):Cz s=true/\E2 val s=E2 val E+E2 val F:=by
 rcases Aid E F h with ⟨_,_,L,b,i,g⟩ | ⟨_,b⟩
 .rw [f] at b
  have b:=Option.some.inj b
  unfold R8 at b
  by_cases hc:Cz ⟨E.Const+F.Const,L⟩=true
  .rw [if_pos hc] at b
   have c:s=⟨E.Const+F.Const,L⟩:=congrArg Prod.fst b
   subst c
   exact ⟨hc,A5d rfl g⟩
  .rw [if_neg hc] at b
   exact absurd (show (0:Int)=9 from congrArg Prod.snd b) (by decide)
 .rw [f] at b
  exact absurd (show (0:Int)=1 from congrArg Prod.snd (Option.some.inj b)) (by decide)
theorem A5n {E F s:Be} (h:E.Terms.length+F.Terms.length<=12) (f:Lq E F=some (s,0)) (val:Int->Ay):Cz s=true/\E2 val s=E2 val E-E2 val F:=by
 rcases Arn E F h with ⟨_,_,L,b,i,g⟩ | ⟨_,b⟩
 .rw [f] at b
  have b:=Option.some.inj b
  unfold R8 at b
  by_cases hc:Cz ⟨E.Const-F.Const,L⟩=true
  .rw [if_pos hc] at b
   have c:s=⟨E.Const-F.Const,L⟩:=congrArg Prod.fst b
   subst c
   exact ⟨hc,A5e rfl g⟩
  .rw [if_neg hc] at b
   exact absurd (show (0:Int)=9 from congrArg Prod.snd b) (by decide)
 .rw [f] at b
  exact absurd (show (0:Int)=1 from congrArg Prod.snd (Option.some.inj b)) (by decide)
theorem A5o (a:Gn) (vs:List Int) (hv:∀n∈vs,-128<=n/\n<=127):Z4 a vs=some true:=by
 unfold Z4 Z6
 rw [A4v]
 simp only [Ad,Dt,cond_false]
 by_cases y:(a.E.Terms.length:Int)<=4
 .rw [Am y,cond_true]
  by_cases x:(a.F.Terms.length:Int)<=4
  .rw [Am x]
   simp only [Ad,Dt,cond_false]
   by_cases Z:(vs.length:Int)>4
   .rw [Am Z]; rfl
   .rw [Ar Z]
    obtain ⟨b,z,v2⟩:=Aie a (by omega)
    unfold Vo
    rw [z]
    cases b with
    | false=>rfl
    | true=>
     obtain ⟨Y,X,k0,k6,hk⟩:=v2.1 rfl
     have hx:=Ar4 (n:=vs.length) (by omega)
     have l:=Ar7 (n:=vs.length) (by omega)
     have c:=A14 hx l (Ho.nil (Hr vs.length))
     simp only [Ad,Dt,cond_false,A5h vs.length (by omega)]
     obtain ⟨Kd,E,F,K⟩:=a
     have y:(E.Terms.length:Int)<=4:=y
     have x:(F.Terms.length:Int)<=4:=x
     rcases hk with ⟨M,s,k⟩ | ⟨L,s,k⟩
     .have M:Kd=1:=M
      subst M
      simp only [beq_self_eq_true,cond_true,Asa E (by omega),Asa F (by omega),Ad]
      refine Ar6 [E,F] vs (fun p hp=>?_) (by simp) hv (by omega) rfl (fun q=>?_)
      .simp only [List.mem_cons,List.not_mem_nil,or_false] at hp
       rcases hp with rfl | rfl
       .exact Y
       .exact X
      .obtain ⟨R,w,f,J,j,i,p4,I⟩:=A43 hx E F K (by omega) (by omega)
       rw [z] at j
       cases j
       rw [c] at i
       cases i
       simp only [J,Ad]
       by_cases h0:Kt (Hr vs.length) true true E F=0
       .rw [Fp h0,cond_false]
        obtain ⟨_,_,_,_,_,iE,iF,s',S,i1⟩:=I h0
        obtain ⟨g,V⟩:=A5m (by omega) S (Dk (Ft vs) ⟨3,0,[]⟩)
        refine Ar5 vs hv (by omega) ?_
        obtain ⟨u,G,D,A⟩:=Ar8 hv (by omega) i1 (by decide) (by decide)
        have N:rq u=0:=by
         rw [A]
         exact A5b hx l _ Y X g iE iF (by have:K<=6:=k6; omega) i1 (A5l (q E (by simp)) (q F (by simp)) V)
        have h:M9 u=some 0:=by
         rw [(X0 D (by decide)).2,N]; rfl
        simp only [G,Ad,bne_self_eq_false,cond_false,h,beq_self_eq_true,cond_true]
       .rw [Em h0,cond_true,Ar9 _ _ _ h0]; rfl
     .have L:Kd=2:=L
      subst L
      have k:Lq E F=some (s,0):=k
      have U:((2:Int)==1)=false:=rfl
      obtain ⟨g,V⟩:=A5n (by omega) k (Dk (Ft vs) ⟨3,0,[]⟩)
      simp only [U,cond_false,k,Ad]
      refine Ar6 [s] vs (fun p hp=>?_) (by simp) hv (by omega) rfl (fun q=>?_)
      .simp only [List.mem_singleton] at hp
       subst hp; exact g
      .obtain ⟨R,w,f,J,j,i,p4,I⟩:=A4u hx E F K (by omega) (by omega)
       rw [z] at j
       cases j
       rw [c] at i
       cases i
       simp only [J,Ad]
       by_cases h0:Kt (Hr vs.length) true true E F=0
       .rw [Fp h0,cond_false]
        obtain ⟨_,B,C,hB,hC,i1⟩:=I h0
        refine Ar5 vs hv (by omega) ?_
        obtain ⟨u,G,D,A⟩:=Ar8 hv (by omega) i1 (by decide) (by decide)
        have h1:=q s (by simp)
        have hge:0<=rq u:=by
         rw [A,IP.sub_val _ hB hC i1]
         have hb:bc (fv (Dk (Ft vs) ⟨3,0,[]⟩) F) K.toNat<=bc (fv (Dk (Ft vs) ⟨3,0,[]⟩) E) K.toNat:=A5f _ (by unfold fv; omega)
         simp only [Fy,Nat.mul_one]
         have:((bc (fv (Dk (Ft vs) ⟨3,0,[]⟩) F) K.toNat:Nat):Rat)<=((bc (fv (Dk (Ft vs) ⟨3,0,[]⟩) E) K.toNat:Nat):Rat):=by exact_mod_cast hb
         grind
        have h:M9 u=some (Jp (rq u)):=(X0 D (by decide)).2
        simp only [G,Ad,bne_self_eq_false,cond_false,h,beq_self_eq_true,cond_true]
        unfold Jp
        rw [if_neg (by grind)]
        by_cases hp:0<rq u
        .rw [if_pos hp]; rfl
        .rw [if_neg hp]; rfl
       .rw [Em h0,cond_true,Ar9 _ _ _ h0]; rfl
  .rw [Ar x]; rfl
 .rw [Ar y]; rfl
end Go.Ab
