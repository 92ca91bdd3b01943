/- Plain laws: what the plain functions answer. -/
import Derived.Test.YtidkdnlhdbbbjaaGreatDoorAzPl3
namespace Go.Ab
open Go
theorem Uz {a:Be} (h:Cv a=true):∀t∈a.Terms,-1048576<=t.Coef/\t.Coef<=1048576:=by
 intro t ht
 obtain ⟨j,hj⟩:=List.getElem?_of_mem ht
 unfold Cv at h
 rw [Dq,List.all_eq_true] at h
 have:=h.2 (t,j) (List.mk_mem_zipIdx_iff_getElem?.2 hj)
 unfold Uc at this
 simp only [Dq,decide_eq_true_eq] at this
 exact ⟨this.1.2.2.2.1,this.1.2.2.2.2⟩
theorem Alq (a b:List Ba) (h:a.length+b.length<=1000000):So [a,b]=some (a++b) :=
 Adl (B:=16) (by decide) (gr:=Wn) (fun n h=>Ado n h) a b h
def Hj (t:Ba):Ba:=⟨t.Var,-t.Coef⟩
theorem Axb (l:List Ba) (v:Int):cl (l.map Hj) v = - cl l v:=by
 induction l with
 | nil=>rfl
 | cons t l ih=>
  simp only [List.map_cons,cl,ih,Hj]
  split <;> omega
theorem Axc (ts:List Ba) (l:ts.length<=1000) (hb:∀t∈ts,-1048576<=t.Coef/\t.Coef<=1048576):Sp ts (-1)=some (ts.map Hj):=by
 unfold Sp
 have f:Oo ts=some ([],ts):=by
  unfold Oo Lh
  rw [Dm (by simp; omega)]; rfl
 rw [f,Ae]
 dsimp only
 refine Gt ts.length (fun j=>((j:Int),(ts.take j).map Hj++ts.drop j)) (by simp) ?_ ⟨ts.map Hj,?_,rfl⟩
 .intro j hj
  have hx:ts[j]? = some ts[j]:=Ck hj
  have g:=List.getElem_mem hj
  generalize ts[j]=t at hx g
  have i:=hb t g
  have e:(ts.take j).map Hj++ts.drop j=(ts.take j).map Hj++t::ts.drop (j+1):=by rw [Im hx]
  have b:((ts.take j).map Hj).length=j:=by simp; omega
  have k:Ag ((ts.take j).map Hj++ts.drop j) (j:Int)=some t:=by
   refine Cd rfl ?_
   rw [e]
   have:=Adk ((ts.take j).map Hj) (ts.drop (j+1)) t
   rwa [b] at this
  have hw:Ac (t.Coef * -1) = -t.Coef:=by rw [Ac,Bo] <;> omega
  have c:B9 ((ts.take j).map Hj++ts.drop j) (j:Int) (⟨t.Var,-t.Coef⟩:Ba)=(ts.take (j+1)).map Hj++ts.drop (j+1):=by
   rw [Ey (n:=j) rfl,e,Dr hx,List.map_append,List.append_assoc]
   have:∀(A R:List Ba) (x y:Ba),(A++x::R).set A.length y=A++y::R:=by
    intro A R x y
    induction A with
    | nil=>rfl
    | cons a A ih=>simp only [List.cons_append,List.length_cons,List.set_cons_succ,ih]
   have h:=this ((ts.take j).map Hj) (ts.drop (j+1)) t ⟨t.Var,-t.Coef⟩
   rw [b] at h
   rw [h]; rfl
  simp only [Al (by omega:(j:Int)<((ts.length:Nat):Int)),cond_true,k,Ae,Dj hj (by omega),hw,c]
 .simp
theorem Adv (a b:Be) (h:a.Terms.length+b.Terms.length<=12) :
  (Cv a=true/\Cv b=true/\∃L,J6 a b=some (Rt (a.Const+b.Const) L)/\H6 L/\∀v,cl L v=cl a.Terms v+cl b.Terms v)\/((Cv a&&Cv b)=false/\J6 a b=some (⟨0,[]⟩,1)):=by
 unfold J6
 rw [Kk,Kk]
 cases ha:Cv a with
 | false=>exact .inr ⟨rfl,rfl⟩
 | true=>
  cases hb:Cv b with
  | false=>exact .inr ⟨rfl,rfl⟩
  | true=>
   left
   have h1:=La ha
   have h2:=La hb
   obtain ⟨L,g,f,c⟩:=Alm (a.Const+b.Const) (a.Terms++b.Terms) (by simp; omega) (fun t ht=>by
    rcases List.mem_append.1 ht with ht | ht
    .have:=Uz ha t ht; omega
    .have:=Uz hb t ht; omega)
   refine ⟨rfl,rfl,L,?_,f,fun v=>by rw [c,Rs]⟩
   have w:Ac (a.Const+b.Const)=a.Const+b.Const:=by rw [Ac,Bo] <;> omega
   simp only [Ae,bnt,cond_false,Alq a.Terms b.Terms (by omega),w,g]
theorem Axd (a b:Be) (h:a.Terms.length+b.Terms.length<=12) :
  (Cv a=true/\Cv b=true/\∃L,Li a b=some (Rt (a.Const-b.Const) L)/\H6 L/\∀v,cl L v=cl a.Terms v-cl b.Terms v)\/((Cv a&&Cv b)=false/\Li a b=some (⟨0,[]⟩,1)):=by
 unfold Li
 rw [Kk,Kk]
 cases ha:Cv a with
 | false=>exact .inr ⟨rfl,rfl⟩
 | true=>
  cases hb:Cv b with
  | false=>exact .inr ⟨rfl,rfl⟩
  | true=>
   left
   have h1:=La ha
   have h2:=La hb
   obtain ⟨L,g,f,c⟩:=Alm (a.Const-b.Const) (a.Terms++b.Terms.map Hj) (by simp; omega) (fun t ht=>by
    rcases List.mem_append.1 ht with ht | ht
    .have:=Uz ha t ht; omega
    .obtain ⟨u,hu,rfl⟩:=List.mem_map.1 ht
     have:=Uz hb u hu
     show _<=-u.Coef/\-u.Coef<=_
     omega)
   refine ⟨rfl,rfl,L,?_,f,fun v=>by rw [c,Rs,Axb]; omega⟩
   have w:Ac (a.Const-b.Const)=a.Const-b.Const:=by rw [Ac,Bo] <;> omega
   simp only [Ae,bnt,cond_false,Axc b.Terms (by omega) (Uz hb),Alq a.Terms (b.Terms.map Hj) (by simp; omega),w,g]
theorem Axe (a b:Be) (c:a.Terms.length+b.Terms.length<=12):∃r,J6 a b=some r:=by
 rcases Adv a b c with ⟨_,_,L,h,_⟩ | ⟨_,h⟩ <;> exact ⟨_,h⟩
theorem Axf (a b:Be) (c:a.Terms.length+b.Terms.length<=12):∃r,Li a b=some r:=by
 rcases Axd a b c with ⟨_,_,L,h,_⟩ | ⟨_,h⟩ <;> exact ⟨_,h⟩
theorem Alr (a:Em) (j:a.E.Terms.length+a.F.Terms.length<=12):∃b,Ku a=some b/\(b=true↔Cv a.E=true/\Cv a.F=true/\0<=a.K/\a.K<=6/\((a.Kind=1/\∃s,J6 a.E a.F=some (s,0))\/(a.Kind=2/\∃s,Li a.E a.F=some (s,0)))):=by
 obtain ⟨r,l⟩:=Axe a.E a.F j
 obtain ⟨q,hq⟩:=Axf a.E a.F j
 unfold Ku
 rw [Kk,Kk,l,hq]
 cases x:Cv a.E with
 | false=>exact ⟨false,rfl,by simp⟩
 | true=>
  cases u:Cv a.F with
  | false=>exact ⟨false,rfl,by simp⟩
  | true=>
   simp only [Ae,bnt,cond_false]
   by_cases h0:0<=a.K
   .rw [Ar (by omega)]
    by_cases k:a.K<=6
    .rw [Ar (by omega)]
     simp only [cond_false,Ae]
     by_cases f:a.Kind=1
     .rw [Ez f,cond_true]
      refine ⟨_,rfl,?_⟩
      constructor
      .intro h
       have h:=of_decide_eq_true (by simpa using h:decide (r.2=0)=true)
       exact ⟨trivial,trivial,h0,k,.inl ⟨f,r.1,by rw [<-h]⟩⟩
      .rintro ⟨_,_,_,_,⟨_,s,i⟩ | ⟨c,_⟩⟩
       .cases i; rfl
       .omega
     .rw [Cu f,cond_false]
      by_cases c:a.Kind=2
      .rw [Ez c,cond_true]
       refine ⟨_,rfl,?_⟩
       constructor
       .intro h
        have h:=of_decide_eq_true (by simpa using h:decide (q.2=0)=true)
        exact ⟨trivial,trivial,h0,k,.inr ⟨c,q.1,by rw [<-h]⟩⟩
       .rintro ⟨_,_,_,_,⟨g,_⟩ | ⟨_,s,i⟩⟩
        .exact (f g).elim
        .cases i; rfl
      .rw [Cu c,cond_false]
       exact ⟨false,rfl,by simp [f,c]⟩
    .rw [Al (by omega)]
     exact ⟨false,rfl,by simp; omega⟩
   .rw [Al (by omega)]
    exact ⟨false,rfl,by simp; omega⟩
noncomputable def Jc (x:Bx) (v f:Bool) (E F:Be):Int:=bif !(v&&f) then 1 else bif !(C9 x.Vars x.Res E&&C9 x.Vars x.Res F) then 6 else 0
theorem Als {x:Bx} (b:CSz x) (E F:Be) (K:Int) (U:E.Terms.length<=6) (S:F.Terms.length<=6) :
  ∃R v f,J5 x ⟨2,E,F,K⟩=some (R,Jc x v f E F)/\Ku ⟨2,E,F,K⟩=some v/\Nt x []=some f/\(Jc x v f E F≠0->R = []) /\
   (Jc x v f E F=0->Fc x/\∃B C,IsE [⟨E,K⟩] B/\IsE [⟨F,K⟩] C/\IP x 128 200001 (fun m=>(ec B m:Rat)-(ec C m:Rat)) R):=by
 obtain ⟨v,i,v2⟩:=Alr ⟨2,E,F,K⟩ (by show E.Terms.length+F.Terms.length<=12; omega)
 obtain ⟨f,f1,f2⟩:=Ajq x b [] (fun t ht=>by cases ht)
 have M:=b.nv
 have q:=Y4 x E (by omega) (by omega)
 have j:=Y4 x F (by omega) (by omega)
 unfold J5
 rw [i,f1,q,j]
 unfold Jc
 cases v with
 | false=>exact ⟨[],false,f,rfl,rfl,rfl,fun _=>rfl,fun h=>absurd (show (1:Int)=0 from h) (by decide)⟩
 | true=>
  cases f with
  | false=>exact ⟨[],true,false,rfl,rfl,rfl,fun _=>rfl,fun h=>absurd (show (1:Int)=0 from h) (by decide)⟩
  | true=>
   cases N:C9 x.Vars x.Res E with
   | false=>exact ⟨[],true,true,rfl,rfl,rfl,fun _=>rfl,fun h=>absurd (show (6:Int)=0 from h) (by decide)⟩
   | true=>
    cases hj:C9 x.Vars x.Res F with
    | false=>exact ⟨[],true,true,rfl,rfl,rfl,fun _=>rfl,fun h=>absurd (show (6:Int)=0 from h) (by decide)⟩
    | true=>
     obtain ⟨L,J,k0,g,_⟩:=v2.1 rfl
     have c:=(f2.1 rfl).1
     obtain ⟨P,B,I,G,D⟩:=Alp b c (l:=E) (k:=K) L k0 g N
     obtain ⟨Q,C,A,z,y⟩:=Alp b c (l:=F) (k:=K) J k0 g hj
     obtain ⟨R,u,s⟩:=All b c D y (by decide) (by decide)
     refine ⟨R,true,true,?_,rfl,rfl,fun h=>absurd rfl h,fun _=>⟨c,B,C,G,z,s⟩⟩
     simp only [bnt,Ae,cond_false,Bool.and_self,beq_self_eq_true,cond_true]
     unfold Wi
     simp only [I,A,u,Ae,bne_self_eq_false,cond_false]
end Go.Ab
namespace Go.Ab
open Go
theorem Axg:Wg=some true:=by kernel_rfl
end Go.Ab
namespace Go.Ab
open Go
theorem Axh {x:Bx} {P:Bf->Prop} (g:∀m,P m->Gi x m) {k:Nat} {ts:List Aj} (h:Col k P ts) (hk:k<34359738000) (s:ts.length<=1000) (u:∀m,∃z:Int,cf ts m=(z:Rat)):∃R,Iz (plc ts) ts=some (R,0)/\IP x ts.length (k+2) (cf ts) R/\∀t∈R,P t.Mono:=by
 obtain ⟨R,l,c,f,b,j⟩:=Adc (P:=P) (fun m h=>(g m h).cmo) (plc ts) ts h (by omega) s (fun i _ h2 h3=>Adg i h2 h3)
 refine ⟨R,l,⟨c,f,fun t ht=>g _ (b t ht).1,j,fun t ht=>?_⟩,fun t ht=>(b t ht).1⟩
 obtain ⟨z,q⟩:=u t.Mono
 have e:rq t.Coef=(z:Rat):=by rw [<-Yk c ht,f,q]
 exact ⟨z,e,Alj (c.coe t ht).1 e (b t ht).2⟩
def NoF (x:Bx) (D:Nat) (m:Bf):Prop:=Gi x m/\m.Factors = []/\Cf m.Atoms<=(D:Nat)
theorem NoF.mono {x:Bx} {D D':Nat} {m:Bf} (h:NoF x D m) (hd:D<=D'):NoF x D' m:=⟨h.1,h.2.1,by have:=h.2.2; omega⟩
theorem IsE.noF {x:Bx} {A:List A3} {B:List Ent} (h:IsE A B) (g:Atk A) (f:∀a∈A,C9 x.Vars x.Res a.Lin=true) (j:Ci A<=6):∀b∈B,NoF x (Ci A) ⟨[],b.1⟩:=by
 intro b hb
 refine ⟨h.good g f j b hb,rfl,?_⟩
 obtain ⟨gs,l,c,k,i,rfl⟩:=h
 obtain ⟨h1,h2⟩:=Alh (vars:=x.Vars) (res:=x.Res) i (fun a ha=>⟨g.lin a (c.mem_iff.1 ha),f a (c.mem_iff.1 ha)⟩) [([],1)] 0 (fun b hb=>by
  simp only [List.mem_singleton] at hb
  subst hb
  exact ⟨⟨List.Pairwise.nil,fun _ h=>by cases h⟩,by simp [Cf],fun _ h=>by cases h⟩) b hb
 rw [Uu c] at h2
 show Cf b.1<=_
 omega
theorem Axi {x:Bx} {A:List A3} (E:Atk A) (D:Ci A<=6) (U:∀a∈A,C9 x.Vars x.Res a.Lin=true) (b1:List (ByteArray×Int)) (b2:List (ByteArray×List Db)) (y u:Int) (s:List Ai) :
  ∃R B,Nx ⟨[],A⟩ b1 b2 x.Data x.Vars y u s=some (R,0)/\IsE A B/\IP x B.length (2429+B.length*2430) (fun m=>(ec B m:Rat)) R/\∀t∈R,NoF x (Ci A) t.Mono:=by
 have f:rq (cR 1)=1:=by rw [Rn]; rfl
 obtain ⟨out,B,X,G,j,V⟩:=Adq (c:=cR 1) (K:=3) (A:=A) ((Adf (k:=1) (by rw [M4]; decide) (by decide)).mono (by decide)) (by decide) (by rw [f]; decide) E b1 b2 x.Data x.Vars y u s
 have N:out.length<=64:=Nat.le_trans V (Nat.le_trans (Nat.pow_le_pow_right (by decide) D) (by decide))
 have S:=G.noF E U D
 obtain ⟨v,J,v2,v3,v4⟩:=Uk (k0:=2427) (k:=2427) (P:=NoF x (Ci A)) (fun m h=>h.1.cmo) out [] (Col.nil _ _) (fun t ht=>by
  obtain ⟨b,hb,q,_,l⟩:=j.mem ht
  exact ⟨l,by rw [q]; exact S b hb⟩) (Nat.le_refl _) (by omega) (by simp; omega)
 simp at v3
 have i:∀m,cf v m=1*(ec B m:Rat):=fun m=>by rw [v4,j.cf,f]; simp only [cf]; grind
 obtain ⟨R,M,g,L⟩:=Axh (x:=x) (P:=NoF x (Ci A)) (fun m h=>h.1) v2 (by omega) (by omega) (fun m=>by rw [i]; exact Aln)
 refine ⟨R,B,?_,G,⟨g.cp,fun m=>by rw [g.val,i]; grind,g.mo,by have:=g.len; have:=j.len; omega,fun t ht=>by
  obtain ⟨z,I,z2⟩:=g.int t ht
  exact ⟨z,I,by rw [<-j.len]; omega⟩⟩,L⟩
 unfold Nx
 rw [Un,Ae,X,Ae]
 simp only [bne_self_eq_false,cond_false,Iy,Ae]
 rw [show H9 out [] []=some (plc v,v) from J,Ae,M]; rfl
theorem Gs.nil_of {c:List Grp} {A:List A3} (h:Gs c A):A = []->c = []:=by
 cases h with
 | nil=>exact fun _=>rfl
 | cons b _ _ _ _=>exact fun e=>absurd (List.append_eq_nil_iff.1 e).1 b
theorem IsE.one {a:A3} {B:List Ent} (h:IsE [a] B):B.length<=1:=by
 obtain ⟨gs,I,y,J,q,rfl⟩:=h
 have G:I = [a]:=List.perm_singleton.1 y
 rw [G] at q
 generalize c:[a]=X at q
 cases q with
 | nil=>cases c
 | @cons l N f g rest gs s R L A E=>
  have M:g.length+rest.length=1:=by
   have:=congrArg List.length c
   simpa using this.symm
  have z:g.length=1:=by
   have:=List.length_pos_iff.2 s
   have:rest.length≠1\/g.length=0:=by omega
   omega
  have b:rest = []:=List.length_eq_zero_iff.1 (by omega)
  subst b
  rw [List.append_nil] at c
  subst c
  have x:=E.nil_of rfl
  subst x
  .show (Fe [([],1)] l f (N+1)).length<=1
   have key:∀n,(∀i j,i<n->j<n->f i≠0->f j≠0->i=j)->(Fe [(([],1):Ent)] l f n).length<=1/\((Fe [(([],1):Ent)] l f n).length=1->∃i,i<n/\f i≠0):=by
    intro n
    induction n with
    | zero=>intro _; simp [Fe]
    | succ n ih=>
     intro h
     obtain ⟨i1,i2⟩:=ih fun i j u hj=>h i j (by omega) (by omega)
     rw [O9,List.length_append]
     by_cases h0:f n=0
     .rw [if_pos h0]
      refine ⟨by simpa using i1,fun e=>?_⟩
      obtain ⟨i,a1,a2⟩:=i2 (by simpa using e)
      exact ⟨i,by omega,a2⟩
     .rw [if_neg h0]
      have:(Fe [(([],1):Ent)] l f n).length≠1:=fun e=>by
       obtain ⟨i,a1,a2⟩:=i2 e
       have:=h i n (by omega) (by omega) a2 h0
       omega
      refine ⟨by simp only [List.length_map,List.length_singleton]; omega,fun _=>⟨n,by omega,h0⟩⟩
   refine (key (N+1) ?_).1
   rcases A with ⟨_,h2⟩ | ⟨_,h2,_⟩
   .have e:∀k,k<N+1->f k=if k=N then 1 else 0:=by
     refine Ak3 fun n _=>?_
     rw [h2.2.2 n]
     have D:N=a.Deg.toNat:=by have:=h2.1; simpa [Ci] using this
     rw [Adj (k:=N) (by omega) (fun j hj=>by simp [hj])]
     simp [prb,D]
    intro i j u hj h1 h2
    rw [e i u] at h1
    rw [e j hj] at h2
    split at h1
    .split at h2
     .omega
     .exact (h2 rfl).elim
    .exact (h1 rfl).elim
   .intro i j u hj _ _
    omega
theorem Adw {x:Bx} (s:CSz x) (u:Fc x) {l:Be} {k:Int} (f:Cv l=true) (h0:0<=k) (y:k<=6) (g:C9 x.Vars x.Res l=true) :
  ∃R B,I0 x l k=some (R,0)/\IsE [⟨l,k⟩] B/\IP x 1 4900 (fun m=>(ec B m:Rat)) R/\∀t∈R,NoF x k.toNat t.Mono:=by
 obtain ⟨h,hb,_⟩:=Akw s (ps:=[]) (fun p hp=>by cases hp) (by simp) ⟨u,fun p hp=>by cases hp⟩
 obtain ⟨a1,a2⟩:=Alo f h0 y
 obtain ⟨R,B,q,c,b,j⟩:=Axi (x:=x) a1 a2 (fun a ha=>by simp only [List.mem_singleton] at ha; subst ha; exact g) h [] x.Res.Kind x.Res.Num x.Res.Args
 refine ⟨R,B,?_,c,⟨b.cp,b.val,b.mo,Nat.le_trans b.len c.one,fun t ht=>by
  obtain ⟨z,i,z2⟩:=b.int t ht
  have:=c.one
  exact ⟨z,i,by omega⟩⟩,fun t ht=>(j t ht).mono (by simp [Ci])⟩
 unfold I0
 rw [hb]
 simp only [Ae,bnt,cond_false,Kk,f,Ar (by omega:¬k<0),Ar (by omega:¬k>6)]
 rw [Acr h [] x.Data x.Vars x.Res l (by have:=(La f).1; omega),Ae,g]
 simp only [bnt,cond_false,q,Ae]
end Go.Ab
namespace Go.Ab
open Go
theorem Adx {l:List A3} (h:∀a∈l,1<=a.Deg):0<=Cf l:=by
 induction l with
 | nil=>simp [Cf]
 | cons a l ih=>
  have h1:=h a (by simp)
  have h2:=ih fun b hb=>h b (by simp [hb])
  unfold Cf at *
  simp only [List.map_cons,List.sum_cons]; omega
theorem Alt {l:List A3} (h:∀a∈l,1<=a.Deg) (j:Nat):0<=Cf (l.take j)/\Cf (l.take j)<=Cf l:=by
 refine ⟨Adx fun a ha=>h a (List.mem_of_mem_take ha),?_⟩
 have e:=Y2 (l.take j) (l.drop j)
 rw [List.take_append_drop] at e
 have:=Adx (l:=l.drop j) fun a ha=>h a (List.mem_of_mem_drop ha)
 omega
theorem Axj {x:Bx} {D:Nat} {m:Bf} (h:NoF x D m) (s:D<=6) (b1:List (ByteArray×Int)) (b2:List (ByteArray×List Db)) (data:List Ay) (vars:List Ai) (l k:Int) (i:List Ai) :
  Ms m b1 b2 data vars l k i=some (Cf m.Atoms,b1):=by
 obtain ⟨h1,h2,h3⟩:=h
 have f:=h1.cmo
 have hd:∀a∈m.Atoms,1<=a.Deg:=fun a ha=>(f.al a ha).2.2.1
 have q:=f.na
 unfold Ms
 rw [h2]
 refine bnd (a:=(0,b1)) (Ea (by simp)) ?_
 dsimp only
 refine Gt m.Atoms.length (fun j=>(Cf (m.Atoms.take j),(j:Int))) (by simp [Cf]) ?_ ⟨Cf m.Atoms,?_,rfl⟩
 .intro j hj
  have hx:m.Atoms[j]? = some m.Atoms[j]:=Ck hj
  have b:=List.getElem_mem hj
  generalize m.Atoms[j]=a at hx b
  have ha:=f.al a b
  have ht:=Alt hd j
  have c:=Alt hd (j+1)
  rw [Dr hx,Y2] at c
  have g:Cf [a]=a.Deg:=by simp [Cf]
  rw [g] at c
  have e:(if (7:Int)<a.Deg then 7 else a.Deg)=a.Deg:=if_neg (by omega)
  have w:Ac (Cf (m.Atoms.take j)+a.Deg)=Cf (m.Atoms.take j)+a.Deg:=by rw [Ac,Bo] <;> omega
  simp only [Al (by omega:(j:Int)<(m.Atoms.length:Int)),cond_true,Cd rfl hx,Ae,Al (by omega:Cf (m.Atoms.take j)<=6),e,w,Dj hj (by omega),Dr hx,Y2,g]
 .simp only [Ar (by omega:¬(m.Atoms.length:Int)<(m.Atoms.length:Int)),cond_false,List.take_length]
theorem Alu {x:Bx} {D:Nat} {t:Aj} (h:NoF x D t.Mono) (l:D<=6) (b1:List (ByteArray×Int)) (b2:List (ByteArray×List Db)) (data:List Ay) (vars:List Ai) (i g:Int) (f:List Ai) :
  ∃G,Qa [t] b1 b2 data vars i g f=some (G,b1)/\0<=G/\G<=(D:Int):=by
 have hd:∀a∈t.Mono.Atoms,1<=a.Deg:=fun a ha=>(h.1.cmo.al a ha).2.2.1
 have h0:=Adx hd
 have c:=h.2.2
 refine ⟨Cf t.Mono.Atoms,?_,h0,c⟩
 unfold Qa
 have i0:Ag [t] 0=some t:=rfl
 have k:Ac (0+1)=1:=by rw [Ac,Bo] <;> omega
 refine Gt 1 (fun j=>if j=0 then (0,0,b1) else (Cf t.Mono.Atoms,1,b1)) rfl ?_ ⟨(Cf t.Mono.Atoms,b1),?_,rfl⟩
 .intro j hj
  have:j=0:=by omega
  subst this
  have e:(if Cf t.Mono.Atoms>0 then Cf t.Mono.Atoms else 0)=Cf t.Mono.Atoms:=by split <;> omega
  have b:=Axj h l b1 b2 data vars i g f
  simp only [if_true,List.length_singleton,i0,Ae,b,e,k]
  rfl
 .rfl
noncomputable def eB (A:List A3):List Ent:=open Classical in if h:∃B,IsE A B then Classical.choose h else []
theorem Y5 {A:List A3} {B:List Ent} (h:IsE A B):eB A=B:=by
 unfold eB
 rw [dif_pos ⟨B,h⟩]
 exact (Classical.choose_spec (⟨B,h⟩:∃B,IsE A B)).det h (List.Perm.refl _)
noncomputable def U1:List Aj->List Aj->Bf->Rat
 | t::_,u::_,m=>rq t.Coef*rq u.Coef*(ec (eB (t.Mono.Atoms++u.Mono.Atoms)) m:Rat)
 | _,_,_=>0
theorem Alv {x:Bx} {D:Nat} {m:Bf} (h:NoF x D m) (g:D<=6):Atk m.Atoms/\Ci m.Atoms<=D/\(∀a∈m.Atoms,C9 x.Vars x.Res a.Lin=true)/\m.Atoms.length<=D:=by
 have c:=h.1.cmo
 have hd:∀l:List A3,(∀a∈l,1<=a.Deg)->(Ci l:Int)=Cf l/\(l.length:Int)<=Cf l:=by
  intro l
  induction l with
  | nil=>intro _; simp [Ci,Cf]
  | cons a l ih=>
   intro h
   have h1:=h a (by simp)
   obtain ⟨h2,h3⟩:=ih fun b hb=>h b (by simp [hb])
   unfold Cf at *
   simp only [Ci,List.map_cons,List.sum_cons,List.length_cons]; omega
 have f:=hd m.Atoms fun a ha=>(c.al a ha).2.2.1
 have h3:=h.2.2
 refine ⟨⟨fun a ha=>by have:=(c.al a ha).2.2.1; omega,fun a ha=>(c.al a ha).1,by omega,by omega⟩,by omega,fun a ha=>?_,by omega⟩
 have hc:=h.1.1
 unfold Ip at hc
 simp only [Dq,List.all_eq_true] at hc
 obtain ⟨j,hj⟩:=List.getElem?_of_mem ha
 have:=hc.1.2 (a,j) (List.mk_mem_zipIdx_iff_getElem?.2 hj)
 unfold L2 at this
 simp only [Dq] at this
 exact this.1.2
end Go.Ab
namespace Go.Ab
open Go
theorem Alw {α:Type} {l:List α} (h:l.length<=1):l = []\/∃a,l = [a]:=by
 cases l with
 | nil=>exact .inl rfl
 | cons a l=>
  cases l with
  | nil=>exact .inr ⟨a,rfl⟩
  | cons b l=>simp at h
theorem Ady (x:Bx) (n L:Nat) (f:Bf->Rat) (b:∀m,f m=0):IP x n L f [] :=
 ⟨CP.nil,fun m=>(b m).symm,fun _ h=>(by cases h),by simp,fun _ h=>(by cases h)⟩
theorem Axk {x:Bx} (hz:CSz x) (hf:Fc x) {D D':Nat} (hD:D+D'<=6) {f g:Bf->Rat} {p q:List Aj} (hp:IP x 1 4900 f p) (hq:IP x 1 4900 g q) (np:∀t∈p,NoF x D t.Mono) (nq:∀t∈q,NoF x D' t.Mono) :
  ∃R,Ny x p q=some (R,0)/\IP x 64 900000 (U1 p q) R:=by
 obtain ⟨X,hb⟩:=Aks hz hf (hp.can (by decide) (by decide)) (hq.can (by decide) (by decide))
 have l:Iz [] []=some ([],0):=by
  obtain ⟨R,s,j⟩:=Adu (x:=x) (k:=0) (Col.nil 0 _) (by decide) (by simp) (fun m=>⟨0,rfl⟩)
  have:R = []:=List.length_eq_zero_iff.1 (by have:=j.len; simpa using this)
  rw [this] at s
  exact s
 have A:Ac (0+1)=1:=by rw [Ac,Bo] <;> omega
 rcases Alw hp.len with rfl | ⟨t,rfl⟩
 .refine ⟨[],?_,Ady x _ _ _ fun m=>by cases q <;> rfl⟩
  unfold Ny
  rw [hb]
  simp only [Ae,bnt,cond_false,List.length_nil,Iy]
  rw [Ar (by decide),cond_false]
  simp only [Ae,cond_false]
  refine bnd (a:=.inr ([],[])) (Ea (by rfl)) ?_
  simp only [l,Ae]
 .have ht:=np t (by simp)
  have J:=Alu ht (by omega) X [] x.Data x.Vars x.Res.Kind x.Res.Num x.Res.Args
  obtain ⟨G,g1,g2,g3⟩:=J
  have it:Ag [t] 0=some t:=rfl
  rcases Alw hq.len with rfl | ⟨u,rfl⟩
  .refine ⟨[],?_,Ady x _ _ _ fun m=>rfl⟩
   unfold Ny
   rw [hb]
   simp only [Ae,bnt,cond_false,List.length_nil,List.length_singleton,Iy]
   rw [Al (by decide),Ar (by decide),cond_true,cond_false]
   simp only [Ae,cond_false]
   refine bnd (a:=.inr ([],[])) ?_ (by simp only [l,Ae])
   refine (Hc (s':=(1,[],[])) ?_).trans (Ea ?_)
   .simp only [it,Ae]
    rw [Al (by decide),cond_true]
    refine bnd (a:=.inr (0,[],[])) (Ea (by rfl)) ?_
    simp only [A]
   .rfl
  .have hu:=nq u (by simp)
   obtain ⟨G',U,a8,a7⟩:=Alu hu (by omega) X [] x.Data x.Vars x.Res.Kind x.Res.Num x.Res.Args
   have iu:Ag [u] 0=some u:=rfl
   obtain ⟨a1,a2,a3,a4⟩:=Alv ht (by omega)
   obtain ⟨c1,c2,c3,c4⟩:=Alv hu (by omega)
   obtain ⟨y,Z,y2⟩:=hp.int t (by simp)
   obtain ⟨z,Y,z2⟩:=hq.int u (by simp)
   have I:=Ads (hp.cp.coe t (by simp)).1 Z y2
   have E:=Ads (hq.cp.coe u (by simp)).1 Y z2
   obtain ⟨c,m1,m2,m3,m4⟩:=Acu I E (by decide) (by decide)
   have hA:Atk (t.Mono.Atoms++u.Mono.Atoms):=⟨fun a ha=>by
    rcases List.mem_append.1 ha with h | h
    .exact a1.deg a h
    .exact c1.deg a h,fun a ha=>by
    rcases List.mem_append.1 ha with h | h
    .exact a1.lin a h
    .exact c1.lin a h,by rw [L6]; omega,by rw [List.length_append]; omega⟩
   have hs:Ci (t.Mono.Atoms++u.Mono.Atoms)<=6:=by rw [L6]; omega
   have hi:∀a∈t.Mono.Atoms++u.Mono.Atoms,C9 x.Vars x.Res a.Lin=true:=fun a ha=>by
    rcases List.mem_append.1 ha with h | h
    .exact a3 a h
    .exact c3 a h
   have M:rq c≠0:=by
    rw [m4]
    exact fun h=>by
     rcases Rat.mul_eq_zero.1 h with h | h
     .exact (hp.cp.coe t (by simp)).2 h
     .exact (hq.cp.coe u (by simp)).2 h
   obtain ⟨out,B,e1,e2,V,e4⟩:=Adq (c:=c) (K:=9804) (m2.mono (by decide)) (by decide) M hA X [] x.Data x.Vars x.Res.Kind x.Res.Num x.Res.Args
   have a6:out.length<=64:=Nat.le_trans e4 (Nat.le_trans (Nat.pow_le_pow_right (by decide) hs) (by decide))
   have hm:=e2.good (x:=x) hA hi hs
   obtain ⟨v,v1,v2,v3,v4⟩:=Uk (k0:=12228) (k:=12228) (P:=Gi x) (fun m h=>h.cmo) out [] (Col.nil _ _) (fun w hw=>by
    obtain ⟨b,hb,S,_,N⟩:=V.mem hw
    exact ⟨N,by rw [S]; exact hm b hb⟩) (Nat.le_refl _) (by omega) (by simp; omega)
   simp at v3
   have L:∀m,cf v m=U1 [t] [u] m:=fun m=>by
    rw [v4,V.cf,m4]
    show cf [] m+_=rq t.Coef*rq u.Coef*(ec (eB (t.Mono.Atoms++u.Mono.Atoms)) m:Rat)
    rw [Y5 e2]
    simp only [cf]; grind
   obtain ⟨R,s,j⟩:=Adu (x:=x) v2 (by omega) (by omega) (fun m=>by
    rw [v4,V.cf,m4,Z,Y]
    exact ⟨y*z*(ec B m:Int),by rw [Rat.intCast_mul,Rat.intCast_mul,Rat.intCast_natCast]; simp only [cf]; grind⟩)
   refine ⟨R,?_,⟨j.cp,fun m=>by rw [j.val,L],j.mo,by have:=j.len; omega,fun w hw=>by
    obtain ⟨i,i1,i2⟩:=j.int w hw
    exact ⟨i,i1,by omega⟩⟩⟩
   have hj:Mq t.Mono u.Mono=some ⟨[],t.Mono.Atoms++u.Mono.Atoms⟩:=by
    rw [Ald _ _ (by rw [ht.2.1,hu.2.1]; simp) (by omega),ht.2.1,hu.2.1]; rfl
   have wG:Ac (G+G')=G+G':=by rw [Ac,Bo] <;> omega
   unfold Ny
   rw [hb]
   simp only [Ae,bnt,cond_false,List.length_singleton,Iy]
   rw [Al (by decide),cond_true,cond_true,g1,Ae,U,Ae,wG,Ar (by omega)]
   simp only [Ae,cond_false]
   refine bnd (a:=.inr (plc v,v)) ?_ (by simp only [s,Ae])
   refine (Hc (s':=(1,plc v,v)) ?_).trans (Ea ?_)
   .simp only [it,Ae]
    rw [Al (by decide),cond_true]
    refine bnd (a:=.inr (1,plc v,v)) ?_ (by simp only [A])
    refine (Hc (s':=(1,plc v,v)) ?_).trans (Ea ?_)
    .simp only [iu,Ae,m1,hj,e1]
     rw [Al (by decide),cond_true]
     simp only [bne_self_eq_false,cond_false]
     rw [show H9 out [] []=some (plc v,v) from v1]
     simp only [Ae,A]
    .rfl
   .rfl
end Go.Ab
namespace Go.Ab
open Go
def sq:Nat->(Nat->Rat)->Rat
 | 0,_=>0
 | n+1,f=>sq n f+f n
theorem IP.up {x:Bx} {n b L L':Nat} {f g:Bf->Rat} {R:List Aj} (h:IP x n L f R) (i:n<=b) (j:L<=L') (e:∀m,f m=g m):IP x b L' g R :=
 ⟨h.cp,fun m=>by rw [h.val,e],h.mo,Nat.le_trans h.len i,fun t ht=>by
  obtain ⟨z,c,z2⟩:=h.int t ht
  exact ⟨z,c,by omega⟩⟩
noncomputable def aP (x:Bx) (l:Be) (k:Int):List Aj:=match I0 x l k with | some r=>r.1 | none=>[]
theorem Adz {x:Bx} (h:CSz x) (q:Fc x) {l:Be} {k:Int} (i:Cv l=true) (h0:0<=k) (s:k<=6) (j:C9 x.Vars x.Res l=true) :
  I0 x l k=some (aP x l k,0)/\IP x 1 4900 (fun m=>(ec (eB [⟨l,k⟩]) m:Rat)) (aP x l k)/\∀t∈aP x l k,NoF x k.toNat t.Mono:=by
 obtain ⟨R,B,b,g,f,c⟩:=Adw h q i h0 s j
 have e:aP x l k=R:=by unfold aP; rw [b]
 rw [e,Y5 g]
 exact ⟨b,f,c⟩
noncomputable def shF (x:Bx) (E F s:Be) (K:Nat) (m:Bf):Rat:=(ec (eB [⟨s,(K:Int)⟩]) m:Rat)-sq (K+1) fun j=>U1 (aP x E (j:Int)) (aP x F ((K-j:Nat):Int)) m
theorem Axl {x:Bx} (b:CSz x) (c:Fc x) {E F:Be} {K j:Nat} (s:Cv E=true) (q:Cv F=true) (i:C9 x.Vars x.Res E=true) (h:C9 x.Vars x.Res F=true) (y:K<=6) (hj:j<=K) :
  ∃R,Pz x ⟨1,E,F,(K:Int)⟩ (j:Int)=some (R,0)/\IP x 64 900000 (U1 (aP x E (j:Int)) (aP x F ((K-j:Nat):Int))) R:=by
 obtain ⟨a1,a2,a3⟩:=Adz b c (l:=E) (k:=(j:Int)) s (by omega) (by omega) i
 obtain ⟨b1,b2,u⟩:=Adz b c (l:=F) (k:=((K-j:Nat):Int)) q (by omega) (by omega) h
 obtain ⟨R,g,f⟩:=Axk b c (D:=j) (D':=K-j) (by omega) a2 b2 (fun t ht=>(a3 t ht).mono (by omega)) (fun t ht=>(u t ht).mono (by omega))
 refine ⟨R,?_,f⟩
 have w:Ac ((K:Int)-(j:Int))=((K-j:Nat):Int):=by rw [Ac,Bo] <;> omega
 unfold Pz
 simp only [a1,Ae,bne_self_eq_false,cond_false,w,b1,g]
theorem Alx {l:List Ba} {v:Int} (h:cl l v≠0):∃t∈l,t.Var=v:=by
 rcases Classical.em (∃t∈l,t.Var=v) with h' | h'
 .exact h'
 .exact (h (Nb fun t ht e=>h' ⟨t,ht,e⟩)).elim
theorem H6.cl {L:List Ba} (h:H6 L) {t:Ba} (ht:t∈L):Ab.cl L t.Var=t.Coef:=by
 induction L with
 | nil=>cases ht
 | cons s L ih=>
  simp only [Ab.cl]
  rcases List.mem_cons.1 ht with rfl | ht'
  .rw [if_pos rfl,Nb fun u hu=>by have:=(List.pairwise_cons.1 h.srt).1 u hu; omega]; omega
  .have:=(List.pairwise_cons.1 h.srt).1 t ht'
   rw [if_neg (by omega),ih ⟨(List.pairwise_cons.1 h.srt).2,fun u hu=>h.nz u (by simp [hu])⟩ ht']; omega
theorem Aly {vars:List Ai} {res:Ai} {a b s:Be} (c:H6 s.Terms) (h:∀v,cl s.Terms v=cl a.Terms v+cl b.Terms v) (ha:C9 vars res a=true) (hb:C9 vars res b=true):C9 vars res s=true:=by
 unfold C9 at *
 rw [List.all_eq_true] at *
 intro t ht
 have h1:=c.cl ht
 rw [h] at h1
 have h2:=c.nz t ht
 have key:∀u:Ba,u.Var=t.Var->Jb vars res u=true->Jb vars res t=true:=fun u e hu=>by unfold Jb at *; rw [<-e]; exact hu
 by_cases h3:cl a.Terms t.Var=0
 .obtain ⟨u,hu,e⟩:=Alx (l:=b.Terms) (v:=t.Var) (by omega)
  exact key u e (hb u hu)
 .obtain ⟨u,hu,e⟩:=Alx h3
  exact key u e (ha u hu)
theorem Axm {x:Bx} (A:CSz x) (B:Fc x) {E F s:Be} {K:Nat} (hE:Cv E=true) (hF:Cv F=true) (Y:C9 x.Vars x.Res E=true) (X:C9 x.Vars x.Res F=true) (hK:K<=6) (Z:J6 E F=some (s,0)) (U:Cv s=true) (V:C9 x.Vars x.Res s=true) :
  ∃R,Sh x ⟨1,E,F,(K:Int)⟩=some (R,0)/\IP x 500 900010 (shF x E F s K) R:=by
 obtain ⟨a1,a2,a3⟩:=Adz A B (l:=s) (k:=(K:Int)) U (by omega) (by omega) V
 unfold Sh
 simp only [Z,Ae,bne_self_eq_false,cond_false,a1]
 obtain ⟨r,L,I⟩:=Ew (J:=fun (z:Int×List Aj)=>match z with | (i,u)=>bif (i != (0:Int)) then some (([]:List Aj),i) else some (u,0)) (Q:=fun r=>∃R,r=(R,(0:Int))/\IP x 500 900010 (shF x E F s K) R)
  (step:=fun (z:Int×List Aj×Int)=>match z with
   | (v9,f,b)=>
    (show Option Bool from
    bif (decide (b<=(K:Int))) then (
    some (v9==(0:Int))
    )
    else (
    some false
    )
    ).bind fun v12=>
    bif v12 then (
    (Pz x ⟨1,E,F,(K:Int)⟩ b).bind fun c=>
    bif (c.2==(0:Int)) then (
    (Ml x f c.1).bind fun q=>
    some (.inl (q.2,q.1,(Ac (b+1))))
    )
    else (
    some (.inl (c.2,f,(Ac (b+1))))
    )
    )
    else (
    some (.inr (v9,f))
    )) (s:=(0,aP x s (K:Int),0))
  (fun y=>∃(j:Nat) (R:List Aj),y=(0,R,(j:Int))/\j<=K+1/\IP x (1+64*j) (900000+j) (fun m=>(ec (eB [⟨s,(K:Int)⟩]) m:Rat)-sq j fun j=>U1 (aP x E (j:Int)) (aP x F ((K-j:Nat):Int)) m) R) (fun y=>K+1-y.2.2.toNat)
  (fun e=>∃R,e=(0,R)/\IP x 500 900010 (shF x E F s K) R)
  ⟨0,_,rfl,by omega,a2.up (by omega) (by omega) fun m=>by simp only [sq]; grind⟩ (by
  rintro _ ⟨j,R,rfl,hj,g⟩
  rcases Nat.lt_or_ge j (K+1) with h | h
  .left
   obtain ⟨P,N,M⟩:=Axl A B hE hF Y X hK (by omega:j<=K)
   obtain ⟨S,G,D⟩:=All A B g (M.up (L':=900000+j) (Nat.le_refl _) (by omega) fun _=>rfl) (by omega) (by omega)
   refine ⟨(0,S,((j+1:Nat):Int)),?_,⟨j+1,S,rfl,by omega,D.up (by omega) (by omega) fun m=>by simp only [sq]; grind⟩,by simp; omega⟩
   simp only [Al (by omega:(j:Int)<=(K:Int)),cond_true,beq_self_eq_true,Ae,N,G,Dj h (by omega)]
  .right
   have:j=K+1:=by omega
   subst this
   refine ⟨(0,R),by simp only [Ar (by omega:¬((K+1:Nat):Int)<=(K:Int)),cond_false,Ae],R,rfl,g.up (by omega) (by omega) fun m=>rfl⟩) (by
  rintro _ ⟨R,rfl,g⟩
  exact ⟨_,rfl,R,rfl,g⟩)
 obtain ⟨R,rfl,g⟩:=I
 exact ⟨R,L,g⟩
theorem Axn {x:Bx} (j:CSz x) (E F:Be) (K:Int) (X:E.Terms.length<=6) (V:F.Terms.length<=6) :
  ∃R v f,J5 x ⟨1,E,F,K⟩=some (R,Jc x v f E F)/\Ku ⟨1,E,F,K⟩=some v/\Nt x []=some f/\(Jc x v f E F≠0->R = []) /\
   (Jc x v f E F=0->Fc x/\0<=K/\K<=6/\Cv E=true/\Cv F=true/\C9 x.Vars x.Res E=true/\C9 x.Vars x.Res F=true/\∃s,J6 E F=some (s,0)/\IP x 500 900010 (shF x E F s K.toNat) R):=by
 obtain ⟨v,D,v2⟩:=Alr ⟨1,E,F,K⟩ (by show E.Terms.length+F.Terms.length<=12; omega)
 obtain ⟨f,f1,f2⟩:=Ajq x j [] (fun t ht=>by cases ht)
 have U:=j.nv
 have I:=Y4 x E (by omega) (by omega)
 have G:=Y4 x F (by omega) (by omega)
 unfold J5
 rw [D,f1,I,G]
 unfold Jc
 cases v with
 | false=>exact ⟨[],false,f,rfl,rfl,rfl,fun _=>rfl,fun h=>absurd (show (1:Int)=0 from h) (by decide)⟩
 | true=>
  cases f with
  | false=>exact ⟨[],true,false,rfl,rfl,rfl,fun _=>rfl,fun h=>absurd (show (1:Int)=0 from h) (by decide)⟩
  | true=>
   cases A:C9 x.Vars x.Res E with
   | false=>exact ⟨[],true,true,rfl,rfl,rfl,fun _=>rfl,fun h=>absurd (show (6:Int)=0 from h) (by decide)⟩
   | true=>
    cases hj:C9 x.Vars x.Res F with
    | false=>exact ⟨[],true,true,rfl,rfl,rfl,fun _=>rfl,fun h=>absurd (show (6:Int)=0 from h) (by decide)⟩
    | true=>
     obtain ⟨z,y,k0,i,hk⟩:=v2.1 rfl
     have k0:0<=K:=k0
     have i:K<=6:=i
     have B:=(f2.1 rfl).1
     rcases hk with ⟨_,s,g⟩ | ⟨h2,_⟩
     .rcases Adv E F (by omega) with ⟨_,_,L,c,N,M⟩ | ⟨_,c⟩
      .rw [g] at c
       have c:=Option.some.inj c
       unfold Rt at c
       by_cases hc:Cv ⟨E.Const+F.Const,L⟩=true
       .rw [if_pos hc] at c
        have k:s=⟨E.Const+F.Const,L⟩:=congrArg Prod.fst c
        subst k
        have S:=Aly (vars:=x.Vars) (res:=x.Res) (a:=E) (b:=F) (s:=⟨E.Const+F.Const,L⟩) N M A hj
        have l:((K.toNat:Nat):Int)=K:=by omega
        obtain ⟨R,u,J⟩:=Axm j B (K:=K.toNat) z y A hj (by omega) g hc S
        rw [l] at u
        refine ⟨R,true,true,?_,rfl,rfl,fun h=>absurd rfl h,fun _=>⟨B,k0,i,z,y,rfl,rfl,_,g,J⟩⟩
        have q:((1:Int)==2)=false:=rfl
        simp only [bnt,Ae,cond_false,Bool.and_self,q,u]
       .rw [if_neg hc] at c
        exact absurd (show (0:Int)=9 from congrArg Prod.snd c) (by decide)
      .rw [g] at c
       exact absurd (show (0:Int)=1 from congrArg Prod.snd (Option.some.inj c)) (by decide)
     .exact absurd (show (1:Int)=2 from h2) (by decide)
end Go.Ab
namespace Go.Ab
open Go
theorem H6.neg {L:List Ba} (h:H6 L):H6 (L.map Hj):=by
 refine ⟨?_,?_⟩
 .rw [List.pairwise_map]
  exact h.srt
 .intro t ht
  obtain ⟨u,hu,rfl⟩:=List.mem_map.1 ht
  have:=h.nz u hu
  show -u.Coef≠0
  omega
end Go.Ab
namespace Go.Ab
open Go
theorem IsE.zero {l:Be} {B:List Ent} (h:IsE [⟨l,0⟩] B):B = [([],1)]:=by
 obtain ⟨gs,E,q,G,i,rfl⟩:=h
 have D:E = [⟨l,0⟩]:=List.perm_singleton.1 q
 rw [D] at i
 generalize c:[(⟨l,0⟩:A3)]=X at i
 cases i with
 | nil=>cases c
 | @cons s N f g rest gs j L I y A=>
  have J:g.length+rest.length=1:=by
   have:=congrArg List.length c
   simpa using this.symm
  have u:g.length=1:=by
   have:=List.length_pos_iff.2 j
   omega
  have b:rest = []:=List.length_eq_zero_iff.1 (by omega)
  subst b
  rw [List.append_nil] at c
  subst c
  have k:=A.nil_of rfl
  subst k
  have z:N=0/\f 0=1:=by
   rcases y with ⟨_,h1,h2,h3⟩ | ⟨_,h1,h2⟩
   .have h1:N=0:=by simpa [Ci] using h1
    subst h1
    have:=h3 0
    simp [sm,prb,H5] at this
    exact ⟨rfl,this⟩
   .exact ⟨h1,by rw [h2]; simp [prb,H5]⟩
  obtain ⟨rfl,x⟩:=z
  show Fe [([],1)] s f (0+1) = [([],1)]
  rw [O9,x]
  simp [Fe,atO]
theorem IsE.nil:IsE [] [([],1)]:=⟨[],[],List.Perm.refl _,List.Pairwise.nil,Gs.nil,rfl⟩
theorem Axo:eB [] = [([],1)]:=Y5 IsE.nil
def Y6:List Aj:=[⟨cR 1,⟨[],[]⟩⟩]
theorem Axp (m:Bf):cf Y6 m=(ec [([],1)] m:Rat):=by
 simp only [Y6,cf,ec,Rn]
 split
 .rw [Nat.add_zero]; grind
 .rw [Nat.add_zero]; simp; grind
theorem Axq:CP Y6:=CP.cons CP.nil (fun _ h=>by cases h) (Av1 1) (by show rq (cR 1)≠0; rw [Rn]; decide)
theorem Alz {x:Bx} (g:CSz x) (j:Fc x) {l:Be} (h:Cv l=true) (i:C9 x.Vars x.Res l=true):aP x l ((0:Nat):Int)=Y6:=by
 obtain ⟨R,B,f,c,b,s⟩:=Adw g j (k:=((0:Nat):Int)) h (by decide) (by decide) i
 have e:aP x l ((0:Nat):Int)=R:=by unfold aP; rw [f]
 have q:=IsE.zero (B:=B) c
 rw [e]
 exact CP.ext b.cp Axq fun m=>by rw [b.val,Axp,q]
theorem Axr {x:Bx} (c:CSz x) (h:Fc x) {l:Be} (f:Cv l=true) (g:C9 x.Vars x.Res l=true):eB [⟨l,((0:Nat):Int)⟩] = [([],1)]:=by
 obtain ⟨R,B,q,b,j,i⟩:=Adw c h (k:=((0:Nat):Int)) f (by decide) (by decide) g
 rw [Y5 b]
 exact IsE.zero b
theorem Ad0 {x:Bx} {n L:Nat} {f:Bf->Rat} {R:List Aj} (h:IP x n L f R) (b:∀m,f m=0):R = []:=h.ext (Ady x 0 0 (fun _=>0) fun _=>rfl) b
theorem Axs {x:Bx} (b:CSz x) (c:Fc x) {E F s:Be} (k:Cv E=true) (j:Cv F=true) (i:Cv s=true) (h:C9 x.Vars x.Res E=true) (g:C9 x.Vars x.Res F=true) (f:C9 x.Vars x.Res s=true) (m:Bf):shF x E F s 0 m=0:=by
 unfold shF
 simp only [sq]
 rw [Axr b c i f,Alz b c k h,show ((0-0:Nat):Int)=((0:Nat):Int) from rfl,Alz b c j g]
 show (ec [([],1)] m:Rat)-(0+rq (cR 1)*rq (cR 1)*(ec (eB ([]++[])) m:Rat))=0
 rw [List.append_nil,Axo,Rn]
 show (ec [([],1)] m:Rat)-(0+1*1*(ec [([],1)] m:Rat))=0
 grind
theorem Ad1 (x:Bx) (v f:Bool) (E F:Be):Jc x v f E F≠9:=by
 unfold Jc
 cases v <;> cases f <;> cases C9 x.Vars x.Res E <;> cases C9 x.Vars x.Res F <;> decide
theorem Axt {x:Bx} (l:CSz x) (E F:Be) (J:E.Terms.length<=6) (I:F.Terms.length<=6):∃e,J5 x ⟨1,E,F,0⟩=some ([],e)/\e≠9:=by
 obtain ⟨P,h,f1,i,N,M,y,u⟩:=Axn l E F 0 J I
 refine ⟨_,?_,Ad1 x h f1 E F⟩
 by_cases h0:Jc x h f1 E F=0
 .obtain ⟨G,_,_,A,z,k,j,s,q,i1⟩:=u h0
  have f:Cv s=true/\C9 x.Vars x.Res s=true:=by
   rcases Adv E F (by omega) with ⟨_,_,L,c,D,B⟩ | ⟨_,c⟩
   .rw [q] at c
    have c:=Option.some.inj c
    unfold Rt at c
    by_cases hc:Cv ⟨E.Const+F.Const,L⟩=true
    .rw [if_pos hc] at c
     have g:s=⟨E.Const+F.Const,L⟩:=congrArg Prod.fst c
     subst g
     exact ⟨hc,Aly (a:=E) (b:=F) D B k j⟩
    .rw [if_neg hc] at c
     exact absurd (show (0:Int)=9 from congrArg Prod.snd c) (by decide)
   .rw [q] at c
    exact absurd (show (0:Int)=1 from congrArg Prod.snd (Option.some.inj c)) (by decide)
  have:P = []:=Ad0 i1 fun m=>Axs l G A z f.1 k j f.2 m
  rw [i,this]
 .rw [i,y h0]
theorem Axu {x:Bx} (j:CSz x) (E F:Be) (l:E.Terms.length<=6) (k:F.Terms.length<=6):∃e,J5 x ⟨2,E,F,0⟩=some ([],e)/\e≠9:=by
 obtain ⟨P,f,f1,g,s,q,i,h⟩:=Als j E F 0 l k
 refine ⟨_,?_,Ad1 x f f1 E F⟩
 by_cases h0:Jc x f f1 E F=0
 .obtain ⟨u,B,C,b,c,i1⟩:=h h0
  have:P = []:=Ad0 i1 fun m=>by rw [b.zero,c.zero]; grind
  rw [g,this]
 .rw [g,i h0]
theorem Axv {x:Bx} (k:CSz x) (E:Be) (K:Int) (h:E.Terms.length<=6):∃e,J5 x ⟨2,E,E,K⟩=some ([],e)/\e≠9:=by
 obtain ⟨P,f,f1,g,q,l,j,i⟩:=Als k E E K h h
 refine ⟨_,?_,Ad1 x f f1 E E⟩
 by_cases h0:Jc x f f1 E E=0
 .obtain ⟨s,B,C,b,c,i1⟩:=i h0
  have e:=b.det c (List.Perm.refl _)
  subst e
  have:P = []:=Ad0 i1 fun m=>by grind
  rw [g,this]
 .rw [g,j h0]
def Pa:Bx:=⟨[],List.replicate 6 ⟨1,0,[]⟩,⟨1,0,[]⟩⟩
theorem Axw:Sg 6=some Pa:=by kernel_rfl
theorem Ad2:CSz Pa:=by
 have ht:Bv (⟨1,0,[]⟩:Ai)<=1048576:=by decide
 refine ⟨⟨by simp [Pa],fun _ h=>by simp [Pa] at h,fun _ h=>by simp [Pa] at h,fun _ h=>by simp [Pa] at h⟩,by simp [Pa],fun t h=>?_,ht⟩
 have:t=⟨1,0,[]⟩:=List.eq_of_mem_replicate h
 rw [this]; exact ht
theorem Axx (e f:Be) (k:Int) (u:e.Terms.length<=1048576) (s:f.Terms.length<=1048576) (k0:0<=k) (q:k<=255):Wf e f k=some true:=by
 unfold Wf
 rw [Axg]
 simp only [Ae,bnt,cond_false]
 by_cases h3:(e.Terms.length:Int)>4
 .rw [Al h3]; rfl
 .rw [Ar h3]
  by_cases b:(f.Terms.length:Int)>4
  .rw [Al b]; rfl
  .rw [Ar b]
   have w:Ac k=k:=by rw [Ac,Bo] <;> omega
   obtain ⟨r,i⟩:∃r,E8 k 7=some r:=⟨_,rfl⟩
   obtain ⟨z,a1,a2⟩:=Axt Ad2 e f (by omega) (by omega)
   obtain ⟨y,b1,b2⟩:=Axu Ad2 e f (by omega) (by omega)
   obtain ⟨x,l,j⟩:=Axv Ad2 e r (by omega)
   simp only [Ae,cond_false,Axw,w,i]
   have i0:Ag [(⟨1,e,f,0⟩:Em),⟨2,e,f,0⟩,⟨2,e,e,r⟩] 0=some ⟨1,e,f,0⟩:=rfl
   have i1:Ag [(⟨1,e,f,0⟩:Em),⟨2,e,f,0⟩,⟨2,e,e,r⟩] 1=some ⟨2,e,f,0⟩:=rfl
   have i2:Ag [(⟨1,e,f,0⟩:Em),⟨2,e,f,0⟩,⟨2,e,e,r⟩] 2=some ⟨2,e,e,r⟩:=rfl
   have h:Ac (0+1)=1:=by rw [Ac,Bo] <;> omega
   have g:Ac (1+1)=2:=by rw [Ac,Bo] <;> omega
   have c:Ac (2+1)=3:=by rw [Ac,Bo] <;> omega
   refine bnd (a:=.inr ()) ?_ rfl
   refine (Hc (s':=(1:Int)) ?_).trans ((Hc (s':=(2:Int)) ?_).trans ((Hc (s':=(3:Int)) ?_).trans (Ea ?_)))
   .simp only [List.length_cons,List.length_nil,i0,Ae,a1,Cu a2,h]; rfl
   .simp only [List.length_cons,List.length_nil,i1,Ae,b1,Cu b2,g]; rfl
   .simp only [List.length_cons,List.length_nil,i2,Ae,l,Cu j,c]; rfl
   .rfl
end Go.Ab
