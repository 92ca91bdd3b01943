/- Plain laws: what the plain functions answer. -/
import Derived.Test.YtkafffjlpedijaaGreatDoorWtPl4
namespace Go.Ab
open Go
theorem A9s (a b:Bk):Py a b=some (Fm a.v b.v):=by unfold Py;rw[O1];rfl
theorem Sl {a b:Int}:Fm a b<0↔a<b:=by unfold Fm;split <;> (try split) <;> omega
theorem A9t:Pd (λa b:Bk=>Fm a.v b.v) := ⟨λx h=>by have:=Sl.1 h;omega,λx y z h1 h2=>by have:=Sl.1 h1;have:=Sl.1 h2;exact Sl.2 ω,λx y z h1 h2 h=>by have:=Sl.1 h;have:=mt Sl.2 h1;have:=mt Sl.2 h2;omega⟩
theorem A9u (c:List Bk) (f:c.length<=12):∃R,Wj c=some R/\R.Perm c/\R.Pairwise (λa b=>a.v<=b.v):=by
 obtain⟨R,h1,h2,h3⟩:=Au2 (cmp:=Py) A9t c (λx _ y _=>A9s x y) ω;obtain⟨v,hv⟩:=At1 (n:=c.length) ω;refine⟨R,?_,h2,h3.imp λ{a b} h=>?_⟩
 .unfold Wj;rw[Nat.ble_eq_true_of_le f,Ak];unfold Aiz;rw[hv,Ad];have hp:Z5 0 (c.length:Int) v c=some R:=(by unfold Z5;have e:Ad3 0 (c.length:Int) c=Abl Py 0 (c.length:Int) c:=rfl;have w:Ac ((c.length:Int)-0)=(c.length:Int):=ξ;refine bnd (a:=R) (D5 ?_) rfl;rw[w,Ap ω,Ak,e,h1,Ad,Na h2.length_eq.symm];rfl);rw[hp,Ad,Na h2.length_eq.symm];rfl
 .have:=mt Sl.2 h;omega
def cl:List Bk->Int->Int
 | [],_=>0
 | t::l,v=>(if t.v=v then t.C else 0)+cl l v
theorem Sn (l m:List Bk) (v:Int):cl (l++m) v=cl l v+cl m v:=by induction l with| nil=>simp[cl]| cons t l ih=>simp only[Du,cl,ih];omega
theorem A9v {l m:List Bk} (h:l.Perm m) (v:Int):cl l v=cl m v:=by induction h with| nil=>rfl| cons t _ ih=>simp only[cl,ih]| swap a b l=>simp only[cl];omega| trans _ _ h1 h2=>exact h1.trans h2
theorem Alq {l:List Bk} {v:Int} (h:∀t∈l,t.v≠v):cl l v=0:=by induction l with| nil=>rfl| cons t l ih=>simp only[cl];rw[Av (h t ψ),ih λu hu=>h u (by simp[hu])];rfl
structure Qg (L:List Bk):Prop where
 srt:L.Pairwise λa b=>a.v<b.v
 nz:∀t∈L,t.C≠0
noncomputable def Agi (r:List Bk) (f:Int):Int×Int->Option ((Int×Int)⊕(Int×Int)):=λ(v44,v45)=> (show OB from bif v44<(r.length:Int) then ((Af r v44).bind λv46=> some (v46.v==f)) else (some false)).bind λc=>
 bif c then ((Af r v44).bind λb=> some (.inl ((Ac (v44+1)),(Ac (v45+b.C))))) else (some (.inr (v44,v45)))
def LBd (l:List Bk):Prop:=∀t∈l,-1099511627776<=t.C/\t.C<=1099511627776
theorem A9w {l:List Bk} (h:LBd l) (v:Int) : -(l.length*1099511627776:Int)<=cl l v/\cl l v<=(l.length*1099511627776:Int):=by induction l with| nil=>simp[cl]| cons t l ih=>have h1:=h t ψ;have h2:=ih λu hu=>h u (by simp[hu]);simp only[cl,Ei];split <;> omega
theorem A9x {r:List Bk} {k:Nat} {t:Bk} (hk:r[k]? = some t) (E:r.length<=1000) (hb:LBd r) :
  ∃n:Nat,An (Agi r t.v) ((k:Int),0)=some ((n:Int),cl ((r.take n).drop k) t.v)/\k<n/\n<=r.length/\(∀u∈(r.take n).drop k,u.v=t.v)/\∀u,r[n]? = some u->u.v≠t.v:=by
 have q:=E4 hk
 obtain⟨e,D,n,B,A⟩:=Lb (step:=Agi r t.v) (λs=>∃n:Nat,s=((n:Int),cl ((r.take n).drop k) t.v)/\k<=n/\n<=r.length/\∀u∈(r.take n).drop k,u.v=t.v) (λs=>r.length-s.1.toNat)
  (λe=>∃n:Nat,e=((n:Int),cl ((r.take n).drop k) t.v)/\k<n/\n<=r.length/\(∀u∈(r.take n).drop k,u.v=t.v)/\∀u,r[n]? = some u->u.v≠t.v) (by
  rintro _ ⟨j,rfl,x,g,c⟩
  unfold Agi
  rcases Cg j r.length with h|h
  .have hx:r[j]? = some r[j]:=Bx h
   have hm:=List.getElem_mem h
   generalize r[j]=b at hx hm
   have z:=hb b hm
   have y:=A9w (l:=(r.take j).drop k) (λu hu=>hb u (List.mem_of_mem_take (List.mem_of_mem_drop hu))) t.v
   have i:((r.take j).drop k).length<=1000:=by simp;omega
   have hw:Ac (cl ((r.take j).drop k) t.v+b.C)=cl ((r.take j).drop k) t.v+b.C:=by
    have G:(((r.take j).drop k).length:Int)*1099511627776<=1000*1099511627776:=Int.mul_le_mul_of_nonneg_right ω δ
    rw[Ac,B3] <;> omega
   have f:(r.take (j+1)).drop k=(r.take j).drop k++[b]:=by
    rw[Dc hx,List.drop_append_of_le_length ζ]
   simp only[Ap (ω:(j:Int)<(r.length:Int)),Ak,Bv rfl hx,Ad,C9 h ω,hw]
   by_cases hc:b.v=t.v
   .left
    rw[Dk hc]
    refine⟨_,rfl,⟨j+1,?_,ω,ω,λd hd=>?_⟩,ζ⟩
    .rw[f,Sn]
     simp[cl,hc]
    .rw[f]at hd
     rcases D7.1 hd with hd|hd
     .exact c d hd
     .simp only[Dw]at hd
      rw[hd];exact hc
   .right
    rw[Cn hc]
    refine⟨_,rfl,j,rfl,?_,g,c,λd hd=>by rw[hx]at hd;cases hd;exact hc⟩
    rcases Cg k j with h'|h'
    .exact h'
    .have:j=k:=ω
     subst this
     rw[hk]at hx;cases hx
     exact (hc rfl).elim
  .right
   refine⟨_,by simp only[Ax (ω:¬(j:Int)<(r.length:Int)),Am,Ad],j,rfl,ω,g,c,λd hd=>?_⟩
   have:=E4 hd
   omega) ((k:Int),0) ⟨k,by simp[cl],ω,ω,λu hu=>by simp at hu⟩
 exact⟨n,by rw[<-B];exact D,A⟩
noncomputable def Alr (r:List Bk):Int×List Bk->Option ((Int×List Bk)⊕List Bk):=λ(v37,b)=> bif v37<((r.length:Nat):Int) then ((Af r v37).bind λv39=> (An (Agi r v39.v) (v37,0)).bind λ(v49,v50)=> bif (v50 != (0:Int)) then ((Cj 16 b [(Bk.mk v39.v v50)]).bind λc=> some (.inl (v49,c))) else (some (.inl (v49,b)))) else (some (.inr b))
theorem A9y {r:List Bk} (I:r.Pairwise λa b=>a.v<=b.v) (J:r.length<=1000) (hb:LBd r):∃L,An (Alr r) (0,[])=some L/\Qg L/\(∀v,cl L v=cl r v)/\L.length<=r.length:=by
 obtain⟨L,R,N⟩:=Lb (step:=Alr r) (λs=>∃(k:Nat) (L:List Bk),s=((k:Int),L)/\k<=r.length/\Qg L/\L.length<=k/\(∀v,cl L v=cl (r.take k) v)/\∀t∈L,∀u∈r.drop k,t.v<u.v) (λs=>r.length-s.1.toNat)
  (λL=>Qg L/\(∀v,cl L v=cl r v)/\L.length<=r.length) (by
  rintro _ ⟨k,L,rfl,hk,x,M,hv,hd⟩
  unfold Alr
  rcases Cg k r.length with h|h
  .left
   have hx:r[k]? = some r[k]:=Bx h
   generalize r[k]=t at hx
   obtain⟨n,G,E,B,n4,D⟩:=A9x hx J hb
   have c:r.take n=r.take k++(r.take n).drop k:=by
    have h:=(List.take_append_drop k (r.take n)).symm
    rwa [List.take_take,Nat.min_eq_left ω]at h
   have j:∀v,v≠t.v->cl ((r.take n).drop k) v=0:=λv hv=>Alq λu hu e=>hv (by rw[<-e,n4 u hu])
   have i:∀u∈r.drop n,u∈r.drop k:=λu hu=>by
    have:r.drop n=(r.drop k).drop (n-k):=by rw[List.drop_drop];congr 1;omega
    rw[this]at hu
    exact List.mem_of_mem_drop hu
   have z:t∈r.drop k:=by rw[Js hx];simp
   have f:∀u∈r.drop n,t.v<u.v:=by
    intro u hu
    rcases Cg n r.length with h'|h'
    .have hy:r[n]? = some r[n]:=Bx h'
     generalize r[n]=w at hy
     have hw:=D w hy
     have hp:=List.pairwise_append.1 (by rw[List.take_append_drop];exact I:(r.take n++r.drop n).Pairwise λa b=>a.v<=b.v)
     have A:t∈r.take n:=by
      rw[c]
      have:(r.take n).drop k=t::(r.take n).drop (k+1):=Js (by rw[List.getElem?_take_of_lt E];exact hx)
      rw[this];simp
     have y:w∈r.drop n:=by rw[Js hy];simp
     have a1:=hp.2.2 t A w y
     have g:=hp.2.1
     rw[Js hy]at g hu
     rcases Fx.1 hu with rfl|hu
     .omega
     .have:=(List.pairwise_cons.1 g).1 u hu;omega
    .rw[List.drop_eq_nil_of_le h']at hu;cases hu
   simp only[Ap (ω:(k:Int)<(r.length:Int)),Ak,Bv rfl hx,Ad,G]
   by_cases h0:cl ((r.take n).drop k) t.v=0
   .refine⟨((n:Int),L),?_,⟨n,L,rfl,B,x,ω,λv=>?_,λa ha u hu=>hd a ha u (i u hu)⟩,ζ⟩
    .rw[h0];rfl
    .have q:cl (r.take n) v=cl (r.take k) v+cl ((r.take n).drop k) v:=(congrArg (λl=>cl l v) c).trans (Sn _ _ _)
     rw[q,hv]
     by_cases e:v=t.v
     .rw[e,h0];omega
     .rw[j v e];omega
   .refine⟨((n:Int),L++[⟨t.v,cl ((r.take n).drop k) t.v⟩]),?_,⟨n,_,rfl,B,⟨?_,?_⟩,ζ,λv=>?_,λa ha u hu=>?_⟩,ζ⟩
    .rw[Ek h0,Ak,Dm ζ];rfl
    .refine List.pairwise_append.2 ⟨x.srt,List.pairwise_singleton _ _,λa ha b hb=>?_⟩
     simp only[Dw]at hb
     subst hb
     exact hd a ha t z
    .intro a ha
     rcases D7.1 ha with ha|ha
     .exact x.nz a ha
     .simp only[Dw]at ha
      subst ha;exact h0
    .have q:cl (r.take n) v=cl (r.take k) v+cl ((r.take n).drop k) v:=(congrArg (λl=>cl l v) c).trans (Sn _ _ _)
     rw[q,Sn,hv]
     simp only[cl]
     by_cases e:t.v=v
     .rw[Ay e,<-e];omega
     .rw[Av e,j v (λh=>e h.symm)];omega
    .rcases D7.1 ha with ha|ha
     .exact hd a ha u (i u hu)
     .simp only[Dw]at ha
      subst ha;exact f u hu
  .right
   have:k=r.length:=ω
   subst this
   rw[Dh]at hv
   exact⟨L,by simp only[Ax (ω:¬(r.length:Int)<(r.length:Int)),Am],x,hv,M⟩) (0,[]) ⟨0,[],rfl,ω,⟨List.Pairwise.nil,λ_ h=>by cases h⟩,ψ,λv=>by simp[cl],λ_ h=>by cases h⟩
 exact⟨L,R,N⟩
def U1 (c:Int) (L:List Bk):As×Int:=if Cd ⟨c,L⟩=true then (⟨c,L⟩,0) else (⟨0,[]⟩,9)
theorem Avl (c:Int) (ts:List Bk) (l:ts.length<=12) (hb:LBd ts):∃L,Wb c ts=some (U1 c L)/\Qg L/\∀v,cl L v=cl ts v:=by
 obtain⟨R,h,b,g⟩:=A9u ts l;obtain⟨L,k,j,i,q⟩:=A9y g (by rw[b.length_eq];omega) (λt ht=>hb t (b.mem_iff.1 ht));refine⟨L,?_,j,λv=>by rw[i,A9v b]⟩;unfold Wb;have f:Uf ts=some ([],ts):=by unfold Uf Ld;rw[Dm ζ];rfl
 rw[f,Ad];dsimp only;rw[h,Ad,Na b.length_eq.symm,Ad,<-b.length_eq];refine bnd k ?_;rw[M5,Ad];unfold U1;cases Cd ⟨c,L⟩ <;> rfl
theorem A9z {a:Aj} {z:Int} {k:Nat} (b:RB k a) (h:rq a=(z:Rat)):Bl z.natAbs<=k+1:=by
 have h1:=b.nv;refine Nat.le_trans (Ia ?_) h1;unfold rq at h;have e:mkRat (sg (sv a) (nv a)) (dv a)=mkRat z 1:=by rw[h,Abh]
 rw[Rat.mkRat_eq_iff (Ft a) δ]at e;have f:(sg (sv a) (nv a)).natAbs=nv a:=by unfold sg;split <;> omega
 have c:(sg (sv a) (nv a)).natAbs=z.natAbs*dv a:=by have:=congrArg Int.natAbs e;rw[Int.natAbs_mul,Int.natAbs_mul]at this;simpa using this
 have:=Ft a;rw[<-f,c];exact Nat.le_mul_of_pos_right _ ω
theorem Als {L:Nat} (m:A7):∀(l:List Ai),(∀t∈l,∃z:Int,rq t.C=(z:Rat)/\Bl z.natAbs<=L)->∃z:Int,cf l m=(z:Rat)/\Bl z.natAbs<=L+l.length
 | [],_=>⟨0,rfl,by simp[Ui]⟩
 | t::l,h=>by
  obtain⟨y,b,f⟩:=Als m l λu hu=>h u (by simp[hu]);obtain⟨z,c,z2⟩:=h t ψ;simp only[cf];split
  .refine⟨z+y,by rw[c,b,Rat.intCast_add],Avj z y (L:=L+l.length) ω f ζ⟩
  .exact⟨y,by rw[b];grind,ζ⟩
theorem G3.listI {F:FS} {c:Rat} {z:Int} {K:Nat} {ts:List Ai} {bs:List Dp} (h:G3 F c K ts bs) (f:c=(z:Rat)):∀t∈ts,∃z:Int,rq t.C=(z:Rat)/\Bl z.natAbs<=K+1:=λt ht=>by
 obtain⟨j,hj⟩:=Gz ht;obtain⟨b,b1,b2,i,g⟩:=h.get hj;have e:rq t.C=((z*(b.2:Int):Int):Rat):=by rw[i,f,Rat.intCast_mul,Rat.intCast_natCast]
 exact⟨_,e,A9z g e⟩
theorem Alt {x:Bh} {k:Nat} {ts:List Ai} (h:Col k (E5 x) ts) (hk:k<34359738000) (q:ts.length<=1000) (hi:∀m,∃z:Int,cf ts m=(z:Rat)):∃R,Ks (Eo ts) ts=some (R,0)/\IP x ts.length (k+2) (cf ts) R:=by
 obtain⟨R,j,b,f,c,i⟩:=Akt (P:=E5 x) (λm h=>h.cmo) (Eo ts) ts h ω q (λg _ h2 h3=>Ak2 g h2 h3);refine⟨R,j,b,f,λt ht=>(c t ht).1,i,λt ht=>?_⟩;obtain⟨z,l⟩:=hi t.M;have e:rq t.C=(z:Rat):=by rw[<-O4 b ht,f,l]
 exact⟨z,e,Avh (b.coe t ht).1 e (c t ht).2⟩
theorem IsE.good {x:Bh} {A:List Be} {B:List Dp} (h:IsE A B) (g:Atk A) (hi:∀a∈A,D9 x.V x.E a.L=true) (j:Cr A<=6):∀b∈B,E5 x ⟨[],b.1⟩:=by obtain⟨gs,k,c,i,f,rfl⟩:=h;intro b hb;obtain⟨h1,h2⟩:=Alp (vars:=x.V) (res:=x.E) f (λa ha=>⟨g.lin a (c.mem_iff.1 ha),hi a (c.mem_iff.1 ha)⟩) [([],1)] 0 (λb hb=>by simp only[Dw]at hb;subst hb;exact⟨⟨List.Pairwise.nil,λ_ h=>by cases h⟩,by simp[Cv],λ_ h=>by cases h⟩) b hb;refine Avf h1 ?_;rw[Qf c]at h2;omega
theorem A90 {B:List Dp} {m:A7}:∃z:Int,(1:Rat)*(ec B m:Rat)=(z:Rat):=⟨(ec B m:Int),by rw[Rat.intCast_natCast];grind⟩
theorem Avm {l:As} {k:Int} (b:Cd l=true) (h0:0<=k) (c:k<=6):Atk [⟨l,k⟩]/\Cr [(⟨l,k⟩:Be)]<=6:=by
 have hd:Cr [(⟨l,k⟩:Be)]=k.toNat:=by simp[Cr]
 exact⟨⟨λa ha=>by simp only[Dw]at ha;subst ha;exact h0,λa ha=>by simp only[Dw]at ha;subst ha;exact b,ω,ψ⟩,ω⟩
theorem Agj (x:Bh) (l:As) (g:l.T.length<=1048576) (hv:x.V.length<=1048576):V7 x l=some (D9 x.V x.E l):=by
 unfold V7;have f:D9 x.V x.E l=l.T.zipIdx.all (λq=>K6 x.V x.E q.1):=by
  unfold D9;rw[Bool.eq_iff_iff,D2,D2];constructor
  .rintro h ⟨a,j⟩ hq;exact h a (Cf (List.mk_mem_zipIdx_iff_getElem?.1 hq))
  .intro h a ha;obtain⟨j,hj⟩:=Gz ha;exact h (a,j) (List.mk_mem_zipIdx_iff_getElem?.2 hj)
 rw[f];refine (Wy l.T (λq=>K6 x.V x.E q.1) (λj=>(j:Int)) rfl ω (rt:=true) (rf:=false) ?_ ?_).trans (by rw[N1])
 .intro j t ht _ h1 h2 h3;simp only[h1,h2,h3,Ak,Ad];by_cases e:t.v = -1
  .rw[Dk e,Ak];have:K6 x.V x.E t=(x.E.G==1):=(by unfold K6 Ec;rw[Ay e]);rw[this];by_cases hk:x.E.G=1
   .rw[Fc hk,Dk hk];exact⟨λ_=>rfl,λh=>by cases h⟩
   .rw[Ek hk,Cn hk];exact⟨nofun,λ_=>⟨.inl false,rfl,rfl⟩⟩
  .rw[Cn e,Am];have b:K6 x.V x.E t=(match Af x.V t.v with|some u=>u.G==1|none=>false):=by unfold K6 Ec;rw[Av e];cases Af x.V t.v <;> rfl
   rw[b];by_cases c:t.v<0
   .rw[Ap c,Aek (.inl c)];exact⟨nofun,λ_=>⟨.inl false,rfl,rfl⟩⟩
   .rw[Ax c,Am];by_cases hg:(x.V.length:Int)<=t.v
    .rw[Ap ω,Aek (.inr hg)];exact⟨nofun,λ_=>⟨.inl false,rfl,rfl⟩⟩
    .rw[Ax ω,Am];have hx:x.V[t.v.toNat]? = some x.V[t.v.toNat]:=Bx ω;generalize x.V[t.v.toNat]' ω=u at hx;rw[Bv (n:=t.v.toNat) ω hx];simp only[Ad];by_cases hk:u.G=1
     .rw[Fc hk,Dk hk];exact⟨λ_=>rfl,λh=>by cases h⟩
     .rw[Ek hk,Cn hk];exact⟨nofun,λ_=>⟨.inl false,rfl,rfl⟩⟩
 .intro h _;exact⟨.inr (),by simp only[h];rfl,rfl⟩
theorem Xu {a:As} (h:Cd a=true):∀t∈a.T,-1048576<=t.C/\t.C<=1048576:=by intro t ht;obtain⟨j,hj⟩:=Gz ht;unfold Cd at h;rw[Ck,D2]at h;have:=h.2 (t,j) (List.mk_mem_zipIdx_iff_getElem?.2 hj);unfold Sc at this;simp only[Ck,C8]at this;exact⟨this.1.2.2.2.1,this.1.2.2.2.2⟩
theorem Avn (a b:List Bk) (h:a.length+b.length<=1000000):Zk [a,b]=some (a++b) := Alh (B:=16) δ (gr:=Adu) (λn h=>All n h) a b h
def Jv (t:Bk):Bk:=⟨t.v,-t.C⟩
theorem Avo (l:List Bk) (v:Int):cl (l.map Jv) v = - cl l v:=by induction l with| nil=>rfl| cons t l ih=>simp only[List.map_cons,cl,ih,Jv];split <;> omega
theorem A91 (ts:List Bk) (i:ts.length<=1000) (hb:∀t∈ts,-1048576<=t.C/\t.C<=1048576):Zl ts (-1)=some (ts.map Jv):=by
 unfold Zl;have f:Uf ts=some ([],ts):=by unfold Uf Ld;rw[Dm ζ];rfl
 rw[f,Ad];dsimp only;refine Iy ts.length (λj=>((j:Int),(ts.take j).map Jv++ts.drop j)) ψ ?_ ⟨ts.map Jv,?_,rfl⟩
 .intro j hj;have hx:ts[j]? = some ts[j]:=Bx hj;have hm:=List.getElem_mem hj;generalize ts[j]=t at hx hm;have g:=hb t hm;have e:(ts.take j).map Jv++ts.drop j=(ts.take j).map Jv++t::ts.drop (j+1):=(by rw[Js hx]);have b:((ts.take j).map Jv).length=j:=ζ;have hi:Af ((ts.take j).map Jv++ts.drop j) (j:Int)=some t:=(by refine Bv rfl ?_;rw[e];have:=Alg ((ts.take j).map Jv) (ts.drop (j+1)) t;rwa [b]at this);have hw:Ac (t.C * -1) = -t.C:=ξ;have c:Cu ((ts.take j).map Jv++ts.drop j) (j:Int) (⟨t.v,-t.C⟩:Bk)=(ts.take (j+1)).map Jv++ts.drop (j+1):=(by rw[G0 (n:=j) rfl,e,Dc hx,List.map_append,List.append_assoc];have:∀(A R:List Bk) (x y:Bk),(A++x::R).set A.length y=A++y::R:=(by intro A R x y;induction A with| nil=>rfl| cons a A ih=>simp only[Du,Ei,List.set_cons_succ,ih]);have h:=this ((ts.take j).map Jv) (ts.drop (j+1)) t ⟨t.v,-t.C⟩;rw[b]at h;rw[h];rfl);simp only[Ap (ω:(j:Int)<((ts.length:Nat):Int)),Ak,hi,Ad,C9 hj ω,hw,c]
 .simp
theorem Alu (a b:As) (h:a.T.length+b.T.length<=12) : (Cd a=true/\Cd b=true/\∃L,M1 a b=some (U1 (a.Q+b.Q) L)/\Qg L/\∀v,cl L v=cl a.T v+cl b.T v)\/((Cd a&&Cd b)=false/\M1 a b=some (⟨0,[]⟩,1)):=by
 unfold M1;rw[M5,M5];cases ha:Cd a with
 | false=>exact .inr ⟨rfl,rfl⟩
 | true=>
  cases hb:Cd b with
  | false=>exact .inr ⟨rfl,rfl⟩
  | true=>
   left;have h1:=Lr ha;have h2:=Lr hb;obtain⟨L,g,f,c⟩:=Avl (a.Q+b.Q) (a.T++b.T) ζ (λt ht=>by
    rcases D7.1 ht with ht|ht
    .have:=Xu ha t ht;omega
    .have:=Xu hb t ht;omega);refine⟨rfl,rfl,L,?_,f,λv=>by rw[c,Sn]⟩;have w:Ac (a.Q+b.Q)=a.Q+b.Q:=ξ;simp only[Ad,Dz,Am,Avn a.T b.T ω,w,g]
theorem Avp (a b:As) (h:a.T.length+b.T.length<=12) : (Cd a=true/\Cd b=true/\∃L,Kt a b=some (U1 (a.Q-b.Q) L)/\Qg L/\∀v,cl L v=cl a.T v-cl b.T v)\/((Cd a&&Cd b)=false/\Kt a b=some (⟨0,[]⟩,1)):=by
 unfold Kt;rw[M5,M5];cases ha:Cd a with
 | false=>exact .inr ⟨rfl,rfl⟩
 | true=>
  cases hb:Cd b with
  | false=>exact .inr ⟨rfl,rfl⟩
  | true=>
   left;have h1:=Lr ha;have h2:=Lr hb;obtain⟨L,g,f,c⟩:=Avl (a.Q-b.Q) (a.T++b.T.map Jv) ζ (λt ht=>by
    rcases D7.1 ht with ht|ht
    .have:=Xu ha t ht;omega
    .obtain⟨u,hu,rfl⟩:=List.mem_map.1 ht;have:=Xu hb u hu;show _<=-u.C/\-u.C<=_;omega);refine⟨rfl,rfl,L,?_,f,λv=>by rw[c,Sn,Avo];omega⟩;have w:Ac (a.Q-b.Q)=a.Q-b.Q:=ξ;simp only[Ad,Dz,Am,A91 b.T ω (Xu hb),Avn a.T (b.T.map Jv) ζ,w,g]
theorem A92 (a b:As) (c:a.T.length+b.T.length<=12):∃r,M1 a b=some r:=by rcases Alu a b c with⟨_,_,L,h,_⟩|⟨_,h⟩ <;> exact⟨_,h⟩
theorem Alv (a b:As) (c:a.T.length+b.T.length<=12):∃r,Kt a b=some r:=by rcases Avp a b c with⟨_,_,L,h,_⟩|⟨_,h⟩ <;> exact⟨_,h⟩
theorem Alw (a:Hy) (j:a.E.T.length+a.F.T.length<=12):∃b,On a=some b/\(b=true↔Cd a.E=true/\Cd a.F=true/\0<=a.K/\a.K<=6/\((a.G=1/\∃s,M1 a.E a.F=some (s,0))\/(a.G=2/\∃s,Kt a.E a.F=some (s,0)))):=by
 obtain⟨r,l⟩:=A92 a.E a.F j;obtain⟨q,hq⟩:=Alv a.E a.F j;unfold On;rw[M5,M5,l,hq];cases x:Cd a.E with
 | false=>exact⟨false,rfl,ψ⟩
 | true=>
  cases u:Cd a.F with
  | false=>exact⟨false,rfl,ψ⟩
  | true=>
   simp only[Ad,Dz,Am];by_cases h0:0<=a.K
   .rw[Ax ω];by_cases k:a.K<=6
    .rw[Ax ω];simp only[Am,Ad];by_cases f:a.G=1
     .rw[Dk f,Ak];refine⟨_,rfl,?_⟩;constructor
      .intro h;have h:=of_decide_eq_true (by simpa using h:decide (r.2=0)=true);exact⟨trivial,trivial,h0,k,.inl ⟨f,r.1,by rw[<-h]⟩⟩
      .rintro⟨_,_,_,_,⟨_,s,i⟩|⟨c,_⟩⟩
       .cases i;rfl
       .omega
     .rw[Cn f,Am];by_cases c:a.G=2
      .rw[Dk c,Ak];refine⟨_,rfl,?_⟩;constructor
       .intro h;have h:=of_decide_eq_true (by simpa using h:decide (q.2=0)=true);exact⟨trivial,trivial,h0,k,.inr ⟨c,q.1,by rw[<-h]⟩⟩
       .rintro⟨_,_,_,_,⟨g,_⟩|⟨_,s,i⟩⟩
        .exact (f g).elim
        .cases i;rfl
      .rw[Cn c,Am];exact⟨false,rfl,by simp[f,c]⟩
    .rw[Ap ω];exact⟨false,rfl,ζ⟩
   .rw[Ap ω];exact⟨false,rfl,ζ⟩
noncomputable def Agk (x:Bh) (v f:Bool) (E F:As):Int:=bif !(v&&f) then 1 else bif !(D9 x.V x.E E&&D9 x.V x.E F) then 6 else 0
theorem A93 {x:Bh} {P:A7->Prop} (g:∀m,P m->E5 x m) {k:Nat} {ts:List Ai} (h:Col k P ts) (hk:k<34359738000) (s:ts.length<=1000) (hi:∀m,∃z:Int,cf ts m=(z:Rat)):∃R,Ks (Eo ts) ts=some (R,0)/\IP x ts.length (k+2) (cf ts) R/\∀t∈R,P t.M:=by
 obtain⟨R,l,c,f,b,j⟩:=Akt (P:=P) (λm h=>(g m h).cmo) (Eo ts) ts h ω s (λi _ h2 h3=>Ak2 i h2 h3);refine⟨R,l,⟨c,f,λt ht=>g _ (b t ht).1,j,λt ht=>?_⟩,λt ht=>(b t ht).1⟩;obtain⟨z,q⟩:=hi t.M;have e:rq t.C=(z:Rat):=by rw[<-O4 c ht,f,q]
 exact⟨z,e,Avh (c.coe t ht).1 e (b t ht).2⟩
def NoF (x:Bh) (D:Nat) (m:A7):Prop:=E5 x m/\m.F = []/\Cv m.A<=(D:Nat)
theorem NoF.mono {x:Bh} {D D':Nat} {m:A7} (h:NoF x D m) (hd:D<=D'):NoF x D' m:=⟨h.1,h.2.1,by have:=h.2.2;omega⟩
theorem IsE.noF {x:Bh} {A:List Be} {B:List Dp} (h:IsE A B) (f:Atk A) (hi:∀a∈A,D9 x.V x.E a.L=true) (i:Cr A<=6):∀b∈B,NoF x (Cr A) ⟨[],b.1⟩:=by intro b hb;refine⟨h.good f hi i b hb,rfl,?_⟩;obtain⟨gs,k,c,j,g,rfl⟩:=h;obtain⟨h1,h2⟩:=Alp (vars:=x.V) (res:=x.E) g (λa ha=>⟨f.lin a (c.mem_iff.1 ha),hi a (c.mem_iff.1 ha)⟩) [([],1)] 0 (λb hb=>by simp only[Dw]at hb;subst hb;exact⟨⟨List.Pairwise.nil,λ_ h=>by cases h⟩,by simp[Cv],λ_ h=>by cases h⟩) b hb;rw[Qf c]at h2;show Cv b.1<=_;omega
theorem A94 {x:Bh} {P:A7->Prop} (E:∀m,P m->E5 x m) {A:List Be} (U:Atk A) (N:Cr A<=6) (s:∀B,IsE A B->∀b∈B,P ⟨[],b.1⟩) (b1:List (ByteArray×Int)) (b2:List (ByteArray×List Ch)) (D y:Int) (u:List Ah) : ∃R B,Zy ⟨[],A⟩ b1 b2 x.D x.V D y u=some (R,0,b1,b2)/\IsE A B/\IP x B.length (2429+B.length*2430) (λm=>(ec B m:Rat)) R/\∀t∈R,P t.M:=by
 have f:rq (cR 1)=1:=by rw[Qb];rfl
 obtain⟨out,B,V,G,j,e4⟩:=Alo (c:=cR 1) (K:=3) (A:=A) ((Lq (k:=1) (by rw[K0];decide) δ).mono δ) δ (by rw[f];decide) U b1 b2 x.D x.V D y u;have S:out.length<=64:=Nat.le_trans e4 (Nat.le_trans (Nat.pow_le_pow_right δ N) δ);have hm:=s B G;obtain⟨v,J,v2,v3,v4⟩:=Xm (k0:=2427) (k:=2427) (P:=P) (λm h=>(E m h).cmo) out [] (Col.nil _ _) (λt ht=>by obtain⟨b,hb,q,_,l⟩:=j.mem ht;exact⟨l,by rw[q];exact hm b hb⟩) (Nat.le_refl _) ω ζ;simp at v3;have i:∀m,cf v m=1*(ec B m:Rat):=λm=>by rw[v4,j.cf,f];simp only[cf];grind
 obtain⟨R,M,g,L⟩:=A93 (x:=x) (P:=P) E v2 ω ω (λm=>by rw[i];exact A90);refine⟨R,B,?_,G,⟨g.cp,λm=>by rw[g.val,i];grind,g.mo,by have:=g.len;have:=j.len;omega,λt ht=>by obtain⟨z,I,z2⟩:=g.int t ht;exact⟨z,I,by rw[<-j.len];omega⟩⟩,L⟩;unfold Zy;rw[P9,Ad,V,Ad];simp only[bne_self_eq_false,Am,Kr,Ad];rw[show J8 out [] []=some (Eo v,v) from J,Ad,M];rfl
theorem Gs.nil_of {c:List Grp} {A:List Be} (h:Gs c A):A = []->c = []:=by cases h with| nil=>exact λ_=>rfl| cons b _ _ _ _=>exact λe=>absurd (List.append_eq_nil_iff.1 e).1 b
theorem IsE.one {a:Be} {B:List Dp} (h:IsE [a] B):B.length<=1:=by
 obtain⟨gs,G,x,I,q,rfl⟩:=h;have E:G = [a]:=List.perm_singleton.1 x;rw[E]at q;generalize c:[a]=X at q;cases q with
 | nil=>cases c
 | @cons l N f g rest gs s hg J z D=>
  have L:g.length+rest.length=1:=(by have:=congrArg List.length c;simpa using this.symm);have y:g.length=1:=(by have:=List.length_pos_iff.2 s;have:rest.length≠1\/g.length=0:=ω;omega);have b:rest = []:=Fa.1 ω;subst b;rw[List.append_nil]at c;subst c;have u:=D.nil_of rfl;subst u
  .show (Fp [([],1)] l f (N+1)).length<=1;have key:∀n,(∀i j,i<n->j<n->f i≠0->f j≠0->i=j)->(Fp [(([],1):Dp)] l f n).length<=1/\((Fp [(([],1):Dp)] l f n).length=1->∃i,i<n/\f i≠0):=by
    intro n;induction n with
    | zero=>intro _;simp[Fp]
    | succ n ih=>
     intro h;obtain⟨i1,i2⟩:=ih λi j hi hj=>h i j ω ω;rw[Sj,Fb];by_cases h0:f n=0
     .rw[Ay h0];refine⟨by simpa using i1,λe=>?_⟩;obtain⟨i,a1,a2⟩:=i2 (by simpa using e);exact⟨i,ω,a2⟩
     .rw[Av h0];have:(Fp [(([],1):Dp)] l f n).length≠1:=λe=>by obtain⟨i,a1,a2⟩:=i2 e;have:=h i n ω ω a2 h0;omega
      refine⟨by simp only[Ix,List.length_singleton];omega,λ_=>⟨n,ω,h0⟩⟩
   refine (key (N+1) ?_).1;rcases z with⟨_,h2⟩|⟨_,h2,_⟩
   .have e:∀k,k<N+1->f k=if k=N then 1 else 0:=by refine Au1 λn _=>?_;rw[h2.2.2 n];have A:N=a.P.toNat:=(by have:=h2.1;simpa[Cr] using this);rw[Aga (k:=N) ω (λj hj=>by simp[hj])];simp[prb,A]
    intro i j hi hj h1 h2;rw[e i hi]at h1;rw[e j hj]at h2;split at h1
    .split at h2
     .omega
     .exact (h2 rfl).elim
    .exact (h1 rfl).elim
   .intro i j hi hj _ _;omega
theorem IsE.oneA {a:Be} {B:List Dp} (h:IsE [a] B):∀b∈B,b.1.length<=1:=by obtain⟨gs,z,q,x,k,rfl⟩:=h;have j:=q.length_eq;cases k with| nil=>intro b hb;simp only[I8,Dw]at hb;subst hb;simp| @cons l N f g rest gs c hg i y u=>rw[Fb]at j;simp only[List.length_singleton]at j;have s:=List.length_pos_iff.2 c;have i:rest = []:=Fa.1 ω;subst i;have:=u.nil_of rfl;subst this;exact Avc (M:=0) λb hb=>by simp only[Dw]at hb;subst hb;simp
theorem Agl {x:Bh} (y:CSz x) (A:En x) {l:As} {k:Int} (g:Cd l=true) (h0:0<=k) (D:k<=6) (hi:D9 x.V x.E l=true) : ∃R B,Nv x l k=some (R,0)/\IsE [⟨l,k⟩] B/\IP x 1 4900 (λm=>(ec B m:Rat)) R/\∀t∈R,NoF x k.toNat t.M/\t.M.A.length<=1:=by obtain⟨q,hb,_⟩:=Af3 y (ps:=[]) (λp hp=>by cases hp) ψ ⟨A,λp hp=>by cases hp⟩;obtain⟨a1,a2⟩:=Avm g h0 D;obtain⟨R,B,u,f,c,i⟩:=A94 (x:=x) (P:=λm=>NoF x (Cr [⟨l,k⟩]) m/\m.A.length<=1) (λm h=>h.1.1) a1 a2 (λB j b hb=>⟨j.noF a1 (λa ha=>by simp only[Dw]at ha;subst ha;exact hi) a2 b hb,j.oneA b hb⟩) q [] x.E.G x.E.U x.E.R;refine⟨R,B,?_,f,⟨c.cp,c.val,c.mo,Nat.le_trans c.len f.one,λt ht=>by obtain⟨z,s,z2⟩:=c.int t ht;have:=f.one;exact⟨z,s,ω⟩⟩,λt ht=>⟨(i t ht).1.mono (by simp[Cr]),(i t ht).2⟩⟩;unfold Nv;rw[hb];simp only[Ad,Dz,Am,M5,g,Ax (ω:¬k<0),Ax (ω:¬k>6)];rw[Asj q [] x.D x.V x.E l (by have:=(Lr g).1;omega),Ad,hi];simp only[Dz,Am,u,Ad]
theorem Alx {l:List Be} (h:∀a∈l,1<=a.P):0<=Cv l:=by induction l with| nil=>simp[Cv]| cons a l ih=>have h1:=h a ψ;have h2:=ih λb hb=>h b (by simp[hb]);unfold Cv at *;simp only[List.map_cons,List.sum_cons];omega
theorem Avq {l:List Be} (h:∀a∈l,1<=a.P) (j:Nat):0<=Cv (l.take j)/\Cv (l.take j)<=Cv l:=by refine⟨Alx λa ha=>h a (List.mem_of_mem_take ha),?_⟩;have e:=Agh (l.take j) (l.drop j);rw[List.take_append_drop]at e;have:=Alx (l:=l.drop j) λa ha=>h a (List.mem_of_mem_drop ha);omega
theorem A95 {x:Bh} {D:Nat} {m:A7} (h:NoF x D m) (q:D<=6) (b1:List (ByteArray×Int)) (b2:List (ByteArray×List Ch)) (data:List Aw) (vars:List Ah) (k i:Int) (g:List Ah) : Mz m b1 b2 data vars k i g=some (Cv m.A,b1):=by
 obtain⟨h1,h2,h3⟩:=h;have hm:=h1.cmo;have hd:∀a∈m.A,1<=a.P:=λa ha=>(hm.al a ha).2.2.1;have l:=hm.na;unfold Mz;rw[h2];refine bnd (a:=(0,b1)) (D5 ψ) ?_;dsimp only;refine Iy m.A.length (λj=>(Cv (m.A.take j),(j:Int))) (by simp[Cv]) ?_ ⟨Cv m.A,?_,rfl⟩
 .intro j hj;have hx:m.A[j]? = some m.A[j]:=Bx hj;have b:=List.getElem_mem hj;generalize m.A[j]=a at hx b;have ha:=hm.al a b;have ht:=Avq hd j;have c:=Avq hd (j+1);rw[Dc hx,Agh]at c;have f:Cv [a]=a.P:=(by simp[Cv]);rw[f]at c;have e:(if (7:Int)<a.P then 7 else a.P)=a.P:=Av ω;have w:Ac (Cv (m.A.take j)+a.P)=Cv (m.A.take j)+a.P:=ξ;simp only[Ap (ω:(j:Int)<(m.A.length:Int)),Ak,Bv rfl hx,Ad,Ap (ω:Cv (m.A.take j)<=6),e,w,C9 hj ω,Dc hx,Agh,f]
 .simp only[Ax (ω:¬(m.A.length:Int)<(m.A.length:Int)),Am,Dh]
theorem Avr {x:Bh} {D:Nat} {t:Ai} (h:NoF x D t.M) (l:D<=6) (b1:List (ByteArray×Int)) (b2:List (ByteArray×List Ch)) (data:List Aw) (vars:List Ah) (i g:Int) (f:List Ah) : ∃G,Rg [t] b1 b2 data vars i g f=some (G,b1)/\0<=G/\G<=(D:Int):=by
 have hd:∀a∈t.M.A,1<=a.P:=λa ha=>(h.1.cmo.al a ha).2.2.1;have h0:=Alx hd;have c:=h.2.2;refine⟨Cv t.M.A,?_,h0,c⟩;unfold Rg;have i0:Af [t] 0=some t:=rfl;have k:Ac (0+1)=1:=by rw[Ac,B3] <;> omega
 refine Iy 1 (λj=>if j=0 then (0,0,b1) else (Cv t.M.A,1,b1)) rfl ?_ ⟨(Cv t.M.A,b1),?_,rfl⟩
 .intro j hj;have:j=0:=ω;subst this;have e:(if Cv t.M.A>0 then Cv t.M.A else 0)=Cv t.M.A:=(by split <;> omega);have b:=A95 h l b1 b2 data vars i g f;simp only[if_true,List.length_singleton,i0,Ad,b,e,k];rfl
 .rfl
noncomputable def eB (A:List Be):List Dp:=open Classical in if h:∃B,IsE A B then Classical.choose h else []
theorem Agm {A:List Be} {B:List Dp} (h:IsE A B):eB A=B:=by unfold eB;rw[dif_pos ⟨B,h⟩];exact (Classical.choose_spec (⟨B,h⟩:∃B,IsE A B)).det h (List.Perm.refl _)
noncomputable def Qh:List Ai->List Ai->A7->Rat
 | t::_,u::_,m=>rq t.C*rq u.C*(ec (eB (t.M.A++u.M.A)) m:Rat)
 | _,_,_=>0
theorem Agn {x:Bh} {D:Nat} {m:A7} (h:NoF x D m) (f:D<=6):Atk m.A/\Cr m.A<=D/\(∀a∈m.A,D9 x.V x.E a.L=true)/\m.A.length<=D:=by
 have hm:=h.1.cmo;have hd:∀l:List Be,(∀a∈l,1<=a.P)->(Cr l:Int)=Cv l/\(l.length:Int)<=Cv l:=by intro l;induction l with| nil=>intro _;simp[Cr,Cv]| cons a l ih=>intro h;have h1:=h a ψ;obtain⟨h2,h3⟩:=ih λb hb=>h b (by simp[hb]);unfold Cv at *;simp only[Cr,List.map_cons,List.sum_cons,Ei];omega
 have c:=hd m.A λa ha=>(hm.al a ha).2.2.1;have h3:=h.2.2;refine⟨⟨λa ha=>by have:=(hm.al a ha).2.2.1;omega,λa ha=>(hm.al a ha).1,ω,ω⟩,ω,λa ha=>?_,ω⟩;have hc:=h.1.1;unfold I6 at hc;simp only[Ck,D2]at hc;obtain⟨j,hj⟩:=Gz ha;have:=hc.1.2 (a,j) (List.mk_mem_zipIdx_iff_getElem?.2 hj);unfold Mg at this;simp only[Ck]at this;exact this.1.2
theorem Ago {B:List Dp} {l:As} {f:Nat->Nat} {m:Nat} (h:∀k,k<m->f k=0):∀n,(Fp B l f n).length<=(n-m)*B.length
 | 0=>by simp[Fp]
 | n+1=>by
  have ih:=Ago (B:=B) (l:=l) h n;rw[Sj,Fb];rcases Cg n m with h'|h'
  .rw[Ay (h n h'),show n-m=0 by omega]at *;simp only[List.length_nil];omega
  .have e:n+1-m=(n-m)+1:=ω;rw[e,Nat.add_mul,Nat.one_mul];have:(if f n=0 then ([]:List Dp) else B.map λb=>(b.1++atO l n,b.2*f n)).length<=B.length:=(by split <;> simp);omega
theorem A96 {x d:Nat} (h:x<d):bc x d=0:=by
 induction x generalizing d with
 | zero=>cases d with| zero=>omega| succ d=>rfl
 | succ x ih=>cases d with| zero=>omega| succ d=>show bc x d+bc x (d+1)=0;rw[ih ω,ih ω]
theorem Avs {x:Nat} {a:Be} (h:x<a.P.toNat):∀{l:List Be},a∈l->prb x l=0
 | b::l,hm=>by
  simp only[prb];rcases Fx.1 hm with rfl|hm
  .rw[A96 h,Nat.zero_mul]
  .rw[Avs h hm,Nat.mul_zero]
theorem Aly {l:As} {N:Nat} {f:Nat->Nat} {g:List Be} (h:PwN g N f) {a:Be} (ha:a∈g) (b:a.P.toNat<=N):∀k,k<a.P.toNat->f k=0:=λk hk=>by have:=h.le (k:=k) ω;rw[Avs hk ha]at this;omega
theorem Alz {B:List Dp} {l:As} {N:Nat} {f:Nat->Nat} {a:Be} (h:Pw l N f [a]):(Fp B l f (N+1)).length<=B.length:=by
 rcases h with⟨_,h⟩|⟨_,h,_⟩
 .have b:N=a.P.toNat:=(by have:=h.1;simpa[Cr] using this);have:=Ago (B:=B) (l:=l) (Aly (l:=l) h (Dw.2 rfl) ω) (N+1);rw[show N+1-a.P.toNat=1 by omega,Nat.one_mul]at this;exact this
 .subst h;have:=Age B l f 1;rw[Nat.one_mul]at this;exact this
theorem Avt {B:List Dp} {l:As} {N:Nat} {f:Nat->Nat} {a b:Be} (h:Pw l N f [a,b]):(Fp B l f (N+1)).length<=(1+min a.P.toNat b.P.toNat)*B.length:=by
 rcases h with⟨_,h⟩|⟨_,h,_⟩
 .have c:N=a.P.toNat+b.P.toNat:=(by have:=h.1;simp only[Cr]at this;omega);have h1:=Ago (B:=B) (l:=l) (Aly (l:=l) h (a:=a) ψ ω) (N+1);have h2:=Ago (B:=B) (l:=l) (Aly (l:=l) h (a:=b) ψ ω) (N+1);rcases Nat.le_total a.P.toNat b.P.toNat with k|k
  .rw[Nat.min_eq_left k];rw[show N+1-b.P.toNat=1+a.P.toNat by omega]at h2;exact h2
  .rw[Nat.min_eq_right k];rw[show N+1-a.P.toNat=1+b.P.toNat by omega]at h1;exact h1
 .subst h;have h1:=Age B l f 1;rw[Nat.one_mul]at h1;rw[Nat.add_mul,Nat.one_mul];exact Nat.le_trans h1 (Nat.le_add_right _ _)
theorem A97 (a b:Nat):1+min a b<=2 ^ ((a+b) / 2):=by
 have h1:∀n:Nat,1+n<=2 ^ n:=λn=>by induction n with| zero=>decide| succ n ih=>rw[Nat.pow_succ];omega
 exact Nat.le_trans (h1 _) (Nat.pow_le_pow_right δ ω)
theorem A98 (a b:Nat):2 ^ (a / 2)*2 ^ (b / 2)<=2 ^ ((a+b) / 2):=by rw[<-Nat.pow_add];exact Nat.pow_le_pow_right δ ω
def Few (A:List Be):Prop:=∀l,(A.filter λa=>decide (F0 a.L l=0)).length<=2
theorem Few.perm {A b:List Be} (h:Few A) (hp:b.Perm A):Few b:=λl=>by rw[(hp.filter _).length_eq];exact h l
theorem Al0 {l:As}:∀{L:List Be},L.Pairwise (λa b=>F0 a.L b.L<0)->(L.filter λa=>decide (F0 a.L l=0)).length<=1
 | [],_=>ψ
 | a::L,h=>by
  obtain⟨h1,h2⟩:=List.pairwise_cons.1 h;by_cases e:F0 a.L l=0
  .rw[List.filter_cons_of_pos (by simpa using e)];have:L.filter (λa=>decide (F0 a.L l=0)) = []:=List.filter_eq_nil_iff.2 λb hb=>by have h3:=h1 b hb;intro c;have c:=of_decide_eq_true c;rw[(I7.zero _ _ trivial trivial).1 e,(I7.zero _ _ trivial trivial).1 c]at h3;exact Uz.irr l h3
   rw[this];simp
  .rw[List.filter_cons_of_neg (by simpa using e)];exact Al0 h2
theorem A99 {L M:List Be} (f:L.Pairwise λa b=>F0 a.L b.L<0) (c:M.Pairwise λa b=>F0 a.L b.L<0):Few (L++M):=λl=>by rw[List.filter_append,Fb];have:=Al0 (l:=l) f;have:=Al0 (l:=l) c;omega
theorem Gs.cnt:∀{j:List Grp} {A:List Be},Gs j A->Few A->∀B,(I8 B j).length<=2 ^ (Cr A / 2)*B.length:=by
 intro j A h;induction h with
 | nil=>intro _ B;simp[I8,Cr]
 | @cons l N f g rest j k hg x i y ih=>
  intro u B;have q:g.length<=2:=(by have h1:=u l;rw[List.filter_append,Fb,List.filter_eq_self.2 (λa ha=>by rw[hg a ha];exact decide_eq_true ((I7.zero l l trivial trivial).2 rfl))]at h1;omega);have s:Few rest:=λm=>by have h1:=u m;rw[List.filter_append,Fb]at h1;omega
  have c:(Fp B l f (N+1)).length<=2 ^ (Cr g / 2)*B.length:=(by match g,k,q,i with| [a],_,_,i=>refine Nat.le_trans (Alz i) ?_;exact Nat.le_mul_of_pos_left _ (Nat.pow_pos δ)| [a,b],_,_,i=>refine Nat.le_trans (Avt i) (Nat.mul_le_mul_right _ ?_);have:=A97 a.P.toNat b.P.toNat;simpa[Cr] using this);show (I8 (Fp B l f (N+1)) j).length<=_;refine Nat.le_trans (ih s _) ?_;rw[Nd];refine Nat.le_trans (Nat.mul_le_mul_left _ c) ?_;rw[<-Nat.mul_assoc];refine Nat.mul_le_mul_right _ ?_;rw[Nat.mul_comm];exact A98 _ _
theorem IsE.cnt {L M:List Be} {B:List Dp} (h:IsE (L++M) B) (i:L.Pairwise λa b=>F0 a.L b.L<0) (g:M.Pairwise λa b=>F0 a.L b.L<0):B.length<=2 ^ (Cr (L++M) / 2):=by obtain⟨gs,k,c,j,f,rfl⟩:=h;have:=f.cnt ((A99 i g).perm c) [([],1)];rw[Qf c]at this;simpa using this
theorem IsE.cnt1 {L M:List Be} {B:List Dp} (h:IsE (L++M) B) (hL:L.length<=1) (hM:M.length<=1):B.length<=1+min (Cr L) (Cr M):=by
 obtain⟨gs,A',j,S,V,rfl⟩:=h;have i:=j.length_eq;rw[Fb]at i;cases V with
 | nil=>simp only[I8,List.length_singleton];omega
 | @cons l N f g rest gs u hg D A U=>
  rw[Fb]at i;have G:=List.length_pos_iff.2 u
  match g,u,A,i,j,G with
  | [a],_,A,i,j,_=>
   have h1:=Alz (B:=[([],1)]) A;show (I8 (Fp [([],1)] l f (N+1)) gs).length<=_;simp only[List.length_singleton]at h1 i;have hB:(I8 (Fp [([],1)] l f (N+1)) gs).length<=(Fp [([],1)] l f (N+1)).length:=by
    generalize Fp [([],1)] l f (N+1)=B0;cases U with
    | nil=>exact Nat.le_refl _
    | @cons Z N' f' Y k X s _ _ q R=>
     have z:=List.length_pos_iff.2 s;rw[Fb]at i
     match Y,q,i,z with
     | [b],q,i,_=>simp only[List.length_singleton]at i;have D:k = []:=Fa.1 ω;subst D;have:=R.nil_of rfl;subst this;exact Alz q
     | b::c::t,_,i,_=>simp only[Ei]at i;omega
   omega
  | [a,b],_,A,i,j,_=>
   simp only[Ei,List.length_nil]at i;have D:rest = []:=Fa.1 ω;subst D;have:=U.nil_of rfl;subst this;rw[List.append_nil]at j;have h1:=Avt (B:=[([],1)]) A;have J:∃x,L = [x]:=List.length_eq_one_iff.1 ω;have I:∃x,M = [x]:=List.length_eq_one_iff.1 ω;obtain⟨x,rfl⟩:=J;obtain⟨y,rfl⟩:=I;have E:(a=x/\b=y)\/(a=y/\b=x):=by
    have ha:a∈[x]++[y]:=j.mem_iff.1 ψ;simp only[Du,List.nil_append,Fx,List.not_mem_nil,or_false]at ha;rcases ha with rfl|rfl
    .left;exact⟨rfl,by have:=j.cons_inv;exact (List.singleton_perm_singleton.1 this)⟩
    .right;have S:[a,b].Perm [a,x]:=j.trans (List.Perm.swap a x []);exact⟨rfl,List.singleton_perm_singleton.1 S.cons_inv⟩
   show (Fp [([],1)] l f (N+1)).length<=_;simp only[List.length_singleton,Nat.mul_one]at h1;simp only[Cr,Nat.add_zero];rcases E with⟨rfl,rfl⟩|⟨rfl,rfl⟩
   .exact h1
   .rw[Nat.min_comm];exact h1
  | a::b::c::t,_,_,i,_,_=>simp only[Ei]at i;omega
theorem Agp {α:Type} {l:List α} (h:l.length<=1):l = []\/∃a,l = [a]:=by
 cases l with
 | nil=>exact .inl rfl
 | cons a l=>cases l with| nil=>exact .inr ⟨a,rfl⟩| cons b l=>simp at h
theorem Avu (x:Bh) (n L:Nat) (f:A7->Rat) (b:∀m,f m=0):IP x n L f [] := ⟨CP.nil,λm=>(b m).symm,λ_ h=>(by cases h),ψ,λ_ h=>(by cases h)⟩
theorem Baa {x:Bh} (hz:CSz x) (hf:En x) {D D':Nat} (hD:D+D'<=6) {f g:A7->Rat} {p q:List Ai} (hp:IP x 1 4900 f p) (hq:IP x 1 4900 g q) (np:∀t∈p,NoF x D t.M) (nq:∀t∈q,NoF x D' t.M) {n:Nat} (hn:∀t∈p,∀u∈q,∀B,IsE (t.M.A++u.M.A) B->B.length<=n) : ∃R,Ol x p q=some (R,0)/\IP x n 13000 (Qh p q) R:=by
 obtain⟨j,hb⟩:=At2 hz hf (hp.can δ δ) (hq.can δ δ);have s:Ks [] []=some ([],0):=by obtain⟨R,E,l⟩:=Alt (x:=x) (k:=0) (Col.nil 0 _) δ ψ (λm=>⟨0,rfl⟩);have:R = []:=Fa.1 (by have:=l.len;simpa using this);rw[this]at E;exact E
 have L:Ac (0+1)=1:=by rw[Ac,B3] <;> omega
 rcases Agp hp.len with rfl|⟨t,rfl⟩
 .refine⟨[],?_,Avu x _ _ _ λm=>by cases q <;> rfl⟩;unfold Ol;rw[hb];simp only[Ad,Dz,Am,List.length_nil,Kr];rw[Ax δ,Am];simp only[Ad,Am];refine bnd (a:=.inr (j,[],[],[])) (D5 (by rfl)) ?_;simp only[s,Ad]
 .have ht:=np t ψ;have S:=Avr ht ω j [] x.D x.V x.E.G x.E.U x.E.R;obtain⟨G,g1,g2,g3⟩:=S;have it:Af [t] 0=some t:=rfl;rcases Agp hq.len with rfl|⟨u,rfl⟩
  .refine⟨[],?_,Avu x _ _ _ λm=>rfl⟩;unfold Ol;rw[hb];simp only[Ad,Dz,Am,List.length_nil,List.length_singleton,Kr];rw[Ap δ,Ax δ,Ak,Am];simp only[Ad,Am];refine bnd (a:=.inr (j,[],[],[])) ?_ (by simp only[s,Ad]);refine (Ir (s':=(1,j,[],[],[])) ?_).trans (D5 ?_)
   .simp only[it,Ad];rw[Ap δ,Ak];refine bnd (a:=.inr (0,j,[],[],[])) (D5 (by rfl)) ?_;simp only[L]
   .rfl
  .have hu:=nq u ψ;obtain⟨G',Z,a8,a7⟩:=Avr hu ω j [] x.D x.V x.E.G x.E.U x.E.R;have iu:Af [u] 0=some u:=rfl;obtain⟨a1,a2,a3,a4⟩:=Agn ht ω;obtain⟨c1,c2,c3,c4⟩:=Agn hu ω;obtain⟨y,J,y2⟩:=hp.int t ψ;obtain⟨z,I,z2⟩:=hq.int u ψ;have N:=Abs (hp.cp.coe t ψ).1 J y2;have M:=Abs (hq.cp.coe u ψ).1 I z2;obtain⟨c,m1,m2,m3,m4⟩:=M8 N M δ δ;have hA:Atk (t.M.A++u.M.A):=⟨λa ha=>by
    rcases D7.1 ha with h|h
    .exact a1.deg a h
    .exact c1.deg a h,λa ha=>by
    rcases D7.1 ha with h|h
    .exact a1.lin a h
    .exact c1.lin a h,by rw[Nd];omega,by rw[Fb];omega⟩
   have hs:Cr (t.M.A++u.M.A)<=6:=(by rw[Nd];omega);have hi:∀a∈t.M.A++u.M.A,D9 x.V x.E a.L=true:=λa ha=>by
    rcases D7.1 ha with h|h
    .exact a3 a h
    .exact c3 a h
   have V:rq c≠0:=by
    rw[m4];exact λh=>by
     rcases Rat.mul_eq_zero.1 h with h|h
     .exact (hp.cp.coe t ψ).2 h
     .exact (hq.cp.coe u ψ).2 h
   obtain⟨out,B,e1,e2,A,e4⟩:=Alo (c:=c) (K:=9804) (m2.mono δ) δ V hA j [] x.D x.V x.E.G x.E.U x.E.R;have a6:out.length<=64:=Nat.le_trans e4 (Nat.le_trans (Nat.pow_le_pow_right δ hs) δ);have hm:=e2.good (x:=x) hA hi hs;obtain⟨v,v1,v2,v3,v4⟩:=Xm (k0:=12228) (k:=12228) (P:=E5 x) (λm h=>h.cmo) out [] (Col.nil _ _) (λw hw=>by obtain⟨b,hb,Y,_,X⟩:=A.mem hw;exact⟨X,by rw[Y];exact hm b hb⟩) (Nat.le_refl _) ω ζ;simp at v3;have U:∀m,cf v m=Qh [t] [u] m:=λm=>by rw[v4,A.cf,m4];show cf [] m+_=rq t.C*rq u.C*(ec (eB (t.M.A++u.M.A)) m:Rat);rw[Agm e2];simp only[cf];grind
   obtain⟨R,E,l⟩:=Alt (x:=x) v2 ω ω (λm=>by rw[v4,A.cf,m4,J,I];exact⟨y*z*(ec B m:Int),by rw[Rat.intCast_mul,Rat.intCast_mul,Rat.intCast_natCast];simp only[cf];grind⟩);refine⟨R,?_,⟨l.cp,λm=>by rw[l.val,U],l.mo,by have:=l.len;have:=A.len;have:=hn t ψ u ψ B e2;omega,λw hw=>by obtain⟨i,i1,i2⟩:=Als w.M out (A.listI (z:=y*z) (by rw[m4,J,I,Rat.intCast_mul]));refine⟨i,?_,ω⟩;rw[<-O4 l.cp hw,l.val,v4,i1];show (0:Rat)+(i:Rat)=(i:Rat);grind⟩⟩;have hj:Oo t.M u.M=some ⟨[],t.M.A++u.M.A⟩:=(by rw[Agd _ _ (by rw[ht.2.1,hu.2.1];simp) ω,ht.2.1,hu.2.1];rfl);have wG:Ac (G+G')=G+G':=ξ;unfold Ol;rw[hb];simp only[Ad,Dz,Am,List.length_singleton,Kr];rw[Ap δ,Ak,Ak,g1,Ad,Z,Ad,wG,Ax ω];simp only[Ad,Am];refine bnd (a:=.inr (j,[],Eo v,v)) ?_ (by simp only[E,Ad]);refine (Ir (s':=(1,j,[],Eo v,v)) ?_).trans (D5 ?_)
   .simp only[it,Ad];rw[Ap δ,Ak];refine bnd (a:=.inr (1,j,[],Eo v,v)) ?_ (by simp only[L]);refine (Ir (s':=(1,j,[],Eo v,v)) ?_).trans (D5 ?_)
    .simp only[iu,Ad,m1,hj,e1];rw[Ap δ,Ak];simp only[bne_self_eq_false,Am];rw[show J8 out [] []=some (Eo v,v) from v1];simp only[Ad,L]
    .rfl
   .rfl
def sq:Nat->(Nat->Rat)->Rat
 | 0,_=>0
 | n+1,f=>sq n f+f n
theorem IP.up {x:Bh} {n b L L':Nat} {f g:A7->Rat} {R:List Ai} (h:IP x n L f R) (i:n<=b) (j:L<=L') (e:∀m,f m=g m):IP x b L' g R := ⟨h.cp,λm=>by rw[h.val,e],h.mo,Nat.le_trans h.len i,λt ht=>by obtain⟨z,c,z2⟩:=h.int t ht;exact⟨z,c,ω⟩⟩
noncomputable def aP (x:Bh) (l:As) (k:Int):List Ai:=match Nv x l k with|some r=>r.1|none=>[]
theorem Abt {x:Bh} (h:CSz x) (j:En x) {l:As} {k:Int} (i:Cd l=true) (h0:0<=k) (q:k<=6) (hi:D9 x.V x.E l=true) : Nv x l k=some (aP x l k,0)/\IP x 1 4900 (λm=>(ec (eB [⟨l,k⟩]) m:Rat)) (aP x l k)/\∀t∈aP x l k,NoF x k.toNat t.M/\t.M.A.length<=1:=by
 obtain⟨R,B,b,g,f,c⟩:=Agl h j i h0 q hi;have e:aP x l k=R:=by unfold aP;rw[b]
 rw[e,Agm g];exact⟨b,f,c⟩
noncomputable def shF (x:Bh) (E F s:As) (K:Nat) (m:A7):Rat:=(ec (eB [⟨s,(K:Int)⟩]) m:Rat)-sq (K+1) λj=>Qh (aP x E (j:Int)) (aP x F ((K-j:Nat):Int)) m
theorem NoF.dsum_le {x:Bh} {D:Nat} {m:A7} (h:NoF x D m):Cr m.A<=D:=by
 have h1:=h.2.2;have h2:∀l:List Be,(∀a∈l,1<=a.P)->Cv l=(Cr l:Nat):=λl=>by induction l with| nil=>intro _;rfl| cons a l ih=>intro h;have e:=ih λb hb=>h b (by simp[hb]);have c:=h a ψ;unfold Cv at *;simp only[List.map_cons,List.sum_cons,Cr];omega
 rw[h2 _ λa ha=>(h.1.cmo.al a ha).2.2.1]at h1;omega
def cs (K:Nat):Nat->Nat
 | 0=>0
 | j+1=>cs K j+(1+min j (K-j))
theorem Avv {K j:Nat} (b:K<=6) (hj:j<=K+1):cs K j<=16:=(by decide:∀K,K<7->∀j,j<K+2->cs K j<=16) K ω j ω
theorem Bab {x:Bh} (b:CSz x) (c:En x) {E F:As} {K j:Nat} (y:Cd E=true) (s:Cd F=true) (q:D9 x.V x.E E=true) (i:D9 x.V x.E F=true) (A:K<=6) (hj:j<=K) : ∃R,Wc x ⟨1,E,F,(K:Int)⟩ (j:Int)=some (R,0)/\IP x (1+min j (K-j)) 13000 (Qh (aP x E (j:Int)) (aP x F ((K-j:Nat):Int))) R:=by
 obtain⟨a1,a2,a3⟩:=Abt b c (l:=E) (k:=(j:Int)) y ω ω q;obtain⟨b1,b2,f⟩:=Abt b c (l:=F) (k:=((K-j:Nat):Int)) s ω ω i;obtain⟨R,h,g⟩:=Baa b c (D:=j) (D':=K-j) ω a2 b2 (λt ht=>(a3 t ht).1.mono ω) (λt ht=>(f t ht).1.mono ω) (n:=1+min j (K-j)) (λt ht u hu B z=>by have h1:=z.cnt1 (a3 t ht).2 (f u hu).2;have h2:=(a3 t ht).1.dsum_le;have h3:=(f u hu).1.dsum_le;omega);refine⟨R,?_,g⟩;have w:Ac ((K:Int)-(j:Int))=((K-j:Nat):Int):=by rw[Ac,B3] <;> omega
 unfold Wc;simp only[a1,Ad,bne_self_eq_false,Am,w,b1,h]
theorem Avw {l:List Bk} {v:Int} (h:cl l v≠0):∃t∈l,t.v=v:=by
 rcases Classical.em (∃t∈l,t.v=v) with h'|h'
 .exact h'
 .exact (h (Alq λt ht e=>h' ⟨t,ht,e⟩)).elim
theorem Qg.cl {L:List Bk} (h:Qg L) {t:Bk} (ht:t∈L):Ab.cl L t.v=t.C:=by
 induction L with
 | nil=>cases ht
 | cons s L ih=>
  simp only[Ab.cl];rcases Fx.1 ht with rfl|ht'
  .rw[Ay rfl,Alq λu hu=>by have:=(List.pairwise_cons.1 h.srt).1 u hu;omega];omega
  .have:=(List.pairwise_cons.1 h.srt).1 t ht';rw[Av ω,ih ⟨(List.pairwise_cons.1 h.srt).2,λu hu=>h.nz u (by simp[hu])⟩ ht'];omega
theorem Bac {vars:List Ah} {res:Ah} {a b s:As} (c:Qg s.T) (h:∀v,cl s.T v=cl a.T v+cl b.T v) (ha:D9 vars res a=true) (hb:D9 vars res b=true):D9 vars res s=true:=by
 unfold D9 at *;rw[D2]at *;intro t ht;have h1:=c.cl ht;rw[h]at h1;have h2:=c.nz t ht;have key:∀u:Bk,u.v=t.v->K6 vars res u=true->K6 vars res t=true:=λu e hu=>by unfold K6 at *;rw[<-e];exact hu
 by_cases h3:cl a.T t.v=0
 .obtain⟨u,hu,e⟩:=Avw (l:=b.T) (v:=t.v) ω;exact key u e (hb u hu)
 .obtain⟨u,hu,e⟩:=Avw h3;exact key u e (ha u hu)
theorem Bad {x:Bh} (y:CSz x) (A:En x) {E F s:As} {K:Nat} (hE:Cd E=true) (hF:Cd F=true) (Y:D9 x.V x.E E=true) (X:D9 x.V x.E F=true) (D:K<=6) (Z:M1 E F=some (s,0)) (ls:Cd s=true) (V:D9 x.V x.E s=true) :
  ∃R,Zc x ⟨1,E,F,(K:Int)⟩=some (R,0)/\IP x 17 13010 (shF x E F s K) R:=by
 obtain⟨a1,a2,a3⟩:=Abt y A (l:=s) (k:=(K:Int)) ls ω ω V
 unfold Zc
 simp only[Z,Ad,bne_self_eq_false,Am,a1]
 obtain⟨r,M,L⟩:=Ej (J:=λ(z:Int×List Ai)=>match z with|(g,q)=>bif (g != (0:Int)) then some (([]:List Ai),g) else some (q,0)) (Q:=λr=>∃R,r=(R,(0:Int))/\IP x 17 13010 (shF x E F s K) R)
  (step:=λ(z:Int×List Ai×Int)=>match z with
   | (v9,c,v11)=>
    (show OB from
    bif v11<=(K:Int) then (
    some (v9==(0:Int))
    )
    else (
    some false
    )
    ).bind λv12=>
    bif v12 then (
    (Wc x ⟨1,E,F,(K:Int)⟩ v11).bind λb=>
    bif (b.2==(0:Int)) then (
    (Mx x c b.1).bind λi=>
    some (.inl (i.2,i.1,(Ac (v11+1))))
    )
    else (
    some (.inl (b.2,c,(Ac (v11+1))))
    )
    )
    else (
    some (.inr (v9,c))
    )) (s:=(0,aP x s (K:Int),0))
  (λu=>∃(j:Nat) (R:List Ai),u=(0,R,(j:Int))/\j<=K+1/\IP x (1+cs K j) (13000+j) (λm=>(ec (eB [⟨s,(K:Int)⟩]) m:Rat)-sq j λj=>Qh (aP x E (j:Int)) (aP x F ((K-j:Nat):Int)) m) R) (λu=>K+1-u.2.2.toNat)
  (λe=>∃R,e=(0,R)/\IP x 17 13010 (shF x E F s K) R)
  ⟨0,_,rfl,ω,a2.up ω ω λm=>by simp only[sq];grind⟩ (by
  rintro _ ⟨j,R,rfl,hj,f⟩
  rcases Cg j (K+1) with h|h
  .left
   obtain⟨P,U,N⟩:=Bab y A hE hF Y X D (ω:j<=K)
   have B:=Avv D (j:=j+1) ω
   have a6:cs K (j+1)=cs K j+(1+min j (K-j)):=rfl
   obtain⟨S,I,G⟩:=Avk y A f (N.up (L':=13000+j) (Nat.le_refl _) ω λ_=>rfl) ω ω
   refine⟨(0,S,((j+1:Nat):Int)),?_,⟨j+1,S,rfl,ω,G.up ω ω λm=>by simp only[sq];grind⟩,ζ⟩
   simp only[Ap (ω:(j:Int)<=(K:Int)),Ak,beq_self_eq_true,Ad,U,I,C9 h ω]
  .right
   have:j=K+1:=ω
   subst this
   have B:=Avv D (j:=K+1) ω
   refine⟨(0,R),by simp only[Ax (ω:¬((K+1:Nat):Int)<=(K:Int)),Am,Ad],R,rfl,f.up ω ω λm=>rfl⟩) (by
  rintro _ ⟨R,rfl,f⟩
  exact⟨_,rfl,R,rfl,f⟩)
 obtain⟨R,rfl,f⟩:=L
 exact⟨R,M,f⟩
theorem Bae {x:Bh} (j:CSz x) (E F:As) (K:Int) (V:E.T.length<=6) (U:F.T.length<=6) : ∃R v f,Tm x ⟨1,E,F,K⟩=some (R,Agk x v f E F)/\On ⟨1,E,F,K⟩=some v/\L2 x []=some f/\(Agk x v f E F≠0->R = []) /\ (Agk x v f E F=0->En x/\0<=K/\K<=6/\Cd E=true/\Cd F=true/\D9 x.V x.E E=true/\D9 x.V x.E F=true/\∃s,M1 E F=some (s,0)/\IP x 17 13010 (shF x E F s K.toNat) R):=by
 obtain⟨v,B,v2⟩:=Alw ⟨1,E,F,K⟩ (by show E.T.length+F.T.length<=12;omega);obtain⟨f,f1,f2⟩:=Uq x j [] (λt ht=>by cases ht);have S:=j.nv;have G:=Agj x E ω ω;have D:=Agj x F ω ω;unfold Tm;rw[B,f1,G,D];unfold Agk;cases v with
 | false=>exact⟨[],false,f,rfl,rfl,rfl,λ_=>rfl,λh=>absurd (show (1:Int)=0 from h) δ⟩
 | true=>
  cases f with
  | false=>exact⟨[],true,false,rfl,rfl,rfl,λ_=>rfl,λh=>absurd (show (1:Int)=0 from h) δ⟩
  | true=>
   cases hi:D9 x.V x.E E with
   | false=>exact⟨[],true,true,rfl,rfl,rfl,λ_=>rfl,λh=>absurd (show (6:Int)=0 from h) δ⟩
   | true=>
    cases hj:D9 x.V x.E F with
    | false=>exact⟨[],true,true,rfl,rfl,rfl,λ_=>rfl,λh=>absurd (show (6:Int)=0 from h) δ⟩
    | true=>
     obtain⟨z,y,k0,i,hk⟩:=v2.1 rfl;have k0:0<=K:=k0;have i:K<=6:=i;have A:=(f2.1 rfl).1;rcases hk with⟨_,s,g⟩|⟨h2,_⟩
     .rcases Alu E F ω with⟨_,_,L,c,M,J⟩|⟨_,c⟩
      .rw[g]at c;have c:=Fj c;unfold U1 at c;by_cases hc:Cd ⟨E.Q+F.Q,L⟩=true
       .rw[Ay hc]at c;have k:s=⟨E.Q+F.Q,L⟩:=congrArg Prod.fst c;subst k;have N:=Bac (vars:=x.V) (res:=x.E) (a:=E) (b:=F) (s:=⟨E.Q+F.Q,L⟩) M J hi hj;have l:((K.toNat:Nat):Int)=K:=ω;obtain⟨R,u,I⟩:=Bad j A (K:=K.toNat) z y hi hj ω g hc N;rw[l]at u;refine⟨R,true,true,?_,rfl,rfl,λh=>absurd rfl h,λ_=>⟨A,k0,i,z,y,rfl,rfl,_,g,I⟩⟩;have q:((1:Int)==2)=false:=rfl;simp only[Dz,Ad,Am,Bool.and_self,q,u]
       .rw[Av hc]at c;exact absurd (show (0:Int)=9 from congrArg Prod.snd c) δ
      .rw[g]at c;exact absurd (show (0:Int)=1 from congrArg Prod.snd (Fj c)) δ
     .exact absurd (show (1:Int)=2 from h2) δ
def Gt (v:As->Nat):List Be->Nat
 | []=>1
 | a::l=>bc (v a.L) a.P.toNat*Gt v l
theorem Agq (v:As->Nat) (l m:List Be):Gt v (l++m)=Gt v l*Gt v m:=by induction l with| nil=>simp[Gt]| cons a l ih=>simp only[Du,Gt,ih,Nat.mul_assoc]
theorem Baf (v:As->Nat) {l m:List Be} (h:l.Perm m):Gt v l=Gt v m:=by induction h with| nil=>rfl| cons a _ ih=>simp only[Gt,ih]| swap a b l=>simp only[Gt];rw[<-Nat.mul_assoc,<-Nat.mul_assoc,Nat.mul_comm (bc (v b.L) _)]| trans _ _ h1 h2=>exact h1.trans h2
theorem Avx {v:As->Nat} {l:As}:∀{g:List Be},(∀a∈g,a.L=l)->Gt v g=prb (v l) g
 | [],_=>rfl
 | a::g,h=>by simp only[Gt,prb];rw[h a ψ,Avx λb hb=>h b (by simp[hb])]
def Hk (v:As->Nat):List Dp->Nat
 | []=>0
 | b::bs=>b.2*Gt v b.1+Hk v bs
theorem Bag (v:As->Nat) (B C:List Dp):Hk v (B++C)=Hk v B+Hk v C:=by induction B with| nil=>simp[Hk]| cons b B ih=>simp only[Du,Hk,ih,Nat.add_assoc]
theorem Bah (v:As->Nat) (l:As) (k c:Nat) (B:List Dp):Hk v (B.map λb=>(b.1++atO l k,b.2*c))=Hk v B*(c*bc (v l) k):=by
 have ha:Gt v (atO l k)=bc (v l) k:=by
  unfold atO;by_cases h:k=0
  .subst h;rw[Ay rfl,H6];rfl
  .rw[Av h];simp[Gt]
 induction B with| nil=>simp[Hk]| cons b B ih=>simp only[List.map_cons,Hk,ih,Agq,ha];rw[Nat.add_mul];congr 1;rw[Nat.mul_assoc,Nat.mul_assoc,<-Nat.mul_assoc c,Nat.mul_comm c,Nat.mul_assoc]
theorem Avy (v:As->Nat) (B:List Dp) (l:As) (f:Nat->Nat):∀n,Hk v (Fp B l f n)=Hk v B*sm n λk=>f k*bc (v l) k
 | 0=>by simp[Fp,Hk,sm]
 | n+1=>by
  rw[Sj,Bag,Avy v B l f n];show _=Hk v B*(sm n (λk=>f k*bc (v l) k)+f n*bc (v l) n);rw[Nat.mul_add];congr 1;by_cases h:f n=0
  .rw[Ay h,h];simp[Hk]
  .rw[Av h,Bah]
def Al1 (v:As->Nat):Prop:=∀l:As,l.T.length=0->v l=l.Q.toNat
theorem Gs.val {v:As->Nat} (hv:Al1 v):∀{b:List Grp} {A:List Be},Gs b A->∀B,Hk v (I8 B b)=Hk v B*Gt v A:=by
 intro b A h;induction h with
 | nil=>intro B;simp[I8,Gt]
 | @cons l N f g rest b c hg j i k ih=>
  intro B;show Hk v (I8 (Fp B l f (N+1)) b)=_;rw[ih,Avy,Agq,Avx hg,<-Nat.mul_assoc];congr 2;rcases i with⟨_,_,_,h3⟩|⟨h1,h2,h3⟩
  .exact h3 (v l)
  .subst h2;rw[hv l h1];simp[sm,H6,h3]
theorem IsE.val {v:As->Nat} (hv:Al1 v) {A:List Be} {B:List Dp} (h:IsE A B):Hk v B=Gt v A:=by obtain⟨gs,g,c,f,b,rfl⟩:=h;rw[b.val hv,<-Baf v c];simp[Hk,Gt]
def U2 (p:Rat×A7):Rat×A7:=(-p.1,p.2)
theorem Al2 (L:List (Rat×A7)) (m:A7):cfW (L.map U2) m = - cfW L m:=by induction L with| nil=>show (0:Rat) = -0;grind| cons t L ih=>simp only[List.map_cons,cfW,ih,U2];split <;> grind
theorem Avz (v:A7->Nat) (L:List (Rat×A7)):Fu v (L.map U2) = - Fu v L:=by induction L with| nil=>show (0:Rat) = -0;grind| cons t L ih=>simp only[List.map_cons,Fu,ih,U2];grind
theorem Bai {v:A7->Nat} {L M:List (Rat×A7)} (h:∀m,cfW L m=cfW M m):Fu v L=Fu v M:=by have h1:=Af9 v _ (L++M.map U2) (Nat.le_refl _) (λm=>by rw[Si,Al2,h];grind);have h2:=Af9 v _ (M++L.map U2) (Nat.le_refl _) (λm=>by rw[Si,Al2,h];grind);rw[Uw,Avz]at h1 h2;grind
theorem Al3 {x:Bh} {val:Int->A3} {R:List Ai} {L:List (Rat×A7)} (h:∀m,cf R m=cfW L m):Dx x val R=Fu (Gr x val) L:=by rw[<-Ale];exact Bai λm=>by rw[Ald,h]
def eW (c:Rat) (B:List Dp):List (Rat×A7):=B.map λb=>(c*(b.2:Rat),⟨[],b.1⟩)
theorem Abu (c:Rat) (B:List Dp) (m:A7):cfW (eW c B) m=c*(ec B m:Rat):=by
 induction B with
 | nil=>simp only[eW,List.map_nil,cfW,ec];grind
 | cons b B ih=>
  have ih:cfW (List.map (λb=>(c*(b.2:Rat),(⟨[],b.1⟩:A7))) B) m=c*(ec B m:Rat):=ih;simp only[eW,List.map_cons,cfW,ec,ih];rw[Rat.natCast_add];by_cases h:D8 ⟨[],b.1⟩ m=0
  .rw[Ay h,Ay (Mi.1 h)];grind
  .rw[Av h,Av λe=>h (Mi.2 e)];grind
def fv (val:Int->A3) (l:As):Nat:=(D4 val l).toNat
theorem Xv (val:Int->A3):Al1 (fv val):=λl h=>by unfold fv D4;rw[Fa.1 h];simp
theorem Agr (x:Bh) (val:Int->A3) (L:List Be):Gr x val ⟨[],L⟩=Gt (fv val) L:=by
 unfold Gr;have h:∀L:List Be,Ie (L.map (Qc val))=Gt (fv val) L:=by intro L;induction L with| nil=>rfl| cons a L ih=>rw[List.map_cons];show Qc val a*Ie (L.map (Qc val))=_;rw[ih];rfl
 rw[h];show 1*_=_;rw[Nat.one_mul]
theorem Abv (x:Bh) (val:Int->A3) (c:Rat) (B:List Dp):Fu (Gr x val) (eW c B)=c*(Hk (fv val) B:Rat):=by induction B with| nil=>simp only[eW,List.map_nil,Fu,Hk];grind| cons b B ih=>have ih:Fu (Gr x val) (List.map (λb=>(c*(b.2:Rat),(⟨[],b.1⟩:A7))) B)=c*(Hk (fv val) B:Rat):=ih;simp only[eW,List.map_cons,Fu,Hk,ih,Agr];rw[Rat.natCast_add,Rat.natCast_mul];grind
theorem Baj {x:Bh} (val:Int->A3) {A:List Be} {B:List Dp} {n L:Nat} {R:List Ai} (h:IsE A B) (b:IP x n L (λm=>(ec B m:Rat)) R):Dx x val R=(Gt (fv val) A:Rat):=by rw[Al3 (L:=eW 1 B) (λm=>by rw[Abu,b.val];grind),Abv,h.val (Xv val)];grind
theorem IP.sub_val {x:Bh} (val:Int->A3) {A b:List Be} {B C:List Dp} {n L:Nat} {R:List Ai} (h:IsE A B) (h':IsE b C) (c:IP x n L (λm=>(ec B m:Rat)-(ec C m:Rat)) R):Dx x val R=(Gt (fv val) A:Rat)-(Gt (fv val) b:Rat):=by rw[Al3 (L:=eW 1 B++eW (-1) C) (λm=>by rw[Si,Abu,Abu,c.val];grind),Uw,Abv,Abv,h.val (Xv val),h'.val (Xv val)];grind
theorem Av0 {A:List Be} (f:Atk A):∃B,IsE A B:=by
 have b:rq (cR 1)=1:=by rw[Qb];rfl
 obtain⟨out,B,_,g,_⟩:=Alo (c:=cR 1) (K:=3) (A:=A) ((Lq (k:=1) (by rw[K0];decide) δ).mono δ) δ (by rw[b];decide) f [] [] [] [] 0 0 [];exact⟨B,g⟩
noncomputable def Abw:List Ai->List Ai->List (Rat×A7)
 | t::_,u::_=>eW (rq t.C*rq u.C) (eB (t.M.A++u.M.A))
 | _,_=>[]
theorem Bak (p q:List Ai) (m:A7):cfW (Abw p q) m=Qh p q m:=by
 cases p with
 | nil=>cases q <;> rfl
 | cons t p=>cases q with| nil=>rfl| cons u q=>exact Abu _ _ m
theorem Av1 {x:Bh} {D:Nat} {val:Int->A3} {m:A7} (h:NoF x D m):Gr x val m=Gt (fv val) m.A:=by
 have e:m=⟨[],m.A⟩:=by have:=h.2.1;cases m;simp only at this;subst this;rfl
 rw[e,Agr]
theorem Bal {x:Bh} {val:Int->A3} {D D':Nat} (j:D+D'<=6) {p q:List Ai} (hp:p.length<=1) (hq:q.length<=1) (g:∀t∈p,NoF x D t.M) (f:∀t∈q,NoF x D' t.M):Fu (Gr x val) (Abw p q)=Dx x val p*Dx x val q:=by
 rcases Agp hp with rfl|⟨t,rfl⟩
 .cases q <;> (simp only[Abw,Fu,Dx];grind)
 .rcases Agp hq with rfl|⟨u,rfl⟩
  .simp only[Abw,Fu,Dx];grind
  .have ht:=g t ψ;have hu:=f u ψ;obtain⟨a1,a2,a3,a4⟩:=Agn ht ω;obtain⟨c,s,l,k⟩:=Agn hu ω;have i:Atk (t.M.A++u.M.A):=⟨λa ha=>by
    rcases D7.1 ha with h|h
    .exact a1.deg a h
    .exact c.deg a h,λa ha=>by
    rcases D7.1 ha with h|h
    .exact a1.lin a h
    .exact c.lin a h,by rw[Nd];omega,by rw[Fb];omega⟩
   obtain⟨B,b⟩:=Av0 i;show Fu (Gr x val) (eW (rq t.C*rq u.C) (eB (t.M.A++u.M.A)))=_;rw[Abv,Agm b,b.val (Xv val),Agq,Rat.natCast_mul];simp only[Dx,Av1 ht,Av1 hu];grind
noncomputable def shW (x:Bh) (E F s:As) (K:Nat):Nat->List (Rat×A7)
 | 0=>eW 1 (eB [⟨s,(K:Int)⟩])
 | j+1=>shW x E F s K j++(Abw (aP x E (j:Int)) (aP x F ((K-j:Nat):Int))).map U2
theorem Av2 (x:Bh) (E F s:As) (K:Nat) (m:A7):∀n,cfW (shW x E F s K n) m=(ec (eB [⟨s,(K:Int)⟩]) m:Rat)-sq n λj=>Qh (aP x E (j:Int)) (aP x F ((K-j:Nat):Int)) m
 | 0=>by simp only[shW,Abu,sq];grind
 | n+1=>by simp only[shW,Si,Al2,Bak,Av2 x E F s K m n,sq];grind
theorem Av3 (f:Nat->Nat):∀n,sq n (λj=>(f j:Rat))=((sm n f:Nat):Rat)
 | 0=>by simp[sq,sm]
 | n+1=>by simp only[sq,sm,Av3 f n];rw[Rat.natCast_add]
theorem Av4 {x:Bh} (g:CSz x) (i:En x) (val:Int->A3) {l:As} {k:Nat} (h:Cd l=true) (q:k<=6) (hi:D9 x.V x.E l=true):Dx x val (aP x l (k:Int))=(bc (fv val l) k:Rat):=by
 obtain⟨R,B,f,c,b,j⟩:=Agl g i (k:=(k:Int)) h ω ω hi;have e:aP x l (k:Int)=R:=by unfold aP;rw[f]
 rw[e,Baj val c b];simp[Gt]
theorem Av5 {x:Bh} (b:CSz x) (c:En x) (val:Int->A3) {E F s:As} {K:Nat} (i:Cd E=true) (h:Cd F=true) (q:Cd s=true) (g:D9 x.V x.E E=true) (f:D9 x.V x.E F=true) (y:K<=6) : ∀n,n<=K+1->Fu (Gr x val) (shW x E F s K n)=(bc (fv val s) K:Rat)-sq n λj=>((bc (fv val E) j*bc (fv val F) (K-j):Nat):Rat)
 | 0,_=>by obtain⟨a1,a2⟩:=Avm (l:=s) (k:=(K:Int)) q ω ω;obtain⟨B,u⟩:=Av0 a1;simp only[shW,Abv,sq];rw[Agm u,u.val (Xv val)];simp[Gt];grind
 | n+1,A=>by obtain⟨a1,a2,a3⟩:=Abt b c (l:=E) (k:=(n:Int)) i ω ω g;obtain⟨b1,b2,z⟩:=Abt b c (l:=F) (k:=((K-n:Nat):Int)) h ω ω f;simp only[shW,Uw,Avz,sq];rw[Av5 b c val i h q g f y n ω,Bal (D:=n) (D':=K-n) ω a2.len b2.len (λt ht=>(a3 t ht).1.mono ω) (λt ht=>(z t ht).1.mono ω),Av4 b c val i ω g,Av4 b c val h ω f,Rat.natCast_mul];grind
theorem Bam {x:Bh} (f:CSz x) (h:En x) (val:Int->A3) {E F s:As} {K n L:Nat} {R:List Ai} (l:Cd E=true) (k:Cd F=true) (g:Cd s=true) (c:D9 x.V x.E E=true) (b:D9 x.V x.E F=true) (j:K<=6) (i:IP x n L (shF x E F s K) R) (hv:fv val s=fv val E+fv val F):Dx x val R=0:=by rw[Al3 (L:=shW x E F s K (K+1)) (λm=>by rw[i.val,Av2];rfl),Av5 f h val l k g c b j (K+1) (Nat.le_refl _),Av3,hv,Alf];grind
def ls (g:Int->Int):List Bk->Int
 | []=>0
 | t::l=>t.C*g t.v+ls g l
def Jh (v:Int) (l:List Bk):List Bk:=l.filter λt=>!(t.v==v)
theorem Al4 (g:Int->Int) (v:Int):∀l,ls g l=cl l v*g v+ls g (Jh v l)
 | []=>by simp[ls,cl,Jh]
 | t::l=>by
  have ih:=Al4 g v l;unfold Jh at *;simp only[ls,cl,List.filter_cons];by_cases h:t.v=v
  .rw[Ay h,Dk h,Av δ,ih,<-h,Int.add_mul];omega
  .rw[Av h,Cn h,Ay δ];simp only[ls];rw[ih,Int.zero_add];omega
theorem Al5 (v w:Int):∀l,cl (Jh v l) w=if w=v then 0 else cl l w
 | []=>by simp[Jh,cl]
 | t::l=>by
  have ih:=Al5 v w l;unfold Jh at *;simp only[cl,List.filter_cons];by_cases h:t.v=v
  .rw[Dk h,Av δ,ih];by_cases hw:w=v
   .rw[Ay hw,Ay hw]
   .rw[Av hw,Av hw,Av ω];omega
  .rw[Cn h,Ay δ];simp only[cl];rw[ih];by_cases hw:w=v
   .rw[Ay hw,Ay hw,Av ω];rfl
   .rw[Av hw,Av hw]
theorem Al6 (v:Int) (l:List Bk):(Jh v l).length<=l.length:=List.length_filter_le _ _
theorem Av6 (g:Int->Int):∀(n:Nat) (L M:List Bk),L.length+M.length<=n->(∀v,cl L v=cl M v)->ls g L=ls g M:=by
 intro n;induction n with
 | zero=>intro L M h _;have h1:L = []:=Fa.1 ω;have h2:M = []:=Fa.1 ω;rw[h1,h2]
 | succ n ih=>
  intro L M h hc;have key:∀v,(Jh v L).length+(Jh v M).length<L.length+M.length->ls g L=ls g M:=λv hv=>by rw[Al4 g v L,Al4 g v M,hc v,ih (Jh v L) (Jh v M) ω λw=>by rw[Al5,Al5,hc w]]
  cases L with
  | cons t L=>refine key t.v ?_;have h1:=Al6 t.v L;have h2:=Al6 t.v M;have e:Jh t.v (t::L)=Jh t.v L:=(by unfold Jh;rw[List.filter_cons,Dk rfl,Av δ]);rw[e];simp only[Ei];omega
  | nil=>cases M with| nil=>rfl| cons t M=>refine key t.v ?_;have h1:=Al6 t.v M;have e:Jh t.v (t::M)=Jh t.v M:=(by unfold Jh;rw[List.filter_cons,Dk rfl,Av δ]);rw[e];simp only[Ei,List.length_nil,Jh,List.filter_nil];unfold Jh at h1;omega
theorem Av7 (g:Int->Int) (l m:List Bk):ls g (l++m)=ls g l+ls g m:=by induction l with| nil=>simp[ls]| cons t l ih=>simp only[Du,ls,ih];omega
theorem Ban (g:Int->Int) (l:List Bk):ls g (l.map Jv) = - ls g l:=by induction l with| nil=>rfl| cons t l ih=>simp only[List.map_cons,ls,ih,Jv];rw[Int.neg_mul];omega
theorem So (val:Int->A3) (l:As):D4 val l=l.Q+ls (λv=>(val v).U) l.T:=by
 unfold D4;congr 1;have h:∀L:List Bk,(L.map λt=>t.C*(val t.v).U).sum=ls (λv=>(val v).U) L:=by intro L;induction L with| nil=>rfl| cons t L ih=>simp only[List.map_cons,List.sum_cons,ih,ls]
 exact h _
theorem Bao {val:Int->A3} {a b:As} {c:Int} {L:List Bk} (hc:c=a.Q+b.Q) (h:∀v,cl L v=cl a.T v+cl b.T v):D4 val ⟨c,L⟩=D4 val a+D4 val b:=by rw[So,So,So,hc];show a.Q+b.Q+ls _ L=_;rw[Av6 _ _ L (a.T++b.T) (Nat.le_refl _) λv=>by rw[h,Sn],Av7];omega
theorem Bap {val:Int->A3} {a b:As} {c:Int} {L:List Bk} (hc:c=a.Q-b.Q) (h:∀v,cl L v=cl a.T v-cl b.T v):D4 val ⟨c,L⟩=D4 val a-D4 val b:=by rw[So,So,So,hc];show a.Q-b.Q+ls _ L=_;rw[Av6 _ _ L (a.T++b.T.map Jv) (Nat.le_refl _) λv=>by rw[h,Sn,Avo];omega,Av7,Ban];omega
theorem Baq (k:Nat):∀{m n:Nat},m<=n->bc m k<=bc n k:=by
 intro m n h;induction n with
 | zero=>have:m=0:=ω;subst this;exact Nat.le_refl _
 | succ n ih=>
  rcases Cg m (n+1) with h'|h'
  .refine Nat.le_trans (ih ω) ?_;cases k with| zero=>rw[H6,H6];exact Nat.le_refl _| succ k=>rw[Qd];omega
  .have:m=n+1:=ω;subst this;exact Nat.le_refl _
theorem Bar {S E α:Type} {step:S->Option (S⊕E)} {s0:S} (l:List α) (I:Nat->S->Prop) (Q:E->Prop) (h0:I 0 s0) (f:l.length<4611686018427387904) (c:∀(j:Nat) (x:α) (s:S),j<l.length->l[j]? = some x->decide ((j:Int)<(l.length:Int))=true->Af l (j:Int)=some x->Ac ((j:Int)+1)=((j+1:Nat):Int)->I j s->∃s',step s=some (.inl s')/\I (j+1) s') (g:decide ((l.length:Int)<(l.length:Int))=false->∀s,I l.length s->∃e,step s=some (.inr e)/\Q e):∃e,An step s0=some e/\Q e:=by
 have key:∀n,n<=l.length->∃s,I n s/\An step s0=An step s:=by intro n;induction n with| zero=>exact λ_=>⟨s0,h0,rfl⟩| succ n ih=>intro h;obtain⟨s,h1,h2⟩:=ih ω;have hx:l[n]? = some l[n]:=Bx ω;obtain⟨s',h3,b⟩:=c n _ s ω hx (Ap ω) (Bv rfl hx) (C9 (n:=l.length) ω f) h1;exact⟨s',b,by rw[h2,Ir h3]⟩
 obtain⟨s,h1,h2⟩:=key l.length (Nat.le_refl _);obtain⟨e,h3,b⟩:=g ψ s h1;exact⟨e,by rw[h2,D5 h3],b⟩
theorem Av8 {α:Type} (f:α->Int) (l:List α) (h:∀j x,l[j]? = some x->O2 f l x j=true):l.Pairwise λa b=>f a<f b:=by
 have step:∀j x y,l[j]? = some x->l[j+1]? = some y->f x<f y:=by intro j x y hx hy;have:=h (j+1) y hy;unfold O2 at this;rw[Nat.add_sub_cancel,hx]at this;simpa using this
 have c:∀d j x y,l[j]? = some x->l[j+d+1]? = some y->f x<f y:=by intro d;induction d with| zero=>exact λj x y h1 h2=>step j x y h1 h2| succ d ih=>intro j x y h1 h2;have g:l[j+d+1]? = some (l[j+d+1]'(by have:=E4 h2;omega)):=Bx _;have a1:=ih j x _ h1 g;have a2:=step _ _ _ g h2;omega
 rw[List.pairwise_iff_getElem];intro i j hi hj k;obtain⟨d,hd⟩:∃d,j=i+d+1:=⟨j-i-1,ω⟩;subst hd;exact c d i _ _ (Bx hi) (Bx hj)
theorem Bas {S E R α:Type} {step:S->Option (S⊕E)} {s0:S} {J:E->Option R} (l:List α) (p:α->Bool) (F:α->R) (d:R) (b:Nat->S) (h0:s0=b 0) (q:l.length<4611686018427387904) (g:∀(j:Nat) (x:α),l[j]? = some x->decide ((j:Int)<(l.length:Int))=true->Af l (j:Int)=some x->Ac ((j:Int)+1)=((j+1:Nat):Int) -> (p x=false->step (b j)=some (.inl (b (j+1))))/\(p x=true->∃e,step (b j)=some (.inr e)/\J e=some (F x))) (u:decide ((l.length:Int)<(l.length:Int))=false->∃e,step (b l.length)=some (.inr e)/\J e=some d):(An step s0).bind J=some ((l.find? p).elim d F):=by
 cases h:l.find? p with
 | none=>have s:=List.find?_eq_none.1 h;refine Iy l.length b h0 (λj hj=>?_) (u ψ);have hx:l[j]? = some l[j]:=Bx hj;exact (g j _ hx (Ap ω) (Bv rfl hx) (C9 hj q)).1 (by simpa using s _ (List.getElem_mem hj))
 | some x=>obtain⟨hp,i,hi,hx,k⟩:=List.find?_eq_some_iff_getElem.1 h;have f:l[i]? = some x:=(by rw[Bx hi,hx]);refine Iy i b h0 (λj hj=>?_) ((g i x f (Ap ω) (Bv rfl f) (C9 hi q)).2 hp);have c:l[j]? = some l[j]:=Bx ω;exact (g j _ c (Ap ω) (Bv rfl c) (C9 (n:=l.length) ω q)).1 (by simpa using k j hj)
def fc (l:List Bk) (v:Int):Int:=(l.find? λt=>t.v==v).elim 0 (·.C)
theorem Bat {l:List Bk} {M:Int} (h:∀t∈l,-M<=t.C/\t.C<=M) (c:0<=M) (v:Int) : -M<=fc l v/\fc l v<=M:=by unfold fc;cases b:l.find? λt=>t.v==v with| none=>exact⟨by show -M<=0;omega,c⟩| some t=>exact h t (List.mem_of_find?_eq_some b)
theorem Av9 {l:List Bk} {v:Int} (h:∀t∈l,t.v≠v):fc l v=0:=by unfold fc;rw[List.find?_eq_none.2 λt ht=>by rw[Cn (h t ht)];decide];rfl
theorem Bau (a:As) (v:Int) (b:a.T.length<=1048576):Zn a v=some (fc a.T v):=by
 unfold Zn;refine Bas a.T (λt=>t.v==v) (·.C) 0 (λj=>(j:Int)) rfl ω ?_ ?_
 .intro j x hx h1 h2 h3;simp only[h1,h2,h3,Ak,Ad];cases hb:x.v==v with| true=>exact⟨nofun,λ_=>⟨_,rfl,rfl⟩⟩| false=>exact⟨(λ_=>rfl),λh=>by cases h⟩
 .intro h1;exact⟨_,by simp only[h1];rfl,rfl⟩
def Ji (fs:List As):List Int:=fs.flatMap λf=>f.T.map (·.v)
theorem Bav {fs:List As} {v:Int} (h:v ∉ Ji fs):∀f∈fs,fc f.T v=0:=λf b=> Av9 λt ht e=>h (List.mem_flatMap.2 ⟨f,b,List.mem_map.2 ⟨t,ht,e⟩⟩)
theorem Awa {fs:List As} {M:Nat} (h:∀f∈fs,f.T.length<=M):(Ji fs).length<=fs.length*M:=by induction fs with| nil=>simp[Ji]| cons f fs ih=>have h1:=h f ψ;have h2:=ih λg hg=>h g (by simp[hg]);unfold Ji at *;rw[List.flatMap_cons,Fb,Ix,Ei,Nat.succ_mul];omega
theorem Awb (fs:List As) (s:fs.length<=1000000) (hb:(Ji fs).length<=1000000) : ∃V,Vr fs=some V/\V.length<=(Ji fs).length/\∀y,y∈V↔y∈Ji fs:=by
 obtain⟨m,o,q,l,i⟩:=Aua ((Ji fs).mergeSort λx y=>decide (x<=y)) (At9 _) (by rw[List.length_mergeSort];omega);refine⟨o.take m,?_,?_,?_⟩
 .unfold Vr;refine Ho fs (λj=>((j:Int),Ji (fs.take j))) rfl ω ?_ ?_
  .intro j f hj k h1 h2 h3;have c:(Ji (fs.take j)).length+(f.T.map (·.v)).length<=1000000:=Nat.le_trans (Ak1 (λf:As=>f.T.map (λt:Bk=>t.v)) k) hb;rw[Ix]at c;simp only[h1,h2,h3,Ak,Ad];refine Ak0 f.T (λt=>t.v) (Ji (fs.take j)) c ?_;show some (Sum.inl (_,_))=_;rw[Dc k];unfold Ji;rw[List.flatMap_append];simp
  .intro h1;refine⟨Ji fs,by simp only[h1];rw[Dh];rfl,?_⟩;rw[At8,Ad];unfold Ge;rw[Ay (by rw[List.length_mergeSort]),Ad];have:Q7 (Ji fs).length ((Ji fs).mergeSort λx y=>decide (x<=y))=some (m,o):=(by rw[<-q,List.length_mergeSort]);rw[this,Ad];unfold Vk;rw[Ay l];rfl
 .have g:(o.take m).Nodup:=i.up.imp (λh=>ω);have b:∀y∈o.take m,y∈Ji fs:=λy hy=>by have:=(i.mem y).1 hy;rw[Dh]at this;exact List.mem_mergeSort.1 this
  exact List.Nodup.length_le_of_subset g b
 .intro y;rw[i.mem y,Dh,List.mem_mergeSort]
theorem Awc (fs:List As) (c:fs.length<=5) (hb:∀f∈fs,f.T.length<=4):Tf fs=some (fs.all Cd)/\True:=by
 have ha:=Awa hb;constructor
 .unfold Tf;rw[Ax ω,Am];refine (Ky fs Cd (λj=>(j:Int)) rfl ω (rt:=true) (rf:=false) ?_ ?_).trans (by rw[N1])
  .intro j x hx h1 h2 h3;simp only[h1,h2,h3,Ak,Ad,M5];cases Cd x with| true=>exact⟨(λ_=>rfl),λh=>by cases h⟩| false=>exact⟨nofun,λ_=>⟨_,rfl,rfl⟩⟩
  .intro h1;obtain⟨V,b,v2,_⟩:=Awb fs ω ω;refine⟨.inr (),by simp only[h1];rfl,?_⟩;dsimp only;rw[b,Ad,Ap ω]
 .trivial
theorem Abx (x:Rat):G2 x<0↔x<0:=by
 unfold G2;split
 .rename_i h;exact⟨λ_=>h,λ_=>δ⟩
 .rename_i h;split <;> exact⟨λh'=>absurd h' δ,λh'=>absurd h' h⟩
theorem Baw (x:Rat):G2 x>0↔0<x:=by
 unfold G2;split
 .rename_i h;exact⟨λh'=>absurd h' δ,λh'=>by grind⟩
 .rename_i h;split
  .rename_i h';exact⟨λ_=>h',λ_=>δ⟩
  .rename_i h';exact⟨λh=>absurd h δ,λh=>absurd h h'⟩
def Lt (fs:List As) (ps:List Aj):Bool:=decide (fs.length=ps.length)&&ps.all λp=>!decide (rq p<0)
theorem Bax (fs:List As) (ps:List Aj) (b:ps.length<=1048576) (hb:∀p∈ps,RB 1048576 p):Y9 fs ps=some (Lt fs ps)/\True:=by
 have key:∀p∈ps,decide (G2 (rq p)<0)=decide (rq p<0):=λp _=>decide_eq_decide.2 (Abx _);unfold Lt;constructor
 .unfold Y9;by_cases h:fs.length=ps.length
  .rw[Fc ω,Am,Ap h,Bool.true_and];refine (Ky ps (λp=>!decide (rq p<0)) (λj=>(j:Int)) rfl ω (rt:=true) (rf:=false) ?_ ?_).trans (by rw[N1])
   .intro j x hx h1 h2 h3;have hm:=Cf hx;simp only[h1,h2,h3,Ak,Ad,(M9 (hb x hm) ω).1,key x hm];cases decide (rq x<0) with| true=>exact⟨nofun,λ_=>⟨_,rfl,rfl⟩⟩| false=>exact⟨(λ_=>rfl),λh=>by cases h⟩
   .intro h1;exact⟨.inr (),by simp only[h1];rfl,rfl⟩
  .rw[Ek ω,Ak,Ax h];rfl
 .trivial
def dq (P:As->Int):List As->List Aj->Rat
 | f::fs,p::ps=>rq p*(P f:Rat)+dq P fs ps
 | _,_=>0
theorem Awd (P:As->Int):∀(fs:List As) (ps:List Aj) (f:As) (p:Aj),fs.length=ps.length->dq P (fs++[f]) (ps++[p])=dq P fs ps+rq p*(P f:Rat)
 | [],[],f,p,_=>by simp only[List.nil_append,dq];grind
 | g::fs,q::ps,f,p,h=>by simp only[Du,dq,Awd P fs ps f p (by simpa using h)];grind
 | [],q::ps,f,p,h=>by simp at h
 | g::fs,[],f,p,h=>by simp at h
theorem Awe {P:As->Int}:∀{fs:List As} {ps:List Aj},(∀f∈fs,P f=0)->dq P fs ps=0
 | [],_,_=>by simp only[dq]
 | g::fs,[],_=>by simp only[dq]
 | g::fs,q::ps,h=>by simp only[dq];rw[Awe (fs:=fs) λf b=>h f (by simp[b]),h g ψ];simp only[Rat.intCast_zero];grind
theorem Awf {P:As->Int} {fs:List As} {ps:List Aj} {j:Nat} {f:As} {p:Aj} (b:fs[j]? = some f) (hp:ps[j]? = some p):dq P (fs.take (j+1)) (ps.take (j+1))=dq P (fs.take j) (ps.take j)+rq p*(P f:Rat):=by rw[Dc b,Dc hp,Awd];have:=E4 b;have:=E4 hp;rw[List.length_take,List.length_take];omega
theorem Awg (a:Aj):(⟨a.N,a.U,a.B⟩:Aj)=a:=rfl
theorem Awh {K:Nat} (A:As->Option Int) (P:As->Int) (fs:List As) (g:As) (ps:List Aj) (Y:fs.length=ps.length) (X:fs.length<=200) (hb:∀p∈ps,RB 1048576 p) (D:A g=some (P g)) (G:∀f∈fs,A f=some (P f)) (bg : -1048576<=P g/\P g<=1048576) (bf:∀f∈fs,-1048576<=P f/\P f<=1048576) (hK:K=3+200*1048584) : ∃r,((A g).bind λv3=>(Dj v3).bind λv4=> (An (S:=(Int×Bool×(List Int)×(List Int))) (E:=(Bool×(List Int)×(List Int))) (λ(b,k,h,c)=> bif b<(fs.length:Int) then ((Af fs b).bind λv17=> (A v17).bind λl=> bif (l != (0:Int)) then ((Af ps b).bind λv20=> (Dj l).bind λv21=> (Ea v20 v21).bind λv22=> (Ns (Aj.mk k h c) v22).bind λv23=> some (.inl ((Ac (b+1)),v23.N,v23.U,v23.B))) else (some (.inl ((Ac (b+1)),k,h,c)))) else (some (.inr (k,h,c)))) (0,v4.N,v4.U,v4.B)).bind λ(v24,v25,v26)=>some (Aj.mk v24 v25 v26))=some r/\RB K r/\rq r=(P g:Rat)-dq P fs ps:=by
 obtain⟨z,J,z2,z3,z4⟩:=Uv (P g) ω ω;rw[D,Ad,J,Ad];obtain⟨⟨n,u,d⟩,e1,e2,e3⟩:=Bar (step:=(λ(b,k,h,c)=> bif b<(fs.length:Int) then ((Af fs b).bind λv17=> (A v17).bind λl=> bif (l != (0:Int)) then ((Af ps b).bind λv20=> (Dj l).bind λv21=> (Ea v20 v21).bind λv22=> (Ns (Aj.mk k h c) v22).bind λv23=> some (.inl ((Ac (b+1)),v23.N,v23.U,v23.B))) else (some (.inl ((Ac (b+1)),k,h,c)))) else (some (.inr (k,h,c))):Int×Bool×List Int×List Int->Option ((Int×Bool×List Int×List Int)⊕(Bool×List Int×List Int)))) (s0:=(0,z.N,z.U,z.B)) fs (λj s=>s.1=(j:Int)/\RB (3+j*1048584) ⟨s.2.1,s.2.2.1,s.2.2.2⟩/\rq ⟨s.2.1,s.2.2.1,s.2.2.2⟩=(P g:Rat)-dq P (fs.take j) (ps.take j)) (λe=>RB (3+fs.length*1048584) ⟨e.1,e.2.1,e.2.2⟩/\rq ⟨e.1,e.2.1,e.2.2⟩=(P g:Rat)-dq P fs ps) ⟨rfl,z2.mono ω,by dsimp only;rw[Awg,z4,List.take_zero];simp only[dq];grind⟩ ω (by
   rintro j f ⟨i,n,u,d⟩ hj I h1 h2 h3 ⟨hi,x,hq⟩;dsimp only at hi x hq ⊢;subst hi;have hm:=Cf I;have q:ps[j]? = some (ps[j]' ω):=Bx _;generalize ps[j]'_=p at q;have B:=Cf q;have Z:=bf f hm;rw[h1,Ak,h2,Ad,G f hm,Ad];by_cases h0:P f=0
   .rw[Fc h0,Am,h3];refine⟨_,rfl,rfl,x.mono ω,?_⟩;dsimp only;rw[hq,Awf I q,h0];simp only[Rat.intCast_zero];grind
   .rw[Ek h0,Ak,Bv rfl q,Ad];obtain⟨y,N,M,y3,L⟩:=Uv (P f) ω ω;obtain⟨m,m1,m2,m3,m4⟩:=M8 (hb p B) M ω ω;obtain⟨s,V,U,s3,R⟩:=Ala x m2 ω ω;rw[N,Ad,m1,Ad,V,Ad,h3];refine⟨_,rfl,rfl,U.mono ω,?_⟩;dsimp only;rw[Awg,R,hq,m4,L,Awf I q];grind) (by rintro h1 ⟨i,n,u,d⟩ ⟨hi,x,hq⟩;dsimp only at hi x hq ⊢;subst hi;rw[h1,Am];refine⟨_,rfl,x,?_⟩;dsimp only;rw[hq,Dh,Y,Dh]);refine⟨⟨n,u,d⟩,bnd e1 rfl,e2.mono ?_,e3⟩;have:fs.length*1048584<=200*1048584:=Nat.mul_le_mul_right _ X;omega
theorem Awi {a:As} (h:Cd a=true) (v:Int) : -1048576<=fc a.T v/\fc a.T v<=1048576:=Bat (Xu h) δ v
abbrev KQ:Nat:=3+200*1048584
theorem Bay (fs:List As) (g:As) (ps:List Aj) (v:Int) (i:fs.length=ps.length) (c:fs.length<=200) (hb:∀p∈ps,RB 1048576 p) (hg:Cd g=true) (b:∀f∈fs,Cd f=true) : ∃r,Zo fs g ps v=some r/\RB KQ r/\rq r=(fc g.T v:Rat)-dq (λf=>fc f.T v) fs ps:=by
 have hc:∀f,Cd f=true->Tv f v=some (fc f.T v):=λf h=>by unfold Tv;rw[Bau f v (by have:=(Lr h).1;omega)];rfl
 exact Awh (λf=>Tv f v) (λf=>fc f.T v) fs g ps i c hb (hc g hg) (λf h=>hc f (b f h)) (Awi hg v) (λf h=>Awi (b f h) v) rfl
theorem Baz (fs:List As) (g:As) (ps:List Aj) (c:fs.length=ps.length) (b:fs.length<=200) (hb:∀p∈ps,RB 1048576 p) (hg:Cd g=true) (i:∀f∈fs,Cd f=true) : ∃r,Aed fs g ps=some r/\RB KQ r/\rq r=(g.Q:Rat)-dq (λf=>f.Q) fs ps := Awh (λf=>Zp f) (λf=>f.Q) fs g ps c b hb rfl (λf _=>rfl) (Lr hg).2 (λf h=>(Lr (i f h)).2) rfl
theorem Ba0 (x:Rat):G2 x≠0↔x≠0:=not_congr (Aub x)
def Qi (fs:List As) (g:As) (ps:List Aj):Prop:=∀v,dq (λf=>fc f.T v) fs ps=(fc g.T v:Rat)
open Classical in
theorem Awj (fs:List As) (g:As) (ps:List Aj) (hl:fs.length=ps.length) (hn:fs.length<=5) (h4:∀f∈fs,f.T.length<=4) (hb:∀p∈ps,RB 1048576 p) (hg:Cd g=true) (hf:∀f∈fs,Cd f=true) :
  ∃r,V5 fs g ps=some (r,decide (Qi fs g ps))/\(Qi fs g ps->RB KQ r/\rq r=(g.Q:Rat)-dq (λf=>f.Q) fs ps):=by
 obtain⟨r2,r21,r22,r23⟩:=Baz fs g ps hl ω hb hg hf
 have hcl:Zm fs=some ([],fs):=by
  unfold Zm Ld
  rw[Dm ζ];rfl
 have hal:(Ji (fs++[g])).length<=1000000:=by
  have h1:=Awa h4
  have h2:=(Lr hg).1
  unfold Ji at *
  rw[List.flatMap_append,Fb]
  simp only[List.flatMap_cons,List.flatMap_nil,List.append_nil,Ix]
  omega
 obtain⟨V,v1,v2,v3⟩:=Awb (fs++[g]) ζ hal
 have hVA:V.all (λv=>decide (dq (λf=>fc f.T v) fs ps=(fc g.T v:Rat)))=decide (Qi fs g ps):=by
  rw[Bool.eq_iff_iff,D2,C8]
  constructor
  .intro h v
   by_cases hv:v∈V
   .simpa using h v hv
   .have hv':v ∉ Ji (fs++[g]):=λh=>hv ((v3 v).2 h)
    have hz:=Bav hv'
    rw[Awe λf hf'=>hz f (by simp[hf']),hz g ψ];rfl
  .intro h v _
   exact decide_eq_true (h v)
 unfold V5
 rw[hcl,Ad]
 dsimp only
 rw[Dm ζ,Ad,v1,Ad]
 have key:=Ky (step:=(λv12=>
   bif v12<(V.length:Int) then (
   (Af V v12).bind λv13=>
   (Zo fs g ps v13).bind λv15=>
   (G5 v15).bind λv16=>
   bif (v16 != (0:Int)) then (
   some (.inr (.inl ((Aj.mk false [] []),false))))
   else (
   some (.inl (Ac (v12+1)))))
   else (some (.inr (.inr ()))):Int->Option (Int⊕((Aj×Bool)⊕Unit)))) (s0:=0) (J:=λz=>match z with
    | .inl (r17,r18)=>some (r17,r18)
    | .inr _=>(Aed fs g ps).bind λv19=>some (v19,true)) V (λv=>decide (dq (λf=>fc f.T v) fs ps=(fc g.T v:Rat))) (λj=>(j:Int)) rfl ω (rt:=(r2,true)) (rf:=((Aj.mk false [] []),false)) (by
   intro j x hx h1 h2 h3
   obtain⟨r,d1,d2,d3⟩:=Bay fs g ps x hl ω hb hg hf
   simp only[h1,h2,h3,Ak,Ad,d1,(M9 d2 δ).1]
   constructor
   .intro h
    have h:=of_decide_eq_true h
    rw[Fc ((Aub _).2 (by rw[d3,h];grind))];rfl
   .intro h
    have h:=of_decide_eq_false h
    rw[Ek ((Ba0 _).2 (by rw[d3];intro e;exact h (by grind)))]
    exact⟨_,rfl,rfl⟩) (by
   intro h1
   refine⟨.inr (),?_,?_⟩ <;> first | (simp only[h1];rfl) | (simp only[r21];rfl))
 rw[hVA]at key
 by_cases hA:Qi fs g ps
 .rw[decide_eq_true hA]at key ⊢
  exact⟨r2,key,λ_=>⟨r22,r23⟩⟩
 .rw[decide_eq_false hA]at key ⊢
  exact⟨_,key,λh=>(hA h).elim⟩
def Al7 (fs:List As) (ps:List Aj):Prop:=Qi fs ⟨0,[]⟩ ps/\dq (λf=>f.Q) fs ps<0
theorem Awk:Cd ⟨0,[]⟩=true:=δ
open Classical in
theorem Ba1 (fs:List As) (ps:List Aj) (hl:fs.length=ps.length) (hn:fs.length<=5) (h4:∀f∈fs,f.T.length<=4) (hb:∀p∈ps,RB 1048576 p) (hf:∀f∈fs,Cd f=true) : V6 fs ps=some (decide (Al7 fs ps)):=by
 obtain⟨r,r1,r2⟩:=Awj fs ⟨0,[]⟩ ps hl hn h4 hb Awk hf;unfold V6;rw[r1,Ad];by_cases hA:Qi fs ⟨0,[]⟩ ps
 .obtain⟨r3,r4⟩:=r2 hA;rw[decide_eq_true hA,Ak,(M9 r3 δ).1,Ad];congr 1;refine decide_eq_decide.2 ?_;rw[Baw,r4];unfold Al7;constructor
  .intro h;exact⟨hA,by simp only[Rat.intCast_zero]at h;grind⟩
  .rintro⟨_,h⟩;simp only[Rat.intCast_zero];grind
 .rw[decide_eq_false hA,Am,decide_eq_false λh=>hA h.1]
def Xw (fs:List As) (g:As) (ps:List Aj):Prop:=(Qi fs g ps/\dq (λf=>f.Q) fs ps<=(g.Q:Rat))\/Al7 fs ps
open Classical in
theorem Ags (fs:List As) (g:As) (ps:List Aj) (hn:fs.length<=5) (h4:∀f∈fs,f.T.length<=4) (hp:ps.length<=1048576) (hb:∀p∈ps,RB 1048576 p) : Pn fs g ps=some (fs.all Cd&&(Cd g&&(Lt fs ps&&decide (Xw fs g ps)))):=by
 unfold Pn;rw[(Awc fs hn h4).1];cases hv:fs.all Cd with
 | false=>rfl
 | true=>
  rw[M5];cases hg:Cd g with
  | false=>rfl
  | true=>
   rw[(Bax fs ps hp hb).1];cases hm:Lt fs ps with
   | false=>rfl
   | true=>
    have hl:fs.length=ps.length:=(by unfold Lt at hm;rw[Ck,C8]at hm;exact hm.1);have hf:=D2.1 hv;obtain⟨r,r1,r2⟩:=Awj fs g ps hl hn h4 hb hg hf;have hr:=Ba1 fs ps hl hn h4 hb hf;simp only[Ad,Dz,Am,r1,hr,Bool.true_and];by_cases hA:Qi fs g ps
    .obtain⟨r3,r4⟩:=r2 hA;rw[decide_eq_true hA,Ak,(M9 r3 δ).1,Ad];by_cases hc:dq (λf=>f.Q) fs ps<=(g.Q:Rat)
     .rw[Ap (by have:=mt (Abx (rq r)).1 (by rw[r4];grind);omega),Ak];congr 1;exact (decide_eq_true (.inl ⟨hA,hc⟩)).symm
     .rw[Ax (by have:=(Abx (rq r)).2 (by rw[r4];grind);omega),Am];congr 1;exact decide_eq_decide.2 ⟨.inr,λh=>h.resolve_left λh=>hc h.2⟩
    .rw[decide_eq_false hA,Am];congr 1;exact decide_eq_decide.2 ⟨.inr,λh=>h.resolve_left λh=>hA h.1⟩
theorem Ba2 (fs:List As) (n m:Int) (g:fs.length<=1048576) (ht:∀f∈fs,f.T.length<=1048576):∃b,Yp fs n m=some b/\(b=true->(fs.length:Int)<=n/\∀f∈fs,(f.T.length:Int)<=m):=by
 unfold Yp;by_cases h:(fs.length:Int)>n
 .rw[Ap h];exact⟨false,rfl,λh=>by cases h⟩
 .rw[Ax h,Am];refine⟨fs.all λf=>!decide ((f.T.length:Int)>m),(Ky fs (λf=>!decide ((f.T.length:Int)>m)) (λj=>(j:Int)) rfl ω (rt:=true) (rf:=false) ?_ ?_).trans (by rw[N1]),λh'=>⟨ω,λf c=>?_⟩⟩
  .intro j x hx h1 h2 h3;simp only[h1,h2,h3,Ak,Ad];cases decide ((x.T.length:Int)>m) with| true=>exact⟨nofun,λ_=>⟨_,rfl,rfl⟩⟩| false=>exact⟨(λ_=>rfl),λh=>by cases h⟩
  .intro h1;exact⟨.inr (),by simp only[h1];rfl,rfl⟩
  .have:=D2.1 h' f c;simp only[Bool.not_eq_true',decide_eq_false_iff_not]at this;omega
theorem Awl (ps:List Aj) (n:Int) (c:ps.length<=1048576):∃b,Mv ps n=some b:=by
 unfold Mv;by_cases h:(ps.length:Int)>n
 .rw[Ap h];exact⟨false,rfl⟩
 .rw[Ax h,Am];have hk:∀a:Aj,Pf a=some (decide (a.U.length<=2)&&decide (a.B.length<=2)):=λa=>by
   unfold Pf;by_cases h1:a.U.length<=2
   .rw[Ap ω,Ak,Ap h1];by_cases h2:a.B.length<=2
    .rw[Ap ω,Ap h2];rfl
    .rw[Ax ω,Ax h2];rfl
   .rw[Ax ω,Ax h1];rfl
  refine⟨_,(Ky ps (λa=>decide (a.U.length<=2)&&decide (a.B.length<=2)) (λj=>(j:Int)) rfl ω (rt:=true) (rf:=false) ?_ ?_)⟩
  .intro j x hx h1 h2 h3;simp only[h1,h2,h3,Ak,Ad,hk];cases (decide (x.U.length<=2)&&decide (x.B.length<=2)) with| true=>exact⟨(λ_=>rfl),λh=>by cases h⟩| false=>exact⟨nofun,λ_=>⟨_,rfl,rfl⟩⟩
  .intro h1;exact⟨.inr (),by simp only[h1];rfl,rfl⟩
theorem Awm (a:As) (h:a.T.length<=1048576):V4 a=some a:=by unfold V4 Wa;rw[Dm ζ];rfl
theorem Ba3 {data:List Aw} {vars:List Ah} {res:Ah} {b1:List (ByteArray×Int)} (b2:List (ByteArray×List Ch)) (hc:O3 data vars res) (hm:Ef data vars res b1) (m:A7) (k:MSz m) (hp:Mf data vars res m=true) : ∃p:Int×List (ByteArray×Int),Mz m b1 b2 data vars res.G res.U res.R=some p/\(p.1=Em data vars res m.F+Cv m.A\/(6<p.1/\6<Em data vars res m.F+Cv m.A))/\Ef data vars res p.2:=by
 have A:=k.nf;have ha:=k.na;unfold Mf at hp;rw[Ck,D2,D2]at hp;unfold Mz;refine Ej (λ(v5,s,g)=>∃j:Nat,s=j/\j<=m.F.length/\Ef data vars res g/\0<=v5/\v5<=12/\(v5=Em data vars res (m.F.take j)\/(6<v5/\6<Em data vars res (m.F.take j)))) (λ(_,s,_)=>m.F.length-s.toNat) (λ(v5,g)=>Ef data vars res g/\0<=v5/\v5<=12/\(v5=Em data vars res m.F\/(6<v5/\6<Em data vars res m.F))) ⟨0,rfl,ω,hm,ω,ω,.inl (by simp[Em])⟩ ?_ ?_
 .rintro⟨v5,s,g⟩ ⟨j,rfl,hj,l,h0,h12,hv⟩;rcases Cg j m.F.length with h|h
  .have hx:m.F[j]? = some m.F[j]:=Bx h;generalize m.F[j]=f at hx;have c:=Cf hx;have hd:=hp.1 f c;rw[C8]at hd;have z:=(Ask data vars res f).2;have es:Em data vars res (m.F.take (j+1))=Em data vars res (m.F.take j)+F5 data vars res f:=Asl _ hx;simp only[Ap (ω:(j:Int)<(m.F.length:Int)),Ak,Bv rfl hx,Ad,C9 h ω];by_cases q:v5<=6
   .have u:(Ec vars res f.v).isSome=true:=by
     unfold F5 at hd;cases ht:Ec vars res f.v with
     | none=>rw[ht]at hd;have hd:(0:Int)<=-1:=hd;omega
     | some t=>rfl
    obtain⟨B,d1,d2⟩:=Aa0 b2 hc l f (k.fr f c).2 (k.fr f c).1 (k.fi f c) u;rw[Ap q];simp only[Ak,d1,Ad];have b:Ac (v5+F5 data vars res f)=v5+F5 data vars res f:=ξ;exact .inl ⟨_,rfl,⟨j+1,rfl,ω,d2,by simp only[b];omega,by simp only[b];omega,by simp only[b,es];omega⟩,ζ⟩
   .rw[Ax q];exact .inl ⟨_,rfl,⟨j+1,rfl,ω,l,h0,h12,by simp only[es];omega⟩,ζ⟩
  .have:j=m.F.length:=ω;subst this;rw[Dh]at hv;exact .inr ⟨(v5,g),ψ,l,h0,h12,hv⟩
 .rintro⟨v5,g⟩ ⟨l,h0,h12,hv⟩;simp only;refine Ej (λ(v,i)=>∃j:Nat,i=j/\j<=m.A.length/\0<=v/\v<=13/\(v=Em data vars res m.F+Cv (m.A.take j)\/(6<v/\6<Em data vars res m.F+Cv (m.A.take j)))) (λ(_,i)=>m.A.length-i.toNat) (λv=>(v=Em data vars res m.F+Cv m.A\/(6<v/\6<Em data vars res m.F+Cv m.A))) ⟨0,rfl,ω,h0,ω,by simpa[Cv] using hv⟩ ?_ ?_
  .rintro⟨v,i⟩ ⟨j,rfl,hj,g0,g13,y⟩;rcases Cg j m.A.length with h|h
   .have hx:m.A[j]? = some m.A[j]:=Bx h;generalize m.A[j]=a at hx;have hd:=hp.2 a (Cf hx);rw[Ck,C8]at hd;have es:=Asm hx;simp only[Ap (ω:(j:Int)<(m.A.length:Int)),Ak,Bv rfl hx,Ad,C9 h ω];by_cases q:v<=6
    .rw[Ap q];simp only[Ak];by_cases x:7<a.P
     .rw[Ay x];have b:Ac (v+7)=v+7:=ξ;exact .inl ⟨_,rfl,⟨j+1,rfl,ω,by simp only[b];omega,by simp only[b];omega,by simp only[b,es];omega⟩,ζ⟩
     .rw[Av x];have b:Ac (v+a.P)=v+a.P:=ξ;exact .inl ⟨_,rfl,⟨j+1,rfl,ω,by simp only[b];omega,by simp only[b];omega,by simp only[b,es];omega⟩,ζ⟩
    .rw[Ax q];exact .inl ⟨_,rfl,⟨j+1,rfl,ω,g0,g13,by simp only[es];omega⟩,ζ⟩
   .have:j=m.A.length:=ω;subst this;rw[Dh]at y;exact .inr ⟨v,ψ,y⟩
  .intro v hv;exact⟨(v,g),rfl,hv,l⟩
def Lu (x:Bh) (m:A7):Int:=Em x.D x.V x.E m.F+Cv m.A
structure Xx (x:Bh) (m:A7):Prop where
 fac:∀f∈m.F,1<=F5 x.D x.V x.E f
 asc:m.F.Pairwise λa b=>a.v<b.v
 atm:∀a∈m.A,1<=a.P/\Cd a.L=true/\a.L.T.length≠0/\D9 x.V x.E a.L=true
 srt:m.A.Pairwise λa b=>F0 a.L b.L<0
 deg:Lu x m<=6
theorem E5.f {x:Bh} {m:A7} (h:E5 x m):Xx x m:=by
 have hc:=h.1;unfold I6 at hc;rw[Ck,Ck,C8]at hc;obtain⟨⟨h1,h2⟩,h3⟩:=hc;have g1:∀j f,m.F[j]? = some f->1<=F5 x.D x.V x.E f/\O2 (·.v) m.F f j=true:=λj f hj=>by have:=Iz h1 hj;unfold Xd at this;rw[Ck,C8]at this;exact this
 have g2:∀j a,m.A[j]? = some a->(1<=a.P/\Cd a.L=true/\a.L.T.length≠0/\D9 x.V x.E a.L=true)/\P7 m.A a j=true:=λj a hj=>by have:=Iz h2 hj;unfold Mg at this;simp only[Ck,C8,Bool.not_eq_true',beq_eq_false_iff_ne,ne_eq]at this;exact⟨⟨this.1.1.1.1,this.1.1.1.2,this.1.1.2,this.1.2⟩,this.2⟩
 refine⟨λf k=>?_,Av8 _ _ λj f hj=>(g1 j f hj).2,λa ha=>?_,?_,h3⟩
 .obtain⟨j,hj⟩:=Gz k;exact (g1 j f hj).1
 .obtain⟨j,hj⟩:=Gz ha;exact (g2 j a hj).1
 .have step:∀j x y,m.A[j]? = some x->m.A[j+1]? = some y->F0 x.L y.L<0:=(by intro j x y hx hy;have:=(g2 (j+1) y hy).2;unfold P7 at this;rw[Nat.add_sub_cancel,hx]at this;simpa using this);have b:∀d j x y,m.A[j]? = some x->m.A[j+d+1]? = some y->F0 x.L y.L<0:=(by intro d;induction d with| zero=>exact λj x y h1 h2=>step j x y h1 h2| succ d ih=>intro j x y h1 h2;have c:m.A[j+d+1]? = some (m.A[j+d+1]'(by have:=E4 h2;omega)):=Bx _;exact Uz.trs _ _ _ (ih j x _ h1 c) (step _ _ _ c h2));rw[List.pairwise_iff_getElem];intro i j hi hj g;obtain⟨d,hd⟩:∃d,j=i+d+1:=⟨j-i-1,ω⟩;subst hd;exact b d i _ _ (Bx hi) (Bx hj)
theorem Xx.fsum0 {x:Bh} {m:A7} (h:Xx x m):0<=Em x.D x.V x.E m.F:=by
 have key:∀l:List Ca,(∀f∈l,1<=F5 x.D x.V x.E f)->0<=Em x.D x.V x.E l:=λl=>by induction l with| nil=>intro _;simp[Em]| cons f l ih=>intro b;have h1:=b f ψ;have h2:=ih λg hg=>b g (by simp[hg]);unfold Em at *;simp only[List.map_cons,List.sum_cons];omega
 exact key _ h.fac
theorem Ba4 {l:List Be} (h:∀a∈l,1<=a.P):Cv l=(Cr l:Nat)/\l.length<=Cr l:=by induction l with| nil=>exact⟨rfl,Nat.le_refl _⟩| cons a l ih=>obtain⟨e,c⟩:=ih λb hb=>h b (by simp[hb]);have f:=h a ψ;unfold Cv at *;simp only[List.map_cons,List.sum_cons,Cr,Ei];omega
theorem Xx.as {x:Bh} {m:A7} (h:Xx x m):Cv m.A=(Cr m.A:Nat)/\m.A.length<=Cr m.A:=Ba4 λa ha=>(h.atm a ha).1
theorem Ba5 {x:Bh} {m:A7} (h:Xx x m):Mf x.D x.V x.E m=true:=by unfold Mf;rw[Ck,D2,D2];refine⟨λf b=>decide_eq_true (by have:=h.fac f b;omega),λa ha=>?_⟩;obtain⟨h1,_,_,c⟩:=h.atm a ha;rw[c,Ap ω];rfl
theorem Ba6 {x:Bh} {b1:List (ByteArray×Int)} (b2:List (ByteArray×List Ch)) (hc:O3 x.D x.V x.E) (hm:Ef x.D x.V x.E b1) {m:A7} (h:E5 x m) : ∃b,Mz m b1 b2 x.D x.V x.E.G x.E.U x.E.R=some (Lu x m,b)/\Ef x.D x.V x.E b:=by obtain⟨⟨d,b⟩,h1,h2,h3⟩:=Ba3 b2 hc hm m h.2 (Ba5 h.f);have:=h.f.deg;unfold Lu at *;dsimp only at h2 h3;have e:d=Em x.D x.V x.E m.F+Cv m.A:=ω;subst e;exact⟨b,h1,h3⟩
theorem Awn {x:Bh} {b1:List (ByteArray×Int)} (b2:List (ByteArray×List Ch)) (hc:O3 x.D x.V x.E) (hm:Ef x.D x.V x.E b1) (q:List Ai) (E:q.length<=1000000) (h:∀u∈q,E5 x u.M) : ∃G b,Rg q b1 b2 x.D x.V x.E.G x.E.U x.E.R=some (G,b)/\Ef x.D x.V x.E b/\0<=G/\G<=6/\∀u∈q,Lu x u.M<=G:=by
 unfold Rg;obtain⟨e,A,G,b,rfl,z⟩:=Lb (step:=(λ(v4,v5,i)=> bif v5<(q.length:Int) then ((Af q v5).bind λk=> (Mz k.M i b2 x.D x.V x.E.G x.E.U x.E.R).bind λv9=> some (.inl ((if v9.1>v4 then v9.1 else v4),(Ac (v5+1)),v9.2))) else (some (.inr (v4,i))):Int×Int×List (ByteArray×Int)->Option ((Int×Int×List (ByteArray×Int))⊕(Int×List (ByteArray×Int))))) (λs=>∃(j:Nat) (G:Int) (b:List (ByteArray×Int)),s=(G,(j:Int),b)/\j<=q.length/\Ef x.D x.V x.E b/\0<=G/\G<=6/\∀u∈q.take j,Lu x u.M<=G) (λs=>q.length-s.2.1.toNat) (λe=>∃G b,e=(G,b)/\Ef x.D x.V x.E b/\0<=G/\G<=6/\∀u∈q,Lu x u.M<=G) (by
   rintro _ ⟨j,G,b,rfl,hj,hm,h0,y,g⟩;dsimp only;rcases Cg j q.length with h'|h'
   .left;have hx:q[j]? = some q[j]:=Bx h';generalize q[j]=u at hx;have hu:=h u (Cf hx);obtain⟨c,D,B⟩:=Ba6 b2 hc hm hu;have l:=hu.f.deg;refine⟨(if Lu x u.M>G then Lu x u.M else G,((j+1:Nat):Int),c),?_,⟨j+1,_,c,rfl,ω,B,by split <;> omega,by split <;> omega,λw hw=>?_⟩,ζ⟩
    .rw[Ap ω,Ak,Bv rfl hx,Ad,D,Ad,C9 h' ω]
    .rw[Dc hx]at hw;rcases D7.1 hw with hw|hw
     .have:=g w hw;split <;> omega
     .rw[Dw]at hw;subst hw;split <;> omega
   .right;have:j=q.length:=ω;subst this;rw[Dh]at g;exact⟨(G,b),by rw[Ax ω,Am],G,b,rfl,hm,h0,y,g⟩)
  (0,0,b1) ⟨0,0,b1,rfl,ω,hm,ω,ω,λu hu=>by simp at hu⟩;exact⟨G,b,bnd A rfl,z⟩
theorem Ba7 {x:Bh} (g:CSz x) {m:A7} (h:E5 x m):FOk x.D x.V x.E m.F:=by
 have c:∀f∈m.F,(Ec x.V x.E f.v).isSome=true:=λf b=>by have h1:=h.f.fac f b;unfold F5 at h1;cases ht:Ec x.V x.E f.v with| none=>rw[ht]at h1;exact absurd (show (1:Int)<=-1 from h1) δ| some t=>rfl
 refine⟨h.f.asc,λf b=>⟨⟨(h.2.fr f b).2,(h.2.fr f b).1,h.2.fi f b⟩,c f b,h.f.fac f b⟩,h.cmo.nf,λf b=>?_⟩;have h1:=c f b;rw[Ash,C8]at h1;have:=g.nv;omega
theorem Ba8 {x:Bh} {m:A7} (hm:E5 x m) {L:List Be} (h:Abq x.V x.E L) (b:Em x.D x.V x.E m.F+Cv L<=6):E5 x ⟨m.F,L⟩:=by have h0:=hm.f.fsum0;obtain⟨g1,g2⟩:=Avf h ω;have hc:=hm.1;unfold I6 at hc g1;rw[Ck,Ck]at hc g1;refine⟨?_,⟨hm.2.nf,g2.na,hm.2.fi,hm.2.fr,g2.al⟩⟩;unfold I6;rw[Ck,Ck];exact⟨⟨hc.1.1,g1.1.2⟩,decide_eq_true b⟩
theorem IsE.goods {x:Bh} {A:List Be} {B:List Dp} (h:IsE A B) (g:∀a∈A,Cd a.L=true/\D9 x.V x.E a.L=true):∀b∈B,Abq x.V x.E b.1/\Cv b.1<=(Cr A:Nat):=by intro b hb;obtain⟨gs,j,c,i,f,rfl⟩:=h;obtain⟨h1,h2⟩:=Alp (vars:=x.V) (res:=x.E) f (λa ha=>g a (c.mem_iff.1 ha)) [([],1)] 0 (λb hb=>by simp only[Dw]at hb;subst hb;exact⟨⟨List.Pairwise.nil,λ_ h=>by cases h⟩,by simp[Cv],λ_ h=>by cases h⟩) b hb;rw[Qf c]at h2;exact⟨h1,ω⟩
noncomputable def Agt (x:Bh) (t:Ai) (q:List Ai):(Int×List (ByteArray×Int)×List (ByteArray×List Ch)×List (ByteArray×Int)×List Ai)->Option ((Int×List (ByteArray×Int)×List (ByteArray×List Ch)×List (ByteArray×Int)×List Ai)⊕((List Ai×Int)⊕(Int×List (ByteArray×Int)×List (ByteArray×List Ch)×List (ByteArray×Int)×List Ai))):=λ(c,j,i,h,g)=> bif c<(q.length:Int) then ((Af q c).bind λf=> (Ea t.C f.C).bind λv127=> (Oo t.M f.M).bind λk=> (Pt v127 k j i x.D x.V x.E.G x.E.U x.E.R).bind λb=> bif (b.2.1 != (0:Int)) then (some (.inr (.inl ([],b.2.1)))) else ((J8 b.1 h g).bind λv130=> some (.inl ((Ac (c+1)),b.2.2.1,b.2.2.2,v130.1,v130.2)))) else (some (.inr (.inr (c,j,i,h,g))))
theorem Awo (x:Bh) (val:Int->A3) (F:List Ca) (L:List Be):Gr x val ⟨F,L⟩=Ie (F.map (O7 x val))*Gt (fv val) L:=by have h:=Agr x val L;unfold Gr at h ⊢;rw[<-h];show _=_*(1*_);rw[Nat.one_mul]
theorem G3.polV {x:Bh} (val:Int->A3) {F:FS} {c:Rat} {K:Nat} {ts:List Ai} {bs:List Dp} (h:G3 F c K ts bs):Go.Ab.Dx x val ts=c*((Ie (F.1.map (O7 x val))*Hk (fv val) bs:Nat):Rat):=by induction h with| nil=>simp only[Go.Ab.Dx,Hk,Nat.mul_zero];grind| @cons t b ts bs a1 a2 a3 _ ih=>simp only[Go.Ab.Dx,Hk,ih,a1,a2,Awo,Rat.natCast_add,Rat.natCast_mul];grind
theorem Ba9 {x:Bh} (hz:CSz x) (hf:En x) {m:A7} (hm:E5 x m) {N:Aj} (h1:rq N=1) (U:RB 3 N) {f:A7->Rat} {q:List Ai} (hq:IP x 17 13010 f q) (S:∀u∈q,u.M.F = []) (hG:∀u∈q,Lu x m+Lu x u.M<=6) {b1:List (ByteArray×Int)} (a6:Ef x.D x.V x.E b1) : ∃(A:List (ByteArray×Int)) (l:List (ByteArray×List Ch)) (ts L:List Ai),An (Agt x ⟨N,m⟩ q) (0,b1,[],[],[])=some (.inr ((q.length:Int),A,l,Eo ts,ts))/\Col 3000000 (E5 x) ts/\ts.length<=136/\L.length<=136/\(∀t∈L,∃z:Int,rq t.C=(z:Rat)/\Bl z.natAbs<=15480)/\(∀a,cf ts a=cf L a)/\∀val,Dx x val L=(Gr x val m:Rat)*Dx x val q:=by
 have G:=hf.ctx hz;have a8:=hq.len;obtain⟨e,e1,A,l,ts,L,rfl,I⟩:=Lb (step:=Agt x ⟨N,m⟩ q) (λs=>∃(j:Nat) (A:List (ByteArray×Int)) (l:List (ByteArray×List Ch)) (ts L:List Ai),s=((j:Int),A,l,Eo ts,ts)/\j<=q.length/\Ef x.D x.V x.E A/\Sk l/\Col (15475+j*8*15500) (E5 x) ts/\ts.length<=8*j/\L.length<=8*j/\(∀t∈L,∃z:Int,rq t.C=(z:Rat)/\Bl z.natAbs<=15480)/\(∀a,cf ts a=cf L a)/\∀val,Dx x val L=(Gr x val m:Rat)*Dx x val (q.take j)) (λs=>q.length-s.1.toNat) (λe=>∃(A:List (ByteArray×Int)) (l:List (ByteArray×List Ch)) (ts L:List Ai),e = .inr ((q.length:Int),A,l,Eo ts,ts)/\Col 3000000 (E5 x) ts/\ts.length<=136/\L.length<=136/\(∀t∈L,∃z:Int,rq t.C=(z:Rat)/\Bl z.natAbs<=15480)/\(∀a,cf ts a=cf L a)/\∀val,Dx x val L=(Gr x val m:Rat)*Dx x val q) (by
   rintro _ ⟨j,A,l,ts,L,rfl,hj,k1,k2,J,k4,k5,k6,k7,k8⟩;unfold Agt;dsimp only;rcases Cg j q.length with h|h
   .left;have hx:q[j]? = some q[j]:=Bx h;generalize q[j]=u at hx;have g:=Cf hx;have hu:=hq.mo u g;obtain⟨z,z1,z2⟩:=hq.int u g;have R:=Abs (hq.cp.coe u g).1 z1 z2;obtain⟨c,m1,m2,m3,m4⟩:=M8 U R δ δ;have a1:rq c≠0:=(by rw[m4,h1];have:=(hq.cp.coe u g).2;grind);have E:=hG u g;have am:=hm.f.as;have au:=hu.f.as;have f0:=hm.f.fsum0;have f1:=hu.f.fsum0;have ab:Cr (m.A++u.M.A)=Cr m.A+Cr u.M.A:=Nd _ _;unfold Lu at E;have a7:Cr (m.A++u.M.A)<=6:=ω;have k:∀a∈m.A++u.M.A,1<=a.P/\Cd a.L=true/\a.L.T.length≠0/\D9 x.V x.E a.L=true:=λa ha=>by
     rcases D7.1 ha with h|h
     .exact hm.f.atm a h
     .exact hu.f.atm a h
    have hA:Atk (m.A++u.M.A):=⟨λa ha=>by have:=(k a ha).1;omega,λa ha=>(k a ha).2.1,ω,by rw[Fb];omega⟩;have Z:Oo m u.M=some ⟨m.F,m.A++u.M.A⟩:=(by have n1:=hm.cmo.nf;rw[Agd _ _ (by rw[S u g];simp;omega) ω,S u g,List.append_nil]);obtain⟨out,B,d1,d2,e1,I,M,e4,e5,e6,_⟩:=A9r G m2 δ a1 (Ba7 hz hm) hA k1 k2;have aa:out.length<=8:=(by rw[M.len];exact Nat.le_trans (I.cnt hm.f.srt hu.f.srt) (Nat.le_trans (Nat.pow_le_pow_right δ (ω:_<=3)) δ));have D:=I.goods (x:=x) λa ha=>⟨(k a ha).2.1,(k a ha).2.2.2⟩;have X:∀w∈out,RB 15470 w.C/\E5 x w.M:=λw hw=>by obtain⟨i,hi⟩:=Gz hw;obtain⟨b,b1,b2,b3,b4⟩:=M.get hi;obtain⟨g1,g2⟩:=D b (Cf b1);refine⟨b4.mono δ,?_⟩;rw[b2];exact Ba8 hm g1 ω
    obtain⟨v,v1,v2,v3,v4⟩:=Xm (P:=E5 x) (λm h=>h.cmo) out ts J X ω ω ω;refine⟨(((j+1:Nat):Int),d1,d2,Eo v,v),?_,⟨j+1,d1,d2,v,L++out,rfl,ω,e5,e6,⟨v2.dst,λt ht=>(v2.tb t ht).mono ω,v2.mo⟩,ω,by rw[Fb];omega,λt ht=>?_,λa=>?_,λval=>?_⟩,ζ⟩
    .rw[Ap ω,Ak,Bv rfl hx,Ad,m1,Ad,Z,Ad,e1,Ad];dsimp only;rw[Fc rfl,Am,v1,Ad,C9 h ω]
    .rcases D7.1 ht with ht|ht
     .exact k6 t ht
     .obtain⟨y,y1,y2⟩:=M.listI (z:=z) (by rw[m4,h1,z1];grind) t ht;exact⟨y,y1,ω⟩
    .rw[v4,k7,Xk]
    .have hc:rq c=rq u.C:=(by rw[m4,h1];grind);have V:Gr x val u.M=Gt (fv val) u.M.A:=(by have e:u.M=⟨[],u.M.A⟩:=(by rw[<-S u g]);rw[e,Agr]);have Y:Gr x val m=Ie (m.F.map (O7 x val))*Gt (fv val) m.A:=Awo x val m.F m.A;rw[Af8,k8,M.polV val,I.val (Xv val),Agq,Dc hx,Af8,hc];show _=_*(_+(rq u.C*(Gr x val u.M:Rat)+0));rw[V,Y];simp only[Rat.natCast_mul];grind
   .right;have:j=q.length:=ω;subst this;exact⟨_,by rw[Ax ω,Am],A,l,ts,L,rfl,⟨J.dst,λt ht=>(J.tb t ht).mono ω,J.mo⟩,ω,ω,k6,k7,λval=>by rw[k8,Dh]⟩)
  (0,b1,[],[],[]) ⟨0,b1,[],[],[],rfl,ω,a6,λp hp=>(by cases hp),Col.nil _ _,ψ,ψ,λt ht=>(by cases ht),λa=>rfl,λval=>by rw[List.take_zero];simp only[Dx];grind⟩;exact⟨A,l,ts,L,e1,I⟩
theorem Bba {x:Bh} {m:A7} (hm:E5 x m) {b:Aj} (hc:Gk b) (h1:rq b=1) (c:RB 3 b):H5 x [⟨b,m⟩] := H5.of ⟨List.pairwise_singleton _ _,λt ht=>by simp only[Dw]at ht;subst ht;exact⟨hc,by show rq b≠0;rw[h1];decide⟩⟩
  (λt ht=>by simp only[Dw]at ht;subst ht;exact hm) (λt ht=>by simp only[Dw]at ht;subst ht;exact c.mono δ) ψ
theorem Bbb {x:Bh} (J:CSz x) (N:En x) {m:A7} (hm:E5 x m) {g:Aj} (hc:Gk g) (h1:rq g=1) (y:RB 3 g) {f:A7->Rat} {q:List Ai} (hq:IP x 17 13010 f q) (nq:∀u∈q,u.M.F = []) :
  ∃R e,Ol x [⟨g,m⟩] q=some (R,e)/\(e=0->IP x 136 16000 (cf R) R/\∀val,Dx x val R=(Gr x val m:Rat)*Dx x val q):=by
 have k:=N.ctx J
 have a1:=hq.len
 have hp:=Bba hm hc h1 y
 have B:=hq.can δ δ
 obtain⟨b',hb,D⟩:=Af3 J (ps:=[[⟨g,m⟩],q]) (λr A=>by
  simp only[Fx,List.not_mem_nil,or_false]at A
  rcases A with rfl|rfl
  .exact hp.sz
  .exact B.sz) ψ ⟨N,λr A=>by
  simp only[Fx,List.not_mem_nil,or_false]at A
  rcases A with rfl|rfl
  .exact hp.can
  .exact B.can⟩
 have Z:Ac (0+1)=1:=by rw[Ac,B3] <;> omega
 have it:Af [(⟨g,m⟩:Ai)] 0=some ⟨g,m⟩:=rfl
 unfold Ol
 rw[hb]
 simp only[Ad,Dz,Am,Kr]
 rw[Ap ψ,Ak]
 have fin:∀c:List (ByteArray×Int),Ef x.D x.V x.E c->(∀u∈q,Lu x m+Lu x u.M<=6)->∃j i ts R,An (Agt x ⟨g,m⟩ q) (0,c,[],[],[])=some (.inr ((q.length:Int),j,i,Eo ts,ts))/\Ks (Eo ts) ts=some (R,0)/\IP x 136 16000 (cf R) R/\∀val,Dx x val R=(Gr x val m:Rat)*Dx x val q:=by
  intro c S E
  obtain⟨j,i,ts,L,s,l2,l3,l4,l5,l6,l7⟩:=Ba9 J N hm h1 y hq nq E S
  have hint:∀a,∃z:Int,cf ts a=(z:Rat)/\Bl z.natAbs<=16000:=λa=>by
   obtain⟨z,I,z2⟩:=Als a L l5
   exact⟨z,by rw[l6];exact I,ω⟩
  obtain⟨R,l,b⟩:=Alt (x:=x) l2 δ ω λa=>⟨(hint a).choose,(hint a).choose_spec.1⟩
  refine⟨j,i,ts,R,s,l,⟨b.cp,λ_=>rfl,b.mo,by have:=b.len;omega,λw hw=>?_⟩,λval=>by rw[<-l7 val];exact A8m λa=>by rw[b.val,l6]⟩
  obtain⟨z,I,z2⟩:=hint w.M
  exact⟨z,by rw[<-O4 b.cp hw,b.val,I],z2⟩
 by_cases M:q.length=0
 .have:q = []:=Fa.1 M
  subst this
  obtain⟨j,i,ts,R,s,l,b⟩:=fin b' D λu hu=>by cases hu
  refine⟨R,0,?_,λ_=>b⟩
  rw[Ax ψ,Am]
  simp only[Ad,Am]
  refine bnd (a:=.inr (j,i,Eo ts,ts)) ?_ (by simp only[l,Ad])
  refine (Ir (s':=(1,j,i,Eo ts,ts)) ?_).trans (D5 ?_)
  .simp only[it,Ad]
   rw[Ap ψ,Ak]
   exact bnd s (by simp only[Z])
  .rfl
 .obtain⟨G,c,g1,g2,g3,g4,g5⟩:=Awn [] k D [⟨g,m⟩] ψ (λu hu=>by simp only[Dw]at hu;subst hu;exact hm)
  obtain⟨Y,c',X,V,a7,a6,U⟩:=Awn [] k g2 q ω hq.mo
  have wG:Ac (G+Y)=G+Y:=by rw[Ac,B3] <;> omega
  rw[Ap ω,Ak,g1,Ad]
  dsimp only
  rw[X,Ad]
  dsimp only
  rw[wG,Ad]
  by_cases E:G+Y>6
  .rw[Ap E]
   exact⟨[],13,rfl,λh=>absurd h δ⟩
  .rw[Ax E]
   simp only[Am,Ad]
   obtain⟨j,i,ts,R,s,l,b⟩:=fin c' V λu hu=>by
    have h1:=g5 ⟨g,m⟩ ψ
    have h2:=U u hu
    have h1:Lu x m<=G:=h1
    omega
   refine⟨R,0,?_,λ_=>b⟩
   refine bnd (a:=.inr (j,i,Eo ts,ts)) ?_ (by simp only[l,Ad])
   refine (Ir (s':=(1,j,i,Eo ts,ts)) ?_).trans (D5 ?_)
   .simp only[it,Ad]
    rw[Ap ψ,Ak]
    exact bnd s (by simp only[Z])
   .rfl
structure PX (x:Bh) (n k:Nat) (R:List Ai):Prop where
 cp:CP R
 mo:∀t∈R,E5 x t.M
 rb:∀t∈R,RB k t.C
 len:R.length<=n
theorem PX.can {x:Bh} {n k:Nat} {R:List Ai} (h:PX x n k R) (b:n<=1000) (hk:k<=1048576):H5 x R := H5.of h.cp h.mo (λt ht=>(h.rb t ht).mono hk) (Nat.le_trans h.len b)
theorem PX.up {x:Bh} {n b k c:Nat} {R:List Ai} (h:PX x n k R) (f:n<=b) (hk:k<=c):PX x b c R:=⟨h.cp,h.mo,λt ht=>(h.rb t ht).mono hk,Nat.le_trans h.len f⟩
theorem IP.px {x:Bh} {n L:Nat} {f:A7->Rat} {R:List Ai} (h:IP x n L f R):PX x n (L+1) R:=⟨h.cp,h.mo,λt ht=>by obtain⟨z,b,z2⟩:=h.int t ht;exact Abs (h.cp.coe t ht).1 b z2,h.len⟩
theorem Al8 {p:List Ai} {k:Nat} (hc:CP p) (h:∀t∈p,RB k t.C) (hk:3<=k) (m:A7):∃a,RB k a/\rq a=cf p m:=by
 by_cases hm:∃t∈p,D8 t.M m=0
 .obtain⟨t,ht,e⟩:=hm;exact⟨t.C,h t ht,by rw[<-O4 hc ht,Mi.1 e]⟩
 .obtain⟨y,g,c,f,b⟩:=Uv 0 ω ω;exact⟨y,c.mono hk,by rw[b,Afr λt ht e=>hm ⟨t,ht,e⟩];rfl⟩
theorem Awp {x:Bh} (h:CSz x) (u:En x) {n m k l:Nat} {p q:List Ai} (hp:PX x n k p) (hq:PX x m l q) (D:n+m<=1000) (h3:3<=k) (y:3<=l) (hk:k<=1048576) (s:l<=1048576) : ∃R,Mx x p q=some (R,0)/\PX x (n+m) (k+l+3) R/\∀a,cf R a=cf p a-cf q a:=by have j:=hp.len;have i:=hq.len;obtain⟨R,g,f⟩:=Auf h u (hp.can ω hk) (hq.can ω s) ω;refine⟨R,g,⟨f.cp,λt ht=>(f.tb t ht).1,λt ht=>?_,by have:=f.len;omega⟩,f.val⟩;obtain⟨a,a1,a2⟩:=Al8 hp.cp hp.rb h3 t.M;obtain⟨b,b1,b2⟩:=Al8 hq.cp hq.rb y t.M;obtain⟨c,E,B,A,z⟩:=Ala a1 b1 ω ω;have e:t.C=c:=Ake (f.cp.coe t ht).1 A (by rw[<-O4 f.cp ht,f.val,z,a2,b2]);rw[e];exact B
theorem Bbc {x:Bh} (h:CSz x) (l:En x) {n k j:Nat} {p:List Ai} {r:Aj} (hp:PX x n k p) (f:RB j r) (y:n<=1000) (h3:3<=k) (hk:k<=1048576) (hj:j<=1048576) : ∃R,Ti x p r=some (R,0)/\PX x n (j+k+2) R/\∀a,cf R a=rq r*cf p a:=by have i:=hp.len;obtain⟨R,g,b⟩:=A7y h l (hp.can ω hk) (f.mono hj) ω;refine⟨R,g,⟨b.cp,λt ht=>(b.tb t ht).1,λt ht=>?_,by have:=b.len;omega⟩,b.val⟩;obtain⟨a,a1,a2⟩:=Al8 hp.cp hp.rb h3 t.M;obtain⟨c,z,u,s,q⟩:=M8 f a1 ω ω;have e:t.C=c:=Ake (b.cp.coe t ht).1 s (by rw[<-O4 b.cp ht,b.val,q,a2]);rw[e];exact u
theorem Aby {m:A7} (hm:m.F≠[]):∀B:List Dp,ec B m=0
 | []=>rfl
 | b::B=>by have h:D8 ⟨[],b.1⟩ m≠0:=λh=>hm (by rw[<-Mi.1 h]);simp only[ec,Av h,Aby hm B]
theorem Bbd {m:A7} (hm:m.F≠[]) (p q:List Ai):Qh p q m=0:=by
 cases p with
 | nil=>rfl
 | cons t p=>cases q with| nil=>rfl| cons u q=>simp only[Qh,Aby hm];show _*(((0:Nat):Rat))=0;rw[show (((0:Nat):Rat))=0 from rfl];grind
theorem Awq {f:Nat->Rat} (h:∀j,f j=0):∀n,sq n f=0
 | 0=>rfl
 | n+1=>by simp only[sq,Awq h n,h];grind
theorem IP.noF {x:Bh} {n L:Nat} {f:A7->Rat} {R:List Ai} (h:IP x n L f R) (b:∀m:A7,m.F≠[]->f m=0):∀u∈R,u.M.F = []:=λu hu=>by
 rcases Classical.em (u.M.F = []) with e|e
 .exact e
 .exact absurd (b _ e) (by rw[<-h.val,O4 h.cp hu];exact (h.cp.coe u hu).2)
theorem Bbe {val:Int->A3} {E F s:As} (c:0<=D4 val E) (b:0<=D4 val F) (h:D4 val s=D4 val E+D4 val F):fv val s=fv val E+fv val F:=by unfold fv;omega
theorem Bbf {E F s:As} (h:E.T.length+F.T.length<=12) (f:M1 E F=some (s,0)) (val:Int->A3):Cd s=true/\D4 val s=D4 val E+D4 val F:=by
 rcases Alu E F h with⟨_,_,L,b,i,g⟩|⟨_,b⟩
 .rw[f]at b;have b:=Fj b;unfold U1 at b;by_cases hc:Cd ⟨E.Q+F.Q,L⟩=true
  .rw[Ay hc]at b;have c:s=⟨E.Q+F.Q,L⟩:=congrArg Prod.fst b;subst c;exact⟨hc,Bao rfl g⟩
  .rw[Av hc]at b;exact absurd (show (0:Int)=9 from congrArg Prod.snd b) δ
 .rw[f]at b;exact absurd (show (0:Int)=1 from congrArg Prod.snd (Fj b)) δ
theorem Bbg {E F s:As} (h:E.T.length+F.T.length<=12) (f:Kt E F=some (s,0)) (val:Int->A3):Cd s=true/\D4 val s=D4 val E-D4 val F:=by
 rcases Avp E F h with⟨_,_,L,b,i,g⟩|⟨_,b⟩
 .rw[f]at b;have b:=Fj b;unfold U1 at b;by_cases hc:Cd ⟨E.Q-F.Q,L⟩=true
  .rw[Ay hc]at b;have c:s=⟨E.Q-F.Q,L⟩:=congrArg Prod.fst b;subst c;exact⟨hc,Bap rfl g⟩
  .rw[Av hc]at b;exact absurd (show (0:Int)=9 from congrArg Prod.snd b) δ
 .rw[f]at b;exact absurd (show (0:Int)=1 from congrArg Prod.snd (Fj b)) δ
def AxV (x:Bh) (a:Hy) (R:List Ai):Prop:=On a=some true/\∀val,(a.G=1->0<=D4 val a.E->0<=D4 val a.F->Dx x val R=0)/\(a.G≠1->∀s e,Kt a.E a.F=some (s,e)->0<=D4 val s->0<=Dx x val R)
theorem Bbh {x:Bh} (c:CSz x) (a:Hy) (J:a.E.T.length<=6) (I:a.F.T.length<=6) : ∃R e,Tm x a=some (R,e)/\(e=0->En x/\IP x 17 13010 (cf R) R/\(∀u∈R,u.M.F = [])/\AxV x a R):=by
 obtain⟨k,E,F,K⟩:=a;have J:E.T.length<=6:=J;have I:F.T.length<=6:=I;by_cases N:k=1
 .subst N;obtain⟨R,v,f,y,V,_,_,X⟩:=Bae c E F K J I;refine⟨R,_,y,λh=>?_⟩;obtain⟨g,_,D,A,z,iE,iF,s,i,h2⟩:=X h;have hv:v=true:=(by cases v with| false=>exact absurd (show (1:Int)=0 from h) δ| true=>rfl);refine⟨g,h2.up (Nat.le_refl _) (Nat.le_refl _) λm=>(h2.val m).symm,h2.noF λm hm=>?_,by rw[V,hv],λval=>⟨λ_ pE pF=>?_,λh=>absurd rfl h⟩⟩
  rotate_left
  .obtain⟨ls,M⟩:=Bbf ω i val;exact Bam c g val A z ls iE iF ω h2 (Bbe pE pF M)
  unfold shF;rw[Aby hm,Awq λj=>Bbd hm _ _,show ((0:Nat):Rat)=0 from rfl];grind
 .obtain⟨v,L,v2⟩:=Alw ⟨k,E,F,K⟩ (by show E.T.length+F.T.length<=12;omega);obtain⟨f,f1,f2⟩:=Uq x c [] (λt ht=>by cases ht);have a1:=c.nv;have U:=Agj x E ω ω;have S:=Agj x F ω ω;unfold Tm;rw[L,f1,U,S];cases v with
  | false=>exact⟨[],1,rfl,λh=>absurd h δ⟩
  | true=>
   cases f with
   | false=>exact⟨[],1,rfl,λh=>absurd h δ⟩
   | true=>
    cases hi:D9 x.V x.E E with
    | false=>exact⟨[],6,rfl,λh=>absurd h δ⟩
    | true=>
     cases hj:D9 x.V x.E F with
     | false=>exact⟨[],6,rfl,λh=>absurd h δ⟩
     | true=>
      obtain⟨A,z,k0,D,hk⟩:=v2.1 rfl;rcases hk with⟨h,_⟩|⟨G,s0,b⟩
      .exact (N h).elim
      .have G:k=2:=G;subst G;have g:=(f2.1 rfl).1;obtain⟨P,B,p1,p2,p3,_⟩:=Agl c g (l:=E) (k:=K) A k0 D hi;obtain⟨Q,C,q1,Z,Y,_⟩:=Agl c g (l:=F) (k:=K) z k0 D hj;obtain⟨R,y,q⟩:=Avk c g p3 Y δ δ;refine⟨R,0,?_,λ_=>⟨g,q.up δ δ λm=>(q.val m).symm,q.noF λm hm=>?_,L,λval=>⟨λh=>absurd (show (2:Int)=1 from h) δ,λ_ s e i hp=>?_⟩⟩⟩
       .simp only[Dz,Ad,Am,beq_self_eq_true,Ak];unfold Adl;simp only[p1,q1,y,Ad,bne_self_eq_false,Am]
       .rw[Aby hm,Aby hm,show ((0:Nat):Rat)=0 from rfl];grind
       .have b:Kt E F=some (s0,0):=b;have i:Kt E F=some (s,e):=i;rw[b]at i;cases i;obtain⟨_,M⟩:=Bbg ω b val;rw[IP.sub_val val p2 Z q];have hb:bc (fv val F) K.toNat<=bc (fv val E) K.toNat:=Baq _ (by unfold fv;omega);simp only[Gt,Nat.mul_one];have:((bc (fv val F) K.toNat:Nat):Rat)<=((bc (fv val E) K.toNat:Nat):Rat):=(by exact_mod_cast hb);grind
def Kf (fs:List As) (g:As) (ps:List Aj):Prop:=fs.all Cd=true/\Cd g=true/\Lt fs ps=true/\Xw fs g ps
theorem Kf.len {fs:List As} {g:As} {ps:List Aj} (h:Kf fs g ps):fs.length=ps.length:=by have:=h.2.2.1;unfold Lt at this;rw[Ck,C8]at this;exact this.1
open Classical in
theorem Abz {fs:List As} {g:As} {ps:List Aj}:(fs.all Cd&&(Cd g&&(Lt fs ps&&decide (Xw fs g ps))))=true↔Kf fs g ps:=by unfold Kf;simp only[Ck,C8]
def Qj (fs:List As) (l:List As) (p q:List Aj):Prop := match l with
 | [g]=>Kf fs g p/\q = []
 | [g,b]=>Kf fs g p/\Kf fs b q
 | _=>False
theorem Bbi:∀(k:Nat) (i:Bj) (a:Int),Dl i<=k->k<1099511627776->∃r,Oh k i a=some r/\True:=by
 intro k;induction k with
 | zero=>intro i a h;have:=Hc i;omega
 | succ k ih=>
  intro i a h hk;have f:=Hc i;have g:=P4 i.K;rw[Oh];refine Ej (λ(_,v)=>∃j:Nat,v=j/\j<=i.K.length) (λ(_,v)=>i.K.length-v.toNat) (λ_=>True) ⟨0,rfl,ω⟩ ?_ ?_
  .rintro⟨b,v⟩ ⟨j,rfl,hj⟩;rcases Cg j i.K.length with h'|h'
   .have hx:i.K[j]? = some i.K[j]:=Bx h';generalize i.K[j]=x at hx;have hm:=Md (Cf hx);obtain⟨y,c,_⟩:=ih x (Ac (a-b)) ω ω;simp only[Ap (ω:(j:Int)<(i.K.length:Int)),Ak,Bv rfl hx,Ad,c,C9 h' ω];cases decide (b>a) with| true=>exact .inr ⟨_,rfl,trivial⟩| false=>exact .inl ⟨_,rfl,⟨j+1,rfl,ω⟩,by simp only[Int.toNat_natCast];omega⟩
   .have:j=i.K.length:=ω;subst this;exact .inr ⟨.inr b,ψ,trivial⟩
  .rintro (e|e) _
   .exact⟨_,rfl,trivial⟩
   .exact⟨_,rfl,trivial⟩
theorem Awr (m:A7) (h:MSz m):∃b,Mu m=some b:=by
 have q:=h.nf;have l:=h.na;unfold Mu;have g0:∃b,(bif (m.F.length:Int)>(4:Int) then (some true) else (some (decide ((m.A.length:Int)>(4:Int)))):OB)=some b:=by cases decide ((m.F.length:Int)>(4:Int)) <;> exact⟨_,rfl⟩
 obtain⟨k,g⟩:=g0
 erw[g];cases k with
 | true=>exact⟨_,rfl⟩
 | false=>
  simp only[Ad,Am];let sz:Ca->Int:=λf=>(Oh 4000000 f.I 13).getD 0
  have c:∀f∈m.F,Oh 4000000 f.I 13=some (sz f):=λf i=>by obtain⟨r,h1,_⟩:=Bbi 4000000 f.I 13 (by have:=h.fi f i;omega) δ;show _=some ((Oh 4000000 f.I 13).getD 0);rw[h1];rfl
  clear_value sz;refine⟨_,Ky m.F (λf=>!decide (sz f>12)) (λj=>(j:Int)) rfl ω (rt:=m.A.all λa=>!decide ((a.L.T.length:Int)>4)) (rf:=false) ?_ ?_⟩
  .intro j x hx h1 h2 h3;simp only[h1,h2,h3,Ak,Ad,c x (Cf hx)];cases decide (sz x>12) with| true=>exact⟨nofun,λ_=>⟨_,rfl,rfl⟩⟩| false=>exact⟨(λ_=>rfl),λh=>by cases h⟩
  .intro h1;refine⟨.inr (),by simp only[h1];rfl,?_⟩;dsimp only;refine (Ky m.A (λa=>!decide ((a.L.T.length:Int)>4)) (λj=>(j:Int)) rfl ω (rt:=true) (rf:=false) ?_ ?_).trans (by rw[N1])
   .intro j x hx h1 h2 h3;simp only[h1,h2,h3,Ak,Ad];cases decide ((x.L.T.length:Int)>4) with| true=>exact⟨nofun,λ_=>⟨_,rfl,rfl⟩⟩| false=>exact⟨(λ_=>rfl),λh=>by cases h⟩
   .intro h1;exact⟨.inr (),by simp only[h1];rfl,rfl⟩
theorem Aws (a:Aj):Pf a=some (decide (a.U.length<=2)&&decide (a.B.length<=2)):=by
 unfold Pf;by_cases h1:a.U.length<=2
 .rw[Ap ω,Ak,Ap h1];by_cases h2:a.B.length<=2
  .rw[Ap ω,Ap h2];rfl
  .rw[Ax ω,Ax h2];rfl
 .rw[Ax ω,Ax h1];rfl
theorem RB.of2 {a:Aj} {k:Nat} (h:RB k a) (hk:(decide (a.U.length<=2)&&decide (a.B.length<=2))=true):RB 3 a:=by rw[Ck,C8,C8]at hk;exact⟨h.num,h.den,ω,ω⟩
theorem Awt (p:List Ai) (n:Int) (g:p.length<=1048576) (hp:∀t∈p,TSz t):∃b,Vp p n=some b/\(b=true->(p.length:Int)<=n/\∀t∈p,RB 3 t.C):=by
 unfold Vp;by_cases h:(p.length:Int)>n
 .rw[Ap h];exact⟨false,rfl,λh=>by cases h⟩
 .rw[Ax h,Am];let c:Ai->Bool:=λt=>(Mu t.M).getD false
  have f:∀t∈p,Mu t.M=some (c t):=λt ht=>by obtain⟨b,hb⟩:=Awr t.M (hp t ht).mo;show _=some ((Mu t.M).getD false);rw[hb];rfl
  clear_value c;refine⟨p.all λt=>(decide (t.C.U.length<=2)&&decide (t.C.B.length<=2))&&c t,(Ky p (λt=>(decide (t.C.U.length<=2)&&decide (t.C.B.length<=2))&&c t) (λj=>(j:Int)) rfl ω (rt:=true) (rf:=false) ?_ ?_).trans (by rw[N1]),λh'=>⟨ω,λt ht=>?_⟩⟩
  .intro j x hx h1 h2 h3;simp only[h1,h2,h3,Ak,Ad,Aws,f x (Cf hx)];cases (decide (x.C.U.length<=2)&&decide (x.C.B.length<=2)) with
   | false=>exact⟨nofun,λ_=>⟨_,rfl,rfl⟩⟩
   | true=>cases c x with| false=>exact⟨nofun,λ_=>⟨_,rfl,rfl⟩⟩| true=>exact⟨(λ_=>rfl),λh=>by cases h⟩
  .intro h1;exact⟨.inr (),by simp only[h1];rfl,rfl⟩
  .have:=D2.1 h' t ht;rw[Ck]at this;exact (hp t ht).co.of2 this.1
structure USz (u:Ee):Prop where
 ef:u.X.E.T.length<=1048576/\u.X.F.T.length<=1048576
 co:RB 1048576 u.C
 pa:MSz u.W
 fi:u.Y.length<=1048576/\∀r∈u.Y,RB 1048576 r
 se:u.Z.length<=1048576/\∀r∈u.Z,RB 1048576 r
structure USm (u:Ee):Prop where
 sz:USz u
 e4:u.X.E.T.length<=4
 f4:u.X.F.T.length<=4
 co:RB 3 u.C
theorem Bbj (l:List Ee) (n:Int) (y:l.length<=1048576) (hp:∀u∈l,USz u):∃b,Yl l n=some b/\(b=true->(l.length:Int)<=n/\∀u∈l,USm u):=by
 unfold Yl;by_cases h:(l.length:Int)>n
 .rw[Ap h];exact⟨false,rfl,λh=>by cases h⟩
 .rw[Ax h,Am];let c:Ee->Bool:=λt=>(Mu t.W).getD false
  have i:∀t∈l,Mu t.W=some (c t):=λt ht=>by obtain⟨b,hb⟩:=Awr t.W (hp t ht).pa;show _=some ((Mu t.W).getD false);rw[hb];rfl
  let g:Ee->Bool:=λt=>(Mv t.Y 12).getD false
  have q:∀t∈l,Mv t.Y 12=some (g t):=λt ht=>by obtain⟨b,hb⟩:=Awl t.Y 12 (hp t ht).fi.1;show _=some ((Mv t.Y 12).getD false);rw[hb];rfl
  let f:Ee->Bool:=λt=>(Mv t.Z 12).getD false
  have k:∀t∈l,Mv t.Z 12=some (f t):=λt ht=>by obtain⟨b,hb⟩:=Awl t.Z 12 (hp t ht).se.1;show _=some ((Mv t.Z 12).getD false);rw[hb];rfl
  clear_value c g f;let P:Ee->Bool:=λu=>!decide ((u.X.E.T.length:Int)>4)&&(!decide ((u.X.F.T.length:Int)>4)&&((decide (u.C.U.length<=2)&&decide (u.C.B.length<=2))&&(c u&&(g u&&f u))))
  have s:P=λu=>!decide ((u.X.E.T.length:Int)>4)&&(!decide ((u.X.F.T.length:Int)>4)&&((decide (u.C.U.length<=2)&&decide (u.C.B.length<=2))&&(c u&&(g u&&f u)))):=rfl;refine⟨l.all P,(Ky l P (λj=>(j:Int)) rfl ω (rt:=true) (rf:=false) ?_ ?_).trans (by rw[N1]),λh'=>⟨ω,λu hu=>?_⟩⟩
  .intro j x hx h1 h2 h3;have hm:=Cf hx;simp only[s,h1,h2,h3,Ak,Ad,Aws,i x hm,q x hm,k x hm];cases decide ((x.X.E.T.length:Int)>4) with
   | true=>exact⟨nofun,λ_=>⟨_,rfl,rfl⟩⟩
   | false=>
    cases decide ((x.X.F.T.length:Int)>4) with
    | true=>exact⟨nofun,λ_=>⟨_,rfl,rfl⟩⟩
    | false=>
     cases (decide (x.C.U.length<=2)&&decide (x.C.B.length<=2)) with
     | false=>exact⟨nofun,λ_=>⟨_,rfl,rfl⟩⟩
     | true=>
      cases c x with
      | false=>exact⟨nofun,λ_=>⟨_,rfl,rfl⟩⟩
      | true=>
       cases g x with
       | false=>exact⟨nofun,λ_=>⟨_,rfl,rfl⟩⟩
       | true=>cases f x with| false=>exact⟨nofun,λ_=>⟨_,rfl,rfl⟩⟩| true=>exact⟨(λ_=>rfl),λh=>by cases h⟩
  .intro h1;exact⟨.inr (),by simp only[h1];rfl,rfl⟩
  .have:=D2.1 h' u hu;simp only[s,Ck,Bool.not_eq_true',decide_eq_false_iff_not]at this;obtain⟨a1,a2,a3,_⟩:=this;exact⟨hp u hu,ω,ω,(hp u hu).co.of2 (by rw[Ck];exact a3)⟩
end Go.Ab
