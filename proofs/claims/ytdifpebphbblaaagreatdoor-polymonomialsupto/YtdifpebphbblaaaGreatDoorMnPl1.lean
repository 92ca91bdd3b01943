/- Plain laws. -/
import Derived.Test.YtdifpebphbblaaaGreatDoorMnPl0
import Derived.Lib.ItoaLen
open List
namespace Go.Ab
open Go
variable {t:Ai} {b:Bool} {c:Int} {l:List Ai} {data:List Ao} {r:List Bool} {j:Nat}
theorem Al6 (E:Szv data) (t:Ai) (P:Bi t<=200) (c:Int):Sk data t c=some (okL (I8 data t c)):=by
 have G:=G3 t;have A:=Hs t.R;unfold Sk I8;by_cases C:t.G=5
 .simp only[D3 C,Av,Bc C];cases K:Af data t.U with
  | none=>
   rcases O4 K with h|h
   .simp only[Ap h,Am,Ag,okL]
   .by_cases g:t.U<0
    .simp only[Ap g,Am,Ag,okL]
    .simp only[Ax g,Ap (show t.U>=(data.length:Int) from h),Am,Av,Ag,okL]
  | some x=>
   obtain⟨Q,R,_,H⟩:=E9 K;simp only[Ax (ω:¬t.U<0),Ax (ω:¬t.U>=(data.length:Int)),Av,Ag];by_cases i:(t.R.length:Int)=x.V
   .simp only[D3 i,Av,Bc i];cases L:Af x.O c with
    | none=>
     rcases O4 L with h|h
     .simp only[Ap h,Am,Ag,okL]
     .by_cases g:c<0
      .simp only[Ap g,Am,Ag,okL]
      .simp only[Ax g,Ap (show c>=(x.O.length:Int) from h),Am,Av,Ag,okL]
    | some y=>
     obtain⟨b1,b2,_,q⟩:=E9 L;obtain⟨J,b⟩:=E x H y q;simp only[Ax (ω:¬c<0),Ax (ω:¬c>=(x.O.length:Int)),Av,Ag];rw[Ql (n:=t.R.length) (c:=t.R.length) rfl rfl ω ω ω,Ag];refine Ga t.R (λj=>((j:Int),((t.R.take j).map λs=>(Bi s:Int))++replicate (t.R.length-j) 0)) rfl ω ?_ ?_
     .intro j s N k e p w;have:=G6 (B4 k);obtain⟨m,O⟩:∃m,t.R.length-j=m+1:=⟨t.R.length-j-1,ω⟩;have I:t.R.length-(j+1)=m:=ω;have u:j=((t.R.take j).map λs=>(Bi s:Int)).length:=ζ;simp only[e,p,w,Am,Ag,Awr 4000000 s ω ω,O,I,replicate_succ,Aes _ _ _ (j:Int) j rfl u,Aer _ _ _ _ (j:Int) j rfl u,C5 k];simp
     .intro e;refine⟨t.R.map λs=>(Bi s:Int),ψ,?_⟩;have z:∀s∈t.R,Bi s<=200:=λs k=>by have:=G6 k;omega
      refine (O3 (rt:=(y.R.map (Dd t.R),true)) (rf:=([],false)) y.R (λa=>decide (Bi (Dd t.R a)<=200)) (λj=>(j:Int)) rfl ω ?_ ?_).trans ?_
      .intro j a F e p w;have D:=b a (B4 F);obtain⟨v,B,S,T⟩:=Aws t.R 200 ω ω z 4000000 a ω ω;simp only[e,p,w,Am,Ag,B];by_cases M:Bi (Dd t.R a)<=200
       .rw[Ap M,Ax ω];exact⟨λ_=>rfl,λh=>by cases h⟩
       .rw[Ax M,Ap ω];exact⟨nofun,λ_=>⟨_,rfl,rfl⟩⟩
      .intro e;refine⟨.inr (),ψ,?_⟩;simp only;refine Ga y.R (λj=>((j:Int),(y.R.take j).map (Dd t.R))) rfl ω ?_ ?_
       .intro j a N F e p w;have D:=b a (B4 F);simp only[e,p,w,Am,Ag,Awo 4000000 a t.R 200 z ω ω];rw[Cy ζ,Ag,C5 F];simp
       .intro e;exact⟨y.R.map (Dd t.R),ψ,rfl⟩
      .rw[all_map];cases f:y.R.all ((λa=>decide (Bi a<=200)) ∘ Dd t.R) with| true=>rw[Bc rfl];rw[show (y.R.all λa=>decide (Bi (Dd t.R a)<=200))=true from f];rfl| false=>rw[show (y.R.all λa=>decide (Bi (Dd t.R a)<=200))=false from f];rfl
   .simp only[D2 i,Am,Ag,Bb i,okL]
 .simp only[D2 C,Am,Ag,Bb C,okL]
theorem O6 (h:I8 data t c=some l) : ∃x y,t.G=5/\Af data t.U=some x/\(t.R.length:Int)=x.V/\Af x.O c=some y/\l=y.R.map (Dd t.R)/\∀a∈l,Bi a<=200:=by
 unfold I8 at h;by_cases e:t.G=5
 .rw[Bc e]at h;cases i:Af data t.U with
  | none=>rw[i]at h;cases h
  | some x=>
   rw[i]at h;simp only at h;by_cases f:(t.R.length:Int)=x.V
   .rw[Bc f]at h;cases g:Af x.O c with
    | none=>rw[g]at h;cases h
    | some y=>
     rw[g]at h;simp only at h;by_cases b:(y.R.map (Dd t.R)).all (λa=>decide (Bi a<=200))=true
     .rw[Bc b]at h;cases h;refine⟨x,y,e,rfl,f,g,rfl,λa p=>?_⟩;have:=H7.1 b a p;simpa using this
     .rw[Bb b]at h;cases h
   .rw[Bb f]at h;cases h
 .rw[Bb e]at h;cases h
def Gx (l:List Ai) (r:List Bool):List Ai:=((l.zip r).filter λp=>!p.2).map (·.1)
def Fr (data:List Ao) (t:Ai) (c:Int):Option (List Ai):=(I8 data t c).map λl=>Gx l (Gw data t.U c)
theorem Zw (h:I8 data t c=some l):(Gw data t.U c).length=l.length:=by obtain⟨x,y,_,a,_,e,rfl,_⟩:=O6 h;unfold Gw;simp only[a,e,Er]
theorem Ae1 {a:Ai} (e:l[j]? = some a) (g:r[j]? = some b):Gx (l.take (j+1)) (r.take (j+1))=Gx (l.take j) (r.take j)++bif b then [] else [a]:=by unfold Gx;have f:=Gp e;have c:=Gp g;rw[C5 e,C5 g,zip_append ζ];cases b <;> simp
theorem Zx (l:List Ai) (r:List Bool):(Gx l r).length<=l.length:=by unfold Gx;rw[Er];refine Nat.le_trans (length_filter_le _ _) ?_;rw[length_zip];omega
theorem Awv (f:Szv data) (k:Ht data) (t:Ai) (p:Bi t<=200) (c:Int):P2 data t c=some (okL (Fr data t c)):=by
 unfold P2 Fr;rw[Al6 f t p c,Ag];cases h:I8 data t c with
 | none=>rfl
 | some l=>
  have q:=Zw h;obtain⟨x,y,_,v,_,w,u,_⟩:=O6 h;obtain⟨i,_⟩:=f x (E9 v).2.2.2 y (E9 w).2.2.2;have s:l.length<=6:=(by rw[u];simpa using i);simp only[okL,Dn,Av,Aet data t.U c k,Ag,Option.map_some];refine Ga (Gw data t.U c) (λj=>((j:Int),Gx (l.take j) ((Gw data t.U c).take j))) (by simp[Gx]) ω ?_ ?_
  .intro j b D A e B C;have g:l[j]? = some l[j]:=Cs ω;generalize l[j]=a at g;have z:=Zx (l.take j) ((Gw data t.U c).take j);have:(l.take j).length<=6:=ζ;simp only[e,B,C,Am,Ag,Cp rfl g,Ae1 g A];rw[Cy ζ];cases b <;> simp
  .intro e;refine⟨Gx l (Gw data t.U c),?_,rfl⟩;simp only[e];rw[Iy ω,Iy (Nat.le_refl _)];rfl
def K0 (r:List Bool):List Int:=(r.zipIdx.filter λp=>!p.1).map λp=>(p.2:Int)
def Qu (r:List Bool):List Int:=(r.zipIdx.filter λp=>p.1).map λp=>(p.2:Int)
theorem Ae2 (h:r[j]? = some b):(r.take (j+1)).zipIdx=(r.take j).zipIdx++[(b,j)]:=by have:=Gp h;rw[C5 h,zipIdx_append];simp;omega
theorem Aww (f:Szv data) (k:Ht data) (t:Ai) (g:Bi t<=200) (c:Int) (a:I8 data t c=some l):Vc data t c=some (K0 (Gw data t.U c),Qu (Gw data t.U c),true):=by
 unfold Vc;have q:=Zw a;obtain⟨x,y,_,h,_,p,u,_⟩:=O6 a;obtain⟨i,_⟩:=f x (E9 h).2.2.2 y (E9 p).2.2.2;have s:l.length<=6:=by rw[u];simpa using i
 rw[Al5 f t g c,a,Ag];simp only[okL,Dn,Av,Avu data t.U c k,Ag];generalize Gw data t.U c=r at *;refine Ga r (λj=>((j:Int),K0 (r.take j),Qu (r.take j))) (by simp[K0,Qu]) ω ?_ ?_
 .intro j b C v e w B;have A:(K0 (r.take j)).length<=6:=(by unfold K0;rw[Er];refine Nat.le_trans (length_filter_le _ _) ?_;simp;omega);have z:(Qu (r.take j)).length<=6:=(by unfold Qu;rw[Er];refine Nat.le_trans (length_filter_le _ _) ?_;simp;omega);simp only[e,w,B,Am,Ag];rw[Cy ζ,Cy ζ];unfold K0 Qu;rw[Ae2 v];cases b <;> simp
 .intro e;exact⟨(K0 r,Qu r),ψ,rfl⟩
theorem Awx (h:r.length=l.length):∀(j:Nat) (a:Int),(K0 r)[j]? = some a->∃x,Af l a=some x/\(Gx l r)[j]? = some x:=by
 intro j a g;have e:Gx l r=(r.zipIdx.filter λp=>!p.1).map λp=>(l[p.2]?).getD ⟨0,0,[]⟩:=by unfold Gx;have i:∀n,n<=r.length->(((l.take n).zip (r.take n)).filter λp=>!p.2).map (·.1)=((r.take n).zipIdx.filter λp=>!p.1).map λp=>(l[p.2]?).getD ⟨0,0,[]⟩:=(by intro n;induction n with| zero=>intro _;simp| succ n ih=>intro f;have q:l[n]? = some l[n]:=Cs ω;have s:r[n]? = some r[n]:=Cs ω;have:=Ae1 q s;unfold Gx at this;rw[this,ih ω,Ae2 s];cases r[n] <;> simp[q]);have:=i r.length (Nat.le_refl _);rw[Iy ω,Iy (Nat.le_refl _)]at this;exact this
 unfold K0 at g;rw[getElem?_map]at g;cases hp:(r.zipIdx.filter λp=>!p.1)[j]? with| none=>rw[hp]at g;cases g| some p=>rw[hp]at g;cases g;have u:=B4 hp;rw[mem_filter]at u;have b:r[p.2]? = some p.1:=mk_mem_zipIdx_iff_getElem?.1 u.1;have c:=Gp b;have v:l[p.2]? = some l[p.2]:=Cs ω;refine⟨l[p.2],Cp rfl v,?_⟩;rw[e,getElem?_map,hp];simp[v]
theorem Awy (h:r.length=l.length):(K0 r).length=(Gx l r).length:=by
 unfold K0 Gx;simp only[Er];have a:∀n,n<=r.length->(((l.take n).zip (r.take n)).filter λp=>!p.2).length=((r.take n).zipIdx.filter λp=>!p.1).length:=by intro n;induction n with| zero=>intro _;simp| succ n ih=>intro b;have f:l[n]? = some l[n]:=Cs ω;have e:r[n]? = some r[n]:=Cs ω;rw[Ae2 e,C5 f,C5 e,zip_append ζ,filter_append,Ew,ih ω,filter_append,Ew];cases r[n] <;> simp
 have:=a r.length (Nat.le_refl _);rw[Iy ω,Iy (Nat.le_refl _)]at this;exact this.symm
theorem Wd (i:Szv data) (q:Ht data) (t:Ai) (h:Bi t<=200) (c:Int):Nk data t c=some (okL (Fr data t c)):=by
 unfold Nk Fr;rw[Al5 i t h c,Ag];cases e:I8 data t c with
 | none=>rfl
 | some l=>
  have f:=Zw e;obtain⟨x,y,_,p,_,v,z,_⟩:=O6 e;obtain⟨k,_⟩:=i x (E9 p).2.2.2 y (E9 v).2.2.2;have u:l.length<=6:=(by rw[z];simpa using k);simp only[okL,Dn,Av,Aww i q t h c e,Ag,Option.map_some];generalize Gw data t.U c=r at *;have s:=Awy f;have A:=Zx l r;refine Ga (K0 r) (λj=>((j:Int),(Gx l r).take j)) ψ ω ?_ ?_
  .intro j b F w g B C;obtain⟨a,D,E⟩:=Awx f j b w;simp only[g,B,C,Am,Ag,D];rw[Cy ζ,Ag,C5 E]
  .intro g;refine⟨Gx l r,?_,rfl⟩;simp only[g];rw[Iy ω];rfl
theorem S9 (h:Fr data t c=some l):(∀a∈l,Bi a<=200)/\∃x,Af data t.U=some x/\0<=c/\c<x.O.length:=by unfold Fr at h;cases e:I8 data t c with| none=>rw[e]at h;cases h| some m=>rw[e]at h;cases h;obtain⟨x,y,_,q,_,g,_,f⟩:=O6 e;refine⟨λa i=>?_,x,q,(E9 g).1,(E9 g).2.1⟩;unfold Gx at i;obtain⟨p,b,rfl⟩:=mem_map.1 i;exact f _ (of_mem_zip (mem_filter.1 b).1).1
mutual
def Di:Ae->Nat
 | ⟨_,l⟩=>1+Fa l
def Fa:List Ae->Nat
 | []=>0
 | x::xs=>Di x+Fa xs
end
theorem Gs (t:Ae):Di t=1+Fa t.K:=by cases t;simp only[Di]
theorem K1 {l:List Ae} {a:Ae} (h:a∈l):Di a<=Fa l:=by
 induction l with
 | nil=>cases h
 | cons x xs ih=>
  simp only[Fa];rcases Iq.1 h with rfl|h
  .omega
  .have:=ih h;omega
theorem Lt (l:List Ae):l.length<=Fa l:=by induction l with| nil=>simp| cons x xs ih=>simp only[Fa,Hj];have:=Gs x;omega
mutual
def B3 (data:List Ao):Ae->Ai->Option Nat
 | ⟨n,a⟩,t=>
  if t.G=6 then (if n=0 then Bv data a t.R else none)
  else if t.G=7 then (if 0<=n/\n<=6/\a.length=0 then some n.toNat else none)
  else if t.G=5 then (if n=0 then Fb data a t else none)
  else if n=0/\a.length=0 then some 0 else none
def Bv (data:List Ao):List Ae->List Ai->Option Nat
 | [],[]=>some 0
 | i::is,t::e=>(B3 data i t).bind λa=>(Bv data is e).map (a + ·)
 | [],_::_=>none
 | _::_,[]=>none
def Fb (data:List Ao):List Ae->Ai->Option Nat
 | [],_=>some 0
 | ⟨n,e⟩::f,t=>(Fr data t n).bind λg=>(Bv data e g).bind λa=>(Fb data f t).map (1+a + ·)
end
variable {m n:Int} {data:List Ao} {d:Nat}
theorem Jw (data:List Ao) (i:Ae) (t:Ai):B3 data i t=if t.G=6 then (if i.U=0 then Bv data i.K t.R else none) else if t.G=7 then (if 0<=i.U/\i.U<=6/\i.K.length=0 then some i.U.toNat else none) else if t.G=5 then (if i.U=0 then Fb data i.K t else none) else if i.U=0/\i.K.length=0 then some 0 else none:=by cases i;simp only[B3]
theorem Qv (data:List Ao) (e:Ae) (es:List Ae) (t:Ai):Fb data (e::es) t=(Fr data t e.U).bind λb=>(Bv data e.K b).bind λa=>(Fb data es t).map (1+a + ·):=by cases e;simp only[Fb]
theorem I9 (data:List Ao) (i:Ae) (is:List Ae) (t:Ai) (b:List Ai):Bv data (i::is) (t::b)=(B3 data i t).bind λa=>(Bv data is b).map (a + ·):=by simp only[Bv]
theorem Ae3 (data:List Ao):∀(is:List Ae) (b:List Ai),b.length≠is.length->Bv data is b=none
 | [],[],h=>absurd rfl h
 | i::is,t::b,h=>by rw[I9,Ae3 data is b (by simpa using h)];cases B3 data i t <;> rfl
 | [],_::_,_=>by simp only[Bv]
 | _::_,[],_=>by simp only[Bv]
theorem We (data:List Ao):∀(es:List Ae) (t:Ai) (d:Nat),Fb data es t=some d->es.length<=d
 | [],_,_,_=>ψ
 | e::es,t,d,h=>by
  rw[Qv]at h;cases g:Fr data t e.U with
  | none=>rw[g]at h;cases h
  | some c=>
   rw[g,Ag]at h;cases i:Bv data e.K c with
   | none=>rw[i]at h;cases h
   | some a=>rw[i,Ag]at h;cases f:Fb data es t with| none=>rw[f]at h;cases h| some b=>rw[f]at h;cases h;have:=We data es t b f;simp only[Hj];omega
def Hu (o:Option Nat):Int:=match o with|some d=>if d<=6 then (d:Int) else -1|none => -1
theorem Wf (h:d<=6):Hu (some d)=d:=by simp[Hu,h]
theorem Ae4 (h:6<d):Hu (some d) = -1:=by simp only[Hu];rw[Bb ω]
theorem Ae5 (o:Option Nat):(Hu o = -1/\∀d,o=some d->6<d)\/∃d,o=some d/\d<=6/\Hu o=d:=by
 cases o with
 | none=>exact .inl ⟨rfl,λd h=>by cases h⟩
 | some d=>
  rcases C9 6 d with h|h
  .exact .inl ⟨Ae4 h,λe b=>by cases b;exact h⟩
  .exact .inr ⟨d,rfl,h,Wf h⟩
theorem Ta {o:Option Nat} (h:∀d,o=some d->6<d):Hu o = -1:=by cases o with| none=>rfl| some d=>exact Ae4 (h d rfl)
theorem Mt {α:Type} {l:List α} {j:Nat} {x:α} (h:l[j]? = some x):l.drop j=x::l.drop (j+1):=by have a:=Gp h;rw[drop_eq_getElem_cons a];rw[Cs a]at h;rw[Fe h]
theorem Awz (U:Szv data) (V:Ht data) (h8:∀x∈data,x.O.length<=8):∀k:Nat, (∀(i:Ae) (t:Ai),2*Di i<=k->Di i<=1048576->Bi t<=200->Oe k data t i=some (Hu (B3 data i t))) /\ (∀(is:List Ae) (c:List Ai),2*Fa is+1<=k->Fa is<=1048576->(∀t∈c,Bi t<=200)->Ol k data c is=some (Hu (Bv data is c))):=by
 intro k;induction k with
 | zero=>exact⟨λi t h=>by have:=Gs i;omega,λis c h=>ω⟩
 | succ k ih=>
  obtain⟨a8,N⟩:=ih;have L:∀o:Option Nat,o.map (0 + ·)=o:=(by intro o;cases o <;> simp);constructor
  .intro i t hk hi Q;have ag:=Gs i;have aa:=Lt i.K;rw[Oe,Jw];by_cases Y:t.G=6
   .simp only[E5 Y,Am,Bc Y];by_cases p:i.U=0
    .simp only[D3 p,Av,Bc p];rw[N i.K t.R ω ω (λa w=>by have:=G6 w;have:=G3 t;omega)];rfl
    .simp only[D2 p,Am,Bb p];rfl
   .simp only[Da Y,Av,Bb Y];by_cases X:t.G=7
    .simp only[E5 X,Am,Bc X];by_cases a1:0<=i.U
     .by_cases a2:i.U<=6
      .by_cases W:i.K.length=0
       .rw[Ax ω,Ax ω,Ax ω,Bc ⟨a1,a2,W⟩,Wf ω];simp;omega
       .rw[Ax ω,Ax ω,Ap ω,Bb λh=>W h.2.2];rfl
      .rw[Ax ω,Ap ω,Bb λh=>a2 h.2.1];rfl
     .rw[Ap ω,Bb λh=>a1 h.1];rfl
    .simp only[Da X,Av,Bb X];by_cases Z:t.G=5
     .simp only[E5 Z,Am,Bc Z];by_cases p:i.U=0
      .simp only[D3 p,Av,Bc p,Ag];by_cases O:(i.K.length:Int)>6
       .rw[Ap O];refine congrArg some (Ta λd hd=>?_).symm;have:=We data _ _ _ hd;omega
       rw[Ax O];simp only[Av];have K:∀(m j g:Nat),j+m=i.K.length->g<=6->∃z,Ak (S:=(Int×Int)) (E:=(Int⊕Int)) (λ(I,G)=>
         bif G<(i.K.length:Int) then ((Af i.K G).bind λC=> (show OB from bif C.U<(0:Int) then some true else some (decide (C.U>=(8:Int)))).bind λa6=> bif a6 then some (.inr (.inl (-1))) else ((Nk data t C.U).bind λM=> bif (!M.2) then some (.inr (.inl (-1))) else ((Ol k data M.1 C.K).bind λD=> bif D<(0:Int) then some (.inr (.inl (-1))) else (bif (Ac ((Ac (I+1))+D))>(6:Int) then some (.inr (.inl (-1))) else some (.inl ((Ac (I+(Ac (1+D)))),(Ac (G+1))))))))
         else some (.inr (.inr I))) ((g:Int),(j:Int))=some z/\(match z with|.inl v=>v | .inr v=>v)=Hu ((Fb data (i.K.drop j) t).map (g + ·)):=by
        intro m;induction m with
        | zero=>intro j g hj f;have:j=i.K.length:=ω;subst this;refine⟨.inr (g:Int),F5 ψ,?_⟩;simp[Fb,Hu,f]
        | succ m A=>
         intro j g hj f;have q:i.K[j]? = some i.K[j]:=Cs ω;generalize i.K[j]=e at q;have ab:=K1 (B4 q);have ah:=Gs e;rw[Mt q,Qv];have hb:(bif decide (e.U<(0:Int)) then some true else some (decide (e.U>=(8:Int))))=some (decide (e.U<0\/8<=e.U)):=(by by_cases g1:e.U<0 <;> by_cases g2:8<=e.U <;> simp[g1,g2]);cases hp:Fr data t e.U with
         | none=>refine⟨.inl (-1),F5 ?_,by simp[Hu]⟩;simp only[Ap (ω:(j:Int)<(i.K.length:Int)),Am,Cp rfl q,Ag,Wd U V t Q e.U,hp,okL,Bool.not_false,hb];cases decide (e.U<0\/8<=e.U) <;> rfl
         | some c=>
          obtain⟨pz,x,a7,ae,ad⟩:=S9 hp;have af:=h8 x (E9 a7).2.2.2;have y:=N e.K c ω ω pz;have P:decide (e.U<0\/8<=e.U)=false:=Ax ω;rcases Ae5 (Bv data e.K c) with⟨F,c2⟩|⟨a,F,c2,c3⟩
          .rw[F]at y;refine⟨.inl (-1),F5 ?_,?_⟩
           .simp only[Ap (ω:(j:Int)<(i.K.length:Int)),Am,Cp rfl q,Ag,Wd U V t Q e.U,hp,okL,Dn,Av,hb,P,y];rfl
           .refine (Ta λd h=>?_).symm;rw[Ag]at h;cases w:Bv data e.K c with
            | none=>rw[w]at h;cases h
            | some a=>rw[w,Ag]at h;have:=c2 a w;cases B:Fb data (i.K.drop (j+1)) t with| none=>rw[B]at h;cases h| some b=>rw[B]at h;simp at h;omega
          .rw[c3]at y;have R:Ac (Ac ((g:Int)+1)+(a:Int))=((g+(1+a):Nat):Int):=(by rw[show Ac ((g:Int)+1)=((g+1:Nat):Int) by rw[Ac,B6] <;> omega,Ac,B6] <;> omega);have ac:Ac ((g:Int)+Ac (1+(a:Int)))=((g+(1+a):Nat):Int):=(by rw[show Ac (1+(a:Int))=((1+a:Nat):Int) by rw[Ac,B6] <;> omega,Ac,B6] <;> omega);by_cases J:g+(1+a)<=6
           .obtain⟨z,s,H⟩:=A (j+1) (g+(1+a)) ω J;refine⟨z,?_,?_⟩
            .rw[Kr (s':=(((g+(1+a):Nat):Int),((j+1:Nat):Int)))]
             .exact s
             .simp only[Ap (ω:(j:Int)<(i.K.length:Int)),Am,Cp rfl q,Ag,Wd U V t Q e.U,hp,okL,Dn,Av,hb,P,y,R,ac,Ax (ω:¬(a:Int)<0),Ax (ω:¬((g+(1+a):Nat):Int)>6),En (show j<i.K.length by omega) ω]
            .have L:∀o:Option Nat,(((some a:Option Nat).bind λa=>o.map (1+a + ·)).map (g + ·))=o.map (g+(1+a) + ·):=(by intro o;cases o <;> simp[Nat.add_assoc]);rw[Ag,F,L];exact H
           .refine⟨.inl (-1),F5 ?_,?_⟩
            .simp only[Ap (ω:(j:Int)<(i.K.length:Int)),Am,Cp rfl q,Ag,Wd U V t Q e.U,hp,okL,Dn,Av,hb,P,y,R,Ax (ω:¬(a:Int)<0),Ap (ω:((g+(1+a):Nat):Int)>6)]
            .refine (Ta λd h=>?_).symm;rw[Ag,F,Ag]at h;cases B:Fb data (i.K.drop (j+1)) t with| none=>rw[B]at h;cases h| some b=>rw[B]at h;simp at h;omega
       obtain⟨z,s,H⟩:=K i.K.length 0 0 ω ω;have s:Ak _ ((0:Int),(0:Int))=some z:=s
       erw[s,Ag];rw[drop_zero,L]at H;rw[<-H];cases z <;> rfl
      .simp only[D2 p,Am,Bb p];rfl
     .simp only[Da Z,Av,Bb Z];by_cases p:i.U=0
      .simp only[D3 p,Av];by_cases W:i.K.length=0
       .rw[Bc ⟨p,W⟩,Ax ω];rfl
       .rw[Bb λh=>W h.2,Ap ω];rfl
      .simp only[D2 p,Am];rw[Bb λh=>p h.1];rfl
  .intro is c hk hi Q;have aa:=Lt is;rw[Ol];by_cases hl:c.length=is.length
   .rw[D3 ω];simp only[Av];have K:∀(m j g:Nat),j+m=is.length->g<=6->∃z,Ak (S:=(Int×Int)) (E:=(Int⊕Int)) (λ(v4,v5)=>
      bif v5<(c.length:Int) then ((Af c v5).bind λv6=> (Af is v5).bind λv7=> (Oe k data v6 v7).bind λv8=> bif v8<(0:Int) then some (.inr (.inl (-1))) else (bif (Ac (v4+v8))>(6:Int) then some (.inr (.inl (-1))) else some (.inl ((Ac (v4+v8)),(Ac (v5+1)))))) else some (.inr (.inr v4))) ((g:Int),(j:Int))=some z/\(match z with|.inl v=>v | .inr v=>v)=Hu ((Bv data (is.drop j) (c.drop j)).map (g + ·)):=by
     intro m;induction m with
     | zero=>intro j g hj f;have:j=c.length:=ω;subst this;refine⟨.inr (g:Int),F5 ψ,?_⟩;rw[drop_of_length_le ω,drop_of_length_le ω];simp[Bv,Hu,f]
     | succ m A=>
      intro j g hj f;have q:is[j]? = some is[j]:=Cs ω;generalize is[j]=e at q;have T:c[j]? = some c[j]:=Cs ω;generalize c[j]=u at T;have ab:=K1 (B4 q);rw[Mt q,Mt T,I9];have y:=a8 e u ω ω (Q u (B4 T));rcases Ae5 (B3 data e u) with⟨F,c2⟩|⟨a,F,c2,c3⟩
      .rw[F]at y;refine⟨.inl (-1),F5 ?_,?_⟩
       .simp only[Ap (ω:(j:Int)<(c.length:Int)),Am,Cp rfl q,Cp rfl T,Ag,y];rfl
       .refine (Ta λd h=>?_).symm;cases w:B3 data e u with
        | none=>rw[w]at h;cases h
        | some a=>rw[w,Ag]at h;have:=c2 a w;cases B:Bv data (is.drop (j+1)) (c.drop (j+1)) with| none=>rw[B]at h;cases h| some b=>rw[B]at h;simp at h;omega
      .rw[c3]at y;have R:Ac ((g:Int)+(a:Int))=((g+a:Nat):Int):=ξ;by_cases J:g+a<=6
       .obtain⟨z,s,H⟩:=A (j+1) (g+a) ω J;refine⟨z,?_,?_⟩
        .rw[Kr (s':=(((g+a:Nat):Int),((j+1:Nat):Int)))]
         .exact s
         .simp only[Ap (ω:(j:Int)<(c.length:Int)),Am,Cp rfl q,Cp rfl T,Ag,Av,y,R,Ax (ω:¬(a:Int)<0),Ax (ω:¬((g+a:Nat):Int)>6),En (show j<is.length by omega) ω]
        .have L:∀o:Option Nat,(((some a:Option Nat).bind λa=>o.map (a + ·)).map (g + ·))=o.map (g+a + ·):=(by intro o;cases o <;> simp[Nat.add_assoc]);rw[F,L];exact H
       .refine⟨.inl (-1),F5 ?_,?_⟩
        .simp only[Ap (ω:(j:Int)<(c.length:Int)),Am,Cp rfl q,Cp rfl T,Ag,Av,y,R,Ax (ω:¬(a:Int)<0),Ap (ω:((g+a:Nat):Int)>6)]
        .refine (Ta λd h=>?_).symm;rw[F,Ag]at h;cases B:Bv data (is.drop (j+1)) (c.drop (j+1)) with| none=>rw[B]at h;cases h| some b=>rw[B]at h;simp at h;omega
    obtain⟨z,s,H⟩:=K is.length 0 0 ω ω;have s:Ak _ ((0:Int),(0:Int))=some z:=s;rw[s,Ag];rw[drop_zero,drop_zero,L]at H;rw[<-H];cases z <;> rfl
   .rw[D2 ω,Ae3 data is c hl];rfl
theorem G4.cons8 (h:G4 data):∀x∈data,x.O.length<=8:=by intro x hx;obtain⟨d,hd⟩:=Kz hx;exact (h.2.1 d x hd).2.2.2.1
theorem Al7 (b:G4 data) (c:Ht data) (t:Ai) (i:Ae) (a:Bi t<=200) (hi:Di i<=1048576):Od data t i=some (Hu (B3 data i t)):=by unfold Od;rw[(Awz b.szv c b.cons8 4000000).1 i t ω hi a];rfl
def I64 (n:Int):Prop:= -9223372036854775808<=n/\n<=9223372036854775807
def ti (n:Int):List Int:=(Lib.itoa n).map λc=>(c.toNat:Int)
def Nw (c:Int):Bool:=c==45||(decide (48<=c)&&decide (c<=57))
theorem Tb (h:d<10):(UInt8.ofNat (48+d)).toNat=48+d:=by rw[UInt8.toNat_ofNat'];omega
theorem Zy:∀(n u:Nat),u<=n->∀c∈Lib.decDigits u,48<=c.toNat/\c.toNat<=57:=by
 intro n;induction n with
 | zero=>intro u e c a;rw[Lib.decDigits,dif_pos ω]at a;simp only[Fx]at a;subst a;rw[Tb ω];omega
 | succ n ih=>
  intro u e c a;rw[Lib.decDigits]at a;split at a
  .simp only[Fx]at a;subst a;rw[Tb ω];omega
  .rcases Fi.1 a with h|h
   .exact ih (u / 10) ω c h
   .simp only[Fx]at h;subst h;rw[Tb ω];omega
def Zz (l:List UInt8):Nat:=l.foldl (λa c=>10*a+(c.toNat-48)) 0
theorem Al8:∀(n u:Nat),u<=n->Zz (Lib.decDigits u)=u:=by
 intro n;induction n with
 | zero=>intro u a;rw[Lib.decDigits,dif_pos ω];simp only[Zz,foldl_cons,foldl_nil];rw[Tb ω];omega
 | succ n ih=>
  intro u a;rw[Lib.decDigits];split
  .simp only[Zz,foldl_cons,foldl_nil];rw[Tb ω];omega
  .have:=ih (u / 10) ω;unfold Zz at *;rw[foldl_append,this];simp only[foldl_cons,foldl_nil];rw[Tb ω];omega
theorem Al9 {u v:Nat} (h:Lib.decDigits u=Lib.decDigits v):u=v:=by rw[<-Al8 u u (Nat.le_refl _),h,Al8 v v (Nat.le_refl _)]
theorem Aw0 (u:Nat):Lib.decDigits u≠[]:=by rw[Lib.decDigits];split <;> simp
theorem Aw1 (h:Lib.itoa m=Lib.itoa n):m=n:=by
 have b:∀u v:Nat,45::Lib.decDigits u≠Lib.decDigits v:=by intro u v e;have:=Zy v v (Nat.le_refl _) 45 (by rw[<-e];simp);exact absurd this δ
 unfold Lib.itoa at h;split at h <;> split at h
 .have:=Al9 (List.cons.inj h).2;omega
 .exact absurd h (b _ _)
 .exact absurd h.symm (b _ _)
 .have:=Al9 h;omega
theorem Nx (n:Int):∀c∈ti n,Nw c=true:=by
 intro c f;unfold ti at f;obtain⟨b,a,rfl⟩:=mem_map.1 f;have e:b=45\/(48<=b.toNat/\b.toNat<=57):=by
  unfold Lib.itoa at a;split at a
  .rcases Iq.1 a with h|h
   .exact .inl h
   .exact .inr (Zy _ _ (Nat.le_refl _) b h)
  .exact .inr (Zy _ _ (Nat.le_refl _) b a)
 unfold Nw;rcases e with rfl|⟨g,i⟩
 .decide
 .rw[Bool.or_eq_true,Dt,E8,E8];right;omega
theorem Ae6 (n:Int):ti n≠[]:=by
 unfold ti Lib.itoa;split
 .simp
 .simpa using Aw0 _
theorem Ama (h:ti m=ti n):m=n:=by
 unfold ti at h;have:∀l m:List UInt8,l.map (λc=>(c.toNat:Int))=m.map (λc=>(c.toNat:Int))->l=m:=by
  intro l;induction l with
  | nil=>intro m h;cases m with|nil=>rfl|cons=>simp at h
  | cons x xs ih=>intro m h;cases m with| nil=>simp at h| cons y a=>simp only[map_cons,List.cons.injEq]at h;rw[ih a h.2,UInt8.toNat.inj (ω:x.toNat=y.toNat)]
 exact Aw1 (this _ _ h)
theorem Ae7 (h:I64 n):(ti n).length<=21:=by unfold ti;rw[Er];exact Lib.itoa_length_le n h.1 h.2
def Qw (X:List Int):Prop:=∀c m,X=c::m->Nw c=false/\c≠40
def Z0 (X:List Int):Prop:=∀c m,X=c::m->Nw c=false
theorem Ae8:∀(a b X Y:List Int),(∀c∈a,Nw c=true)->(∀c∈b,Nw c=true)->Z0 X->Z0 Y->a++X=b++Y->a=b/\X=Y
 | [],[],_,_,_,_,_,_,h=>⟨rfl,h⟩
 | [],y::b,X,Y,_,e,i,_,h=>by have:=i y (b++Y) h;rw[e y ψ]at this;cases this
 | x::a,[],X,Y,g,_,_,f,h=>by have:=f x (a++X) h.symm;rw[g x ψ]at this;cases this
 | x::a,y::b,X,Y,g,e,i,f,h=>by simp only[G2,List.cons.injEq]at h;obtain⟨k,j⟩:=Ae8 a b X Y (λc p=>g c (by simp[p])) (λc p=>e c (by simp[p])) i f h.2;exact⟨by rw[h.1,k],j⟩
mutual
def wx:Ae->List Int
 | ⟨n,a⟩=>ti n++(if a.length=0 then [] else 40::(wxs a++[41]))
def wxs:List Ae->List Int
 | []=>[]
 | x::xs=>wx x++44::wxs xs
end
theorem Ae9 (i:Ae):wx i=ti i.U++(if i.K.length=0 then [] else 40::(wxs i.K++[41])):=by cases i;simp only[wx]
theorem Amb (l m:List Ae):wxs (l++m)=wxs l++wxs m:=by induction l with| nil=>simp[wxs]| cons x xs ih=>simp only[G2,wxs,ih,append_assoc]
theorem Amc (b:List Ae) (X:List Int) (f:Qw X):Z0 ((if b.length=0 then [] else 40::(wxs b++[41]))++X):=by
 intro c m h;by_cases a:b.length=0
 .rw[Bc a,nil_append]at h;exact (f c m h).1
 .rw[Bb a,G2]at h;cases h;decide
theorem Amd (X:List Int):Qw (44::X):=by intro c m h;cases h;exact⟨δ,δ⟩
theorem Ame:Qw []:=by intro c m h;cases h
mutual
theorem Amf:∀(i j:Ae) (X Y:List Int),Qw X->Qw Y->wx i++X=wx j++Y->i=j/\X=Y
 | ⟨n,k⟩,⟨u,g⟩,X,Y,p,q,h=>by
  simp only[wx,append_assoc]at h
  obtain⟨s,e⟩:=Ae8 _ _ _ _ (Nx n) (Nx u) (Amc k X p) (Amc g Y q) h
  have s:=Ama s
  subst s
  by_cases f:k.length=0
  .by_cases a:g.length=0
   .rw[Bc f,Bc a]at e
    rw[F9.1 f,F9.1 a]
    exact⟨rfl,e⟩
   .rw[Bc f,Bb a,nil_append,G2]at e
    exact absurd rfl (p _ _ e).2
  .by_cases a:g.length=0
   .rw[Bb f,Bc a,nil_append,G2]at e
    exact absurd rfl (q _ _ e.symm).2
   .rw[Bb f,Bb a,G2,G2,append_assoc,append_assoc]at e
    obtain⟨v,w⟩:=Amg k g X Y p q (List.cons.inj e).2
    rw[v];exact⟨rfl,w⟩
theorem Amg:∀(l m:List Ae) (X Y:List Int),Qw X->Qw Y->wxs l++([41]++X)=wxs m++([41]++Y)->l=m/\X=Y
 | [],[],X,Y,_,_,h=>by
  simp only[wxs,nil_append,G2,List.cons.injEq,true_and]at h
  exact⟨rfl,h⟩
 | [],y::f,X,Y,_,_,h=>by
  exfalso
  cases a:ti y.U with
  | nil=>exact Ae6 _ a
  | cons c r=>
   have e:=Nx y.U c (by rw[a];simp)
   simp only[wxs,Ae9 y,a,nil_append,G2,List.cons.injEq]at h
   rw[<-h.1]at e;exact absurd e δ
 | x::xs,[],X,Y,_,_,h=>by
  exfalso
  cases a:ti x.U with
  | nil=>exact Ae6 _ a
  | cons c r=>
   have e:=Nx x.U c (by rw[a];simp)
   simp only[wxs,Ae9 x,a,nil_append,G2,List.cons.injEq]at h
   rw[h.1]at e;exact absurd e δ
 | x::xs,y::f,X,Y,g,i,h=>by
  simp only[wxs,append_assoc,G2]at h
  obtain⟨p,q⟩:=Amf x y _ _ (Amd _) (Amd _) h
  obtain⟨s,u⟩:=Amg xs f X Y g i (by simpa using q)
  exact⟨by rw[p,s],u⟩
end
mutual
def iR:Ae->Prop
 | ⟨n,l⟩=>I64 n/\iRs l
def iRs:List Ae->Prop
 | []=>True
 | x::xs=>iR x/\iRs xs
end
theorem Afa (i:Ae):iR i↔I64 i.U/\iRs i.K:=by cases i;simp only[iR]
theorem Aw2 {l:List Ae} (h:iRs l) {a:Ae} (e:a∈l):iR a:=by
 induction l with
 | nil=>cases e
 | cons x xs ih=>
  simp only[iRs]at h;rcases Iq.1 e with rfl|e
  .exact h.1
  .exact ih h.2 e
mutual
theorem Amh:∀i:Ae,iR i->(wx i).length+1<=24*Di i
 | ⟨n,l⟩,h=>by
  simp only[iR]at h
  have e:=Z1 l h.2
  have f:=Ae7 h.1
  simp only[wx,Di,Ew]
  by_cases a:l.length=0
  .rw[Bc a];simp;omega
  .rw[Bb a];simp;omega
theorem Z1:∀l:List Ae,iRs l->(wxs l).length<=24*Fa l
 | [],_=>by simp[wxs,Fa]
 | x::xs,h=>by
  simp only[iRs]at h
  have a:=Amh x h.1
  have e:=Z1 xs h.2
  have f:=Gs x
  simp only[wxs,Fa,Ew,Hj];omega
end
theorem Ami (l m:List Ae):Fa (l++m)=Fa l+Fa m:=by induction l with| nil=>simp[Fa]| cons x xs ih=>simp only[G2,Fa,ih];omega
theorem Aw3 (l m:List Ae):iRs (l++m)↔iRs l/\iRs m:=by induction l with| nil=>simp[iRs]| cons x xs ih=>simp only[G2,iRs,ih,and_assoc]
theorem Amj {n:Int} (h:I64 n):Ob n=some ⟨(Lib.itoa n).toArray⟩:=by unfold Ob;rw[Bc (show _/\_ from h)]
theorem Aw4 (n:Int):M3 ⟨(Lib.itoa n).toArray⟩=ti n:=by unfold M3 ti;simp
theorem Aw5:∀(k:Nat) (i:Ae) (b:List Int),Di i<=k->iR i->b.length+24*Di i<=1099511627776->P3 k i b=some (b++wx i):=by
 intro k;induction k with
 | zero=>intro i b h;have:=Gs i;omega
 | succ k ih=>
  intro i b h c C;have F:=Gs i;have D:=Lt i.K;have c:=(Afa i).1 c;have E:=Ae7 c.1;rw[P3,Ae9];simp only[Js,Amj c.1,Ag,H5,Vx,Aw4];rw[Cy ω];simp only[Ag];by_cases g:i.K.length=0
  .rw[Ax ω,Bc g];simp
  .rw[Ap ω,Bb g];simp only[Am,Sl,Vx,Ag];rw[Cy ζ,Ag];have q:=Z1 i.K c.2;have s:∀j,(wxs (i.K.take j)).length<=24*Fa i.K:=λj=>by have:=Amb (i.K.take j) (i.K.drop j);rw[take_append_drop]at this;rw[this,Ew]at q;omega
   refine Ga i.K (λj=>((j:Int),b++ti i.U++[40]++wxs (i.K.take j))) (by simp[wxs]) ω ?_ ?_
   .intro j x G a p v w;have H:=K1 (B4 a);have f:=Aw2 c.2 (B4 a);have B:=Amh x f;have u:=s (j+1);have e:wxs (i.K.take (j+1))=wxs (i.K.take j)++(wx x++[44]):=(by rw[C5 a,Amb];simp[wxs]);rw[e]at u;simp only[Ew,Hj,length_nil]at u;simp only[p,v,w,Am,Ag];have A:Fa (i.K.take j)+Di x<=Fa i.K:=(by have y:=Ami (i.K.take (j+1)) (i.K.drop (j+1));rw[take_append_drop,C5 a,Ami]at y;simp only[Fa]at y;omega);have z:(wxs (i.K.take j)).length<=24*Fa (i.K.take j):=Z1 _ (by have:=(Aw3 (i.K.take j) (i.K.drop j)).1 (by rw[take_append_drop];exact c.2);exact this.1);rw[ih x _ ω f ζ];simp only[Ag];rw[Cy ζ,e];simp
   .intro p;refine⟨b++ti i.U++[40]++wxs i.K,ψ,?_⟩;rw[Cy ζ];simp
def Lu (v:Int) (i:Ae):List Int:=118::(ti v++58::wx i)
def Jl (v:Int) (i:Ae):ByteArray:=⟨(Fw (Lu v i)).toArray⟩
mutual
theorem Amk:∀i:Ae,∀c∈wx i,0<=c/\c<256
 | ⟨n,l⟩,c,h=>by
  simp only[wx,Fi]at h
  rcases h with h|h
  .have:=Nx n c h
   simp only[Nw,Bool.or_eq_true,Dt,beq_iff_eq,E8]at this
   omega
  .by_cases a:l.length=0
   .rw[Bc a]at h;cases h
   .rw[Bb a]at h
    simp only[Iq,Fi,not_mem_nil,or_false]at h
    rcases h with h|h|h
    .omega
    .exact Aml l c h
    .omega
theorem Aml:∀l:List Ae,∀c∈wxs l,0<=c/\c<256
 | [],c,h=>by simp[wxs]at h
 | x::xs,c,h=>by
  simp only[wxs,Fi,Iq]at h
  rcases h with h|h|h
  .exact Amk x c h
  .omega
  .exact Aml xs c h
end
theorem Z2 (v:Int) (i:Ae):∀c∈Lu v i,0<=c/\c<256:=by
 intro c h;simp only[Lu,Iq,Fi]at h;rcases h with h|h|h|h
 .omega
 .have:=Nx v c h;simp only[Nw,Bool.or_eq_true,Dt,beq_iff_eq,E8]at this;omega
 .omega
 .exact Amk i c h
theorem Amm:∀l m:List Int,(∀c∈l,0<=c/\c<256)->(∀c∈m,0<=c/\c<256)->Fw l=Fw m->l=m
 | [],[],_,_,_=>rfl
 | [],_::_,_,_,h=>by simp[Fw]at h
 | _::_,[],_,_,h=>by simp[Fw]at h
 | x::xs,y::i,f,g,h=>by simp only[Fw,map_cons,List.cons.injEq]at h;have p:=f x ψ;have q:=g y ψ;have e:x.toNat=y.toNat:=(by have:=congrArg UInt8.toNat h.1;rw[UInt8.toNat_ofNat',UInt8.toNat_ofNat']at this;omega);rw[Amm xs i (λc a=>f c (by simp[a])) (λc a=>g c (by simp[a])) h.2,show x=y by omega]
theorem Aw6 {v w:Int} {i j:Ae} (h:Jl v i=Jl w j):v=w/\i=j:=by
 unfold Jl at h;have g:(Fw (Lu v i)).toArray=(Fw (Lu w j)).toArray:=by injection h
 have p:Fw (Lu v i)=Fw (Lu w j):=by simpa using congrArg Array.toList g
 have a:=Amm _ _ (Z2 v i) (Z2 w j) p;simp only[Lu,List.cons.injEq,true_and]at a;have b:∀X:List Int,Z0 (58::X):=λX c m e=>by cases e;decide
 obtain⟨q,k⟩:=Ae8 _ _ _ _ (Nx v) (Nx w) (b _) (b _) a;obtain⟨f,_⟩:=Amf i j [] [] Ame Ame (by simpa using (List.cons.inj k).2);exact⟨Ama q,f⟩
theorem Aw7 (l:List UInt8):M3 ⟨l.toArray⟩=l.map λb=>(b.toNat:Int):=by unfold M3;simp
theorem Afb (v:Int) (i:Ae) (c:I64 v) (j:iR i) (hi:Di i<=1048576):Oh v i=some (Jl v i):=by
 have u:=Ae7 c;have f:(Lib.itoa v).length=(ti v).length:=by unfold ti;simp
 unfold Oh;have s:Gu (ByteArray.mk #[118]) ⟨(Lib.itoa v).toArray⟩=some ⟨(118::Lib.itoa v).toArray⟩:=by
  unfold Gu;rw[Bc]
  .congr 1
  .show 1+(Lib.itoa v).toArray.size<=9223372036854775807;rw[size_toArray];omega
 have q:Gu ⟨(118::Lib.itoa v).toArray⟩ (ByteArray.mk #[58])=some ⟨(118::(Lib.itoa v++[58])).toArray⟩:=by
  unfold Gu;rw[Bc]
  .congr 1
  .show (118::Lib.itoa v).toArray.size+1<=9223372036854775807;rw[size_toArray,Hj];omega
 simp only[Js,Amj c,Ag,s,q,J8,Y6,Aw7];rw[Cy ζ];simp only[Ag];rw[Aw5 4000000 i _ ω j ζ];simp only[Ag,Lp];have k:([]++(118::(Lib.itoa v++[58])).map λb=>(b.toNat:Int))++wx i=Lu v i:=by unfold Lu ti;simp
 rw[k];unfold Ua Jl;rw[Bc (Z2 v i)];rfl
mutual
theorem Amn (data:List Ao):∀(i:Ae) (t:Ai) (d:Nat),B3 data i t=some d->d<=6*Di i
 | ⟨n,a⟩,t,d,h=>by
  rw[Jw]at h
  simp only[Di]
  simp only at h
  split at h
  .split at h
   .have:=Wg data a _ d h;omega
   .cases h
  .split at h
   .split at h
    .cases h;omega
    .cases h
   .split at h
    .split at h
     .have:=Amo data a _ d h;omega
     .cases h
    .split at h
     .cases h;omega
     .cases h
theorem Wg (data:List Ao):∀(is:List Ae) (e:List Ai) (d:Nat),Bv data is e=some d->d<=6*Fa is
 | [],[],d,h=>by simp only[Bv]at h;cases h;omega
 | i::is,t::e,d,h=>by
  rw[I9]at h
  cases f:B3 data i t with
  | none=>rw[f]at h;cases h
  | some a=>
   rw[f,Ag]at h
   cases g:Bv data is e with
   | none=>rw[g]at h;cases h
   | some b=>
    rw[g]at h
    cases h
    have:=Amn data i t a f
    have:=Wg data is e b g
    simp only[Fa];omega
 | [],_::_,d,h=>by simp only[Bv]at h;cases h
 | _::_,[],d,h=>by simp only[Bv]at h;cases h
theorem Amo (data:List Ao):∀(es:List Ae) (t:Ai) (d:Nat),Fb data es t=some d->d<=6*Fa es
 | [],t,d,h=>by simp only[Fb]at h;cases h;omega
 | ⟨n,e⟩::es,t,d,h=>by
  rw[Qv]at h
  simp only at h
  cases i:Fr data t n with
  | none=>rw[i]at h;cases h
  | some p=>
   rw[i,Ag]at h
   cases f:Bv data e p with
   | none=>rw[f]at h;cases h
   | some a=>
    rw[f,Ag]at h
    cases g:Fb data es t with
    | none=>rw[g]at h;cases h
    | some b=>
     rw[g]at h
     cases h
     have:=Wg data e p a f
     have:=Amo data es t b g
     simp only[Fa,Di];omega
end
variable {data:List Ao} {o:Option Nat} {α:Type}
def Fs (data:List Ao) (e:Ae) (t:Ai):Option Nat:=(Fr data t e.U).bind λb=>(Bv data e.K b).map (1 + ·)
theorem Tc (data:List Ao) (e:Ae) (es:List Ae) (t:Ai):Fb data (e::es) t=(Fs data e t).bind λa=>(Fb data es t).map (a + ·):=by rw[Qv];unfold Fs;cases Fr data t e.U with| none=>rfl| some b=>simp only[Ag];cases Bv data e.K b <;> rfl
theorem Aw8 (data:List Ao) (e:Ae) (t:Ai) (d:Nat) (h:Fs data e t=some d):d<=6*Di e:=by
 unfold Fs at h;cases g:Fr data t e.U with
 | none=>rw[g]at h;cases h
 | some b=>rw[g,Ag]at h;cases f:Bv data e.K b with| none=>rw[f]at h;cases h| some a=>rw[f]at h;cases h;have:=Wg data _ b a f;have:=Gs e;show 1+a<=_;omega
def Dg (v:Int) (o:Option Nat):Prop:=(v = -1/\∀d,o=some d->6<d)\/∃d:Nat,o=some d/\v=d
theorem Dg.clip {v:Int} (h:Dg v o):(if v>6 then -1 else v)=Hu o:=by
 rcases h with⟨rfl,h⟩|⟨d,rfl,rfl⟩
 .rw[Bb ω,Ta h]
 .by_cases hd:6<d
  .rw[Bc ω,Ae4 hd]
  .rw[Bb ω,Wf ω]
theorem Z3 {p:Option Nat} {acc:Nat} {d:Nat} (h:(o.bind λa=>p.map (a + ·)).map (acc + ·)=some d):∃a b,o=some a/\p=some b/\d=acc+(a+b):=by
 cases o with
 | none=>cases h
 | some a=>cases p with| none=>cases h| some b=>exact⟨a,b,rfl,rfl,by simp at h;omega⟩
theorem Aw9 (hz:Szv data) (hs:Ht data) (b1:List (ByteArray×Int)) (b2:List (ByteArray×List Dq)) (vars:List Ai) (O N:Int) (M:List Ai):∀k:Nat, (∀(i:Ae) (t:Ai),3*Di i<=k->Di i<=1048576->Bi t<=200->∃v,Oi k t i b1 b2 data vars O N M=some v/\Dg v (B3 data i t)) /\ (∀(is:List Ae) (f:List Ai),3*Fa is+1<=k->Fa is<=1048576->(∀t∈f,Bi t<=200)->∃v,P4 k f is b1 b2 data vars O N M=some v/\Dg v (Bv data is f)) /\ (∀(e:Ae) (t:Ai),3*Di e<=k->Di e<=1048576->Bi t<=200->∃v,P5 k t e b1 b2 data vars O N M=some v/\Dg v (Fs data e t)):=by
 intro k;induction k with
 | zero=>exact⟨λi t h=>by have:=Gs i;omega,λis f h=>ω,λi t h=>by have:=Gs i;omega⟩
 | succ k ih=>
  obtain⟨a6,R,a7⟩:=ih;have G:∀o:Option Nat,o.map (0 + ·)=o:=(by intro o;cases o <;> simp);have c:∀d:Nat,(none:Option Nat)=some d->6<d:=λd h=>by cases h
  refine⟨?_,?_,?_⟩
  .intro i t hk hi W;have af:=Gs i;have U:=Lt i.K;rw[Oi,Jw];by_cases Y:t.G=6
   .simp only[E5 Y,Am,Bc Y];by_cases F:i.U=0
    .simp only[E5 F,Am,Bc F];obtain⟨p,p1,p2⟩:=R i.K t.R ω ω (λa C=>by have:=G6 C;have:=G3 t;omega);rw[p1];exact⟨p,rfl,p2⟩
    .simp only[Da F,Av,Bb F];exact⟨_,rfl,.inl ⟨rfl,c⟩⟩
   .simp only[Da Y,Av,Bb Y];by_cases X:t.G=7
    .simp only[E5 X,Am,Bc X];by_cases w:0<=i.U
     .by_cases a2:i.U<=6
      .by_cases a3:i.K.length=0
       .rw[Ap (show i.U>=0 from w),Ap a2,Bc ⟨w,a2,a3⟩,E5 ω];exact⟨_,rfl,.inr ⟨i.U.toNat,rfl,ω⟩⟩
       .rw[Ap (show i.U>=0 from w),Ap a2,Bb λh=>a3 h.2.2,Da ω];exact⟨_,rfl,.inl ⟨rfl,c⟩⟩
      .rw[Ap (show i.U>=0 from w),Ax a2,Bb λh=>a2 h.2.1];exact⟨_,rfl,.inl ⟨rfl,c⟩⟩
     .rw[Ax (show ¬i.U>=0 from w),Bb λh=>w h.1];exact⟨_,rfl,.inl ⟨rfl,c⟩⟩
    .simp only[Da X,Av,Bb X];by_cases Z:t.G=5
     .simp only[E5 Z,Am,Bc Z];by_cases F:i.U=0
      .simp only[D3 F,Av,Bc F];have P:∀(m j g:Nat),j+m=i.K.length->g<=10000000->∃z,Ak (S:=(Int×Int)) (E:=(Int⊕Int)) (λ(I,v8)=>
         bif v8<(i.K.length:Int) then ((Af i.K v8).bind λv9=> (P5 k t v9 b1 b2 data vars O N M).bind λJ=> bif J<(0:Int) then some (.inr (.inl (-1))) else (bif I>(6:Int) then some (.inr (.inl (-1))) else some (.inl ((Ac (I+J)),(Ac (v8+1)))))) else some (.inr (.inr I))) ((g:Int),(j:Int))=some z/\Dg (match z with|.inl v=>v | .inr v=>v) ((Fb data (i.K.drop j) t).map (g + ·)):=by
        intro m;induction m with
        | zero=>intro j g hj B;have:j=i.K.length:=ω;subst this;exact⟨.inr (g:Int),F5 ψ,.inr ⟨g,by simp[Fb],rfl⟩⟩
        | succ m A=>
         intro j g hj B;have q:i.K[j]? = some i.K[j]:=Cs ω;generalize i.K[j]=e at q;have ac:=K1 (B4 q);rw[Mt q,Tc];obtain⟨v,D,H⟩:=a7 e t ω ω W;rcases H with⟨rfl,H⟩|⟨a,w,rfl⟩
         .refine⟨.inl (-1),F5 ?_,.inl ⟨rfl,λd h=>?_⟩⟩
          .simp only[Ap (ω:(j:Int)<(i.K.length:Int)),Am,Cp rfl q,Ag,D];rfl
          .obtain⟨a,b,C,Q,rfl⟩:=Z3 h;have:=H a C;omega
         .have V:=Aw8 data e t a w;by_cases Q:g>6
          .refine⟨.inl (-1),F5 ?_,.inl ⟨rfl,λd h=>?_⟩⟩
           .simp only[Ap (ω:(j:Int)<(i.K.length:Int)),Am,Cp rfl q,Ag,D,Ax (ω:¬(a:Int)<0),Ap (ω:(g:Int)>6),Av]
           .obtain⟨a,b,C,Q,rfl⟩:=Z3 h;omega
          .have ew:Ac ((g:Int)+(a:Int))=((g+a:Nat):Int):=ξ;obtain⟨z,s,K⟩:=A (j+1) (g+a) ω ω;refine⟨z,?_,?_⟩
           .rw[Kr (s':=(((g+a:Nat):Int),((j+1:Nat):Int)))]
            .exact s
            .simp only[Ap (ω:(j:Int)<(i.K.length:Int)),Am,Cp rfl q,Ag,D,Ax (ω:¬(a:Int)<0),Ax (ω:¬(g:Int)>6),Av,ew,En (show j<i.K.length by omega) ω]
           .have G:∀o:Option Nat,(((some a:Option Nat).bind λa=>o.map (a + ·)).map (g + ·))=o.map (g+a + ·):=(by intro o;cases o <;> simp[Nat.add_assoc]);rw[w,G];exact K
       obtain⟨z,s,K⟩:=P i.K.length 0 0 ω ω;have s:Ak _ ((0:Int),(0:Int))=some z:=s;rw[s,Ag];rw[drop_zero,G]at K;cases z with| inl v=>exact⟨v,rfl,K⟩| inr v=>exact⟨v,rfl,K⟩
      .simp only[D2 F,Am,Bb F];exact⟨_,rfl,.inl ⟨rfl,c⟩⟩
     .simp only[Da Z,Av,Bb Z];by_cases F:i.U=0
      .simp only[E5 F,Am];by_cases a3:i.K.length=0
       .rw[Bc ⟨F,a3⟩,E5 ω];exact⟨_,rfl,.inr ⟨0,rfl,rfl⟩⟩
       .rw[Bb λh=>a3 h.2,Da ω];exact⟨_,rfl,.inl ⟨rfl,c⟩⟩
      .simp only[Da F,Av];rw[Bb λh=>F h.1];exact⟨_,rfl,.inl ⟨rfl,c⟩⟩
  .intro is f hk hi W;have U:=Lt is;rw[P4];by_cases hl:f.length=is.length
   .rw[D3 ω];simp only[Av];have P:∀(m j g:Nat),j+m=is.length->g<=10000000->∃z,Ak (S:=(Int×Int)) (E:=(Int⊕Int)) (λ(v5,v6)=>
      bif v6<(f.length:Int) then ((Af f v6).bind λI=> (Af is v6).bind λv9=> (Oi k I v9 b1 b2 data vars O N M).bind λL=> bif L<(0:Int) then some (.inr (.inl (-1))) else (bif v5>(6:Int) then some (.inr (.inl (-1))) else some (.inl ((Ac (v5+L)),(Ac (v6+1)))))) else some (.inr (.inr v5))) ((g:Int),(j:Int))=some z/\Dg (match z with|.inl v=>v | .inr v=>v) ((Bv data (is.drop j) (f.drop j)).map (g + ·)):=by
     intro m;induction m with
     | zero=>intro j g hj B;have:j=f.length:=ω;subst this;refine⟨.inr (g:Int),F5 ψ,.inr ⟨g,?_,rfl⟩⟩;rw[drop_of_length_le ω,drop_of_length_le ω];simp[Bv]
     | succ m A=>
      intro j g hj B;have q:is[j]? = some is[j]:=Cs ω;generalize is[j]=e at q;have T:f[j]? = some f[j]:=Cs ω;generalize f[j]=u at T;have ac:=K1 (B4 q);rw[Mt q,Mt T,I9];obtain⟨v,D,H⟩:=a6 e u ω ω (W u (B4 T));rcases H with⟨rfl,H⟩|⟨a,w,rfl⟩
      .refine⟨.inl (-1),F5 ?_,.inl ⟨rfl,λd h=>?_⟩⟩
       .simp only[Ap (ω:(j:Int)<(f.length:Int)),Am,Cp rfl q,Cp rfl T,Ag,D];rfl
       .obtain⟨a,b,C,Q,rfl⟩:=Z3 h;have:=H a C;omega
      .have V:=Amn data e u a w;by_cases Q:g>6
       .refine⟨.inl (-1),F5 ?_,.inl ⟨rfl,λd h=>?_⟩⟩
        .simp only[Ap (ω:(j:Int)<(f.length:Int)),Am,Cp rfl q,Cp rfl T,Ag,D,Ax (ω:¬(a:Int)<0),Ap (ω:(g:Int)>6),Av]
        .obtain⟨a,b,C,Q,rfl⟩:=Z3 h;omega
       .have ew:Ac ((g:Int)+(a:Int))=((g+a:Nat):Int):=ξ;obtain⟨z,s,K⟩:=A (j+1) (g+a) ω ω;refine⟨z,?_,?_⟩
        .rw[Kr (s':=(((g+a:Nat):Int),((j+1:Nat):Int)))]
         .exact s
         .simp only[Ap (ω:(j:Int)<(f.length:Int)),Am,Cp rfl q,Cp rfl T,Ag,D,Ax (ω:¬(a:Int)<0),Ax (ω:¬(g:Int)>6),Av,ew,En (show j<is.length by omega) ω]
        .have G:∀o:Option Nat,(((some a:Option Nat).bind λa=>o.map (a + ·)).map (g + ·))=o.map (g+a + ·):=(by intro o;cases o <;> simp[Nat.add_assoc]);rw[w,G];exact K
    obtain⟨z,s,K⟩:=P is.length 0 0 ω ω;have s:Ak _ ((0:Int),(0:Int))=some z:=s;rw[s,Ag];rw[drop_zero,drop_zero,G]at K;cases z with| inl v=>exact⟨v,rfl,K⟩| inr v=>exact⟨v,rfl,K⟩
   .rw[D2 ω,Ae3 data is f hl];exact⟨_,rfl,.inl ⟨rfl,c⟩⟩
  .intro e t hk q W;have ag:=Gs e;rw[P5];unfold Fs Fr;rw[Al6 hz t W e.U,Ag];cases hf:I8 data t e.U with
   | none=>exact⟨-1,rfl,.inl ⟨rfl,c⟩⟩
   | some l=>
    have ad:=Zw hf;obtain⟨x,y,_,hx,_,hy,hl,ab⟩:=O6 hf;obtain⟨y6,_⟩:=hz x (E9 hx).2.2.2 y (E9 hy).2.2.2;have ae:l.length<=6:=(by rw[hl];simpa using y6);have aa:∀a∈Gx l (Gw data t.U e.U),Bi a<=200:=(S9 (show Fr data t e.U=some _ by unfold Fr;rw[hf];rfl)).1;obtain⟨v,D,H⟩:=R e.K (Gx l (Gw data t.U e.U)) ω ω aa;have hd:Dg (if v<0 then -1 else 1+v) (((some l).map λl=>Gx l (Gw data t.U e.U)).bind λf=>(Bv data e.K f).map (1 + ·)):=by
     rw[Option.map_some,Ag];rcases H with⟨rfl,H⟩|⟨a,w,rfl⟩
     .refine .inl ⟨rfl,λd h=>?_⟩;cases C:Bv data e.K (Gx l (Gw data t.U e.U)) with| none=>rw[C]at h;cases h| some a=>rw[C]at h;have:=H a C;simp at h;omega
     .rw[w,Bb ω];exact .inr ⟨1+a,rfl,ω⟩
    have a8:v = -1\/(0<=v/\v<=10000000):=by
     rcases H with⟨rfl,H⟩|⟨a,w,rfl⟩
     .exact .inl rfl
     .have:=Wg data _ _ a w;right;omega
    refine⟨_,?_,hd⟩;simp only[okL,Dn,Av,Aet data t.U e.U hs,Ag];refine Ga (Gw data t.U e.U) (λj=>((j:Int),Gx (l.take j) ((Gw data t.U e.U).take j))) (by simp[Gx]) ω ?_ ?_
    .intro j b hj Q h1 h2 h3;have C:l[j]? = some l[j]:=Cs ω;generalize l[j]=a at C;have U:=Zx (l.take j) ((Gw data t.U e.U).take j);have:(l.take j).length<=6:=ζ;simp only[h1,h2,h3,Am,Ag,Cp rfl C,Ae1 C Q];rw[Cy ζ];cases b <;> simp
    .intro h1;refine⟨Gx l (Gw data t.U e.U),?_,?_⟩
     .simp only[h1];rw[Iy ω,Iy (Nat.le_refl _)];rfl
     .rw[D,Ag];rcases a8 with h|h
      .subst h;rfl
      .rw[Ax ω,Bb ω];simp only[Av];rw[Ac,B6] <;> omega
def Ek (vars:List Ai) (res:Ai) (v:Int):Option Ai:=if v = -1 then some res else Af vars v
def D4 (data:List Ao) (vars:List Ai) (res:Ai) (o:List (ByteArray×Int)):Prop:=∀p∈o,∀v i t,p.1=Jl v i->Ek vars res v=some t->p.2=Hu (B3 data i t)
theorem Amp {α:Type}:∀(o:List (ByteArray×α)) (s:ByteArray) (v:α),∀p∈F6 o s v,p∈o\/p=(s,v)
 | [],s,v,p,h=>by simp only[F6,Fx]at h;exact .inr h
 | q::o,s,v,p,h=>by
  unfold F6 at h;cases a:(s==q.1) with
  | true=>
   rw[a]at h;simp only[Am,Iq]at h;rcases h with h|h
   .exact .inr h
   .exact .inl (by simp[h])
  | false=>
   rw[a]at h;simp only[Av,Iq]at h;rcases h with h|h
   .exact .inl (by simp[h])
   .rcases Amp o s v p h with h|h
    .exact .inl (by simp[h])
    .exact .inr h
theorem Axa (G:Szv data) (J:Ht data) (b1:List (ByteArray×Int)) (b2:List (ByteArray×List Dq)) (vars:List Ai) (res:Ai) (e:D4 data vars res b1) (v:Int) (i:Ae) (t:Ai) (a:Ek vars res v=some t) (b:Bi t<=200) (I:I64 v) (L:iR i) (hi:Di i<=1048576) : ∃u,J7 v i b1 b2 data vars res.G res.U res.R=some (Hu (B3 data i t),u)/\D4 data vars res u:=by
 unfold J7;rw[Afb v i I L hi,Ag];cases f:Ep b1 (Jl v i) with
 | true=>refine⟨b1,?_,e⟩;have:I4 b1 (Jl v i) 0=Hu (B3 data i t):=(by unfold I4;unfold Ep at f;rw[any_eq_true]at f;obtain⟨p,D,B⟩:=f;cases g:b1.find? (λp=>Jl v i==p.1) with| none=>exact absurd B (by have:=find?_eq_none.1 g p D;simpa using this)| some q=>have C:=find?_some g;exact e q (mem_of_find?_eq_some g) v i t ((Wa _ _).1 C).symm a);simp only[Am,Ag,Dn,Av,this]
 | false=>
  obtain⟨w,y,x⟩:=(Aw9 G J b1 b2 vars res.G res.U res.R 4000000).1 i t ω hi b;have c:Md v b1 b2 data vars res.G res.U res.R=some t:=by
   unfold Md;unfold Ek at a;by_cases h:v = -1
   .rw[Bc h]at a;cases a;have M:(Ai.mk res.G res.U res.R)=res:=(by cases res;rfl);rw[E5 h,M];rfl
   .rw[Bb h]at a;rw[Da h,a];rfl
  have j:(bif decide (w>6) then some (-1) else some w:Option Int)=some (Hu (B3 data i t)):=by
   rw[<-x.clip];by_cases h:w>6
   .rw[Ap h,Bc h];rfl
   .rw[Ax h,Bb h];rfl
  refine⟨F6 b1 (Jl v i) (Hu (B3 data i t)),?_,?_⟩
  .simp only[Av,Ag,Bool.not_false,Am,c,y,j]
  .intro p hp z E A s k;rcases Amp _ _ _ p hp with h|h
   .exact e p h z E A s k
   .subst h;obtain⟨rfl,rfl⟩:=Aw6 s;rw[a]at k;cases k;rfl
def D9 (a b:Int):Int:=if a<b then -1 else if a>b then 1 else 0
def Dw (a b:Int):Int:=if a=0 then b else a
theorem Ge {a b:Int}:D9 a b=0↔a=b:=by unfold D9;split <;> (try split) <;> omega
theorem Mu (a b:Int):J6 a b=some (D9 a b):=by
 unfold J6 Uz D9;simp only[Ag,bne_self_eq_false,Av];by_cases h:a<b
 .rw[Ap h,Bc h];rfl
 .rw[Ax h,Bb h];by_cases e:a>b
  .rw[Ap e,Bc e];rfl
  .rw[Ax e,Bb e];rfl
theorem Amq (a b:Int):Ux a b=some (D9 a b):=Mu a b
theorem Qx (a b:Int):Ll [a,b]=some (Dw a b):=by
 unfold Ll Dw;by_cases e:a=0
 .rw[Bc e];by_cases g:b=0
  .refine Nt 2 (λj=>(j:Int)) rfl ?_ ⟨.inr (),rfl,by rw[g]⟩;intro j f
   match j,f with| 0,_=>subst e;rfl| 1,_=>subst g;rfl
  .refine Nt 1 (λj=>(j:Int)) rfl ?_ ⟨.inl b,?_,rfl⟩
   .intro j f
    match j,f with| 0,_=>subst e;rfl
   .show (bif (b != 0) then _ else _)=_;rw[D2 g];rfl
 .rw[Bb e];refine Nt 0 (λj=>(j:Int)) rfl (λj f=>ω) ⟨.inl a,?_,rfl⟩;show (bif (a != 0) then _ else _)=_;rw[D2 e];rfl
theorem Z4 (a b:Int) (h:a≠b):Sg (decide (a<b))=some (D9 a b):=by
 unfold Sg D9;by_cases e:a<b
 .rw[Ap e,Bc e];rfl
 .rw[Ax e,Bb e,Bc ω];rfl
theorem Z5 (a b:Int) (h:a≠b):Pu (decide (a<b))=some (D9 a b):=Z4 a b h
theorem Z6 (a b:Int) (h:a≠b):Pw (decide (a<b))=some (D9 a b):=Z4 a b h
def E6 {α:Type} (g:α->α->Int):List α->List α->Int
 | x::xs,y::a=>Dw (g x y) (E6 g xs a)
 | _,_=>0
theorem Wh (g:α->α->Int) (l m:List α) {step:Int->Option (Int⊕(Int⊕Unit))} (k:l.length=m.length) (hb:l.length<4611686018427387904) (f:∀(j:Nat) (x y:α),l[j]? = some x->m[j]? = some y->decide ((j:Int)<(l.length:Int))=true->Af l (j:Int)=some x->Af m (j:Int)=some y->decide ((j:Int)>=(m.length:Int))=false->Ac ((j:Int)+1)=((j+1:Nat):Int) -> step (j:Int)=if g x y=0 then some (.inl ((j+1:Nat):Int)) else some (.inr (.inl (g x y)))) (i:decide ((l.length:Int)<(l.length:Int))=false->step (l.length:Int)=some (.inr (.inr ()))) : ∃z,Ak step 0=some z/\(match z with|.inl r=>r=E6 g l m/\r≠0 | .inr _=>E6 g l m=0):=by
 have q:∀(n j:Nat),j+n=l.length->∃z,Ak step (j:Int)=some z/\(match z with|.inl r=>r=E6 g (l.drop j) (m.drop j)/\r≠0 | .inr _=>E6 g (l.drop j) (m.drop j)=0):=by
  intro n;induction n with
  | zero=>intro j v;have:j=l.length:=ω;subst this;refine⟨.inr (),F5 (i ψ),?_⟩;rw[drop_of_length_le ω];simp[E6]
  | succ n ih=>
   intro j v;have a:l[j]? = some l[j]:=Cs ω;have p:m[j]? = some m[j]:=Cs ω;generalize l[j]=x at a;generalize m[j]=y at p;have h:=f j x y a p (Ap ω) (Cp rfl a) (Cp rfl p) (Ax ω) (En (show j<l.length by omega) hb);rw[Mt a,Mt p];by_cases b:g x y=0
   .rw[Bc b]at h;obtain⟨z,c,s⟩:=ih (j+1) ω;refine⟨z,by rw[Kr h];exact c,?_⟩;have e:E6 g (x::l.drop (j+1)) (y::m.drop (j+1))=E6 g (l.drop (j+1)) (m.drop (j+1)):=(by simp only[E6,Dw,b,if_true]);cases z with| inl r=>simp only[e];exact s| inr u=>simp only[e];exact s
   .rw[Bb b]at h;refine⟨.inl (g x y),F5 h,?_,b⟩;simp only[E6,Dw,b,if_false]
 exact q l.length 0 ω
theorem Z7 (f:α->α->Option Int) (g:α->α->Int) (l m:List α) (s:l.length=m.length) (hb:l.length<4611686018427387904) (e:∀(j:Nat) (x y:α),l[j]? = some x->m[j]? = some y->f x y=some (g x y)) : ((Ak (S:=Int) (E:=(Int⊕Unit)) (λa=> bif a<(l.length:Int) then ((Af l a).bind λq=> bif a>=(m.length:Int) then some (.inr (.inl 1)) else ((Af m a).bind λp=> (f q p).bind λb=> bif (b != (0:Int)) then some (.inr (.inl b)) else some (.inl (Ac (a+1))))) else some (.inr (.inr ()))) 0).bind λz=> match z with
   | .inl i=>some i
   | .inr _=>bif (l.length:Int)<(m.length:Int) then some (-1) else some 0)=some (E6 g l m):=by
 refine V5 (Wh g l m s hb ?_ (λh=>by simp only[h];rfl)) ?_
 .intro j x y v w C D F B A;simp only[C,D,F,B,A,Am,Av,Ag,e j x y v w];by_cases c:g x y=0
  .rw[D3 c,Bc c];rfl
  .rw[D2 c,Bb c];rfl
 .rintro (r|u) k
  .rw[k.1]
  .simp only;rw[Ax ω,show E6 g l m=0 from k];rfl
def K7 (x y:Gd):Int:=Dw (D9 x.v y.v) (D9 x.C y.C)
def Hf (a b:Cm):Int:=if a.T.length=b.T.length then Dw (E6 K7 a.T b.T) (D9 a.Q b.Q) else D9 a.T.length b.T.length
theorem Afc (a b:Cm) (f:a.T.length<1099511627776):Kv a b=some (Hf a b):=by
 unfold Kv Hf;rw[Mu,Ag];by_cases h:a.T.length=b.T.length
 .rw[D3 (Ge.2 ω),Bc h];simp only[Av];have:=Z7 Uw K7 a.T b.T h ω (λj x y _ _=>by unfold Uw K7;rw[Mu,Amq];simp only[Ag,Qx]);rw[show Yi a.T b.T=_ from this,Ag,Amq];simp only[Ag,Qx]
 .rw[D2 λe=>h (by have:=Ge.1 e;omega),Bb h];rfl
theorem Amr (a b:Cm) (w:a.T.length<1099511627776):Pr a b=some (Hf a b):=by
 unfold Pr Hf;by_cases h:a.T.length=b.T.length
 .rw[D3 ω,Bc h];simp only[Av];refine V5 (Wh K7 a.T b.T h ω ?_ (λh=>by simp only[h];rfl)) ?_
  .intro j x y z A p q s k i;simp only[p,q,s,i,Am,Ag];by_cases c:x.v=y.v
   .rw[D3 c];by_cases g:x.C=y.C
    .rw[D3 g];rw[Bc (by unfold K7;rw[Ge.2 c,Ge.2 g];rfl)];rfl
    .rw[D2 g,Z5 _ _ g];have e:K7 x y=D9 x.C y.C:=(by unfold K7;rw[Ge.2 c];rfl);rw[e,Bb λe=>g (Ge.1 e)];rfl
   .rw[D2 c,Z5 _ _ c];have e:K7 x y=D9 x.v y.v:=(by unfold K7 Dw;rw[Bb λe=>c (Ge.1 e)]);rw[e,Bb λe=>c (Ge.1 e)];rfl
  .rintro (r|u) f
   .obtain⟨rfl,v⟩:=f;unfold Dw;rw[Bb v]
   .have f:E6 K7 a.T b.T=0:=f;rw[f];simp only[Dw,if_true];by_cases g:a.Q=b.Q
    .rw[D3 g,Ge.2 g];rfl
    .rw[D2 g,Z5 _ _ g];rfl
 .rw[D2 ω,Bb h,Z5 _ _ ω];rfl
mutual
def Es:Ae->Ae->Int
 | ⟨n,k⟩,j=>if n=j.U then (if k.length=j.K.length then Qy k j.K else D9 k.length j.K.length) else D9 n j.U
def Qy:List Ae->List Ae->Int
 | x::xs,y::a=>Dw (Es x y) (Qy xs a)
 | [],_=>0
 | _::_,[]=>0
end
theorem Afd (i j:Ae):Es i j=if i.U=j.U then (if i.K.length=j.K.length then Qy i.K j.K else D9 i.K.length j.K.length) else D9 i.U j.U:=by cases i;simp only[Es]
theorem Z8:∀l m:List Ae,Qy l m=E6 Es l m
 | x::xs,y::a=>by simp only[Qy,E6,Z8 xs a]
 | [],_=>by simp[Qy,E6]
 | _::_,[]=>by simp[Qy,E6]
theorem Ams:∀(n k:Nat) (i j:Ae),Di i<=n->2*n<=k->n<1099511627776->I5 k i j=some (Es i j):=by
 intro n;induction n with
 | zero=>intro k i j h;have:=Gs i;omega
 | succ n ih=>
  intro k i j h s c;obtain⟨k,rfl⟩:∃b,k=b+2:=⟨k-2,ω⟩;have u:=Gs i;have f:=Lt i.K;rw[I5,Afd,Mu,Mu];simp only[Ag,Qx];by_cases a:i.U=j.U
  .rw[Bc a];by_cases g:i.K.length=j.K.length
   .rw[Bc g,D3 (by unfold Dw;rw[Ge.2 a,Ge.2 ω];rfl),Z8];simp only[Av];have:=Z7 (I5 k) Es i.K j.K g ω λq x y p v=>ih k x y (by have:=K1 (B4 p);omega) ω ω;rw[U6];refine Eq.trans (congrArg (λq=>Option.bind q _) this) rfl
   .have e:Dw (D9 i.U j.U) (D9 (i.K.length:Int) (j.K.length:Int))=D9 i.K.length j.K.length:=(by unfold Dw;rw[Ge.2 a];rfl);rw[Bb g,e,D2 λe=>g (by have:=Ge.1 e;omega)];rfl
  .have e:Dw (D9 i.U j.U) (D9 (i.K.length:Int) (j.K.length:Int))=D9 i.U j.U:=(by unfold Dw;rw[Bb λe=>a (Ge.1 e)]);rw[Bb a,e,D2 λe=>a (Ge.1 e)];rfl
theorem Amt:∀(n k:Nat) (i j:Ae),Di i<=n->2*n<=k->n<1099511627776->Kx k i j=some (Es i j):=by
 intro n;induction n with
 | zero=>intro k i j h;have:=Gs i;omega
 | succ n ih=>
  intro k i j h G B;obtain⟨k,rfl⟩:∃s,k=s+2:=⟨k-2,ω⟩;have H:=Gs i;have D:=Lt i.K;rw[Kx,Afd];by_cases a:i.U=j.U
  .rw[Bc a,D3 a];simp only[Av];rw[U7];by_cases e:i.K.length=j.K.length
   .rw[Bc e,D3 ω,Z8];simp only[Av];have:=Wh Es i.K j.K e ω (step:=λg=>bif g<(i.K.length:Int) then ((Af i.K g).bind λw=>(Af j.K g).bind λf=>(Kx k w f).bind λp=>bif (p != (0:Int)) then some (.inr (.inl p)) else some (.inl (Ac (g+1)))) else some (.inr (.inr ()))) (λq x y C I a e F E A=>by
     simp only[a,e,F,A,Am,Ag,ih k x y (by have:=K1 (B4 C);omega) ω ω];by_cases b:Es x y=0
     .rw[D3 b,Bc b];rfl
     .rw[D2 b,Bb b];rfl) (λh=>by simp only[h];rfl);obtain⟨z,c,v⟩:=this;rw[c,Ag];cases z with| inl r=>rw[v.1];rfl| inr u=>rw[show E6 Es i.K j.K=0 from v];rfl
   .rw[Bb e,D2 ω,Z4 _ _ ω];rfl
  .rw[Bb a,D2 a,Z4 _ _ a];rfl
def K8 (x y:Cn):Int:=Dw (D9 x.v y.v) (Es x.I y.I)
def Lv (x y:B8):Int:=Dw (Hf x.L y.L) (D9 x.P y.P)
def H3 (a b:Aq):Int := if a.F.length=b.F.length then Dw (E6 K8 a.F b.F) (if a.A.length=b.A.length then E6 Lv a.A b.A else D9 a.A.length b.A.length) else D9 a.F.length b.F.length
structure MSz (m:Aq):Prop where
 nf:m.F.length<=1048576
 na:m.A.length<=1048576
 fi:∀f∈m.F,Di f.I<=1048576
 fr:∀f∈m.F,iR f.I/\I64 f.v
 al:∀a∈m.A,a.L.T.length<=1048576
theorem Amu (a b:Aq) (f:MSz a):Nb a b=some (H3 a b):=by
 have s:=f.nf;have u:=f.na;unfold Nb H3;rw[Mu,Ag];by_cases h:a.F.length=b.F.length
 .rw[D3 (Ge.2 ω),Bc h];simp only[Av];have:=Z7 U1 K8 a.F b.F h ω (λj x y i q=>by unfold U1 K8;rw[Mu,Ams 1048576 4000000 x.I y.I (f.fi x (B4 i)) ω ω];simp only[Ag,Qx]);rw[show Yj a.F b.F=_ from this,Ag,Mu];simp only[Ag,Qx];by_cases p:E6 K8 a.F b.F=0
  .simp only[p,Dw,if_true];by_cases g:a.A.length=b.A.length
   .rw[D3 (Ge.2 ω),Bc g];simp only[Av];have:=Z7 U2 Lv a.A b.A g ω (λj x y i q=>by unfold U2 Lv;rw[Mu,Afc x.L y.L (by have:=f.al x (B4 i);omega)];simp only[Ag,Qx]);rw[show Yk a.A b.A=_ from this];rfl
   .rw[D2 λe=>g (by have:=Ge.1 e;omega),Bb g];rfl
  .simp only[Dw,Bb p];rw[D2 p];rfl
 .rw[D2 λe=>h (by have:=Ge.1 e;omega),Bb h];rfl
theorem Axb (a b:Aq) (p:MSz a):Nf a b=some (H3 a b):=by
 have q:=p.nf;have s:=p.na;unfold Nf H3;by_cases h:a.F.length=b.F.length
 .rw[D3 ω,Bc h];simp only[Av];refine V5 (Wh K8 a.F b.F h ω ?_ (λh=>by simp only[h];rfl)) ?_
  .intro j x y v A q s w k i;simp only[q,s,w,i,Am,Ag,Amt 1048576 4000000 x.I y.I (p.fi x (B4 v)) ω ω];by_cases c:x.v=y.v
   .rw[D3 c];have e:K8 x y=Es x.I y.I:=(by unfold K8 Dw;rw[Bc (Ge.2 c)]);rw[e];by_cases g:Es x.I y.I=0
    .rw[D3 g,Bc g];rfl
    .rw[D2 g,Bb g];rfl
   .rw[D2 c,Z6 _ _ c];have e:K8 x y=D9 x.v y.v:=(by unfold K8 Dw;rw[Bb λe=>c (Ge.1 e)]);rw[e,Bb λe=>c (Ge.1 e)];rfl
  .rintro (r|u) f
   .obtain⟨rfl,B⟩:=f;unfold Dw;rw[Bb B]
   .have f:E6 K8 a.F b.F=0:=f;rw[f];simp only[Dw,if_true];by_cases z:a.A.length=b.A.length
    .rw[D3 ω,Bc z];simp only[Av];refine V5 (Wh Lv a.A b.A z ω ?_ (λh=>by simp only[h];rfl)) ?_
     .intro j x y v A q s w k i;simp only[q,s,w,i,Am,Ag,Amr x.L y.L (by have:=p.al x (B4 v);omega)];by_cases c:Hf x.L y.L=0
      .rw[D3 c];have e:Lv x y=D9 x.P y.P:=(by unfold Lv Dw;rw[Bc c]);rw[e];by_cases g:x.P=y.P
       .rw[D3 g,Bc (Ge.2 g)];rfl
       .rw[D2 g,Z6 _ _ g,Bb λe=>g (Ge.1 e)];rfl
      .have e:Lv x y=Hf x.L y.L:=(by unfold Lv Dw;rw[Bb c]);rw[D2 c,e,Bb c];rfl
     .rintro (r|u) f
      .rw[f.1]
      .rw[show E6 Lv a.A b.A=0 from f]
    .rw[D2 ω,Bb z,Z6 _ _ ω];rfl
 .rw[D2 ω,Bb h,Z6 _ _ ω];rfl
def Kf {α:Type} (f:α->Int) (l:List α) (x:α) (j:Nat):Bool:=j==0||(match l[j-1]? with|some y=>decide (f y<f x) | none=>false)
def Wi (l:List Gd) (x:Gd) (j:Nat):Bool:=decide (-1<=x.v/\x.v<3000/\x.C≠0/\-1048576<=x.C/\x.C<=1048576)&&Kf (·.v) l x j
def Ih (a:Cm):Bool:=decide (-1048576<=a.Q/\a.Q<=1048576/\a.T.length<=16)&&a.T.zipIdx.all (λq=>Wi a.T q.1 q.2)
theorem Amv (n:Int):R5 n=some (decide (-1048576<=n/\n<=1048576)):=by unfold R5;by_cases h:(-1048576:Int)<=n <;> simp[h]
theorem Axc (n:Int):Uv n=some (decide (-1<=n/\n<3000)):=by unfold Uv;by_cases h:(-1:Int)<=n <;> simp[h]
theorem Afe {α S E:Type} (f:α->Int) (l:List α) {x:α} {j:Nat} (p:l[j]? = some x) (k:l.length<4611686018427387904) (c b:Option (S⊕E)) : (bif decide ((j:Int)>0) then ((Af l (Ac ((j:Int)-1))).bind λi=>bif decide (f i>=f x) then c else b) else b)=bif Kf f l x j then b else c:=by
 have s:=Gp p;unfold Kf;by_cases h:j=0
 .subst h;rfl
 .rw[Ap ω];have e:Ac ((j:Int)-1)=((j-1:Nat):Int):=ξ;have a:l[j-1]? = some l[j-1]:=Cs ω;rw[e,Cp rfl a,a];have q:(j==0)=false:=(by simpa using h);simp only[Am,Ag,q,Bool.false_or];by_cases g:f l[j-1]<f x
  .rw[Ax ω,Ap g];rfl
  .rw[Ap ω,Ax g];rfl
theorem Amw (a:Cm):Mc a=some (Ih a):=by
 unfold Mc Ih;rw[Amv];simp only[Ag];by_cases e : -1048576<=a.Q/\a.Q<=1048576
 .rw[Ap e];by_cases p:a.T.length<=16
  .rw[Ax (ω:¬(a.T.length:Int)>16),Ap ⟨e.1,e.2,p⟩];simp only[Dn,Av,Ag,Bool.true_and];refine (S6 a.T (λq=>Wi a.T q.1 q.2) (λj=>(j:Int)) rfl ω (rt:=true) (rf:=false) ?_ ?_).trans (by rw[Qq])
   .intro j x s _ e p u;simp only[e,p,u,Am,Ag,Axc,Amv,Afe (·.v) a.T s ω,Wi];by_cases f : -1<=x.v/\x.v<3000
    .by_cases g:x.C=0
     .rw[Ap f,E5 g,Ax λh=>h.2.2.1 g];exact⟨nofun,λ_=>⟨.inl false,rfl,rfl⟩⟩
     .by_cases i : -1048576<=x.C/\x.C<=1048576
      .rw[Ap f,Da g,Ap i,Ap ⟨f.1,f.2,g,i.1,i.2⟩];cases Kf (·.v) a.T x j with| true=>exact⟨λ_=>rfl,λh=>by cases h⟩| false=>exact⟨nofun,λ_=>⟨.inl false,rfl,rfl⟩⟩
      .rw[Ap f,Da g,Ax i,Ax λh=>i h.2.2.2];exact⟨nofun,λ_=>⟨.inl false,rfl,rfl⟩⟩
    .rw[Ax f,Ax λh=>f ⟨h.1,h.2.1⟩];exact⟨nofun,λ_=>⟨.inl false,rfl,rfl⟩⟩
   .intro h _;exact⟨.inr (),by simp only[h];rfl,rfl⟩
  .rw[Ap (ω:(a.T.length:Int)>16),Ax λh=>p h.2.2];rfl
 .rw[Ax e,Ax λh : -1048576<=a.Q/\a.Q<=1048576/\a.T.length<=16=>e ⟨h.1,h.2.1⟩];rfl
theorem Axd (a:Cm):Rz a=some (Ih a):=by
 unfold Rz Ih;by_cases i:a.T.length<=16
 .rw[Ax (ω:¬(a.T.length:Int)>16)];by_cases p : -1048576<=a.Q
  .rw[Ax (ω:¬a.Q < -1048576)];by_cases s:a.Q<=1048576
   .rw[Ax (ω:¬a.Q>1048576),Ap ⟨p,s,i⟩];simp only[Av,Ag,Bool.true_and];refine (S6 a.T (λq=>Wi a.T q.1 q.2) (λj=>(j:Int)) rfl ω (rt:=true) (rf:=false) ?_ ?_).trans (by rw[Qq])
    .intro j x w _ p i s;simp only[p,i,s,Am,Ag,Afe (·.v) a.T w ω,Wi];by_cases e:x.v < -1
     .rw[Ap e,Ax λh=>ω];exact⟨nofun,λ_=>⟨.inl false,rfl,rfl⟩⟩
     by_cases f:x.v>=3000
     .rw[Ax e,Ap f,Ax λh=>ω];exact⟨nofun,λ_=>⟨.inl false,rfl,rfl⟩⟩
     by_cases g:x.C=0
     .rw[Ax e,Ax f,E5 g,Ax λh=>ω];exact⟨nofun,λ_=>⟨.inl false,rfl,rfl⟩⟩
     by_cases u:x.C < -1048576
     .rw[Ax e,Ax f,Da g,Ap u,Ax λh=>ω];exact⟨nofun,λ_=>⟨.inl false,rfl,rfl⟩⟩
     by_cases v:x.C>1048576
     .rw[Ax e,Ax f,Da g,Ax u,Ap v,Ax λh=>ω];exact⟨nofun,λ_=>⟨.inl false,rfl,rfl⟩⟩
     rw[Ax e,Ax f,Da g,Ax u,Ax v,Ap ω];cases Kf (·.v) a.T x j with| true=>exact⟨λ_=>rfl,λh=>by cases h⟩| false=>exact⟨nofun,λ_=>⟨.inl false,rfl,rfl⟩⟩
    .intro h _;exact⟨.inr (),by simp only[h];rfl,rfl⟩
   .rw[Ap (ω:a.Q>1048576),Ax λh : -1048576<=a.Q/\a.Q<=1048576/\a.T.length<=16=>ω];rfl
  .rw[Ap (ω:a.Q < -1048576),Ax λh : -1048576<=a.Q/\a.Q<=1048576/\a.T.length<=16=>ω];rfl
 .rw[Ap (ω:(a.T.length:Int)>16),Ax λh : -1048576<=a.Q/\a.Q<=1048576/\a.T.length<=16=>ω];rfl
structure Mv (data:List Ao) (vars:List Ai) (res:Ai):Prop where
 vd:G4 data
 sh:Ht data
 sz:∀v t,Ek vars res v=some t->Bi t<=200
 nv:vars.length<=3000
theorem Amx (vars:List Ai) (res:Ai) (v:Int):(Ek vars res v).isSome=decide (-1<=v/\v<vars.length):=by
 unfold Ek;by_cases h:v = -1
 .rw[Bc h];subst h;rw[Ap ω];rfl
 .rw[Bb h];cases a:Af vars v with
  | none=>rcases O4 a with e|e <;> rw[Ax ω] <;> rfl
  | some t=>have:=E9 a;rw[Ap ω];rfl
section
variable (b1:List (ByteArray×Int)) (b2:List (ByteArray×List Dq)) (data:List Ao) (vars:List Ai) (res:Ai)
theorem Aff (v:Int) (f c:Int) (b:List Ai):M9 v b1 b2 data vars f c b=some (Ek vars res v).isSome:=by
 rw[Amx];unfold M9;by_cases h:v>=-1
 .rw[Ap h];by_cases a:v<(vars.length:Int)
  .rw[Ap a,Ap ⟨h,a⟩];rfl
  .rw[Ax a,Ax λg=>a g.2];rfl
 .rw[Ax h,Ax λg : -1<=v/\v<(vars.length:Int)=>h g.1];rfl
theorem Afg {v:Int} {t:Ai} (a:Ek vars res v=some t):Md v b1 b2 data vars res.G res.U res.R=some t:=by
 unfold Md;unfold Ek at a;by_cases h:v = -1
 .rw[Bc h]at a;cases a;have b:(Ai.mk res.G res.U res.R)=res:=(by cases res;rfl);rw[E5 h,b];rfl
 .rw[Bb h]at a;rw[Da h,a];rfl
def Td (t:Gd):Bool:=match Ek vars res t.v with|some u=>u.G==1|none=>false
def Hv (l:Cm):Bool:=l.T.all (Td vars res)
theorem Amy (l:Cm) (c:l.T.length<=1048576):Na l b1 b2 data vars res.G res.U res.R=some (Hv vars res l):=by
 unfold Na Yh Yp;have f:=Alj l.T (λt=>!Td vars res t) ω (J:=λz=>match z with|.inl b=>some b | .inr _=>some (-1)) (step:=λa=>bif a<(l.T.length:Int) then ((Af l.T a).bind λg=>(R6 g b1 b2 data vars res.G res.U res.R).bind λp=>bif p then some (.inr (.inl a)) else some (.inl (Ac (a+1)))) else some (.inr (.inr ()))) (by intro j x A q s u;have e:R6 x b1 b2 data vars res.G res.U res.R=some (!Td vars res x):=(by unfold R6 Td;rw[Aff b1 b2 data vars res,Ag];cases v:Ek vars res x.v with| none=>rfl| some t=>rw[Afg b1 b2 data vars res v];rfl);simp only[q,s,u,Am,Ag,e]) (λh=>by simp only[h];rfl) (λ_=>rfl) rfl
 obtain⟨i,w,y⟩:=f
 erw[w];simp only[Ag,y];congr 1;unfold Hv;rw[any_eq_not_all_not];simp
theorem Z9 (x:B0) (v:Int):Nc x v=some (match Ek x.V x.E v with|some t=>(t,true) | none=>(⟨0,0,[]⟩,false)):=by
 unfold Nc Ek;by_cases h:v = -1
 .rw[E5 h,Bc h];rfl
 .rw[Da h,Bb h];cases e:Af x.V v with
  | none=>
   rcases O4 e with a|a
   .simp only[Ap a,Am,Av,Ag]
   .by_cases f:v<0
    .simp only[Ap f,Am,Av,Ag]
    .simp only[Ax f,Ap (show v>=(x.V.length:Int) from a),Am,Av,Ag]
  | some t=>obtain⟨g,i,_⟩:=E9 e;simp only[Ax (ω:¬v<0),Ax (ω:¬v>=(x.V.length:Int)),Av,Ag]
theorem Axe (x:B0) (l:Cm) (b:l.T.length<=1048576):R1 x l=some (Hv x.V x.E l):=by
 unfold R1;refine (O3 l.T (Td x.V x.E) (λj=>(j:Int)) rfl ω (rt:=true) (rf:=false) ?_ ?_).trans (by rw[Qq];rfl)
 .intro j t i e f g;simp only[e,f,g,Am,Ag,Z9];unfold Td;cases p:Ek x.V x.E t.v with
  | none=>exact⟨nofun,λ_=>⟨.inl false,rfl,rfl⟩⟩
  | some u=>
   simp only[Dn,Av];by_cases a:u.G=1
   .rw[E5 a,D3 a];exact⟨λ_=>rfl,λh=>by cases h⟩
   .rw[Da a,D2 a];exact⟨nofun,λ_=>⟨.inl false,rfl,rfl⟩⟩
 .intro h;exact⟨.inr (),by simp only[h];rfl,rfl⟩
def Fy (f:Cn):Int:=match Ek vars res f.v with|some t=>Hu (B3 data f.I t) | none => -1
theorem Axf (f:Cn) : -1<=Fy data vars res f/\Fy data vars res f<=6:=by
 unfold Fy;cases Ek vars res f.v with
 | none=>simp
 | some t=>rcases Ae5 (B3 data f.I t) with⟨h,_⟩|⟨d,_,a,h⟩ <;> simp only[h] <;> omega
def Ii (m:Aq):Bool:=m.F.all (λf=>decide (0<=Fy data vars res f))&&m.A.all (λa=>decide (0<=a.P)&&Hv vars res a.L)
def Db (l:List Cn):Int:=(l.map (Fy data vars res)).sum
def Dx (l:List B8):Int:=(l.map (·.P)).sum
def Wj (l:List B8) (x:B8) (j:Nat):Bool:=j==0||(match l[j-1]? with|some y=>decide (Hf y.L x.L<0) | none=>false)
def Amz (l:List Cn) (f:Cn) (j:Nat):Bool:=decide (1<=Fy data vars res f)&&Kf (·.v) l f j
def Am0 (l:List B8) (a:B8) (j:Nat):Bool:=decide (1<=a.P)&&Ih a.L && !(a.L.T.length==0)&&Hv vars res a.L&&Wj l a j
def O7 (m:Aq):Bool:=m.F.zipIdx.all (λq=>Amz data vars res m.F q.1 q.2)&&m.A.zipIdx.all (λq=>Am0 vars res m.A q.1 q.2)&&decide (Db data vars res m.F+Dx m.A<=6)
variable {b1 data vars res}
theorem Wk (e:Mv data vars res) (g:D4 data vars res b1) (f:Cn) (i:I64 f.v) (j:iR f.I) (hi:Di f.I<=1048576) (b:(Ek vars res f.v).isSome=true) : ∃c,J7 f.v f.I b1 b2 data vars res.G res.U res.R=some (Fy data vars res f,c)/\D4 data vars res c:=by cases a:Ek vars res f.v with| none=>rw[a]at b;cases b| some t=>obtain⟨c,h,p⟩:=Axa e.vd.szv e.sh b1 b2 vars res g f.v f.I t a (e.sz _ _ a) i j hi;refine⟨c,?_,p⟩;rw[h];unfold Fy;rw[a]
theorem Axg (P:Mv data vars res) (Q:D4 data vars res b1) (m:Aq) (u:MSz m) :
  ∃x,Vb m b1 b2 data vars res.G res.U res.R=some (Ii data vars res m,x)/\D4 data vars res x:=by
 have V:=u.nf
 have W:=u.na
 unfold Vb
 refine Aek (λx=>(Ii data vars res m,x)) ?_
 obtain⟨r,U,O⟩:=Aeq (M:=List (ByteArray×Int)) (R:=Bool×List (ByteArray×Int)) m.F (λq=>decide (0<=Fy data vars res q.1)) (λj o=>((j:Int),o)) (D4 data vars res)
  (λr=>D4 data vars res r.2/\r.1=m.A.all λa=>decide (0<=a.P)&&Hv vars res a.L) (λr=>D4 data vars res r.2/\r.1=false) b1
  (s0:=((0:Int),b1))
  (step:=(λ(C,A)=>
   bif C<(m.F.length:Int) then (
   (Af m.F C).bind λF=>
   (M9 F.v A b2 data vars res.G res.U res.R).bind λD=>
   bif (!D) then some (.inr (.inl (false,A)))
   else (
   (J7 F.v F.I A b2 data vars res.G res.U res.R).bind λi=>
   bif i.1<(0:Int) then some (.inr (.inl (false,i.2)))
   else some (.inl ((Ac (C+1)),i.2))))
   else some (.inr (.inr A)):Int×List (ByteArray×Int)->Option ((Int×List (ByteArray×Int))⊕((Bool×List (ByteArray×Int))⊕List (ByteArray×Int)))))
  (J:=(λz=>match z with
   | .inl (N,L)=>some (N,L)
   | .inr b=>(Ak (S:=Int) (E:=((Bool×List (ByteArray×Int))⊕Unit)) (λc=>
     bif c<(m.A.length:Int) then (
     (Af m.A c).bind λy=>
     bif y.P<(0:Int) then some (.inr (.inl (false,b)))
     else (
     (Na y.L b b2 data vars res.G res.U res.R).bind λH=>
     bif (!H) then some (.inr (.inl (false,b)))
     else some (.inl (Ac (c+1)))))
     else some (.inr (.inr ()))) 0).bind λz=>match z with
      | .inl (I,G)=>some (I,G)
      | .inr _=>some (true,b)))
  rfl Q ω (by
   intro j f o B K _ g v p
   have s:=B4 K
   simp only[g,v,p,Am,Ag,Aff o b2 data vars res]
   cases k:(Ek vars res f.v).isSome with
   | false=>
    have e:Fy data vars res f = -1:=by
     unfold Fy
     cases T:Ek vars res f.v with
     | none=>rfl
     | some t=>rw[T]at k;cases k
    rw[e]
    exact⟨nofun,λ_=>⟨_,rfl,_,rfl,B,rfl⟩⟩
   | true=>
    obtain⟨x,d1,d2⟩:=Wk b2 P B f (u.fr f s).2 (u.fr f s).1 (u.fi f s) k
    simp only[Dn,Av,d1,Ag]
    by_cases w:0<=Fy data vars res f
    .rw[Ap w,Ax ω]
     exact⟨λ_=>⟨x,rfl,d2⟩,λh=>by cases h⟩
    .rw[Ax w,Ap ω]
     exact⟨nofun,λ_=>⟨_,rfl,_,rfl,d2,rfl⟩⟩) (by
   intro o B g _
   refine⟨.inr o,by simp only[g];rfl,?_⟩
   refine⟨(m.A.all λa=>decide (0<=a.P)&&Hv vars res a.L,o),?_,B,rfl⟩
   refine (O3 m.A (λa=>decide (0<=a.P)&&Hv vars res a.L) (λj=>(j:Int)) rfl ω (rt:=(true,o)) (rf:=(false,o)) ?_ ?_).trans (by cases m.A.all (λa=>decide (0<=a.P)&&Hv vars res a.L) <;> rfl)
   .intro j a K g v p
    simp only[g,v,p,Am,Ag,Amy o b2 data vars res a.L (u.al a (B4 K))]
    by_cases w:0<=a.P
    .rw[Ap w,Ax ω]
     cases Hv vars res a.L with
     | true=>exact⟨λ_=>rfl,λh=>by cases h⟩
     | false=>exact⟨nofun,λ_=>⟨_,rfl,rfl⟩⟩
    .rw[Ax w,Ap ω]
     exact⟨nofun,λ_=>⟨_,rfl,rfl⟩⟩
   .intro h;exact⟨.inr (),by simp only[h];rfl,rfl⟩)
 refine⟨r,U,r.2,?_,?_⟩
 .unfold Ii
  rw[<-Zp]
  rcases O with⟨g,v,p⟩|⟨g,v,p⟩
  .rw[g,Bool.true_and,<-p]
  .rw[g,Bool.false_and,<-p]
 .rcases O with⟨g,v,p⟩|⟨g,v,p⟩ <;> exact v
theorem Afh (g:Cn->Int) {l:List Cn} {j:Nat} {x:Cn} (h:l[j]? = some x):((l.take (j+1)).map g).sum=((l.take j).map g).sum+g x:=by rw[C5 h];simp
theorem Am1 {l:List B8} {j:Nat} {x:B8} (h:l[j]? = some x):Dx (l.take (j+1))=Dx (l.take j)+x.P:=by unfold Dx;rw[C5 h];simp
theorem Axh (I:Mv data vars res) (J:D4 data vars res b1) (m:Aq) (q:MSz m) (hp:Ii data vars res m=true) : ∃p:Int×List (ByteArray×Int),Mf m b1 b2 data vars res.G res.U res.R=some p/\(decide (p.1>6) = !decide (Db data vars res m.F+Dx m.A<=6))/\D4 data vars res p.2:=by
 have N:=q.nf;have O:=q.na;unfold Ii at hp;rw[Dt,H7,H7]at hp;unfold Mf;refine F4 (λ(e,F,k)=>∃j:Nat,F=j/\j<=m.F.length/\D4 data vars res k/\0<=e/\e<=12/\(e=Db data vars res (m.F.take j)\/(6<e/\6<Db data vars res (m.F.take j)))) (λ(_,F,_)=>m.F.length-F.toNat) (λ(e,k)=>D4 data vars res k/\0<=e/\e<=12/\(e=Db data vars res m.F\/(6<e/\6<Db data vars res m.F))) ⟨0,rfl,ω,J,ω,ω,.inl (by simp[Db])⟩ ?_ ?_
 .rintro⟨e,F,k⟩ ⟨j,rfl,K,u,G,w,s⟩;rcases C9 j m.F.length with h|h
  .have g:m.F[j]? = some m.F[j]:=Cs h;generalize m.F[j]=f at g;have c:=B4 g;have C:=hp.1 f c;rw[E8]at C;have B:=(Axf data vars res f).2;have E:Db data vars res (m.F.take (j+1))=Db data vars res (m.F.take j)+Fy data vars res f:=Afh _ g;simp only[Ap (ω:(j:Int)<(m.F.length:Int)),Am,Cp rfl g,Ag,En h ω];by_cases x:e<=6
   .have y:(Ek vars res f.v).isSome=true:=by
     unfold Fy at C;cases L:Ek vars res f.v with
     | none=>rw[L]at C;have C:(0:Int)<=-1:=C;omega
     | some t=>rfl
    obtain⟨D,d1,d2⟩:=Wk b2 I u f (q.fr f c).2 (q.fr f c).1 (q.fi f c) y;rw[Ap x];simp only[Am,d1,Ag];have b:Ac (e+Fy data vars res f)=e+Fy data vars res f:=ξ;exact .inl ⟨_,rfl,⟨j+1,rfl,ω,d2,by simp only[b];omega,by simp only[b];omega,by simp only[b,E];omega⟩,ζ⟩
   .rw[Ax x];exact .inl ⟨_,rfl,⟨j+1,rfl,ω,u,G,w,by simp only[E];omega⟩,ζ⟩
  .have:j=m.F.length:=ω;subst this;rw[Dr]at s;exact .inr ⟨(e,k),ψ,u,G,w,s⟩
 .rintro⟨e,k⟩ ⟨u,G,w,s⟩;simp only;refine F4 (λ(v,i)=>∃j:Nat,i=j/\j<=m.A.length/\0<=v/\v<=13/\(v=Db data vars res m.F+Dx (m.A.take j)\/(6<v/\6<Db data vars res m.F+Dx (m.A.take j)))) (λ(_,i)=>m.A.length-i.toNat) (λv=>(v=Db data vars res m.F+Dx m.A\/(6<v/\6<Db data vars res m.F+Dx m.A))) ⟨0,rfl,ω,G,ω,by simpa[Dx] using s⟩ ?_ ?_
  .rintro⟨v,i⟩ ⟨j,rfl,K,M,H,A⟩;rcases C9 j m.A.length with h|h
   .have g:m.A[j]? = some m.A[j]:=Cs h;generalize m.A[j]=a at g;have C:=hp.2 a (B4 g);rw[Dt,E8]at C;have E:=Am1 g;simp only[Ap (ω:(j:Int)<(m.A.length:Int)),Am,Cp rfl g,Ag,En h ω];by_cases x:v<=6
    .rw[Ap x];simp only[Am];by_cases z:7<a.P
     .rw[Bc z];have b:Ac (v+7)=v+7:=ξ;exact .inl ⟨_,rfl,⟨j+1,rfl,ω,by simp only[b];omega,by simp only[b];omega,by simp only[b,E];omega⟩,ζ⟩
     .rw[Bb z];have b:Ac (v+a.P)=v+a.P:=ξ;exact .inl ⟨_,rfl,⟨j+1,rfl,ω,by simp only[b];omega,by simp only[b];omega,by simp only[b,E];omega⟩,ζ⟩
    .rw[Ax x];exact .inl ⟨_,rfl,⟨j+1,rfl,ω,M,H,by simp only[E];omega⟩,ζ⟩
   .have:j=m.A.length:=ω;subst this;rw[Dr]at A;exact .inr ⟨v,ψ,A⟩
  .intro v s;refine⟨(v,k),rfl,?_,u⟩;by_cases h:Db data vars res m.F+Dx m.A<=6
   .rw[Ap h,Ax (by simp only;omega)];rfl
   .rw[Ax h,Ap (by simp only;omega)];rfl
end
theorem Axi {S E:Type} (F:Cm->Cm->Option Int) (l:List B8) (i:∀y∈l,∀x,F y.L x=some (Hf y.L x)) {x:B8} {j:Nat} (q:l[j]? = some x) (k:l.length<4611686018427387904) (c b:Option (S⊕E)) : (bif decide ((j:Int)>0) then ((Af l (Ac ((j:Int)-1))).bind λf=>(F f.L x.L).bind λa=>bif decide (a>=0) then c else b) else b)=bif Wj l x j then b else c:=by
 have u:=Gp q;unfold Wj;by_cases h:j=0
 .subst h;rfl
 .rw[Ap ω];have e:Ac ((j:Int)-1)=((j-1:Nat):Int):=ξ;have g:l[j-1]? = some l[j-1]:=Cs ω;rw[e,Cp rfl g,g];have s:(j==0)=false:=(by simpa using h);simp only[Am,Ag,s,Bool.false_or,i _ (getElem_mem (ω:j-1<l.length))];by_cases p:Hf l[j-1].L x.L<0
  .rw[Ax ω,Ap p];rfl
  .rw[Ap ω,Ax p];rfl
section
variable {b1:List (ByteArray×Int)} (b2:List (ByteArray×List Dq)) {data:List Ao} {vars:List Ai} {res:Ai}
def Wl (data:List Ao) (vars:List Ai) (res:Ai) (l:List Cn) (f:Cn) (j:Nat):Bool:=!(Fy data vars res f==0)&&Kf (·.v) l f j
def O8 (l:List B8) (a:B8) (j:Nat):Bool:=!(a.P==0)&&Ih a.L && !(a.L.T.length==0)&&Wj l a j
theorem Axj (m:Aq):O7 data vars res m=(Ii data vars res m&&decide (Db data vars res m.F+Dx m.A<=6)&&m.F.zipIdx.all (λq=>Wl data vars res m.F q.1 q.2)&&m.A.zipIdx.all λq=>O8 m.A q.1 q.2):=by
 rw[Bool.eq_iff_iff];unfold O7 Ii;rw[<-Zp m.F λf=>decide (0<=Fy data vars res f),<-Zp m.A λa=>decide (0<=a.P)&&Hv vars res a.L];simp only[Dt,H7,Amz,Am0,Wl,O8,E8,Bool.not_eq_true',beq_eq_false_iff_ne,ne_eq];constructor
 .rintro⟨⟨h,i⟩,p⟩;refine⟨⟨⟨⟨λq e=>?_,λq e=>?_⟩,p⟩,λq e=>?_⟩,λq e=>?_⟩
  .have:=(h q e).1;omega
  .have:=i q e;exact⟨ω,this.1.2⟩
  .have:=h q e;exact⟨ω,this.2⟩
  .have:=i q e;exact⟨⟨⟨ω,this.1.1.1.2⟩,this.1.1.2⟩,this.2⟩
 .rintro⟨⟨⟨⟨h,i⟩,p⟩,c⟩,b⟩;refine⟨⟨λq e=>?_,λq e=>?_⟩,p⟩
  .have:=h q e;have g:=c q e;exact⟨ω,g.2⟩
  .have:=i q e;have g:=b q e;exact⟨⟨⟨⟨ω,g.1.1.2⟩,g.1.2⟩,this.2⟩,g.2⟩
theorem Axk (P:Mv data vars res) (hm:D4 data vars res b1) (m:Aq) (k:MSz m) :
  ∃D,Sd m b1 b2 data vars res.G res.U res.R=some (O7 data vars res m,D)/\D4 data vars res D:=by
 have hf:=k.nf
 have ha:=k.na
 rw[Axj]
 unfold Sd
 obtain⟨b,p1,p2⟩:=Axg b2 P hm m k
 rw[p1]
 cases hp:Ii data vars res m with
 | false=>exact⟨b,rfl,p2⟩
 | true=>
  obtain⟨q,q1,q2,Z⟩:=Axh b2 P p2 m k hp
  simp only[Ag,Dn,Av,q1,q2]
  cases hs:decide (Db data vars res m.F+Dx m.A<=6) with
  | false=>exact⟨q.2,rfl,Z⟩
  | true=>
   simp only[Dn,Av,Bool.true_and]
   have V:∀f∈m.F,(Ek vars res f.v).isSome=true:=by
    intro f c
    unfold Ii at hp
    rw[Dt,H7]at hp
    have H:=hp.1 f c
    rw[E8]at H
    unfold Fy at H
    cases ht:Ek vars res f.v with
    | none=>rw[ht]at H;have H:(0:Int)<=-1:=H;omega
    | some t=>rfl
   obtain⟨r,r1,Y⟩:=Aeq (M:=List (ByteArray×Int)) (R:=Bool×List (ByteArray×Int)) m.F (λq=>Wl data vars res m.F q.1 q.2) (λj o=>((j:Int),o)) (D4 data vars res)
    (λr=>D4 data vars res r.2/\r.1=m.A.zipIdx.all λq=>O8 m.A q.1 q.2) (λr=>D4 data vars res r.2/\r.1=false) q.2
    (s0:=((0:Int),q.2))
    (step:=(λ(F,A)=>
     bif F<(m.F.length:Int) then (
     (Af m.F F).bind λs=>
     (J7 s.v s.I A b2 data vars res.G res.U res.R).bind λi=>
     bif (i.1==(0:Int)) then some (.inr (.inl (false,i.2)))
     else (
     bif F>(0:Int) then (
     (Af m.F (Ac (F-1))).bind λI=>
     bif I.v>=s.v then some (.inr (.inl (false,i.2)))
     else some (.inl ((Ac (F+1)),i.2)))
     else some (.inl ((Ac (F+1)),i.2))))
     else some (.inr (.inr A)):Int×List (ByteArray×Int)->Option ((Int×List (ByteArray×Int))⊕((Bool×List (ByteArray×Int))⊕List (ByteArray×Int)))))
    (J:=(λz=>match z with
     | .inl (U,O)=>some (U,O)
     | .inr u=>(Ak (S:=Int) (E:=((Bool×List (ByteArray×Int))⊕Unit)) (λg=>
       bif g<(m.A.length:Int) then (
       (Af m.A g).bind λv=>
       (show OB from
       bif (v.P==(0:Int)) then some true
       else (
       (Mc v.L).bind λQ=>
       bif (!Q) then some true
       else some ((v.L.T.length:Int)==(0:Int)))).bind λT=>
       bif T then some (.inr (.inl (false,u)))
       else (
       bif g>(0:Int) then (
       (Af m.A (Ac (g-1))).bind λG=>
       (Kv G.L v.L).bind λW=>
       bif W>=(0:Int) then some (.inr (.inl (false,u)))
       else some (.inl (Ac (g+1))))
       else some (.inl (Ac (g+1)))))
       else some (.inr (.inr ()))) 0).bind λz=>match z with
        | .inl (N,L)=>some (N,L)
        | .inr _=>some (true,u)))
    rfl Z ω (by
     intro j f o X K _ p C w
     have c:=B4 K
     obtain⟨D,d1,d2⟩:=Wk b2 P X f (k.fr f c).2 (k.fr f c).1 (k.fi f c) (V f c)
     simp only[p,C,w,Am,Ag,d1,Afe (·.v) m.F K ω,Wl]
     cases (Fy data vars res f==0) with
     | true=>exact⟨nofun,λ_=>⟨_,rfl,_,rfl,d2,rfl⟩⟩
     | false=>
      cases Kf (·.v) m.F f j with
      | true=>exact⟨λ_=>⟨D,rfl,d2⟩,λh=>by cases h⟩
      | false=>exact⟨nofun,λ_=>⟨_,rfl,_,rfl,d2,rfl⟩⟩) (by
     intro o X p _
     refine⟨.inr o,by simp only[p];rfl,?_⟩
     refine⟨(m.A.zipIdx.all λq=>O8 m.A q.1 q.2,o),?_,X,rfl⟩
     refine (S6 m.A (λq=>O8 m.A q.1 q.2) (λj=>(j:Int)) rfl ω (rt:=(true,o)) (rf:=(false,o)) ?_ ?_).trans (by cases m.A.zipIdx.all (λq=>O8 m.A q.1 q.2) <;> rfl)
     .intro j a K _ p C w
      have B:((a.L.T.length:Int)==(0:Int))=(a.L.T.length==0):=Avn a.L.T 0
      simp only[p,C,w,Am,Ag,Amw,Axi Kv m.A (λy hy x=>Afc y.L x (by have:=k.al y hy;omega)) K ω,O8,B]
      cases (a.P==0) with
      | true=>exact⟨nofun,λ_=>⟨_,rfl,rfl⟩⟩
      | false=>
       cases Ih a.L with
       | false=>exact⟨nofun,λ_=>⟨_,rfl,rfl⟩⟩
       | true=>
        cases (a.L.T.length==0) with
        | true=>exact⟨nofun,λ_=>⟨_,rfl,rfl⟩⟩
        | false=>
         cases Wj m.A a j with
         | true=>exact⟨λ_=>rfl,λh=>by cases h⟩
         | false=>exact⟨nofun,λ_=>⟨_,rfl,rfl⟩⟩
     .intro h _;exact⟨.inr (),by simp only[h];rfl,rfl⟩)
   refine⟨r.2,?_,?_⟩
   .have e:some r=some (m.F.zipIdx.all (λq=>Wl data vars res m.F q.1 q.2)&&m.A.zipIdx.all λq=>O8 m.A q.1 q.2,r.2):=by
     rcases Y with⟨p,C,w⟩|⟨p,C,w⟩
     .rw[p,Bool.true_and,<-w]
     .rw[p,Bool.false_and,<-w]
    rw[<-e]
    exact r1
   .rcases Y with⟨p,C,w⟩|⟨p,C,w⟩ <;> exact C
end
variable {k n:Nat}
theorem Qz (l:List Int) (c:l.length<4611686018427387904):Lq l=some (Iz l):=by
 unfold Lq;refine Kb (λv=>∃k:Nat,v=k/\k<=l.length/\Iz (l.take k)=Iz l) (λv=>v.toNat) (λv=>∃k:Nat,v=k/\k<=l.length/\l.take k=Iz l) ⟨l.length,rfl,Nat.le_refl _,ψ⟩ ?_ ?_
 .rintro v ⟨k,rfl,g,a⟩;cases k with
  | zero=>exact .inr ⟨0,rfl,0,rfl,ω,by simpa[Iz] using a⟩
  | succ j=>
   have b:Ac (((j+1:Nat):Int)-1)=(j:Int):=ξ;have f:j<l.length:=ω;have hp:decide (((j+1:Nat):Int)>0)=true:=Ap ω;simp only[hp,Am,b,Gn rfl f,Ag];rw[take_succ_eq_append_getElem f]at a;by_cases e:l[j]=0
   .rw[e,Avi]at a;exact .inl ⟨j,by rw[E5 e];rfl,⟨j,rfl,ω,a⟩,ω⟩
   .rw[Avj e]at a;exact .inr ⟨((j+1:Nat):Int),by rw[Da e];rfl,j+1,rfl,ω,by rw[take_succ_eq_append_getElem f];exact a⟩
 .rintro v ⟨k,rfl,g,a⟩;rw[Zo rfl g,a];rfl
theorem Am2 (l:List Int) (e:O0 l) (E:l.length<1099511627776):Sj l=some (Al (As l).toNat):=by
 unfold Sj;have f:Ac ((l.length:Int)+1)=((l.length+1:Nat):Int):=by rw[Ac,B6] <;> omega
 rw[f,Aem rfl ω ω];simp only[Ag];refine Kb (λ(c,i,o)=>∃k:Nat,i=k/\k<=l.length/\o.length=k/\Cf o/\0<=c/\c<5/\As o+1000000000 ^ k*c=As (l.take k)) (λ(_,i,_)=>l.length-i.toNat) (λ(c,o)=>o.length=l.length/\Cf o/\0<=c/\c<5/\As o+1000000000 ^ l.length*c=As l) ⟨0,rfl,ω,rfl,Cf.nil,ω,ω,by simp[As]⟩ ?_ ?_
 .rintro⟨c,i,o⟩ ⟨k,rfl,v,j,b,s,a,x⟩;rcases C9 k l.length with h|h
  .have w:=e l[k] (getElem_mem h);refine .inl ⟨((l[k]+c) / 1000000000,((k+1:Nat):Int),o++[(l[k]+c) % 1000000000]),?_,⟨k+1,rfl,ω,by simp[j],b.snoc ω ω,ω,ω,?_⟩,ζ⟩
   .have B:Bh l[k]=l[k]:=E4 ω ω;have A:Bh (l[k]+c)=l[k]+c:=E4 ω ω;have u:C6 ((l[k]+c) % 1000000000)=(l[k]+c) % 1000000000:=H8 ω ω;have z:Ac ((k:Int)+1)=((k+1:Nat):Int):=ξ;have y:decide ((k:Int)<(l.length:Int))=true:=(by simpa using h);simp only[y,Am,Gn rfl h,Ag,B,A,Mn (show 0<=l[k]+c by omega) (show (0:Int)<1000000000 by decide),u,Cy (show (o.length+[(l[k]+c) % 1000000000].length)*4<=_ by simp;omega),Nr (show 0<=l[k]+c by omega) (show l[k]+c<=_ by omega) (show (0:Int)<1000000000 by decide),z]
   .rw[Hq l h,<-x,Ns,j,Int.pow_succ];have:=Int.mul_ediv_add_emod (l[k]+c) 1000000000;grind
  .have q:k=l.length:=ω;subst q;refine .inr ⟨(c,o),ψ,j,b,s,a,by simpa using x⟩
 .rintro⟨c,o⟩ ⟨p,g,J,I,G⟩;have D:=Hr e;by_cases a:c>0
  .have u:C6 c=c:=H8 ω ω;simp only[decide_eq_true a,Am,u,Cy (show (o.length+[c].length)*4<=_ by simp;omega),Ag,Qz (o++[c]) ζ];rw[Qm (g.snoc ω ω) (n:=(As l).toNat) (by rw[Ns,p];omega)]
  .have:c=0:=ω;subst this;simp only[Int.lt_irrefl,gt_iff_lt,decide_false,Av,Qz o ω,Ag];rw[Qm g (n:=(As l).toNat) ω]
theorem Axl (h:n<18446744073709551616):Cq n<=3:=Qo (Nat.lt_of_lt_of_le h δ)
theorem Am3 (n:Nat) (h:n<18446744073709551616):Oo n=some (Al n):=by
 unfold Oo;have b:=Axl h;unfold Cq at b;refine Kb (λ(w,o)=>∃k:Nat,w=k/\k<=n/\o++Al k=Al n) (λ(w,_)=>w.toNat) (λo=>o=Al n) ⟨n,rfl,Nat.le_refl _,ψ⟩ ?_ (by rintro o rfl;rfl);rintro⟨w,o⟩ ⟨k,rfl,e,c⟩;by_cases a:k=0
 .subst a;rw[Hz,append_nil]at c;exact .inr ⟨o,ψ,c⟩
 .have f:o.length<=3:=(by rw[<-c]at b;simp at b;omega);refine .inl ⟨(((k / 1000000000:Nat):Int),o++[((k % 1000000000:Nat):Int)]),?_,⟨k / 1000000000,rfl,ω,by rw[append_assoc];rw[Mo a]at c;exact c⟩,ζ⟩;have s:decide ((k:Int)>0)=true:=Ap ω;have q:Ho (k:Int) 1000000000=some ((k % 1000000000:Nat):Int):=(by rw[Mn ω δ];rfl);have j:C6 ((k % 1000000000:Nat):Int)=((k % 1000000000:Nat):Int):=H8 ω ω;have i:G0 .u64 (k:Int) 1000000000=some ((k / 1000000000:Nat):Int):=(by rw[Nr ω ω δ];rfl);simp only[s,Am,q,Ag,j,Cy (show (o.length+[((k % 1000000000:Nat):Int)].length)*4<=_ by simp;omega),i]
def I0 (m n:Nat):Int:=if m<n then -1 else if n<m then 1 else 0
theorem Am4 (m n:Nat) (x:Cq m<1099511627776) (i:Cq n<1099511627776):Sr (Al m) (Al n)=some (I0 m n):=by
 unfold Sr;unfold Cq at x i;by_cases q:(Al m).length=(Al n).length
 .rw[D3 (ω:((Al m).length:Int)=(Al n).length),Av];have f:Ac (((Al m).length:Int)-1)=((Al m).length:Int)-1:=ξ;rw[f];refine Kb (λv=>∃k:Nat,v=(k:Int)-1/\k<=(Al m).length/\(Al m).drop k=(Al n).drop k) (λv=>(v+1).toNat) (λe=>match e with|.inl r=>r=I0 m n | .inr _=>m=n) ⟨(Al m).length,rfl,Nat.le_refl _,by rw[drop_length,q,drop_length]⟩ ?_ ?_
  .rintro v ⟨k,rfl,y,g⟩;cases k with
   | zero=>refine .inr ⟨.inr (),ψ,?_⟩;have:Al m=Al n:=(by simpa using g);have:=congrArg As this;rw[Hc,Hc]at this;show m=n;omega
   | succ j=>
    have h:j<(Al m).length:=ω;have a:j<(Al n).length:=ω;have u:((j+1:Nat):Int)-1=(j:Int):=ω;have s:decide ((j:Int)>=0)=true:=Ap ω;simp only[u,s,Am,Gn rfl h,Gn rfl a,Ag];rcases Int.lt_trichotomy (Al m)[j] (Al n)[j] with b|p|w
    .refine .inr ⟨.inl (-1),by rw[Ap b];rfl,?_⟩;have:=Alh (He m) h a (He n) g b;rw[Hc,Hc]at this;show (-1:Int)=I0 m n;rw[I0,Bc ω]
    .refine .inl ⟨(j:Int)-1,?_,⟨j,rfl,ω,?_⟩,ω⟩
     .rw[Ax (ω:¬(Al m)[j]<(Al n)[j]),Av,Ax (ω:¬(Al m)[j]>(Al n)[j]),Av];rw[Ac,B6 ω ω]
     .rw[drop_eq_getElem_cons h,drop_eq_getElem_cons a,g,p]
    .refine .inr ⟨.inl 1,by rw[Ax (ω:¬(Al m)[j]<(Al n)[j]),Av,Ap (ω:(Al m)[j]>(Al n)[j])];rfl,?_⟩;have:=Alh (He n) a h (He m) g.symm w;rw[Hc,Hc]at this;show (1:Int)=I0 m n;rw[I0,Bb ω,Bc ω]
  .rintro (e|e) c
   .simp only at c ⊢;rw[c]
   .simp only at c ⊢;rw[I0,Bb ω,Bb ω]
 .rw[D2 (ω:((Al m).length:Int)≠(Al n).length),Am];by_cases b:(Al m).length<(Al n).length
  .rw[Ap (ω:((Al m).length:Int)<(Al n).length),Am];have:=Alg (m:=m) (n:=n) b;rw[I0,Bc this]
  .rw[Ax (ω:¬((Al m).length:Int)<(Al n).length),Av];have:=Alg (m:=n) (n:=m) (by unfold Cq;omega);rw[I0,Bb ω,Bc this]
theorem Am5 {l:List Int} (h:Cf l) (c:l≠[]->1000000000 ^ (l.length-1)<=As l):Can l:=by refine⟨h,λb a=>?_⟩;have q:=c b;have e:=dropLast_concat_getLast b;have g:Cf l.dropLast:=λd i=>h d (dropLast_subset l i);have p:=Ju g;rw[length_dropLast]at p;have f:=congrArg As e;rw[Ns,a]at f;omega
theorem Te (l:List Int) (h:l.length<=k):As (l.take k)=As l:=by rw[Iy h]
theorem Am6 (a b:List Int) (W:Cf a) (hb:Cf b) (hl:a.length<1099511627776) (Z:b.length<=a.length) (V:a≠[]->1000000000 ^ (a.length-1)<=As a) : ((F2 4 0 (Ac ((a.length:Int)+1)) (0:Int)).bind λo3=> (Ak (S:=(Int×Int×List Int)) (E:=(Int×List Int)) (λ(H,p,y)=> bif p<(a.length:Int) then ((Af a p).bind λv=> (show Option Int from bif p<(b.length:Int) then ((Af b p).bind λw=> some (C6 ((C6 (v+H))+w))) else (some (C6 (v+H)))).bind λC=> (G0 .u32 C 1000000000).bind λK=> (Ho C 1000000000).bind λf=> (Bl 4 y [f]).bind λj=> some (.inl (K,(Ac (p+1)),j))) else (some (.inr (H,y)))) (0,0,o3)).bind λ(u,x)=> bif u>(0:Int) then ((Bl 4 x [u]).bind λM=> some M) else (some x))=some (Al (As a+As b).toNat):=by
 have D:Ac ((a.length:Int)+1)=((a.length+1:Nat):Int):=by rw[Ac,B6] <;> omega
 rw[D,Aem rfl ω ω];simp only[Ag];have a7:=Hr W.u32;have a6:=Hr hb.u32;refine Kb (λ(c,i,o)=>∃k:Nat,i=k/\k<=a.length/\o.length=k/\Cf o/\0<=c/\c<=1/\As o+1000000000 ^ k*c=As (a.take k)+As (b.take k)) (λ(_,i,_)=>a.length-i.toNat) (λ(c,o)=>o.length=a.length/\Cf o/\0<=c/\c<=1/\As o+1000000000 ^ a.length*c=As a+As b) ⟨0,rfl,ω,rfl,Cf.nil,ω,ω,by simp[As]⟩ ?_ ?_
 .rintro⟨c,i,o⟩ ⟨k,rfl,hk,O,B,X,Q,N⟩;rcases C9 k a.length with h|h
  .have hx:=W.get h;have e4:Ac ((k:Int)+1)=((k+1:Nat):Int):=ξ;have e5:decide ((k:Int)<(a.length:Int))=true:=Ap ω;have step:∀s:Int,0<=s->s<2000000000->(show Option Int from bif (k:Int)<(b.length:Int) then ((Af b k).bind λw=>some (C6 ((C6 (a[k]+c))+w))) else some (C6 (a[k]+c)))=some s ->
     As (a.take (k+1))+As (b.take (k+1))=As (a.take k)+As (b.take k)+1000000000 ^ k*(s-c) -> (∃g,(bif (k:Int)<(a.length:Int) then ((Af a k).bind λv=> (show Option Int from bif (k:Int)<(b.length:Int) then ((Af b k).bind λw=> some (C6 ((C6 (v+c))+w))) else (some (C6 (v+c)))).bind λC=> (G0 .u32 C 1000000000).bind λK=> (Ho C 1000000000).bind λf=> (Bl 4 o [f]).bind λj=> some (.inl (K,(Ac ((k:Int)+1)),j))) else (some (.inr (c,o))))=some (Sum.inl g:(Int×Int×List Int)⊕(Int×List Int))/\(∃q:Nat,g.2.1=q/\q<=a.length/\g.2.2.length=q/\Cf g.2.2/\0<=g.1/\g.1<=1/\As g.2.2+1000000000 ^ q*g.1=As (a.take q)+As (b.take q))/\a.length-g.2.1.toNat<a.length-(k:Int).toNat):=by
    intro s A a1 hs z;refine⟨(s / 1000000000,((k+1:Nat):Int),o++[s % 1000000000]),?_,⟨k+1,rfl,ω,by simp[O],B.snoc ω ω,ζ,ζ,?_⟩,ζ⟩
    .rw[e5,Am,Gn rfl h,Ag,hs,Ag,Alb A ω δ,Ag,Mn A δ,Ag,Cy ζ,Ag,e4]
    .rw[z,<-N,Ns,O,Int.pow_succ];have:=Int.mul_ediv_add_emod s 1000000000;grind
   refine .inl ?_;rcases C9 k b.length with F|F
   .have hy:=hb.get F;obtain⟨g,L,J,I⟩:=step (a[k]+c+b[k]) ω ω (by have G:C6 (a[k]+c)=a[k]+c:=H8 ω ω;have w2:C6 (a[k]+c+b[k])=a[k]+c+b[k]:=H8 ω ω;show (bif (k:Int)<(b.length:Int) then _ else _)=_;rw[Ap (ω:(k:Int)<(b.length:Int)),Am,Gn rfl F,Ag,G,w2]) (by rw[Hq a h,Hq b F];grind);exact⟨g,L,J,I⟩
   .obtain⟨g,L,J,I⟩:=step (a[k]+c) ω ω (by have G:C6 (a[k]+c)=a[k]+c:=H8 ω ω;show (bif (k:Int)<(b.length:Int) then _ else _)=_;rw[Ax (ω:¬(k:Int)<(b.length:Int)),Av,G]) (by rw[Hq a h,Te b F,Te b ω];grind);exact⟨g,L,J,I⟩
  .have U:k=a.length:=ω;subst U;refine .inr ⟨(c,o),ψ,O,B,X,Q,?_⟩;rw[Dr,Te b Z]at N;exact N
 .rintro⟨c,o⟩ ⟨P,T,h4,h5,h6⟩;simp only[];by_cases Q:c>0
  .have:c=1:=ω;subst this;rw[Ap Q,Am,Cy ζ,Ag];congr 1;refine Aen (Am5 (T.snoc ω ω) λ_=>?_) (by rw[Ns,P];omega);rw[Ns,P];have:=Hr T.u32;simp[P];omega
  .have:c=0:=ω;subst this;rw[Ax Q,Av];congr 1;refine Aen (Am5 T λR=>?_) ω;have Y:a≠[]:=(by intro e;rw[e]at P;exact R (F9.1 P));have:=V Y;rw[P];omega
theorem Am7 (h:Al n≠[]):1000000000 ^ ((Al n).length-1)<=As (Al n):=by
 rw[Hc];have a:(Al n).length≠0:=λe=>h (F9.1 e);have:=Ale (n:=n) (k:=(Al n).length-1) (by unfold Cq;omega);have e:((1000000000 ^ ((Al n).length-1):Nat):Int)=1000000000 ^ ((Al n).length-1):=by rw[Int.natCast_pow];rfl
 omega
theorem Axm (m n:Nat) (a:Cq m<1099511627776) (b:Cq n<1099511627776):Vp (Al m) (Al n)=some (Al (m+n)):=by
 unfold Vp;unfold Cq at a b;by_cases c:(Al m).length<(Al n).length
 .simp only[Ap (ω:((Al m).length:Int)<(Al n).length),Am,Ag];have:=Am6 (Al n) (Al m) (He n) (He m) b ω Am7;rw[Hc,Hc]at this;rw[show m+n=((n:Int)+(m:Int)).toNat by omega];exact this
 .simp only[Ax (ω:¬((Al m).length:Int)<(Al n).length),Av,Ag];have:=Am6 (Al m) (Al n) (He m) (He n) a ω Am7;rw[Hc,Hc]at this;rw[show m+n=((m:Int)+(n:Int)).toNat by omega];exact this
theorem Q2 (h:k<n) (b:n<4611686018427387904):Ac ((k:Int)+1)=((k+1:Nat):Int):=by rw[Ac,B6] <;> omega
theorem Am8 (m n:Nat) (w:Cq m<1099511627776) (E:n<=m):Ss (Al m) (Al n)=some (Al (m-n)):=by
 unfold Ss;have I:(Al n).length<=(Al m).length:=Qp E;unfold Cq at w;rw[Aem rfl ω ω];simp only[Ag];have C:=He m;have F:=He n;refine Kb (λ(c,i,o)=>∃k:Nat,i=k/\k<=(Al m).length/\o.length=k/\Cf o/\0<=c/\c<=1/\As o=As ((Al m).take k)-As ((Al n).take k)+1000000000 ^ k*c) (λ(_,i,_)=>(Al m).length-i.toNat) (λo=>∃c:Int,o.length=(Al m).length/\Cf o/\0<=c/\c<=1/\As o=(m:Int)-n+1000000000 ^ (Al m).length*c) ⟨0,rfl,ω,rfl,Cf.nil,ω,ω,by simp[As]⟩ ?_ ?_
 .rintro⟨c,i,o⟩ ⟨k,rfl,H,u,j,L,p,x⟩;rcases C9 k (Al m).length with h|h
  .have K:=C.get h;have S:=Q2 h ω;have R:decide ((k:Int)<((Al m).length:Int))=true:=Ap ω;have N:Ac (Al m)[k]=(Al m)[k]:=B6 ω ω;have M:Ac ((Al m)[k]-c)=(Al m)[k]-c:=B6 ω ω;have e:∀s:Int,-1000000001<=s->s<1000000000->As ((Al m).take (k+1))-As ((Al n).take (k+1))=As ((Al m).take k)-As ((Al n).take k)+1000000000 ^ k*(s+c) ->
     ∃(f:Int) (d:Int),(bif decide (s<0) then ((Bl 4 o [(C6 (Ac (s+1000000000)))]).bind λD=>some (Sum.inl (1,(Ac ((k:Int)+1)),D))) else ((Bl 4 o [(C6 s)]).bind λB=>some (Sum.inl (0,(Ac ((k:Int)+1)),B))))=some (Sum.inl (f,((k+1:Nat):Int),o++[d]):(Int×Int×List Int)⊕List Int) /\ (-1000000000<=s->(∃q:Nat,((k+1:Nat):Int)=q/\q<=(Al m).length/\(o++[d]).length=q/\Cf (o++[d])/\0<=f/\f<=1/\As (o++[d])=As ((Al m).take q)-As ((Al n).take q)+1000000000 ^ q*f)):=by
    intro s P v b;by_cases O:s<0
    .refine⟨1,C6 (Ac (s+1000000000)),by rw[Ap O,Am,Cy ζ,Ag,S],λg=>?_⟩;have X:Ac (s+1000000000)=s+1000000000:=B6 ω ω;have y:C6 (s+1000000000)=s+1000000000:=H8 ω ω;rw[X,y];refine⟨k+1,rfl,ω,by simp[u],j.snoc ω ω,ω,ω,?_⟩;rw[b,Ns,u,x,Int.pow_succ];grind
    .refine⟨0,C6 s,by rw[Ax O,Av,Cy ζ,Ag,S],λg=>?_⟩;have y:C6 s=s:=H8 ω ω;rw[y];refine⟨k+1,rfl,ω,by simp[u],j.snoc ω ω,ω,ω,?_⟩;rw[b,Ns,u,x,Int.pow_succ];grind
   refine .inl ?_;rcases C9 k (Al n).length with a|a
   .have Q:=F.get a;have V:Ac (Al n)[k]=(Al n)[k]:=B6 ω ω;have U:Ac ((Al m)[k]-c-(Al n)[k])=(Al m)[k]-c-(Al n)[k]:=B6 ω ω;obtain⟨f,d,A,z⟩:=e ((Al m)[k]-c-(Al n)[k]) ω ω (by rw[Hq _ h,Hq _ a];grind);refine⟨(f,((k+1:Nat):Int),o++[d]),?_,z ω,ζ⟩;rw[<-A];simp only[R,Am,Gn rfl h,Ag,N,M,Ap (ω:(k:Int)<((Al n).length:Int)),Gn rfl a,V,U]
   .obtain⟨f,d,A,z⟩:=e ((Al m)[k]-c) ω ω (by rw[Hq _ h,Te (Al n) a,Te (Al n) ω];grind);refine⟨(f,((k+1:Nat):Int),o++[d]),?_,z ω,ζ⟩;rw[<-A];simp only[R,Am,Gn rfl h,Ag,N,M,Ax (ω:¬(k:Int)<((Al n).length:Int)),Av]
  .have J:k=(Al m).length:=ω;subst J;refine .inr ⟨o,ψ,c,u,j,L,p,?_⟩;rw[Dr,Te _ I,Hc,Hc]at x;exact x
 .rintro o ⟨c,v,g,T,Z,Y⟩;have G:=Ju g;rw[v]at G;have hp:=Kc (Al m).length;have:c=0:=by
   rcases Int.lt_or_le 0 c with p|p
   .have:c=1:=ω;subst this;omega
   .omega
  subst this;rw[Qz o ω,Ag,Qm g (n:=m-n) ω]
theorem Am9 (m d:Nat) (p:Cq m<1099511627776) (w:0<d) (S:d<4294967296):Sx (Al m) d=some (Al (m / d),((m % d:Nat):Int)):=by
 unfold Sx;unfold Cq at p;rw[Ql rfl rfl (Nat.le_refl _) ω ω];simp only[Ag];have v:=He m;have N:Ac (((Al m).length:Int)-1)=((Al m).length:Int)-1:=by rw[Ac,B6] <;> omega
 rw[N];refine Kb (λ(r,i,o)=>∃k:Nat,i=(k:Int)-1/\k<=(Al m).length/\o.length=(Al m).length/\Cf o/\0<=r/\r<d/\As (o.drop k)*d+r=As ((Al m).drop k)) (λ(_,i,_)=>(i+1).toNat) (λ(r,o)=>o.length=(Al m).length/\Cf o/\0<=r/\r<d/\As o*d+r=m) ⟨(Al m).length,rfl,Nat.le_refl _,ψ,Cf.replicate _,ω,ω,by simp[As]⟩ ?_ ?_
 .rintro⟨r,i,o⟩ ⟨k,rfl,C,E,s,y,R,D⟩;cases k with
  | zero=>exact .inr ⟨(r,o),ψ,E,s,y,R,by simpa[Hc] using D⟩
  | succ j=>
   have g:j<(Al m).length:=ω;have u:j<o.length:=ω;have F:=v.get g;have Z:((j+1:Nat):Int)-1=(j:Int):=ω;have Y:decide ((j:Int)>=0)=true:=Ap ω;have M:Bh (r*1000000000)=r*1000000000:=E4 ω ω;have L:Bh (Al m)[j]=(Al m)[j]:=E4 ω ω;have J:Bh (r*1000000000+(Al m)[j])=r*1000000000+(Al m)[j]:=E4 ω ω;have b:(0:Int)<(d:Int):=ω;have c:0<=r*1000000000+(Al m)[j]:=ω;have f:0<=(r*1000000000+(Al m)[j]) / (d:Int):=Int.ediv_nonneg c ω;have z:(r*1000000000+(Al m)[j]) / (d:Int)<1000000000:=(by apply Int.ediv_lt_of_lt_mul b;have:(r+1)*1000000000<=d*1000000000:=Int.mul_le_mul_of_nonneg_right ω δ;omega);have I:C6 ((r*1000000000+(Al m)[j]) / (d:Int))=(r*1000000000+(Al m)[j]) / (d:Int):=H8 f ω;have B:=Int.emod_nonneg (r*1000000000+(Al m)[j]) (ω:(d:Int)≠0);have A:=Int.emod_lt_of_pos (r*1000000000+(Al m)[j]) b;have G:Ac ((j:Int)-1)=(j:Int)-1:=ξ;refine .inl ⟨((r*1000000000+(Al m)[j]) % (d:Int),(j:Int)-1,o.set j ((r*1000000000+(Al m)[j]) / (d:Int))),?_,⟨j,rfl,ω,by simpa using E,s.set _ f z,B,A,?_⟩,ψ⟩
   .simp only[Z,Y,Am,Gn rfl g,Gn rfl u,Ag,M,L,J,Nr c ω b,Mn c b,I,G,Ir rfl]
   .have d1:(o.set j ((r*1000000000+(Al m)[j]) / (d:Int))).drop j=((r*1000000000+(Al m)[j]) / (d:Int))::o.drop (j+1):=(by rw[drop_eq_getElem_cons (by simpa using u),drop_set_of_lt ω];simp);rw[d1,drop_eq_getElem_cons g];simp only[As];rw[<-D];have:=Int.mul_ediv_add_emod (r*1000000000+(Al m)[j]) (d:Int);grind
 .rintro⟨r,o⟩ ⟨H,h,X,V,U⟩;simp only[];have O:=Hr h.u32;have x:((m / d:Nat):Int)=As o/\((m % d:Nat):Int)=r:=(by have b:(0:Int)<(d:Int):=ω;have e:=Int.ediv_emod_unique b (r:=r) (q:=As o) (a:=(m:Int));have:=e.2 ⟨by rw[<-U];grind,X,V⟩;exact⟨by rw[Int.natCast_ediv];exact this.1,by rw[Int.natCast_emod];exact this.2⟩);rw[Qz o ω,Ag,Qm h x.1.symm,x.2]
theorem Afi {x y:Int} (e:0<=x) (c:x<1000000000) (a:0<=y) (b:y<1000000000):0<=x*y/\x*y<=999999998000000001:=by refine⟨Int.mul_nonneg e a,?_⟩;have f:x*y<=999999999*y:=Int.mul_le_mul_of_nonneg_right ω a;omega
theorem Wm (m n:Nat) (C:Cq m<549755813888) (F:Cq n<549755813888):Nm (Al m) (Al n)=some (Al (m*n)):=by
 unfold Nm;unfold Cq at C F;by_cases H:m=0\/n=0
 .have:(show OB from bif (((Al m).length:Int)==(0:Int)) then some true else some (((Al n).length:Int)==(0:Int)))=some true:=by
   show (bif (((Al m).length:Int)==(0:Int)) then some true else some (((Al n).length:Int)==(0:Int)))=some true;by_cases h:m=0
   .subst h;rw[Hz];rfl
   .have A:n=0:=ω;subst A;rw[Da (by have:=Kd h;have:(Al m).length≠0:=λe=>this (F9.1 e);omega),Hz];rfl
  rw[this,Ag,Am];have:m*n=0:=(by rcases H with rfl|rfl <;> simp);rw[this,Hz]
 .have L:m≠0:=ω;have A:n≠0:=ω;have aa:(Al m).length≠0:=λe=>Kd L (F9.1 e);have a8:(Al n).length≠0:=λe=>Kd A (F9.1 e);simp only[Da (ω:((Al m).length:Int)≠0),Da (ω:((Al n).length:Int)≠0),Av,Ag];have K:Ac (((Al m).length:Int)+((Al n).length:Int))=(((Al m).length+(Al n).length:Nat):Int):=ξ;rw[K,Ql rfl rfl (Nat.le_refl _) ω ω];simp only[Ag];have P:=He m;have Q:=He n;refine Kb (λ(i,o)=>∃k:Nat,i=k/\k<=(Al m).length/\o.length=(Al m).length+(Al n).length/\Cf o/\o.drop (k+(Al n).length)=replicate ((Al m).length-k) 0/\As o=As ((Al m).take k)*n) (λ(i,_)=>(Al m).length-i.toNat) (λo=>o.length=(Al m).length+(Al n).length/\Cf o/\As o=((m*n:Nat):Int)) ⟨0,rfl,ω,ψ,Cf.replicate _,by rw[drop_replicate];congr 1;omega,by simp[Ald,As]⟩ ?_ ?_
  .rintro⟨i,o⟩ ⟨k,rfl,hk,S,G,N,J⟩;rcases C9 k (Al m).length with h|h
   .have v:=P.get h;have T:=Q2 h ω;have W:decide ((k:Int)<((Al m).length:Int))=true:=Ap ω;simp only[W,Am];refine .inl (Ala (F4 (λ(c,j,a)=>∃q:Nat,j=q/\q<=(Al n).length/\a.length=(Al m).length+(Al n).length/\Cf a/\a.drop (k+(Al n).length)=replicate ((Al m).length-k) 0/\0<=c/\c<1000000000 /\ As a + 1000000000 ^ (k+q)*c=As o+1000000000 ^ k*((Al m)[k]*As ((Al n).take q))) (λ(_,j,_)=>(Al n).length-j.toNat) (λ(c,j,a)=>a.length=(Al m).length+(Al n).length/\Cf a/\a.drop (k+(Al n).length)=replicate ((Al m).length-k) 0/\0<=c/\c<1000000000 /\ As a + 1000000000 ^ (k+(Al n).length)*c=As o+1000000000 ^ k*((Al m)[k]*n)) ⟨0,rfl,ω,S,G,N,ω,ω,by simp[As]⟩ ?_ ?_))
    .rintro⟨c,j,a⟩ ⟨q,rfl,hq,x,b,f,B,p,z⟩;rcases C9 q (Al n).length with g|g
     .have w:=Q.get g;have u:k+q<a.length:=ω;have a1:=b.get u;have a6:=Afi v.1 v.2 w.1 w.2;have Z:Bh (Al m)[k]=(Al m)[k]:=E4 ω ω;have Y:Bh (Al n)[q]=(Al n)[q]:=E4 ω ω;have X:Bh ((Al m)[k]*(Al n)[q])=(Al m)[k]*(Al n)[q]:=E4 ω ω;have V:Bh a[k+q]=a[k+q]:=E4 ω ω;have U:Bh ((Al m)[k]*(Al n)[q]+a[k+q])=(Al m)[k]*(Al n)[q]+a[k+q]:=E4 ω ω;have R:Bh ((Al m)[k]*(Al n)[q]+a[k+q]+c)=(Al m)[k]*(Al n)[q]+a[k+q]+c:=E4 ω ω;have e6:=Q2 g ω;have e7:decide ((q:Int)<((Al n).length:Int))=true:=Ap ω;have O:Ac ((k:Int)+(q:Int))=((k+q:Nat):Int):=ξ;generalize hs:(Al m)[k]*(Al n)[q]+a[k+q]+c=s at R;have D:0<=s:=ω;have a7:s<1000000000000000000:=ω;have I:C6 (s % 1000000000)=s % 1000000000:=H8 ω ω;refine .inl ⟨(s / 1000000000,((q+1:Nat):Int),a.set (k+q) (s % 1000000000)),?_,⟨q+1,rfl,ω,by simpa using x,b.set _ ω ω,?_,ω,ω,?_⟩,ζ⟩
      .simp only[e7,Am,Gn rfl h,Gn rfl g,O,Gn rfl u,Ag,Z,Y,X,V,U,hs,R,Mn D (show (0:Int)<1000000000 by decide),Nr D (show s<=_ by omega) (show (0:Int)<1000000000 by decide),I,e6,Ir rfl]
      .rw[drop_set_of_lt ω];exact f
      .rw[O1 _ u,Hq _ g];have:=Int.mul_ediv_add_emod s 1000000000;have p1:(1000000000:Int) ^ (k+(q+1))=1000000000 ^ (k+q)*1000000000:=(by rw[<-Nat.add_assoc,Int.pow_succ]);have p2:(1000000000:Int) ^ (k+q)=1000000000 ^ k*1000000000 ^ q:=Int.pow_add ..;rw[p1];grind
     .have:q=(Al n).length:=ω;subst this;refine .inr ⟨(c,_,a),by simp;rfl,x,b,f,B,p,?_⟩;rw[Dr,Hc]at z;exact z
    .rintro⟨c,j,a⟩ ⟨x,b,f,B,p,z⟩;have O:Ac ((k:Int)+((Al n).length:Int))=((k+(Al n).length:Nat):Int):=ξ;have u:k+(Al n).length<a.length:=ω;have I:C6 c=c:=H8 ω ω;have y:a[k+(Al n).length]=0:=(by have:=congrArg head? f;rw[head?_drop,Cs u]at this;have E:(replicate ((Al m).length-k) (0:Int)).head? = some 0:=(by cases hh:(Al m).length-k with| zero=>omega| succ t=>rfl);rw[E]at this;exact Fe this);refine⟨_,by simp only[O,Gn rfl u,Ag,I,T,Ir rfl];rfl,_,rfl,⟨k+1,rfl,ω,by simpa using x,b.set _ B p,?_,?_⟩,ζ⟩
     .rw[drop_set_of_lt ω,show k+1+(Al n).length=(k+(Al n).length)+1 by omega,<-drop_drop,f,drop_replicate];congr 1
     .rw[O1 _ u,y,Hq _ h,Int.add_mul,<-J];grind
   .have M:k=(Al m).length:=ω;subst M;refine .inr ⟨o,ψ,S,G,?_⟩;rw[Dr,Hc]at J;rw[J];simp
  .rintro o ⟨h2,h3,h4⟩;rw[Qz o ω,Ag,Qm h3 h4]
theorem Ana (a:List Int) (m:Nat) (g:Cf a) (X:a.length<1099511627776) (C:m<1000000000) : ∃o,Sy a m=some o/\o.length=a.length+1/\Cf o/\As o=As a*m:=by
 unfold Sy;have y:Ac ((a.length:Int)+1)=((a.length+1:Nat):Int):=by rw[Ac,B6] <;> omega
 rw[y,Ql rfl rfl (Nat.le_refl _) ω ω];simp only[Ag];refine F4 (λ(c,i,o)=>∃k:Nat,i=k/\k<=a.length/\o.length=a.length+1/\Cf o/\o.drop k=replicate (a.length+1-k) 0/\0<=c/\c<1000000000/\As o+1000000000 ^ k*c=As (a.take k)*m) (λ(_,i,_)=>a.length-i.toNat) (λ(c,o)=>o.length=a.length+1/\Cf o/\o.drop a.length = [0]/\0<=c/\c<1000000000/\As o+1000000000 ^ a.length*c=As a*m) ⟨0,rfl,ω,ψ,Cf.replicate _,ψ,ω,ω,by simp[As,Ald]⟩ ?_ ?_
 .rintro⟨c,i,o⟩ ⟨k,rfl,F,E,x,j,B,p,L⟩;rcases C9 k a.length with h|h
  .have e:=g.get h;have f:k<o.length:=ω;have J:=Afi e.1 e.2 (show (0:Int)<=m by omega) ω;have V:=Q2 h ω;have U:decide ((k:Int)<(a.length:Int))=true:=Ap ω;have I:Bh a[k]=a[k]:=E4 ω ω;have G:Bh (a[k]*(m:Int))=a[k]*m:=E4 ω ω;have D:Bh (a[k]*(m:Int)+c)=a[k]*m+c:=E4 ω ω;have b:o[k]=0:=(by have:=congrArg head? j;rw[head?_drop,Cs f]at this;have u:(replicate (a.length+1-k) (0:Int)).head? = some 0:=(by cases Y:a.length+1-k with| zero=>omega| succ t=>rfl);rw[u]at this;exact Fe this);generalize N:a[k]*(m:Int)+c=s at D;have q:0<=s:=ω;have M:s<1000000000000000000:=ω;have z:C6 (s % 1000000000)=s % 1000000000:=H8 ω ω;refine .inl ⟨(s / 1000000000,((k+1:Nat):Int),o.set k (s % 1000000000)),?_,⟨k+1,rfl,ω,by simpa using E,x.set _ ω ω,?_,ω,ω,?_⟩,ζ⟩
   .simp only[U,Am,Gn rfl h,Gn rfl f,Ag,I,G,N,D,Mn q (show (0:Int)<1000000000 by decide),Nr q (show s<=_ by omega) (show (0:Int)<1000000000 by decide),z,V,Ir rfl]
   .rw[drop_set_of_lt ω,<-drop_drop,j,drop_replicate];congr 1
   .rw[O1 _ f,b,Hq _ h,Int.pow_succ];have:=Int.mul_ediv_add_emod s 1000000000;grind
  .have A:k=a.length:=ω;subst A;refine .inr ⟨(c,o),ψ,E,x,by rw[j];simp,B,p,by rwa [Dr]at L⟩
 .rintro⟨c,o⟩ ⟨v,w,j,S,R,O⟩;have f:a.length<o.length:=ω;have z:C6 c=c:=H8 ω ω;have b:o[a.length]=0:=(by have:=congrArg head? j;rw[head?_drop,Cs f]at this;exact Fe this);refine⟨o.set a.length c,by simp only[Gn rfl f,Ag,z,Ir rfl],by simpa using v,w.set _ S R,?_⟩;rw[O1 _ f,b,<-O];grind
end Go.Ab
