/- Plain laws: what the plain functions answer. -/
import Derived.Test.YtphbdfhbonlpfaaGreatDoorRgDef
open List
namespace Go.Ab
open Go
variable {i:Nat} {E R S:Type} {α:Type _} {J:E->Option R} {l s t:List α} {X:Option (S⊕E)} {a b e:α}
theorem Ad {α β:Type} (a:α) (f:α->Option β):(some a).bind f=f a:=rfl
theorem B4 {α:Type} {l:List α} (h:i<l.length):l[i]? = some l[i]:=getElem?_eq_getElem h
theorem Bq {α:Type} {l:List α} {a:α} (h:l[i]? = some a):a∈l:=mem_of_getElem? h
theorem Dz (a b:Bool):((a&&b)=true)=(a=true/\b=true):=Bool.and_eq_true a b
theorem Eg:(!true)=false:=rfl
theorem Ak (a b:α):(bif true then a else b)=a:=rfl
theorem Am (a b:α):(bif false then a else b)=b:=rfl
theorem D8 {p:Prop} [Decidable p]:(decide p=true)=p:=decide_eq_true_eq
theorem Au {c:Prop} {h:Decidable c} (hc:¬c) {t:α}:(if c then t else e)=e:=if_neg hc
theorem Aw {c:Prop} {h:Decidable c} (hc:c) {t:α}:(if c then t else e)=t:=if_pos hc
theorem Cf (a b:Nat):a<b\/a>=b:=Nat.lt_or_ge a b
theorem Dq:l.take l.length=l:=take_length
theorem Im (h:l.length<=i):l.take i=l:=take_of_length_le h
theorem Fu:l.length=0↔l = []:=length_eq_zero_iff
theorem Hu (h:a∈l):∃i:Nat,l[i]? = some a:=getElem?_of_mem h
theorem I5 {p:α->Bool}:l.all p=true↔∀x,x∈l->p x=true:=all_eq_true
theorem Ef:a∈s++t↔a∈s\/a∈t:=mem_append
theorem Dc {β:Type _} (f:α->β):(l.map f).length=l.length:=length_map f
theorem Ew (h:some a=some b):a=b:=Option.some.inj h
theorem Eu:a::s++t=a::(s++t):=rfl
theorem E3:a∈[b]↔a=b:=mem_singleton
theorem E8:a∈b::l↔a=b\/a∈l:=mem_cons
theorem Ed:(a::l).length=l.length+1:=rfl
theorem E4:(s++t).length=s.length+t.length:=length_append
theorem Us (h:l.length<=i):l[i]? = none:=getElem?_eq_none h
theorem Jp {step:S->Option (S⊕E)} {s:S} {r:R} (c:S->Prop) (m:S->Nat) (b:E->Prop) (h0:c s) (f:∀s,c s->(∃s',step s=some (.inl s')/\c s'/\m s' < m s)\/(∃e,step s=some (.inr e)/\b e)) (g:∀e,b e->J e=some r):(An step s).bind J=some r:=by obtain⟨e,h1,h2⟩:=J2 c m b f s h0;rw[h1];exact g e h2
theorem Ey {step:S->Option (S⊕E)} {s:S} {Q:R->Prop} (c:S->Prop) (m:S->Nat) (b:E->Prop) (h0:c s) (f:∀s,c s->(∃s',step s=some (.inl s')/\c s'/\m s' < m s)\/(∃e,step s=some (.inr e)/\b e)) (g:∀e,b e->∃r,J e=some r/\Q r):∃r,(An step s).bind J=some r/\Q r:=by obtain⟨e,h1,h2⟩:=J2 c m b f s h0;rw[h1];exact g e h2
theorem Ae0 {Q:S->Prop} (h:∃r,X=some r/\∃s',r = .inl s'/\Q s'):∃s',X=some (.inl s')/\Q s':=by obtain⟨r,h1,s',rfl,h2⟩:=h;exact⟨s',h1,h2⟩
theorem A2j {Q:E->Prop} (h:∃r,X=some r/\∃e,r = .inr e/\Q e):∃e,X=some (.inr e)/\Q e:=by obtain⟨r,h1,s',rfl,h2⟩:=h;exact⟨s',h1,h2⟩
theorem Xj {A:Type} {X:Option R} (f:A->R) {Q:A->Prop} (h:∃r,X=some r/\∃a,r=f a/\Q a):∃a,X=some (f a)/\Q a:=by obtain⟨r,h1,a,rfl,h2⟩:=h;exact⟨a,h1,h2⟩
variable {a b i:Int} {n:Nat} {p:Prop} {α:Type} {l:List α}
theorem A2k {A R:Type} {X:Option A} {f g:A->Option R} (h:∀a,f a=g a):X.bind f=X.bind g:=by have:f=g:=funext h;rw[this]
theorem Aj8 {β:Type} {c:Prop} [Decidable c] (a b:Option α) (f:α->Option β):(if c then a else b).bind f=if c then a.bind f else b.bind f:=by split <;> rfl
theorem B6 {n:Int} (h1 : -9223372036854775808<=n) (h2:n<=9223372036854775807):IntKind.i64.wrap n=n:=by
 have e:IntKind.i64.wrap n=if 9223372036854775808<=n % 18446744073709551616 then n % 18446744073709551616-18446744073709551616 else n % 18446744073709551616:=by simp[IntKind.wrap,IntKind.bits,IntKind.signed]
 rw[e];split <;> omega
theorem Dy {n:Int} (h1:0<=n) (h2:n<=18446744073709551615):IntKind.u64.wrap n=n:=by
 have e:IntKind.u64.wrap n=n % 18446744073709551616:=by simp[IntKind.wrap,IntKind.bits,IntKind.signed]
 rw[e];omega
theorem Hn {n:Int} (h1:0<=n) (h2:n<=4294967295):IntKind.u32.wrap n=n:=by
 have e:IntKind.u32.wrap n=n % 4294967296:=by simp[IntKind.wrap,IntKind.bits,IntKind.signed]
 rw[e];omega
theorem Ez (hi:i=n) (h:n<l.length):Ag l i=some l[n]:=by subst hi;simp[Ag,h]
theorem Br {x:α} (hi:i=n) (h:l[n]? = some x):Ag l i=some x:=by subst hi;simp[Ag,h]
theorem Ho (hi:i=n) (x:α):Di l i x=l.set n x:=by subst hi;simp[Di]
theorem Dn {b:Nat} {xs ys:List α} (h:(xs.length+ys.length)*b<=140737488355328):Ca b xs ys=some (xs++ys):=by simp[Ca,h]
theorem Lm {b:Nat} {len f:Int} {z:α} {c:Nat} (h1:len=n) (h2:f=c) (h3:n<=c) (g:b*c<=281474976710656) (h:c<=140737488355328):Gz b len f z=some (replicate n z):=by subst h1;subst h2;have a1:(0:Int)<=(n:Int):=ω;have a2:(n:Int)<=(c:Int):=ω;have a3:(c:Int)<=140737488355328:=ω;simp[Gz,a2,a3,g]
theorem Aj9 {b:Nat} {f:Int} {z:α} {c:Nat} (h2:f=c) (h:b*c<=281474976710656) (g:c<=140737488355328):Gz b 0 f z=some []:=by exact Lm (len:=0) (n:=0) (c:=c) rfl h2 ω h g
theorem Cy (h:a≠b):(a==b)=false:=by simpa using h
theorem Fm (h:a=b):(a==b)=true:=by simpa using h
theorem D9 (h:a≠b):(a != b)=true:=by simpa using h
theorem Ea (h:a=b):(a != b)=false:=by simpa using h
theorem Ao [Decidable p] (h:p):decide p=true:=decide_eq_true h
theorem As [Decidable p] (h:¬p):decide p=false:=decide_eq_false h
theorem Ut {hi:Int} (h:hi=n) (b:n<=l.length):Er l 0 hi=some (l.take n):=by subst h;have:(n:Int)<=(l.length:Int):=ω;simp[Er,this]
theorem Mm (ha:0<=a) (hb:0<b):I3 a b=some (a % b):=by have:b≠0:=ω;simp[I3,this,Int.tmod_eq_emod_of_nonneg ha]
theorem Mn (ha:0<=a) (c:a<=18446744073709551615) (hb:0<b):Ia .u64 a b=some (a / b):=by have:b≠0:=ω;have h1:0<=a / b:=Int.ediv_nonneg ha ω;have h2:a / b<=a:=Int.ediv_le_self _ ha;simp[Ia,this,Int.tdiv_eq_ediv_of_nonneg ha];exact Dy h1 ω
theorem Arj (ha:0<=a) (c:a<=4294967295) (hb:0<b):Ia .u32 a b=some (a / b):=by have:b≠0:=ω;have h1:0<=a / b:=Int.ediv_nonneg ha ω;have h2:a / b<=a:=Int.ediv_le_self _ ha;simp[Ia,this,Int.tdiv_eq_ediv_of_nonneg ha];exact Hn h1 ω
def Ap:List Int->Int
 | []=>0
 | d::l=>d+1000000000*Ap l
def Ck (l:List Int):Prop:=∀d∈l,0<=d/\d<1000000000
def Nc (l:List Int):Prop:=∀d∈l,0<=d/\d<4294967296
def Can (l:List Int):Prop:=Ck l/\∀h:l≠[],l.getLast h≠0
def Ah (n:Nat):List Int:=if h:n=0 then [] else ((n % 1000000000:Nat):Int)::Ah (n / 1000000000)
termination_by n
decreasing_by exact Nat.div_lt_self ω δ
theorem Hc:Ah 0 = []:=by rw[Ah];simp
theorem Oh (h:n≠0):Ah n=((n % 1000000000:Nat):Int)::Ah (n / 1000000000):=by rw[Ah];simp[h]
theorem Ck.nil:Ck []:=λ_ h=>by cases h
theorem Ck.append {l m:List Int} (h:Ck l) (h':Ck m):Ck (l++m):=by
 intro d hd;rcases Ef.1 hd with hd|hd
 .exact h d hd
 .exact h' d hd
variable {d:Int} {l:List Int} {i n:Nat}
theorem Ck.one (h:0<=d) (h':d<1000000000):Ck [d]:=by intro x hx;simp at hx;subst hx;exact⟨h,h'⟩
theorem Ck.snoc (h:Ck l) (hd:0<=d) (b:d<1000000000):Ck (l++[d]):=h.append (Ck.one hd b)
theorem Ck.take (h:Ck l) (k:Nat):Ck (l.take k):=λd hd=>h d (mem_of_mem_take hd)
theorem Ck.drop (h:Ck l) (k:Nat):Ck (l.drop k):=λd hd=>h d (mem_of_mem_drop hd)
theorem Ck.get (h:Ck l) (hi:i<l.length):0<=l[i]/\l[i]<1000000000:=h _ (getElem_mem hi)
theorem Ck.set (h:Ck l) (i:Nat) (hd:0<=d) (b:d<1000000000):Ck (l.set i d):=by
 intro x hx;rcases mem_or_eq_of_mem_set hx with hx|rfl
 .exact h x hx
 .exact⟨hd,b⟩
theorem Ck.replicate (n:Nat):Ck (replicate n 0):=by intro d hd;have:=eq_of_mem_replicate hd;subst this;decide
theorem Ck.tail (h:Ck (d::l)):Ck l:=λx hx=>h x (by simp[hx])
theorem Ck.u32 (h:Ck l):Nc l:=λd hd=>by have:=h d hd;omega
theorem Ark (l m:List Int):Ap (l++m)=Ap l+1000000000 ^ l.length*Ap m:=by induction l with| nil=>simp[Ap]| cons d l ih=>simp only[Eu,Ap,ih,Ed,Int.pow_succ];grind
theorem Oi (l:List Int) (d:Int):Ap (l++[d])=Ap l+1000000000 ^ l.length*d:=by rw[Ark];simp[Ap]
theorem Hv (l:List Int) {k:Nat} (h:k<l.length):Ap (l.take (k+1))=Ap (l.take k)+1000000000 ^ k*l[k]:=by rw[take_succ_eq_append_getElem h,Oi];simp[Nat.min_eq_left (Nat.le_of_lt h)]
theorem Ae1 (n:Nat):Ap (replicate n 0)=0:=by induction n with| zero=>rfl| succ n ih=>simp[replicate_succ,Ap,ih]
theorem Pd (l:List Int) (k:Nat) (h:k<=l.length):Ap l=Ap (l.take k)+1000000000 ^ k*Ap (l.drop k):=by have e:=Ark (l.take k) (l.drop k);rw[take_append_drop]at e;rw[e,length_take,Nat.min_eq_left h]
theorem Nd (l:List Int) (h:i<l.length) (d:Int):Ap (l.set i d)=Ap l+1000000000 ^ i*(d-l[i]):=by
 induction l generalizing i with
 | nil=>simp at h
 | cons x l ih=>cases i with| zero=>simp[Ap];omega| succ i=>have hi:i<l.length:=(by simpa using h);simp only[set_cons_succ,Ap,ih hi,getElem_cons_succ,Int.pow_succ];grind
theorem Ip (h:Nc l):0<=Ap l:=by induction l with| nil=>simp[Ap]| cons d l ih=>have h1:=h d ψ;have h2:=ih (λx hx=>h x (by simp[hx]));simp only[Ap];omega
theorem L6 (n:Nat):(0:Int)<1000000000 ^ n:=Int.pow_pos δ
theorem Ln (h:Ck l):Ap l<1000000000 ^ l.length:=by induction l with| nil=>simp[Ap]| cons d l ih=>have h1:=h d ψ;have h2:=ih h.tail;simp only[Ap,Ed,Int.pow_succ];omega
theorem G7 (n:Nat):Ap (Ah n)=n:=by
 induction n using Nat.strongRecOn with
 | _ n ih=>
  by_cases h:n=0
  .subst h;rw[Hc];rfl
  .rw[Oh h,Ap,ih (n / 1000000000) (Nat.div_lt_self ω δ)];omega
theorem Gl (n:Nat):Ck (Ah n):=by
 induction n using Nat.strongRecOn with
 | _ n ih=>
  by_cases h:n=0
  .subst h;rw[Hc];exact Ck.nil
  .rw[Oh h];intro d hd;simp at hd;rcases hd with rfl|hd
   .omega
   .exact ih (n / 1000000000) (Nat.div_lt_self ω δ) d hd
theorem J5 (h:n≠0):Ah n≠[]:=by rw[Oh h];simp
theorem Ae2 (n:Nat):Can (Ah n):=by
 refine⟨Gl n,?_⟩;induction n using Nat.strongRecOn with
 | _ n ih=>
  intro b;have h:n≠0:=λe=>b (by rw[e];exact Hc);have hc:=Oh h;by_cases h2:n / 1000000000=0
  .have c:Ah n = [((n % 1000000000:Nat):Int)]:=(by rw[hc,h2,Hc]);simp only[c,getLast_singleton];omega
  .have:=ih (n / 1000000000) (Nat.div_lt_self ω δ) (J5 h2);simp only[hc];rwa [getLast_cons (J5 h2)]
theorem Aka (h:Can l):Ah (Ap l).toNat=l:=by induction l with| nil=>exact Hc| cons d l ih=>obtain⟨h1,h2⟩:=h;have hd:=h1 d ψ;have g:Can l:=(by refine⟨h1.tail,λb=>?_⟩;have:=h2 ψ;rwa [getLast_cons b]at this);have f:=Ip (h1.tail).u32;have b:(Ap (d::l)).toNat≠0:=(by intro e;simp only[Ap]at e;have c:d=0:=ω;have f:Ap l=0:=ω;have:l = []:=(by rw[<-ih g,f];exact Hc);subst this;exact h2 ψ (by simpa using c));rw[Oh b];simp only[Ap];have j:((d+1000000000*Ap l).toNat % 1000000000:Nat)=d.toNat:=ω;have i:(d+1000000000*Ap l).toNat / 1000000000=(Ap l).toNat:=ω;rw[j,i,ih g];congr 1;omega
theorem Akb (h:Can l) (b:Ap l=n):l=Ah n:=by rw[<-Aka h,b];rfl
def Iv:List Int->List Int
 | []=>[]
 | d::l=>match Iv l with
  | []=>if d=0 then [] else [d]
  | x::m=>d::x::m
theorem A2l (l:List Int):Iv (l++[0])=Iv l:=by induction l with| nil=>rfl| cons d l ih=>simp only[Eu,Iv,ih]
theorem A2m (h:d≠0):Iv (l++[d])=l++[d]:=by
 induction l with
 | nil=>simp[Iv,h]
 | cons x l ih=>simp only[Eu,Iv,ih];cases l with| nil=>rfl| cons y l=>rfl
theorem Arl (h:Ck l):Can (Iv l)/\Ap (Iv l)=Ap l:=by
 induction l with
 | nil=>exact⟨⟨Ck.nil,λh=>(h rfl).elim⟩,rfl⟩
 | cons d l ih=>
  obtain⟨⟨i1,i2⟩,i3⟩:=ih h.tail;have hd:=h d ψ;simp only[Iv];cases ht:Iv l with
  | nil=>
   rw[ht]at i3;simp only[Ap]at i3;simp only[];by_cases b:d=0
   .rw[Aw b];refine⟨⟨Ck.nil,λh=>(h rfl).elim⟩,?_⟩;simp only[Ap];rw[<-i3];omega
   .rw[Au b];refine⟨⟨Ck.one hd.1 hd.2,λ_=>by simpa using b⟩,?_⟩;simp only[Ap];rw[<-i3]
  | cons x m=>
   rw[ht]at i1 i2 i3;simp only[];refine⟨⟨?_,λ_=>?_⟩,?_⟩
   .intro y hy;rcases E8.1 hy with rfl|hy
    .exact hd
    .exact i1 y hy
   .rw[getLast_cons ψ];exact i2 ψ
   .simp only[Ap]at i3 ⊢;rw[i3]
theorem Mo (h:Ck l) (b:Ap l=n):Iv l=Ah n:=by obtain⟨h1,h2⟩:=Arl h;exact Akb h1 (h2.trans b)
theorem A2n (h:Can l):Iv l=l:=by obtain⟨h1,h2⟩:=Arl h.1;rw[<-Aka h1,h2,Aka h]
variable {j k m n:Nat} {E R S α:Type} {J:E->Option R} {l:List α} {r rf rt:R} {s0:S} {x:α} {p:α×Nat->Bool}
def Bp (n:Nat):Nat:=(Ah n).length
theorem Akc:Bp 0=0:=by simp[Bp,Hc]
theorem Oj (n:Nat):n<1000000000 ^ Bp n:=by have:=Ln (Gl n);rw[G7]at this;have e:((1000000000 ^ Bp n:Nat):Int)=1000000000 ^ Bp n:=ψ;unfold Bp at *;omega
theorem Ku (h:n<1000000000 ^ k):Bp n<=k:=by
 induction k generalizing n with
 | zero=>simp at h;subst h;simp[Akc]
 | succ k ih=>
  by_cases h0:n=0
  .subst h0;simp[Akc]
  .unfold Bp;rw[Oh h0,Ed];have:n / 1000000000<1000000000 ^ k:=(by rw[Nat.div_lt_iff_lt_mul δ];rwa [Nat.pow_succ]at h);have:=ih this;unfold Bp at this;omega
theorem L7 (h:m<=n):Bp m<=Bp n:=Ku (Nat.lt_of_le_of_lt h (Oj n))
theorem Arm (h:k<Bp n):1000000000 ^ k<=n:=by
 rcases Cf n (1000000000 ^ k) with h'|h'
 .have:=Ku h';omega
 .exact h'
theorem Arn (m n:Nat):Bp (m+n)<=max (Bp m) (Bp n)+1:=by apply Ku;have h1:=Oj m;have h2:=Oj n;have h3:1000000000 ^ Bp m<=1000000000 ^ max (Bp m) (Bp n):=Nat.pow_le_pow_right δ (Nat.le_max_left _ _);have b:1000000000 ^ Bp n<=1000000000 ^ max (Bp m) (Bp n):=Nat.pow_le_pow_right δ (Nat.le_max_right _ _);rw[Nat.pow_succ];omega
theorem Lo (m n:Nat):Bp (m*n)<=Bp m+Bp n:=by apply Ku;rw[Nat.pow_add];exact Nat.mul_lt_mul_of_lt_of_le (Oj m) (Nat.le_of_lt (Oj n)) (Nat.pow_pos δ)
theorem Akd (m n:Nat):Bp (m / n)<=Bp m:=L7 (Nat.div_le_self _ _)
theorem Aro (h:Bp m<Bp n):m<n:=Nat.lt_of_lt_of_le (Oj m) (Arm h)
theorem Arp {l m:List Int} (g:Ck l) (hk:k<l.length) (b:k<m.length) (f:Ck m) (hd:l.drop (k+1)=m.drop (k+1)) (c:l[k]<m[k]):Ap l<Ap m:=by have j:=Pd l (k+1) hk;have i:=Pd m (k+1) b;rw[Hv l hk]at j;rw[Hv m b,<-hd]at i;have h3:=Ln (g.take k);have q:=Ip ((f.take k).u32);rw[length_take,Nat.min_eq_left (Nat.le_of_lt hk)]at h3;have h:1000000000 ^ k*(l[k]+1)<=1000000000 ^ k*m[k]:=Int.mul_le_mul_of_nonneg_left c (Int.le_of_lt (L6 k));rw[Int.mul_add]at h;omega
theorem Lp {step:S->Option (S⊕E)} (n:Nat) (b:Nat->S) (h0:s0=b 0) (c:∀j,j<n->step (b j)=some (.inl (b (j+1)))) (he:∃e,step (b n)=some (.inr e)/\J e=some r):(An step s0).bind J=some r:=by
 have key:∀m,m<=n->An step (b 0)=An step (b m):=by intro m;induction m with| zero=>intro _;rfl| succ m ih=>intro h;rw[ih ω,Ks (c m ω)]
 obtain⟨e,h1,h2⟩:=he;rw[h0,key n (Nat.le_refl _),Fg h1];exact h2
theorem C5 (h:j<n) (b:n<4611686018427387904):Aa ((j:Int)+1)=((j+1:Nat):Int):=by rw[Aa,B6] <;> omega
theorem Arq (h:l.zipIdx.all p=false):∃j x,l[j]? = some x/\p (x,j)=false/\∀i y,i<j->l[i]? = some y->p (y,i)=true:=by
 have key:∀(n:Nat),(∀i y,i<n->l[i]? = some y->p (y,i)=true)\/∃j x,j<n/\l[j]? = some x/\p (x,j)=false/\∀i y,i<j->l[i]? = some y->p (y,i)=true:=by
  intro n;induction n with
  | zero=>exact .inl (λi y h=>ω)
  | succ n ih=>
   rcases ih with ih|⟨j,x,h1,h2,h3,b⟩
   .cases hx:l[n]? with
    | none=>exact .inl (λi y hi hy=>by
      rcases Cf i n with h|h
      .exact ih i y h hy
      .have:i=n:=ω
       subst this;rw[hx]at hy;cases hy)
    | some x=>
     cases hp:p (x,n) with
     | true=>exact .inl (λi y hi hy=>by
       rcases Cf i n with h|h
       .exact ih i y h hy
       .have:i=n:=ω
        subst this;rw[hx]at hy;cases hy;exact hp)
     | false=>exact .inr ⟨n,x,ω,hx,hp,ih⟩
   .exact .inr ⟨j,x,ω,h2,h3,b⟩
 rcases key l.length with hk|⟨j,x,h1,h2,h3,b⟩
 .exfalso;have:l.zipIdx.all p=true:=by
   rw[I5];rintro⟨y,i⟩ hy;have:=mk_mem_zipIdx_iff_getElem?.1 hy;have hi:i<l.length:=by
    rcases Cf i l.length with h|h
    .exact h
    .rw[Us h]at this;cases this
   exact hk i y hi this
  rw[this]at h;cases h
 .exact⟨j,x,h2,h3,b⟩
theorem Jq (h:l.zipIdx.all p=true) (hx:l[j]? = some x):p (x,j)=true := I5.1 h _ (mk_mem_zipIdx_iff_getElem?.2 hx)
theorem Ae3 (h:∀j x,l[j]? = some x->p (x,j)=true):l.zipIdx.all p=true:=by rw[I5];rintro⟨y,i⟩ hy;exact h i y (mk_mem_zipIdx_iff_getElem?.1 hy)
theorem Uu {step:S->Option (S⊕E)} (l:List α) (p:α×Nat->Bool) (b:Nat->S) (h0:s0=b 0) (g:l.length<4611686018427387904) (f:∀(j:Nat) (x:α),l[j]? = some x->(∀i y,i<j->l[i]? = some y->p (y,i)=true)->decide ((j:Int)<(l.length:Int))=true->Ag l (j:Int)=some x->Aa ((j:Int)+1)=((j+1:Nat):Int) -> (p (x,j)=true->step (b j)=some (.inl (b (j+1))))/\(p (x,j)=false->∃e,step (b j)=some (.inr e)/\J e=some rf)) (he:decide ((l.length:Int)<(l.length:Int))=false->l.zipIdx.all p=true->∃e,step (b l.length)=some (.inr e)/\J e=some rt):(An step s0).bind J=some (bif l.zipIdx.all p then rt else rf):=by
 have c:∀(j:Nat) (x:α),l[j]? = some x->(∀i y,i<j->l[i]? = some y->p (y,i)=true)->_:=λj x hx hy=>
  have hj:j<l.length:=by
   rcases Cf j l.length with h|h
   .exact h
   .rw[Us h]at hx;cases hx
  f j x hx hy (Ao ω) (Br rfl hx) (C5 hj g)
 cases hb:l.zipIdx.all p with
 | true=>refine Lp l.length b h0 (λj hj=>?_) (he ψ hb);have hx:l[j]? = some l[j]:=B4 hj;exact (c j _ hx (λi y _ hy=>Jq hb hy)).1 (Jq hb hx)
 | false=>
  obtain⟨j,x,h1,h2,h3⟩:=Arq hb;refine Lp j b h0 (λi hi=>?_) ((c j x h1 h3).2 h2);have hj:j<l.length:=by
   rcases Cf j l.length with h|h
   .exact h
   .rw[Us h]at h1;cases h1
  have hx:l[i]? = some l[i]:=B4 ω;exact (c i _ hx (λk y hk hy=>h3 k y ω hy)).1 (h3 i _ hi hx)
theorem Ae4 (l:List α) (p:α->Bool):l.zipIdx.all (λq=>p q.1)=l.all p:=by
 cases h:l.all p with
 | true=>exact Ae3 λj x hx=>I5.1 h _ (Bq hx)
 | false=>cases h':l.zipIdx.all (λq=>p q.1) with| false=>rfl| true=>rw[<-h];symm;rw[I5];intro x hx;obtain⟨j,hj⟩:=Hu hx;exact Jq h' hj
theorem Sc {step:S->Option (S⊕E)} (l:List α) (p:α->Bool) (b:Nat->S) (h0:s0=b 0) (f:l.length<4611686018427387904) (c:∀(j:Nat) (x:α),l[j]? = some x->decide ((j:Int)<(l.length:Int))=true->Ag l (j:Int)=some x->Aa ((j:Int)+1)=((j+1:Nat):Int) -> (p x=true->step (b j)=some (.inl (b (j+1))))/\(p x=false->∃e,step (b j)=some (.inr e)/\J e=some rf)) (he:decide ((l.length:Int)<(l.length:Int))=false->∃e,step (b l.length)=some (.inr e)/\J e=some rt):(An step s0).bind J=some (bif l.all p then rt else rf):=by rw[<-Ae4 l p];exact Uu l (λq=>p q.1) b h0 f (λj x hx _=>c j x hx) (λh _=>he h)
theorem F2 {step:S->Option (S⊕E)} (l:List α) (b:Nat->S) (h0:s0=b 0) (f:l.length<4611686018427387904) (c:∀(j:Nat) (x:α),j<l.length->l[j]? = some x->decide ((j:Int)<(l.length:Int))=true->Ag l (j:Int)=some x->Aa ((j:Int)+1)=((j+1:Nat):Int)->step (b j)=some (.inl (b (j+1)))) (he:decide ((l.length:Int)<(l.length:Int))=false->∃e,step (b l.length)=some (.inr e)/\J e=some r):(An step s0).bind J=some r:=by refine Lp l.length b h0 (λj hj=>?_) (he ψ);have hx:l[j]? = some l[j]:=B4 hj;exact c j _ hj hx (Ao ω) (Br rfl hx) (C5 hj f)
theorem Db (h:l[j]? = some x):l.take (j+1)=l.take j++[x]:=by rw[take_add_one,h];rfl
theorem Eh (h:l[j]? = some x):j<l.length:=by
 rcases Cf j l.length with h'|h'
 .exact h'
 .rw[Us h']at h;cases h
theorem Qm (b:Bool):(bif b then true else false)=b:=by cases b <;> rfl
theorem A2o (b:Bool):(bif b then false else true) = !b:=by cases b <;> rfl
theorem Aaw {A:Type} {X:Option A} {f:A->Option R} {y:R} {Q:A->Prop} (h:∃r,X=some r/\Q r) (hf:∀r,Q r->f r=some y):X.bind f=some y:=by obtain⟨r,h1,h2⟩:=h;rw[h1];exact hf r h2
theorem Arr (l:List α) (p:α->Bool) {step:Int->Option (Int⊕(Int⊕Unit))} {J:Int⊕Unit->Option Int} (k:l.length<4611686018427387904) (g:∀(j:Nat) (x:α),x∈l->decide ((j:Int)<(l.length:Int))=true->Ag l (j:Int)=some x->Aa ((j:Int)+1)=((j+1:Nat):Int) -> step (j:Int)=bif p x then some (.inr (.inl (j:Int))) else some (.inl ((j+1:Nat):Int))) (he:decide ((l.length:Int)<(l.length:Int))=false->step (l.length:Int)=some (.inr (.inr ()))) (c:∀i,J (.inl i)=some i) (b:J (.inr ())=some (-1)):∃i,(An step 0).bind J=some i/\decide (i>=0)=l.any p:=by
 have key:(An step 0).bind (λz=>(J z).bind λi=>some (decide (i>=0)))=some (bif l.all (λx=>!p x) then false else true):=by refine Sc l (λx=>!p x) (λj=>(j:Int)) rfl k (λj x hx h1 h2 h3=>?_) (λh=>⟨.inr (),he h,by rw[b];rfl⟩);have h:=g j x (Bq hx) h1 h2 h3;simp only[h];cases p x with| true=>exact⟨nofun,λ_=>⟨.inl (j:Int),rfl,by simp only[c,Ad];rw[Ao ω]⟩⟩| false=>exact⟨λ_=>rfl,λh=>by cases h⟩
 have e:l.any p=(bif l.all (λx=>!p x) then false else true):=by rw[A2o,not_all_eq_any_not];simp
 rw[e];cases f:An step 0 with
 | none=>rw[f]at key;cases key
 | some z=>rw[f,Ad]at key;rw[Ad];cases hi:J z with| none=>rw[hi]at key;cases key| some i=>rw[hi,Ad]at key;exact⟨i,rfl,Ew key⟩
theorem Aax {M:Type} {step:S->Option (S⊕E)} (l:List α) (p:α×Nat->Bool) (b:Nat->M->S) (I:M->Prop) (z A:R->Prop) (g:M) (h0:s0=b 0 g) (h:I g) (D:l.length<4611686018427387904) (B:∀(j:Nat) (x:α) (m:M),I m->l[j]? = some x->(∀i y,i<j->l[i]? = some y->p (y,i)=true)->decide ((j:Int)<(l.length:Int))=true->Ag l (j:Int)=some x->Aa ((j:Int)+1)=((j+1:Nat):Int) -> (p (x,j)=true->∃f,step (b j m)=some (.inl (b (j+1) f))/\I f)/\(p (x,j)=false->∃e,step (b j m)=some (.inr e)/\∃r,J e=some r/\A r)) (he:∀m,I m->decide ((l.length:Int)<(l.length:Int))=false->l.zipIdx.all p=true->∃e,step (b l.length m)=some (.inr e)/\∃r,J e=some r/\z r) : ∃r,(An step s0).bind J=some r/\((l.zipIdx.all p=true/\z r)\/(l.zipIdx.all p=false/\A r)):=by
 have c:∀(j:Nat) (x:α) (m:M),I m->l[j]? = some x->(∀i y,i<j->l[i]? = some y->p (y,i)=true)->_:=λj x m G hx hy=>
  have hj:j<l.length:=Eh hx
  B j x m G hx hy (Ao ω) (Br rfl hx) (C5 hj D)
 have key:∀n,n<=l.length->(∀i y,i<n->l[i]? = some y->p (y,i)=true)->∃m,I m/\An step s0=An step (b n m):=by intro n;induction n with| zero=>intro _ _;exact⟨g,h,by rw[h0]⟩| succ n ih=>intro N hy;obtain⟨m,h1,h2⟩:=ih ω (λi y hi=>hy i y ω);have hx:l[n]? = some l[n]:=B4 ω;obtain⟨f,h3,k⟩:=(c n _ m h1 hx (λi y hi=>hy i y ω)).1 (hy n _ ω hx);exact⟨f,k,by rw[h2,Ks h3]⟩
 cases hb:l.zipIdx.all p with| true=>obtain⟨m,h1,h2⟩:=key l.length (Nat.le_refl _) (λi y _ hy=>Jq hb hy);obtain⟨e,u,r,s,q⟩:=he m h1 ψ hb;exact⟨r,by rw[h2,Fg u];exact s,.inl ⟨rfl,q⟩⟩| false=>obtain⟨j,x,h1,h2,h3⟩:=Arq hb;obtain⟨m,k,L⟩:=key j (Nat.le_of_lt (Eh h1)) h3;obtain⟨e,u,r,s,q⟩:=(c j x m k h1 h3).2 h2;exact⟨r,by rw[L,Fg u];exact s,.inr ⟨rfl,q⟩⟩
mutual
def Bl:Af->Nat
 | ⟨_,_,l⟩=>1+Dd l
def Dd:List Af->Nat
 | []=>0
 | x::xs=>Bl x+Dd xs
end
theorem Iq (t:Af):Bl t=1+Dd t.R:=by cases t;simp only[Bl]
theorem Ol (t:Af):1<=Bl t:=by rw[Iq];omega
theorem Iw {l:List Af} {a:Af} (h:a∈l):Bl a<=Dd l:=by
 induction l with
 | nil=>cases h
 | cons x xs ih=>
  simp only[Dd];rcases E8.1 h with rfl|h
  .omega
  .have:=ih h;omega
theorem Jr (l:List Af):l.length<=Dd l:=by induction l with| nil=>simp| cons x xs ih=>simp only[Dd,Ed];have:=Ol x;omega
theorem Ae5 (l m:List Af):Dd (l++m)=Dd l+Dd m:=by induction l with| nil=>simp[Dd]| cons x xs ih=>simp only[Eu,Dd,ih];omega
def Mp (data:List Al) (vars k n:Int) (len:Nat):Bool := if k=1\/k=2\/k=3 then n==0&&len==0 else if k=4 then decide (0<=n)&&decide (n<vars)&&len==0 else if k=5 then decide (0<=n)&&(match data[n.toNat]? with|some d=>(len:Int)==d.V|none=>false) else if k=6 then n==0&&decide (2<=len)&&decide (len<=6) else if k=7\/k=8 then n==0&&len==1 else if k=9 then n==0&&decide (1<=len)&&decide (len<=7) else false
mutual
def He (data:List Al) (vars:Int):Af->Bool
 | ⟨k,n,l⟩=>Mp data vars k n l.length&&F3 data vars l
def F3 (data:List Al) (vars:Int):List Af->Bool
 | []=>true
 | x::xs=>He data vars x&&F3 data vars xs
end
variable {i:Int} {l:List Af} {j:Nat} {R α:Type}
theorem Ae6 (data:List Al) (vars:Int) (t:Af):He data vars t=(Mp data vars t.G t.U t.R.length&&F3 data vars t.R):=by cases t;simp only[He]
theorem Ars (l:List α) (n:Nat):((l.length:Int)==(n:Int))=(l.length==n):=by
 by_cases h:l.length=n
 .subst h;simp
 .rw[Cy ω];simp[h]
theorem A2p (k:Nat) (t:Af) (data:List Al) (vars left:Int) (h1:1<=left) (h2:left<=1000) : Oa (k+1) t ⟨data,vars,left⟩=bif Mp data vars t.G t.U t.R.length then ((Xc k t.R ⟨data,vars,left-1⟩).bind λv12=>some ((!v12.1),v12.2)) else some (false,⟨data,vars,left-1⟩):=by have hw:Aa (left-1)=left-1:=B6 ω ω;have b:¬left-1<0:=ω;rw[Oa];simp only[hw,As b,Am];generalize g:(Xc k t.R ⟨data,vars,left-1⟩).bind (λv12=>some ((!v12.1),v12.2))=X;generalize f:(some (false,⟨data,vars,left-1⟩):Option (Bool×H7))=Y;unfold Mp Ag;generalize t.R.length=len;generalize t.G=c;generalize t.U=n;cases hd:data[n.toNat]? <;> simp only[Bool.cond_eq_ite,Aj8,Ad,Option.bind_none,hd] <;> grind
theorem Aay (h:j<l.length):Dd (l.take (j+1))=Dd (l.take j)+Bl l[j]:=by rw[take_succ_eq_append_getElem h,Ae5];simp[Dd]
theorem Art (data:List Al) (vars:Int) (l m:List Af):F3 data vars (l++m)=(F3 data vars l&&F3 data vars m):=by induction l with| nil=>simp[F3]| cons x xs ih=>simp only[Eu,F3,ih,Bool.and_assoc]
theorem Ae7 (data:List Al) (vars:Int) (h:j<l.length):F3 data vars (l.take (j+1))=(F3 data vars (l.take j)&&He data vars l[j]):=by rw[take_succ_eq_append_getElem h,Art];simp[F3]
theorem Aaz (l:List Af) (j:Nat):Dd (l.take j)<=Dd l:=by have:=Ae5 (l.take j) (l.drop j);rw[take_append_drop]at this;omega
theorem Aru (data:List Al) (vars:Int) (l:List Af) (j:Nat) (h:F3 data vars l=true):F3 data vars (l.take j)=true:=by have:=Art data vars (l.take j) (l.drop j);rw[take_append_drop,h]at this;have:=this.symm;simp only[Dz]at this;exact this.1
theorem A2q (data:List Al) (vars:Int) (k:Nat) (l:List Af) (c:Nat) (G:l.length<1099511627776) (ih:∀(a:Af),a∈l->∀f:Nat,f<=c->∃g:Int,Oa k a ⟨data,vars,f⟩=some (He data vars a&&decide (Bl a<=f),⟨data,vars,g⟩)/\((He data vars a&&decide (Bl a<=f))=true->g=(f:Int)-Bl a)) : ∃p:Int×Int,Aar (k+2) l ⟨data,vars,c⟩=some (p.1,⟨data,vars,p.2⟩)/\((F3 data vars l&&decide (Dd l<=c))=true->p.1 = -1/\p.2=(c:Int)-Dd l)/\((F3 data vars l&&decide (Dd l<=c))=false->0<=p.1):=by
 rw[Aar];refine Xj (λp:Int×Int=>(p.1,H7.mk data vars p.2)) (Ey (λ(v3,v4,v5,s)=>∃j:Nat,v3=j/\j<=l.length/\v4=data/\v5=vars/\F3 data vars (l.take j)=true/\Dd (l.take j)<=c/\s=(c:Int)-Dd (l.take j)) (λ(v3,_,_,_)=>l.length-v3.toNat) (λz=>match z with|.inl (i,b)=>0<=i/\(∃g,b=⟨data,vars,g⟩)/\(F3 data vars l&&decide (Dd l<=c))=false | .inr (v4,v5,s)=>v4=data/\v5=vars/\(F3 data vars l&&decide (Dd l<=c))=true/\s=(c:Int)-Dd l) ⟨0,rfl,ω,rfl,rfl,rfl,by simp[Dd],by simp[Dd]⟩ ?_ ?_)
 .rintro⟨v3,v4,v5,s⟩ ⟨j,rfl,hj,rfl,rfl,x,A,rfl⟩;rcases Cf j l.length with h|h
  .obtain⟨u,y⟩:∃u:Nat,(c:Int)-Dd (l.take j)=u/\u<=c:=⟨c-Dd (l.take j),ω,ω⟩;obtain⟨g,E,D⟩:=ih l[j] (getElem_mem h) u y.2;simp only[Ao (ω:(j:Int)<(l.length:Int)),Ak,Ez rfl h,Ad,Zy,y.1,E];cases hb:(He v4 v5 l[j]&&decide (Bl l[j]<=u)) with
   | true=>
    have I:=D hb;simp only[Dz,D8]at hb;refine .inl ⟨(((j+1:Nat):Int),v4,v5,g),?_,⟨j+1,rfl,ω,rfl,rfl,?_,?_,?_⟩,ζ⟩
    .simp only[Eg,Am];rw[show Aa ((j:Int)+1)=((j+1:Nat):Int) by rw[Aa,B6] <;> omega]
    .rw[Ae7 _ _ h,x,hb.1];rfl
    .rw[Aay h];omega
    .show g=_;rw[Aay h];omega
   | false=>refine .inr ⟨.inl ((j:Int),⟨v4,v5,g⟩),ψ,ω,⟨g,rfl⟩,?_⟩;cases q:(F3 v4 v5 l&&decide (Dd l<=c)) with| false=>rfl| true=>exfalso;simp only[Dz,D8]at q;have a1:=Aru v4 v5 l (j+1) q.1;rw[Ae7 _ _ h]at a1;simp only[Dz]at a1;have a2:=Aaz l (j+1);rw[Aay h]at a2;rw[a1.2,Bool.true_and,decide_eq_false_iff_not]at hb;omega
  .have:j=l.length:=ω;subst this;rw[Dq]at *;refine .inr ⟨.inr (v4,v5,(c:Int)-Dd l),ψ,rfl,rfl,by simp[x,A],rfl⟩
 .rintro (⟨i,b⟩|⟨v4,v5,s⟩) B
  .obtain⟨a1,⟨g,rfl⟩,a3⟩:=B;exact⟨_,rfl,(i,g),rfl,(λh=>by rw[a3]at h;cases h),λ_=>a1⟩
  .obtain⟨rfl,rfl,a3,rfl⟩:=B;exact⟨_,rfl,(-1,_),rfl,λ_=>⟨rfl,rfl⟩,λh=>by rw[a3]at h;cases h⟩
theorem A2r (data:List Al) (vars:Int):∀(left:Nat) (t:Af) (k:Nat),left<=200->4*left+4<=k->Bl t<1099511627776 -> ∃f:Int,Oa k t ⟨data,vars,left⟩=some (He data vars t&&decide (Bl t<=left),⟨data,vars,f⟩)/\((He data vars t&&decide (Bl t<=left))=true->f=(left:Int)-Bl t):=by
 intro left;induction left using Nat.strongRecOn with
 | _ left s=>
  intro t k B hk ht;have hp:=Ol t;obtain⟨g,rfl⟩:∃g,k=g+1:=⟨k-1,ω⟩;cases left with
  | zero=>refine⟨-1,?_,λh=>by simp at h;omega⟩;rw[Oa];have hd:decide (Bl t<=0)=false:=As ω;rw[hd,Bool.and_false];rfl
  | succ b=>
   rw[A2p g t data vars ((b+1:Nat):Int) ω ω];have z:((b+1:Nat):Int)-1=(b:Int):=ω;rw[z,Ae6];cases A:Mp data vars t.G t.U t.R.length with
   | false=>exact⟨b,ψ,λh=>by simp at h⟩
   | true=>
    obtain⟨q,rfl⟩:∃q,g=q+3:=⟨g-3,ω⟩;have j:=Iq t;have x:=Jr t.R;obtain⟨⟨i,f⟩,h1,h2,h3⟩:=A2q data vars q t.R b ω (λa ha c y=>by have:=Iw ha;exact s c ω a q ω ω ω);have l:decide (Bl t<=b+1)=decide (Dd t.R<=b):=(by rw[j];congr 1;simp only[eq_iff_iff];omega);simp only[Ak,Xc,h1,Ad,Bool.true_and,l];refine⟨f,?_,λh=>?_⟩
    .cases hb:(F3 data vars t.R&&decide (Dd t.R<=b)) with| true=>have u:i = -1:=(h2 hb).1;rw[As (ω:¬i>=0)];rfl| false=>have u:0<=i:=h3 hb;rw[Ao (ω:i>=0)];rfl
    .have u:f=(b:Int)-Dd t.R:=(h2 h).2;rw[u,j];omega
theorem Aa0 (data:List Al) (t:Af) (vars:Int) (ht:Bl t<1099511627776):P9 data t vars=some (He data vars t&&decide (Bl t<=200)):=by unfold P9;obtain⟨b,h1,_⟩:=A2r data vars 200 t 4000000 δ δ ht;have h1:Oa 4000000 t ⟨data,vars,200⟩=_:=h1;rw[h1];rfl
theorem Arv:∀(k:Nat) (t:Af),Bl t<=k->Bl t<1099511627776->Qd k t=some (Bl t:Int):=by
 intro k;induction k with
 | zero=>intro t h;have:=Ol t;omega
 | succ k ih=>
  intro t h ht;have c:=Iq t;have f:=Jr t.R;rw[Qd];refine Jp (λ(n,i)=>∃j:Nat,i=j/\j<=t.R.length/\n=1+(Dd (t.R.take j):Int)) (λ(_,i)=>t.R.length-i.toNat) (λn=>n=(Bl t:Int)) ⟨0,rfl,ω,by simp[Dd]⟩ ?_ (by rintro n rfl;rfl);rintro⟨n,i⟩ ⟨j,rfl,hj,rfl⟩;rcases Cf j t.R.length with h'|h'
  .have l:=Iw (getElem_mem h');have g:=Aaz t.R j;have b:=Aaz t.R (j+1);rw[Aay h']at b;refine .inl ⟨(1+(Dd (t.R.take (j+1)):Int),((j+1:Nat):Int)),?_,⟨j+1,rfl,ω,rfl⟩,ζ⟩;simp only[Ao (ω:(j:Int)<(t.R.length:Int)),Ak,Ez rfl h',Ad,ih t.R[j] ω ω];rw[show Aa ((j:Int)+1)=((j+1:Nat):Int) by rw[Aa,B6] <;> omega,show Aa (1+(Dd (t.R.take j):Int)+(Bl t.R[j]:Int))=1+(Dd (t.R.take (j+1)):Int) by rw[Aay h',Aa,B6] <;> omega]
  .have:j=t.R.length:=ω;subst this;exact .inr ⟨1+(Dd t.R:Int),ψ,by rw[c];omega⟩
theorem A2s (data:List Al) (vars:Int):∀(k:Nat) (t:Af),Bl t<=k->Bl t<1099511627776->Rq k data t vars=some (He data vars t):=by
 intro k;induction k with
 | zero=>intro t h;have:=Ol t;omega
 | succ k ih=>
  intro t h ht;have A:=Iq t;have l:=Jr t.R;have c:(An (S:=Int) (E:=(Bool⊕Unit)) (λv8=>bif v8<(t.R.length:Int) then ((Ag t.R v8).bind λv9=>(Rq k data v9 vars).bind λx=>bif (!x) then some (.inr (.inl false)) else some (.inl (Aa (v8+1)))) else some (.inr (.inr ()))) 0).bind (λz=>match z with|.inl y=>some y | .inr _=>some true)=some (F3 data vars t.R):=by
   refine Jp (λi=>∃j:Nat,i=j/\j<=t.R.length/\F3 data vars (t.R.take j)=true) (λi=>t.R.length-i.toNat) (λz=>match z with|.inl r=>r=F3 data vars t.R | .inr _=>F3 data vars t.R=true) ⟨0,rfl,ω,by simp[F3]⟩ ?_ ?_
   .rintro i ⟨j,rfl,hj,f⟩;rcases Cf j t.R.length with h'|h'
    .have I:=Iw (getElem_mem h');simp only[Ao (ω:(j:Int)<(t.R.length:Int)),Ak,Ez rfl h',Ad,ih t.R[j] ω ω];cases hb:He data vars t.R[j] with
     | true=>refine .inl ⟨((j+1:Nat):Int),?_,⟨j+1,rfl,ω,by rw[Ae7 _ _ h',f,hb];rfl⟩,ζ⟩;simp only[Eg,Am];rw[show Aa ((j:Int)+1)=((j+1:Nat):Int) by rw[Aa,B6] <;> omega]
     | false=>refine .inr ⟨.inl false,ψ,?_⟩;show false=_;cases q:F3 data vars t.R with| false=>rfl| true=>have a1:=Aru data vars t.R (j+1) q;rw[Ae7 _ _ h',hb,Bool.and_false]at a1;cases a1
    .have:j=t.R.length:=ω;subst this;rw[Dq]at f;exact .inr ⟨.inr (),ψ,f⟩
   .rintro (r|u) s
    .simp only at s ⊢;rw[s]
    .simp only at s ⊢;rw[s]
  rw[Rq,Ae6];refine Eq.trans (b:=Option.bind _ (λz:Bool⊕Unit=>match z with|.inl D=>some D | .inr _=>some (F3 data vars t.R))) (A2k ?_) ?_
  .rintro (r|u)
   .rfl
   .exact c
  have g:t.R.length=0->F3 data vars t.R=true:=(by intro e;rw[Fu.1 e];rfl);unfold Mp Ag;clear c ih h ht A l;generalize F3 data vars t.R=X at *;generalize t.R.length=len at *;generalize t.G=G;generalize t.U=n;by_cases B:len=0
  .have hx:=g B;subst B;subst hx;cases hd:data[n.toNat]? <;> simp only[Bool.cond_eq_ite,Aj8,Ad,Option.bind_none,hd] <;> grind
  .have h0:((len:Int)==0)=false:=Cy ω;have h1:(len==0)=false:=(by simpa using B);have h2:((len:Int) != 1)=(!(len==1)):=by
    by_cases h:len=1
    .subst h;rfl
    .rw[D9 ω];simp[h]
   cases hd:data[n.toNat]? <;> simp only[h0,h1,h2,Bool.cond_eq_ite,Aj8,Ad,Option.bind_none,hd,Bool.and_false,Bool.false_and] <;> grind
theorem Ake (data:List Al) (t:Af) (vars:Int) (ht:Bl t<=4000000):P7 data t vars=some (He data vars t&&decide (Bl t<=200)):=by
 unfold P7;rw[Arv 4000000 t ht ω,Ad,A2s data vars 4000000 t ht ω];by_cases h:Bl t<=200
 .rw[Ao (ω:(Bl t:Int)<=200),Ao h];simp
 .rw[As (ω:¬(Bl t:Int)<=200),As h];simp
def Qo (a:Af) (i:Int):Bool:=a.G==4&&a.U==i&&a.R.length==0
def Arw (l:List Af):Bool:=l.zipIdx.all λq=>Qo q.1 q.2
def J6 (t:Af) (d vars:Int):Bool:=t.G==5&&t.U==d&&(t.R.length:Int)==vars&&Arw t.R
theorem Arx (t:Af) (d vars:Int) (ht:t.R.length<1099511627776):Rp t d vars=some (J6 t d vars):=by
 unfold Rp J6;by_cases h1:t.G=5
 .by_cases h2:t.U=d
  .by_cases h3:(t.R.length:Int)=vars
   .simp only[Ea h1,Ea h2,Ea h3,Am,Ad,Fm h1,Fm h2,Fm h3,Bool.true_and];refine (Uu t.R (λq=>Qo q.1 q.2) (λj=>(j:Int)) rfl ω (rt:=true) (rf:=false) ?_ ?_).trans (by rw[Qm];rfl)
    .intro j x hx _ hd hi hw;simp only[hd,hi,hw,Ak,Ad,Qo];constructor
     .intro h;simp only[Dz,beq_iff_eq]at h;simp[h.1.1,h.1.2,h.2]
     .intro h;by_cases g1:x.G=4
      .by_cases g2:x.U=j
       .by_cases g3:x.R.length=0
        .simp[g1,g2,g3]at h
        .exact⟨.inl false,by simp only[Ea g1,Ea g2,Am];rw[Ao ω];rfl,rfl⟩
       .exact⟨.inl false,by simp only[Ea g1,D9 g2,Am];rfl,rfl⟩
      .exact⟨.inl false,by simp only[D9 g1];rfl,rfl⟩
    .intro hd _;exact⟨.inr (),by simp only[hd];rfl,rfl⟩
   .simp only[Ea h1,Ea h2,D9 h3,Am,Ak,Ad,Cy h3,Bool.and_false,Bool.false_and]
  .simp only[Ea h1,D9 h2,Am,Ak,Ad,Cy h2,Bool.and_false,Bool.false_and]
 .simp only[D9 h1,Ak,Ad,Cy h1,Bool.false_and]
def G8 (data:List Al) (d c:Int):List Bool := match Ag data d with
 | none=>[]
 | some x=>match Ag x.O c with
  | none=>[]
  | some y=>y.R.map λt=>J6 t d x.V
theorem G9 {l:List α} {x:α} (h:Ag l i=some x):0<=i/\i<l.length/\l[i.toNat]? = some x/\x∈l:=by
 unfold Ag at h;split at h
 .have h1:i.toNat<l.length:=Eh h;exact⟨by assumption,ω,h,Bq h⟩
 .cases h
theorem Sd {l:List α} (h:Ag l i=none):i<0\/(l.length:Int)<=i:=by
 unfold Ag at h;split at h
 .rw[List.getElem?_eq_none_iff]at h;right;omega
 .left;omega
theorem Ary (data:List Al) (d c:Int) (F:Al->Oe->Option R) (z:R) (X:Option R) (f:X=((bif d<(0:Int) then some true else bif d>=(data.length:Int) then some true else bif c<(0:Int) then some true else (Ag data d).bind λb=>some (decide (c>=(b.O.length:Int))):OB).bind λv2=>bif v2 then some z else (Ag data d).bind λv3=>(Ag v3.O c).bind λv4=>F v3 v4)) : X=match Ag data d with
   | none=>some z
   | some x=>match Ag x.O c with
    | none=>some z
    | some y=>F x y:=by
 subst f;cases hx:Ag data d with
 | none=>
  rcases Sd hx with h|h
  .simp only[Ao h,Ak,Ad]
  .by_cases h':d<0
   .simp only[Ao h',Ak,Ad]
   .simp only[As h',Ao (show d>=(data.length:Int) from h),Ak,Am,Ad]
 | some x=>
  obtain⟨a1,a2,_,_⟩:=G9 hx;simp only[As (ω:¬d<0),As (ω:¬d>=(data.length:Int)),Am,Ad];cases hy:Ag x.O c with
  | none=>
   rcases Sd hy with h|h
   .simp only[Ao h,Ak,Ad]
   .by_cases h':c<0
    .simp only[Ao h',Ak,Ad]
    .simp only[As h',Ao (show c>=(x.O.length:Int) from h),Ak,Am,Ad]
  | some y=>obtain⟨b1,b2,_,_⟩:=G9 hy;simp only[As (ω:¬c<0),As (ω:¬c>=(x.O.length:Int)),Am,Ad]
def A2t (l:List Af):Prop:=l.length<=4194304/\∀a∈l,a.R.length<=4194304
def Kv (data:List Al):Prop:=∀x∈data,∀y∈x.O,A2t y.R
theorem A2u (data:List Al) (d c:Int) (hd:Kv data):W8 data d c=some (G8 data d c):=by
 unfold W8;rw[Ary data d c (λv4 v5=>_) [] _ rfl];unfold G8;cases hx:Ag data d with
 | none=>rfl
 | some x=>
  cases hy:Ag x.O c with
  | none=>simp only[hy]
  | some y=>
   simp only[hy];have b:=hd x (G9 hx).2.2.2 y (G9 hy).2.2.2;refine F2 y.R (λj=>((j:Int),(y.R.take j).map λt=>J6 t d x.V)) rfl (by have:=b.1;omega) ?_ ?_
   .intro j t hj ht h1 h2 h3;simp only[h1,h2,Ak,Ad,Arx t d x.V (by have:=b.2 t (Bq ht);omega)];rw[Dn (by simp;have:=b.1;omega),Ad,h3,Db ht,map_append];rfl
   .intro h1;exact⟨_,by simp only[h1];rfl,ψ⟩
theorem A2v (data:List Al) (d c:Int) (hd:Kv data):W8 data d c=some (G8 data d c):=A2u data d c hd
theorem Akf (l m:List α) (y x:α) (i:Int) (n:Nat) (h:i=n) (b:n=l.length):Di (l++y::m) i x=l++x::m:=by rw[Ho h];subst b;simp
theorem Akg (l m:List α) (y:α) (i:Int) (n:Nat) (h:i=n) (b:n=l.length):Ag (l++y::m) i=some y:=by rw[Br h];subst b;simp
theorem A2w (l:List Af) (k f:List Bool) (i:Int) (n:Nat) (b:Bool) (h:i=n) (s:n=k.length) (A:l.length<1099511627776) {J:Int×List Bool->Option R} {r:R} (z:J ((l.length:Int),k++(b&&Arw l)::f)=some r) : (An (S:=(Int×List Bool)) (E:=(Int×List Bool)) (λ(c,g)=> bif c<(l.length:Int) then ((Ag l c).bind λv44=> bif (v44.G != (4:Int)) then ((Ag g i).bind λv46=> some (.inl ((Aa (c+1)),(Di g i false)))) else (bif (v44.U != c) then ((Ag g i).bind λy=> some (.inl ((Aa (c+1)),(Di g i false)))) else (bif (v44.R.length:Int)>(0:Int) then ((Ag g i).bind λu=> some (.inl ((Aa (c+1)),(Di g i false)))) else (some (.inl ((Aa (c+1)),g)))))) else (some (.inr (c,g)))) (0,k++b::f)).bind J=some r:=by
 refine F2 l (λj=>((j:Int),k++(b&&(l.take j).zipIdx.all (λq=>Qo q.1 q.2))::f)) ψ ω ?_ ?_
 .intro j x hj hx h1 h2 h3;have e:(l.take (j+1)).zipIdx.all (λq=>Qo q.1 q.2)=((l.take j).zipIdx.all (λq=>Qo q.1 q.2)&&Qo x j):=(by rw[Db hx,zipIdx_append,all_append];simp[Nat.min_eq_left (Nat.le_of_lt hj)]);simp only[h1,h2,h3,Ak,Ad,Akg k f _ i n h s,Akf k f _ _ i n h s,e];unfold Qo;by_cases g1:x.G=4
  .by_cases g2:x.U=j
   .by_cases g3:x.R.length=0
    .rw[As ω];simp[g1,g2,g3]
    .rw[Ao ω];have:(x.R.length==0)=false:=(by simpa using g3);simp[g1,g2,this]
   .simp[g1,g2,D9 g2]
  .simp[g1,D9 g1]
 .intro h1;refine⟨_,by simp only[h1];rfl,?_⟩;rw[Dq];exact z
theorem Ae8 (data:List Al) (d c:Int) (hd:Kv data):Rx data d c=some (G8 data d c):=by
 unfold Rx;rw[Ary data d c (λv3 v4=>_) [] _ rfl];unfold G8;cases hx:Ag data d with
 | none=>rfl
 | some x=>
  cases hy:Ag x.O c with
  | none=>simp only[hy]
  | some y=>
   simp only[hy];have f:=hd x (G9 hx).2.2.2 y (G9 hy).2.2.2;have g:=f.1;rw[Lm (n:=y.R.length) (c:=y.R.length) rfl rfl ω ω ω,Ad];refine F2 y.R (λj=>((j:Int),((y.R.take j).map λt=>J6 t d x.V)++replicate (y.R.length-j) false)) rfl ω ?_ ?_
   .intro j t hj ht h1 h2 h3;obtain⟨m,h⟩:∃m,y.R.length-j=m+1:=⟨y.R.length-j-1,ω⟩;have i:y.R.length-(j+1)=m:=ω;have b:j=((y.R.take j).map λt=>J6 t d x.V).length:=ζ;simp only[h1,h2,Ak,Ad,h,i,replicate_succ,Db ht,map_append,map_cons,map_nil,append_assoc,Eu,nil_append, Akg _ _ _ (j:Int) j rfl b,Akf _ _ _ _ (j:Int) j rfl b];have hb:(bif t.G==5 then bif t.U==d then some (map (λt=>J6 t d x.V) (take j y.R)++((t.R.length:Int)==x.V)::replicate m false)
       else some (map (λt=>J6 t d x.V) (take j y.R)++false::replicate m false) else some (map (λt=>J6 t d x.V) (take j y.R)++false::replicate m false))=some (map (λt=>J6 t d x.V) (take j y.R)++(t.G==5&&t.U==d&&((t.R.length:Int)==x.V))::replicate m false):=by cases t.G==5 <;> cases t.U==d <;> simp
    rw[hb,Ad];refine A2w t.R _ _ (j:Int) j _ rfl b (by have:=f.2 t (Bq ht);omega) ?_;rw[h3];rfl
   .intro h1;exact⟨_,by simp only[h1];rfl,ψ⟩
mutual
def mnt (d:Int):Af->Bool
 | ⟨k,n,l⟩=>(k==5&&n==d)||Qp d l
def Qp (d:Int):List Af->Bool
 | []=>false
 | x::xs=>mnt d x||Qp d xs
end
theorem A2x (d:Int) (t:Af):mnt d t=((t.G==5&&t.U==d)||Qp d t.R):=by cases t;simp only[mnt]
theorem A2y (d:Int) (l:List Af):Qp d l=l.any (mnt d):=by induction l with| nil=>rfl| cons x xs ih=>simp only[Qp,ih,any_cons]
theorem A2z (d:Int):∀(n:Nat) (t:Af) (k:Nat),Bl t<=n->4*n+4<=k->n<1099511627776->Uc k t d=some (mnt d t):=by
 intro n;induction n with
 | zero=>intro t k h;have:=Ol t;omega
 | succ n ih=>intro t k h hk g;obtain⟨k,rfl⟩:∃c,k=c+4:=⟨k-4,ω⟩;have f:=Iq t;have b:=Jr t.R;have key:Xb (k+3) t.R d=some (Qp d t.R):=(by rw[Xb,Aeo];rw[A2y];refine Aaw (Arr t.R (mnt d) ω ?_ (λh=>by simp only[h];rfl) (λ_=>rfl) rfl) (λi hi=>by rw[hi]);intro j x hx h1 h2 h3;have l:=Iw hx;simp only[h1,h2,h3,Ak,Ad,Aaj,ih x k ω ω ω]);rw[Uc,key,A2x];cases t.G==5 <;> cases t.U==d <;> simp
theorem A20 (data:List Al) (v:Int) (l:List Af):F3 data v l=l.all (He data v):=by induction l with| nil=>rfl| cons x xs ih=>simp only[F3,ih,all_cons]
theorem A21 (data:List Al) (d:Nat) (v k n:Int) (len:Nat):(Mp (data.take (d+1)) v k n len && !(k==5&&n==(d:Int)))=Mp (data.take d) v k n len:=by
 by_cases hk:k=5
 .subst hk;unfold Mp;simp only[beq_self_eq_true,Bool.true_and,getElem?_take];by_cases b:n=d
  .subst b;simp
  .by_cases h0:0<=n
   .have e:(n==(d:Int))=false:=Cy b;rcases Cf n.toNat d with h|h
    .simp[h,e,show n.toNat<d+1 by omega]
    .simp[e,show ¬n.toNat<d by omega,show ¬n.toNat<d+1 by omega]
   .simp[h0]
 .have e:(k==(5:Int))=false:=Cy hk;simp only[e,Bool.false_and,Bool.not_false,Bool.and_true,Mp,hk,if_false]
mutual
theorem Arz (data:List Al) (d:Nat) (v:Int):∀t:Af,(He (data.take (d+1)) v t && !mnt d t)=He (data.take d) v t
 | ⟨k,n,l⟩=>by
  have h1:=Ar0 data d v l
  have h2:=A21 data d v k n l.length
  simp only[He,mnt]
  rw[<-h1,<-h2]
  cases Mp (data.take (d+1)) v k n l.length <;> cases (k==5&&n==(d:Int)) <;> cases F3 (data.take (d+1)) v l <;> simp
theorem Ar0 (data:List Al) (d:Nat) (v:Int):∀l:List Af,(F3 (data.take (d+1)) v l && !Qp d l)=F3 (data.take d) v l
 | []=>by simp[F3,Qp]
 | x::xs=>by
  have h1:=Arz data d v x
  have h2:=Ar0 data d v xs
  simp only[F3,Qp]
  rw[<-h1,<-h2]
  cases He (data.take (d+1)) v x <;> cases mnt d x <;> cases F3 (data.take (d+1)) v xs <;> simp
end
variable {t:Af} {x:Al} {s:ByteArray} {o:List (ByteArray×Bool)} {data:List Al} {L:List ByteArray} {a b d j:Nat} {y:Oe} {R:Type} {Q:R->Prop}
theorem Ar1:∀l:List Af,(∀a∈l,a.R.length=0)->Dd l=l.length
 | [],_=>rfl
 | x::xs,h=>by have h1:=h x ψ;simp only[Dd,Ed];rw[Ar1 xs (λa ha=>h a (by simp[ha])),Iq,Fu.1 h1];simp only[Dd];omega
theorem Ar2 (hx:data[d]? = some x) (f:x.V<=6) (h:J6 t d x.V=true):He (data.take (d+1)) x.V t=true/\Bl t<=200:=by
 unfold J6 at h;simp only[Dz,beq_iff_eq]at h;obtain⟨⟨⟨h1,h2⟩,h3⟩,c⟩:=h;have ha:∀a∈t.R,∃i:Nat,i<t.R.length/\a.G=4/\a.U=i/\a.R.length=0:=by intro a ha;obtain⟨i,hi⟩:=Hu ha;have:=Jq c hi;simp only[Qo,Dz,beq_iff_eq]at this;exact⟨i,Eh hi,this.1.1,this.1.2,this.2⟩
 refine⟨?_,?_⟩
 .rw[Ae6,A20,Dz];constructor
  .rw[h1,h2];unfold Mp;simp[hx,h3]
  .rw[I5];intro a b;obtain⟨i,i1,i2,i3,i4⟩:=ha a b;rw[Ae6,i2,i3,i4,Fu.1 i4];unfold Mp;simp[F3];omega
 .rw[Iq,Ar1 _ (λa h=>(ha a h).choose_spec.2.2.2)];omega
def Lq (data:List Al) (d:Nat) (v:Int) (t:Af):Bool:=J6 t d v||(He (data.take d) v t&&decide (Bl t<=200))
theorem A22 (hx:data[d]? = some x) (b:x.V<=6) (t:Af):((He (data.take (d+1)) x.V t&&decide (Bl t<=200))&&(J6 t d x.V || !mnt d t))=Lq data d x.V t:=by unfold Lq;cases h:J6 t d x.V with| true=>obtain⟨h1,h2⟩:=Ar2 hx b h;rw[h1,Ao h2];rfl| false=>rw[<-Arz data d x.V t];cases He (data.take (d+1)) x.V t <;> cases decide (Bl t<=200) <;> simp
def SzD (data:List Al):Prop:=∀x∈data,x.O.length<=1048576/\∀y∈x.O,Dd y.R<=1048576
theorem SzD.short (h:SzD data):Kv data:=λx hx y hy=>by have h1:=(h x hx).2 y hy;have h2:=Jr y.R;refine⟨ω,λa ha=>?_⟩;have h3:=Iw ha;have c:=Iq a;have b:=Jr a.R;omega
theorem A23 (g:SzD data) (d c:Nat) (hx:data[d]? = some x) (hy:x.O[c]? = some y) (q:x.V<=6) (hd:data.length<=1048576) : Rt data d c=some (decide (y.R.length<=6)&&y.R.all (Lq data d x.V)):=by
 have b:=Eh hx;have l:=(g x (Bq hx)).2 y (Bq hy);unfold Rt;rw[Br rfl hx,Ad,Br rfl hy,Ad,Ae8 data d c g.short];by_cases k:y.R.length<=6
 .rw[As (ω:¬(y.R.length:Int)>6),Ao k];simp only[Am,Bool.true_and,Ad];refine (Sc y.R (Lq data d x.V) (λj=>(j:Int)) rfl ω (rt:=true) (rf:=false) ?_ ?_).trans (by rw[Qm])
  .intro j t ht h1 h2 h3;have s:=Iw (Bq ht);have u:Ag (G8 data d c) (j:Int)=some (J6 t d x.V):=(by unfold G8;simp only[Br rfl hx,Br rfl hy];rw[Br rfl];simp[ht]);simp only[h1,h2,h3,Ak,Ad,show Aa ((d:Int)+1)=((d+1:Nat):Int) from C5 b ω,Ut rfl (show d+1<=data.length from b),Br rfl hx,
    Aa0 (data.take (d+1)) t x.V ω,u];rw[<-A22 hx q t];cases i:(He (data.take (d+1)) x.V t&&decide (Bl t<=200)) with
   | false=>exact⟨nofun,λ_=>⟨.inl false,rfl,rfl⟩⟩
   | true=>
    have f:Bl t<=200:=(by simp only[Dz,D8]at i;exact i.2);simp only[Eg,Am,Bool.true_and];cases z:J6 t d x.V with
    | true=>exact⟨λ_=>rfl,λh=>by cases h⟩
    | false=>simp only[Bool.not_false,Ak,A2z d 200 t 4000000 f ω ω,Ad,Bool.false_or];cases mnt d t with| true=>exact⟨nofun,λ_=>⟨.inl false,rfl,rfl⟩⟩| false=>exact⟨λ_=>rfl,λh=>by cases h⟩
  .intro h;exact⟨.inr (),by simp only[h];rfl,rfl⟩
 .rw[Ao (ω:(y.R.length:Int)>6),As k];rfl
def bI (s:ByteArray) (i:Nat):Int:=if h:i<s.size then (s[i].toNat:Int) else 0
def loI (c:Int):Bool:=decide (97<=c)&&decide (c<=122)
def upI (c:Int):Bool:=decide (65<=c)&&decide (c<=90)
def diI (c:Int):Bool:=decide (48<=c)&&decide (c<=57)
def wiI (c:Int):Bool:=loI c||upI c||diI c||c==95
def Gd (s:ByteArray):Prop:=1<=s.size/\s.size<=24/\upI (bI s 0)=true/\∀i,i<s.size->wiI (bI s i)=true
theorem Js {i:Int} {n:Nat} (hi:i=n) (h:n<s.size):∃c:UInt8,Gj s i=some c/\(c.toNat:Int)=bI s n:=by
 subst hi;refine⟨s[n],?_,?_⟩
 .unfold Gj;rw[Aw ω,show ((n:Int)).toNat=n from rfl];simp[h]
 .unfold bI;simp[h]
theorem Uv (hb:b<=s.size) (h:a+j<b):bI (s.extract a b) j=bI s (a+j):=by
 unfold bI;have h1:j<(s.extract a b).size:=by rw[ByteArray.size_extract];omega
 rw[dif_pos h1,dif_pos ω,ByteArray.getElem_extract]
theorem Pe {lo hi:Int} (h1:lo=a) (h2:hi=b) (h3:a<=b) (c:b<=s.size):E6 s lo hi=some (s.extract a b):=by subst h1;subst h2;unfold E6;rw[Aw ω];rfl
theorem Ar3 {a b:ByteArray} (h:a.toList=b.toList):a=b:=by rw[ByteArray.toList_eq,ByteArray.toList_eq]at h;have:a.data=b.data:=Array.toList_inj.1 h;cases a;cases b;simp at this;subst this;rfl
theorem Ae9 (a b:ByteArray):(a.toList==b.toList)=decide (a=b):=by
 by_cases h:a=b
 .subst h;simp
 .rw[As h];cases hb:(a.toList==b.toList) with| false=>rfl| true=>exact absurd (Ar3 (by simpa using hb)) h
theorem Akh (c:Int):W9 c=some (loI c):=by unfold W9 loI;by_cases h:(97:Int)<=c <;> simp[h]
theorem Aki (c:Int):Uk c=some (upI c):=by unfold Uk upI;by_cases h:(65:Int)<=c <;> simp[h]
theorem Aa1 (c:Int):R5 c=some (diI c):=by unfold R5 diI;by_cases h:(48:Int)<=c <;> simp[h]
theorem Ar4 (c:Int):Xa c=some (wiI c):=by unfold Xa wiI;rw[Akh,Aki,Aa1];simp only[Ad];cases loI c <;> cases upI c <;> cases diI c <;> rfl
theorem A24 (c:Int):Z6 c=some (loI c):=Akh c
theorem A25 (c:Int):W1 c=some (upI c):=Aki c
theorem A26 (c:Int):W2 c=some (diI c):=Aa1 c
theorem Xk {S E:Type} {step:S->Option (S⊕E)} (s:ByteArray) (p:Int->Bool) (b:Nat->S) (f:Nat->E) (lo:Nat) (h1:∀j,lo<=j->j<s.size->p (bI s j)=true->step (b j)=some (.inl (b (j+1)))) (h2:∀j,lo<=j->j<s.size->p (bI s j)=false->step (b j)=some (.inr (f j))) (h3:step (b s.size)=some (.inr (f s.size))) : ∀(m i:Nat),lo<=i->i+m=s.size->∃n,i<=n/\n<=s.size/\(∀j,i<=j->j<n->p (bI s j)=true)/\(n<s.size->p (bI s n)=false)/\An step (b i)=some (f n):=by
 intro m;induction m with
 | zero=>intro i _ hi;have:i=s.size:=ω;subst this;exact⟨s.size,ω,ω,λj _ _=>ω,λh=>ω,Fg h3⟩
 | succ m ih=>
  intro i c hi;cases hp:p (bI s i) with
  | true=>
   obtain⟨n,a1,a2,a3,a4,a5⟩:=ih (i+1) ω ω;refine⟨n,ω,a2,λj b1 b2=>?_,a4,by rw[Ks (h1 i c ω hp)];exact a5⟩;rcases Cf i j with h|h
   .exact a3 j h b2
   .have:j=i:=ω;subst this;exact hp
  | false=>exact⟨i,ω,ω,λj _ _=>ω,λ_=>hp,Fg (h2 i c ω hp)⟩
theorem A27 (s:ByteArray) (f:s.size<1099511627776):∃n,n<=s.size/\(∀j,j<n->wiI (bI s j)=true)/\(n<s.size->wiI (bI s n)=false)/\Aan s=some (s.extract 0 n):=by
 have H:=Xk (step:=λv3:Int=>bif v3<(s.size:Int) then ((Gj s v3).bind λc4=>(Xa (c4.toNat:Int)).bind λv5=>bif v5 then some (.inl (Aa (v3+1))) else some (.inr v3)) else some (.inr v3))
  s wiI (λj=>(j:Int)) (λj=>(j:Int)) 0 (λj _ hj hp=>by
   obtain⟨c,c1,c2⟩:=Js (s:=s) (i:=(j:Int)) rfl hj
   simp only[Ao (ω:(j:Int)<(s.size:Int)),Ak,c1,Ad,c2,Ar4,hp,C5 hj ω]) (λj _ hj hp=>by
   obtain⟨c,c1,c2⟩:=Js (s:=s) (i:=(j:Int)) rfl hj
   simp only[Ao (ω:(j:Int)<(s.size:Int)),Ak,c1,Ad,c2,Ar4,hp,Am]) ψ s.size 0 ω ω
 obtain⟨n,_,a2,a3,a4,a5⟩:=H
 refine⟨n,a2,λj hj=>a3 j ω hj,a4,?_⟩
 unfold Aan
 have a5:An _ (0:Int)=some (n:Int):=a5
 rw[a5,Ad,Pe (lo:=0) (a:=0) (b:=n) rfl rfl ω a2];rfl
theorem A28 (s:ByteArray) (f:s.size<1099511627776):∃n,n<=s.size/\(∀j,j<n->diI (bI s j)=true)/\(n<s.size->diI (bI s n)=false)/\Aen s=some (s.extract 0 n):=by
 have H:=Xk (step:=λv3:Int=>bif v3<(s.size:Int) then ((Gj s v3).bind λc4=>(R5 (c4.toNat:Int)).bind λv5=>bif v5 then some (.inl (Aa (v3+1))) else some (.inr v3)) else some (.inr v3))
  s diI (λj=>(j:Int)) (λj=>(j:Int)) 0 (λj _ hj hp=>by
   obtain⟨c,c1,c2⟩:=Js (s:=s) (i:=(j:Int)) rfl hj
   simp only[Ao (ω:(j:Int)<(s.size:Int)),Ak,c1,Ad,c2,Aa1,hp,C5 hj ω]) (λj _ hj hp=>by
   obtain⟨c,c1,c2⟩:=Js (s:=s) (i:=(j:Int)) rfl hj
   simp only[Ao (ω:(j:Int)<(s.size:Int)),Ak,c1,Ad,c2,Aa1,hp,Am]) ψ s.size 0 ω ω
 obtain⟨n,_,a2,a3,a4,a5⟩:=H
 refine⟨n,a2,λj hj=>a3 j ω hj,a4,?_⟩
 unfold Aen
 have a5:An _ (0:Int)=some (n:Int):=a5
 rw[a5,Ad,Pe (lo:=0) (a:=0) (b:=n) rfl rfl ω a2];rfl
theorem Pf {c:Bool} {X Y:Option R} (h1:∃r,X=some r/\Q r) (h2:∃r,Y=some r/\Q r):∃r,(bif c then X else Y)=some r/\Q r:=by cases c <;> assumption
theorem Aa2 {A:Type} {X:Option A} {f:A->Option R} (P:A->Prop) (h1:∃a,X=some a/\P a) (h2:∀a,P a->∃r,f a=some r/\Q r):∃r,X.bind f=some r/\Q r:=by obtain⟨a,e,h⟩:=h1;rw[e];exact h2 a h
theorem A29 (s:ByteArray):∃b,Aao s=some b/\True:=by unfold Aao;repeat' first|refine Pf ?_ ?_|exact⟨_,rfl,trivial⟩
theorem A3a (s:ByteArray) (h1:1<=s.size):∃r,Aaq s=some r/\(r.size<=s.size):=by
 have g:E6 s 0 1=some (s.extract 0 1):=Pe rfl rfl ω h1;have c:(s.extract 0 1).size<=s.size:=by rw[ByteArray.size_extract];omega
 unfold Aaq;refine Aa2 (λz=>∀r,z = .inl r->r.size<=s.size) ?_ ?_
 .by_cases h2:2<=s.size
  .have f:E6 s 0 2=some (s.extract 0 2):=Pe rfl rfl ω h2;have b:∀r,(Sum.inl (s.extract 0 2):ByteArray⊕Unit) = .inl r->r.size<=s.size:=(by rintro r ⟨⟩;rw[ByteArray.size_extract];omega);simp only[f,Ad];repeat' first|refine Pf ?_ ?_|with_reducible exact⟨_,rfl,b⟩|exact⟨_,rfl,λr h=>by cases h⟩
  .rw[As ω];exact⟨_,rfl,λr h=>by cases h⟩
 .rintro (r|u) i
  .exact⟨_,rfl,i r rfl⟩
  .simp only[g,Ad];have h0:(ByteArray.mk #[]).size<=s.size:=Nat.zero_le _;repeat' first|refine Pf ?_ ?_|with_reducible exact⟨_,rfl,c⟩|with_reducible exact⟨_,rfl,h0⟩
theorem A3b (s:ByteArray) (f:s.size<1099511627776):∃b,Aap s=some b/\True:=by
 unfold Aap;refine Ey (λ(_,i)=>∃j:Nat,i=j/\j<=s.size) (λ(_,i)=>s.size-i.toNat) (λ_=>True) ⟨0,rfl,ω⟩ ?_ ?_
 .rintro⟨v,i⟩ ⟨j,rfl,hj⟩;rcases Cf j s.size with h|h
  .obtain⟨c,c1,_⟩:=Js (s:=s) (i:=(j:Int)) rfl h;simp only[Ao (ω:(j:Int)<(s.size:Int)),Ak,c1,Ad,C5 h ω];cases decide (Aa (Aa (v*10)+Aa (wu8 ((c.toNat:Int)-48)))>1000000) with| true=>exact .inr ⟨_,rfl,trivial⟩| false=>exact .inl ⟨_,rfl,⟨j+1,rfl,ω⟩,ζ⟩
  .have:j=s.size:=ω;subst this;exact .inr ⟨.inr (),ψ,trivial⟩
 .rintro (r|u) _ <;> exact⟨_,rfl,trivial⟩
theorem A3c (s:ByteArray) (i:Nat) (hi:i<s.size) (M:s.size<1099511627776) : ∃r,Aai s i=some r/\(r.2=0->1<=r.1.Text.size/\i+r.1.Text.size<=s.size/\(r.1.G=2->Gd r.1.Text))/\(Gd s->i=0->r=(⟨2,s,0⟩,0)):=by
 obtain⟨c,c1,c2⟩:=Js (s:=s) (i:=(i:Int)) rfl hi;have u:E6 s (i:Int) (s.size:Int)=some (s.extract i s.size):=Pe rfl rfl ω ω;have I:(s.extract i s.size).size=s.size-i:=by rw[ByteArray.size_extract];omega
 have x:bI (s.extract i s.size) 0=bI s i:=Uv ω ω;unfold Aai;simp only[c1,Ad,c2,Akh,Aki,Aa1,u];have hw:(bif loI (bI s i) then some true else some (upI (bI s i)))=some (loI (bI s i)||upI (bI s i)):=by cases loI (bI s i) <;> rfl
 rw[hw];simp only[Ad];cases l:(loI (bI s i)||upI (bI s i)) with
 | true=>
  obtain⟨n,G,D,y,n4⟩:=A27 (s.extract i s.size) ω;have A:1<=n:=by
   rcases Nat.eq_zero_or_pos n with h|h
   .subst h;have:=y ω;rw[x]at this;unfold wiI at this;rw[l]at this;cases this
   .exact h
  have hx:(s.extract i s.size).extract 0 n=s.extract i (i+n):=(by rw[ByteArray.extract_extract];congr 1;omega);have q:(s.extract i (i+n)).size=n:=(by rw[ByteArray.size_extract];omega);rw[hx]at n4;simp only[Ak,n4,Ad,q];have g:Gd s->i=0->n=s.size:=by
   intro hu h0;rcases Cf n s.size with h|h
   .have:=y ω;rw[Uv ω ω,hu.2.2.2 _ ω]at this;cases this
   .omega
  by_cases J:n<=24
  .rw[As ω];cases k:upI (bI s i) with
   | true=>
    refine⟨_,rfl,λ_=>⟨?_,?_,λ_=>⟨?_,?_,?_,?_⟩⟩,?_⟩
    .show 1<=(s.extract i (i+n)).size;omega
    .show i+(s.extract i (i+n)).size<=s.size;omega
    .show 1<=(s.extract i (i+n)).size;omega
    .show (s.extract i (i+n)).size<=24;omega
    .show upI (bI (s.extract i (i+n)) 0)=true;rw[Uv ω ω];exact k
    .show ∀j,j<(s.extract i (i+n)).size->wiI (bI (s.extract i (i+n)) j)=true;intro j hj;rw[Uv ω ω];have:=D j ω;rw[Uv ω ω]at this;exact this
    .intro hu h0;have:=g hu h0;subst h0;subst this;rw[Nat.zero_add,ByteArray.extract_zero_size];rfl
   | false=>obtain⟨b,hb,_⟩:=A29 (s.extract i (i+n));simp only[Am,hb,Ad];have f:Gd s->i=0->False:=(by intro hu h0;subst h0;rw[hu.2.2.1]at k;cases k);cases b with| true=>exact⟨_,rfl,λ_=>⟨by show 1<=(s.extract i (i+n)).size;omega,by show i+(s.extract i (i+n)).size<=s.size;omega,λh=>by cases h⟩,λhu h0=>(f hu h0).elim⟩| false=>exact⟨_,rfl,λ_=>⟨by show 1<=(s.extract i (i+n)).size;omega,by show i+(s.extract i (i+n)).size<=s.size;omega,λh=>by cases h⟩,λhu h0=>(f hu h0).elim⟩
  .rw[Ao ω];refine⟨_,rfl,nofun,λhu h0=>?_⟩;have:=g hu h0;have:=hu.2.1;omega
 | false=>
  have f:Gd s->i=0->False:=(by intro hu h0;subst h0;rw[hu.2.2.1,Bool.or_true]at l;cases l);simp only[Am];cases hd:diI (bI s i) with
  | true=>
   obtain⟨n,G,D,y,n4⟩:=A28 (s.extract i s.size) ω;have A:1<=n:=by
    rcases Nat.eq_zero_or_pos n with h|h
    .subst h;have:=y ω;rw[x,hd]at this;cases this
    .exact h
   have hx:(s.extract i s.size).extract 0 n=s.extract i (i+n):=(by rw[ByteArray.extract_extract];congr 1;omega);have q:(s.extract i (i+n)).size=n:=(by rw[ByteArray.size_extract];omega);rw[hx]at n4;obtain⟨b,hb,_⟩:=A3b (s.extract i (i+n)) ω;simp only[Ak,n4,Ad,hb];refine Aa2 (λ_=>True) ?_ ?_
   .exact Pf ⟨_,rfl,trivial⟩ ⟨_,rfl,trivial⟩
   .intro v _;refine Pf ⟨_,rfl,nofun,λhu h0=>(f hu h0).elim⟩ (Pf ⟨_,rfl,nofun,λhu h0=>(f hu h0).elim⟩ ⟨_,rfl,λ_=>⟨?_,?_,λh=>by cases h⟩,λhu h0=>(f hu h0).elim⟩)
    .show 1<=(s.extract i (i+n)).size;omega
    .show i+(s.extract i (i+n)).size<=s.size;omega
  | false=>
   obtain⟨r,E,L⟩:=A3a (s.extract i s.size) ω;simp only[Am,E,Ad];rw[Ae9];by_cases z:r=ByteArray.mk #[]
   .rw[Ao z];exact⟨_,rfl,nofun,λhu h0=>(f hu h0).elim⟩
   .rw[As z];refine⟨_,rfl,λ_=>⟨?_,?_,λh=>by cases h⟩,λhu h0=>(f hu h0).elim⟩
    .show 1<=r.size;rcases Nat.eq_zero_or_pos r.size with h|h
     .have B:r.data.toList.length=0:=(by simpa using h);exact absurd (Ar3 (by rw[ByteArray.toList_eq,Fu.1 B,ByteArray.toList_eq])) z
     .exact h
    .show i+r.size<=s.size;omega
theorem A3d (c:Int):Aah c=some (c==9||c==10||c==13||c==32):=by unfold Aah;cases c==9 <;> cases c==10 <;> cases c==13 <;> rfl
theorem Ar5 (s:ByteArray) (R:s.size<1099511627776):∃b,T2 s=some b/\(b=true↔Gd s):=by
 unfold T2 Aee
 by_cases q:(s.size:Int)>16384
 .rw[Ao q]
  refine⟨false,rfl,by simp;rintro⟨_,h,_⟩;omega⟩
 rw[As q]
 simp only[Am]
 refine Aa2 (λr:List Kf×Int×Int=>(r.2.2≠0/\¬Gd s)\/(r.2.2=0/\∃o e,r.1=o++[e]/\(∀t∈o,t.G=2->Gd t.Text)/\(Gd s->o = [⟨2,s,0⟩]))) ?_ ?_
 .refine Ey (λ(v26,f)=>∃i:Nat,v26=i/\i<=s.size/\f.length<=i/\(∀t∈f,t.G=2->Gd t.Text)/\(Gd s->(i=0/\f = [])\/(i=s.size/\f = [⟨2,s,0⟩])))
   (λ(v26,_)=>s.size-v26.toNat)
   (λz=>match z with|.inl o=>o.length<=16384/\(∀t∈o,t.G=2->Gd t.Text)/\(Gd s->o = [⟨2,s,0⟩]) | .inr (_,_,e)=>e≠0/\¬Gd s)
   ⟨0,rfl,ω,ψ,ψ,λ_=>.inl ⟨rfl,rfl⟩⟩ ?_ ?_
  .rintro⟨v,o⟩ ⟨i,rfl,hi,ho,hk,hu⟩
   rcases Cf i s.size with h|h
   .obtain⟨c,c1,c2⟩:=Js (s:=s) (i:=(i:Int)) rfl h
    have g:Gd s->i=0/\o = []:=λu=>by
     rcases hu u with h'|h'
     .exact h'
     .omega
    simp only[Ao (ω:(i:Int)<(s.size:Int)),Ak,c1,Ad,c2,A3d]
    cases G:(bI s i==9||bI s i==10||bI s i==13||bI s i==32) with
    | true=>
     have k:¬Gd s:=by
      intro u
      have h0:=(g u).1
      subst h0
      have:=u.2.2.1
      simp only[upI,Dz,D8]at this
      simp only[Bool.or_eq_true,beq_iff_eq]at G
      omega
     exact .inl ⟨(((i+1:Nat):Int),o),by simp only[Ak];rw[C5 h ω],⟨i+1,rfl,ω,(by show o.length<=i+1;omega),hk,λu=>(k u).elim⟩,ζ⟩
    | false=>
     simp only[Am]
     cases B:(bI s i==35) with
     | true=>
      have k:¬Gd s:=by
       intro u
       have h0:=(g u).1
       subst h0
       have:=u.2.2.1
       simp only[upI,Dz,D8]at this
       simp only[beq_iff_eq]at B
       omega
      simp only[Ak]
      obtain⟨n,n1,Z,Y,n4,E⟩:=Xk (step:=λv32:Int=>bif v32<(s.size:Int) then ((Gj s v32).bind λI=>bif ((I.toNat:Int)==(10:Int)) then some (.inr (.inl v32)) else some (.inl (Aa (v32+1)))) else some (.inr (.inr v32)))
       s (λc=>!(c==10)) (λj=>(j:Int)) (λj=>if j<s.size then Sum.inl (j:Int) else Sum.inr (j:Int)) 0 (λj _ hj hp=>by
        obtain⟨c,c1,c2⟩:=Js (s:=s) (i:=(j:Int)) rfl hj
        simp only[Bool.not_eq_true']at hp
        simp only[Ao (ω:(j:Int)<(s.size:Int)),Ak,c1,Ad,c2,hp,C5 hj ω,Am]) (λj _ hj hp=>by
        obtain⟨c,c1,c2⟩:=Js (s:=s) (i:=(j:Int)) rfl hj
        simp only[Bool.not_eq_false']at hp
        simp only[Ao (ω:(j:Int)<(s.size:Int)),Ak,c1,Ad,c2,hp,Aw hj]) ψ (s.size-i) i ω ω
      have S:i<n:=by
       rcases Cf i n with h'|h'
       .exact h'
       .have:n=i:=ω
        subst this
        have:=n4 h
        simp only[beq_iff_eq]at B
        rw[B]at this;cases this
      have E:An _ (i:Int)=_:=E
      rw[E,Ad]
      rcases Cf n s.size with h'|h'
      .rw[Aw h']
       exact .inl ⟨((n:Int),o),rfl,⟨n,rfl,ω,(by show o.length<=n;omega),hk,λu=>(k u).elim⟩,ζ⟩
      .rw[Au ω]
       exact .inr ⟨.inl o,rfl,ω,hk,λu=>(k u).elim⟩
     | false=>
      obtain⟨r,N,M,J⟩:=A3c s i h R
      simp only[Am,N,Ad]
      by_cases D:r.2=0
      .obtain⟨a1,a2,a3⟩:=M D
       simp only[Ea D,Am]
       rw[Dn ζ,Ad]
       refine .inl ⟨(((i+r.1.Text.size:Nat):Int),o++[r.1]),?_,⟨i+r.1.Text.size,rfl,a2,ζ,?_,?_⟩,ζ⟩
       .rw[show Aa ((i:Int)+(r.1.Text.size:Int))=((i+r.1.Text.size:Nat):Int) by rw[Aa,B6] <;> omega]
       .intro t ht
        rcases Ef.1 ht with h'|h'
        .exact hk t h'
        .simp at h';subst h';exact a3
       .intro u
        obtain⟨b1,b2⟩:=g u
        have:=J u b1
        subst b1;subst b2;subst this
        exact .inr ⟨ψ,rfl⟩
      .simp only[D9 D,Ak]
       refine .inr ⟨_,rfl,D,λu=>?_⟩
       rw[J u (g u).1]at D
       exact D rfl
   .have:i=s.size:=ω
    subst this
    refine .inr ⟨.inl o,ψ,ω,hk,λu=>?_⟩
    rcases hu u with⟨h',_⟩|⟨_,h'⟩
    .have:=u.1;omega
    .exact h'
  .rintro (o|⟨l,p,e⟩) L
   .obtain⟨X,z2,z3⟩:=L
    simp only
    rw[Dn ζ,Ad]
    exact⟨_,rfl,.inr ⟨rfl,o,_,rfl,z2,z3⟩⟩
   .exact⟨_,rfl,.inl L⟩
 .rintro⟨l,p,e⟩ (⟨h1,h2⟩|⟨h1,o,t,h2,h3,A⟩)
  .simp only at h1
   simp only[Cy h1,Am]
   exact⟨_,rfl,by simp[h2]⟩
  .simp only at h1 h2
   subst h1;subst h2
   simp only[beq_self_eq_true,Ak]
   match o,h3,A with
   | [],_,A=>exact⟨false,ψ,by simp;intro u;cases A u⟩
   | [x],h3,A=>
    have V:Ag ([x]++[t]) 0=some x:=rfl
    simp only[V,Ad,Ae9]
    have U:((([x]++[t]).length:Int)==2)=true:=rfl
    simp only[U,Ak]
    by_cases hx:x.G=2
    .simp only[Fm hx,Ak]
     refine⟨_,rfl,?_⟩
     rw[decide_eq_true_iff]
     constructor
     .intro h;rw[<-h];exact h3 x ψ hx
     .intro u;have:=A u;simp at this;rw[this]
    .simp only[Cy hx,Am]
     refine⟨_,rfl,?_⟩
     simp only[Bool.false_eq_true,false_iff]
     intro u;have:=A u;simp at this;rw[this]at hx;exact hx rfl
   | x::y::ys,_,A=>
    refine⟨false,?_,by simp;intro u;have:=A u;simp at this⟩
    rw[Cy]
    .rfl
    .simp;omega
theorem A3e (s:ByteArray):∃b,Aed s=some b/\True:=by
 have key:∀(L:List ByteArray),L.length<1000->∃b,((An (S:=Int) (E:=(Bool⊕Unit)) (λv2=>bif v2<(L.length:Int) then ((Ag L v2).bind λv3=>bif (v3.toList==s.toList) then some (.inr (.inl true)) else some (.inl (Aa (v2+1)))) else some (.inr (.inr ()))) 0).bind λz=>match z with|.inl c=>some c | .inr _=>some false)=some b/\True:=by
  intro L f;refine⟨_,Sc L (λv=>!(v.toList==s.toList)) (λj=>(j:Int)) rfl ω (rt:=false) (rf:=true) ?_ ?_,trivial⟩
  .intro j x hx h1 h2 h3;simp only[h1,h2,h3,Ak,Ad];cases (x.toList==s.toList) with| true=>exact⟨nofun,λ_=>⟨_,rfl,rfl⟩⟩| false=>exact⟨λ_=>rfl,λh=>by cases h⟩
  .intro h;exact⟨.inr (),by simp only[h];rfl,rfl⟩
 exact key _ δ
theorem A3f (s:ByteArray) (h1:1<=s.size) (T:ByteArray) (q:T.size<1000):∃r,((An (S:=Int) (E:=(Int⊕Unit)) (λb=>bif b<(T.size:Int) then ((Gj s 0).bind λl=>(Gj T b).bind λk=>bif ((l.toNat:Int)==(k.toNat:Int)) then some (.inr (.inl 1)) else some (.inl (Aa (b+1)))) else some (.inr (.inr ()))) 0).bind λz=>match z with|.inl f=>some f | .inr _=>some 0)=some r/\(r=0\/(1<=r/\r<=s.size)):=by
 refine Ey (λi=>∃j:Nat,i=j/\j<=T.size) (λi=>T.size-i.toNat) (λz=>∀r,z = .inl r->r=1) ⟨0,rfl,ω⟩ ?_ ?_
 .rintro i ⟨j,rfl,hj⟩;rcases Cf j T.size with h|h
  .obtain⟨c,c1,_⟩:=Js (s:=T) (i:=(j:Int)) rfl h;obtain⟨d,d1,_⟩:=Js (s:=s) (i:=0) (n:=0) rfl h1;simp only[Ao (ω:(j:Int)<(T.size:Int)),Ak,c1,d1,Ad,C5 h ω];cases ((d.toNat:Int)==(c.toNat:Int)) with| true=>exact .inr ⟨_,rfl,λr h=>by cases h;rfl⟩| false=>exact .inl ⟨_,rfl,⟨j+1,rfl,ω⟩,ζ⟩
  .have:j=T.size:=ω;subst this;exact .inr ⟨.inr (),ψ,λr h=>by cases h⟩
 .rintro (r|u) g
  .exact⟨r,rfl,.inr (by have:=g r rfl;omega)⟩
  .exact⟨0,rfl,.inl rfl⟩
theorem A3g (s:ByteArray) (h1:1<=s.size):∃r,Z8 s=some r/\(r=0\/(1<=r/\r<=s.size)):=by
 unfold Z8;refine Aa2 (λb=>b=true->2<=s.size) ?_ ?_
 .by_cases h2:2<=s.size
  .have c:E6 s 0 2=some (s.extract 0 2):=Pe rfl rfl ω h2;simp only[c,Ad];repeat' first|refine Pf ?_ ?_|exact⟨_,rfl,λ_=>h2⟩
  .rw[As ω];exact⟨_,rfl,λh=>by cases h⟩
 .rintro b hb;cases b with| true=>exact⟨2,rfl,.inr ⟨ω,by have:=hb rfl;omega⟩⟩| false=>exact A3f s h1 _ δ
theorem A3h (s:ByteArray) (g:s.size<1099511627776):∃b,Z7 s=some b/\True:=by
 unfold Z7;refine Ey (λ(_,i)=>∃j:Nat,i=j/\j<=s.size) (λ(_,i)=>s.size-i.toNat) (λ_=>True) ⟨0,rfl,ω⟩ ?_ ?_
 .rintro⟨v,i⟩ ⟨j,rfl,hj⟩;rcases Cf j s.size with h|h
  .obtain⟨c,c1,_⟩:=Js (s:=s) (i:=(j:Int)) rfl h;simp only[Ao (ω:(j:Int)<(s.size:Int)),Ak,c1,Ad,C5 h ω];cases decide (Aa (Aa (v*10)+Aa (wu8 ((c.toNat:Int)-48)))>1000000) with| true=>exact .inr ⟨_,rfl,trivial⟩| false=>exact .inl ⟨_,rfl,⟨j+1,rfl,ω⟩,ζ⟩
  .have:j=s.size:=ω;subst this;exact .inr ⟨.inr v,ψ,trivial⟩
 .rintro (⟨r,f⟩|u) _ <;> exact⟨_,rfl,trivial⟩
theorem Ar6 (s:ByteArray) (hs:s.size<1099511627776):∃b,Tp s=some b/\(b=true↔Gd s):=by
 unfold Tp Ad6
 by_cases I:(s.size:Int)>16384
 .rw[Ao I]
  refine⟨false,rfl,by simp;rintro⟨_,h,_⟩;omega⟩
 rw[As I]
 simp only[Am]
 refine Aa2 (λr:List Ll×Int×Int=>(r.2.2≠0/\¬Gd s)\/(r.2.2=0/\∃o e,r.1=o++[e]/\(∀t∈o,t.G=2->Gd t.Text)/\(Gd s->o = [⟨2,s,0⟩]))) ?_ ?_
 .refine Ey (λ(v26,G)=>∃i:Nat,v26=i/\i<=s.size/\G.length<=i/\(∀t∈G,t.G=2->Gd t.Text)/\(Gd s->(i=0/\G = [])\/(i=s.size/\G = [⟨2,s,0⟩])))
   (λ(v26,_)=>s.size-v26.toNat)
   (λz=>match z with|.inr o=>o.length<=16384/\(∀t∈o,t.G=2->Gd t.Text)/\(Gd s->o = [⟨2,s,0⟩]) | .inl (_,_,e)=>e≠0/\¬Gd s)
   ⟨0,rfl,ω,ψ,ψ,λ_=>.inl ⟨rfl,rfl⟩⟩ ?_ ?_
  .rintro⟨v,o⟩ ⟨i,rfl,hi,ho,hk,hu⟩
   rcases Cf i s.size with h|h
   .obtain⟨c,c1,c2⟩:=Js (s:=s) (i:=(i:Int)) rfl h
    have A:Gd s->i=0/\o = []:=λu=>by
     rcases hu u with h'|h'
     .exact h'
     .omega
    have f:∀j:Nat,i<=j->j<=s.size->Aa ((i:Int)+((j:Int)-(i:Int)))=(j:Int):=λj _ _=>by rw[Aa,B6] <;> omega
    have U:(bif bI s i==9 then some true else bif bI s i==10 then some true else bif bI s i==13 then some true else some (bI s i==32))=some (bI s i==9||bI s i==10||bI s i==13||bI s i==32):=by
     cases bI s i==9 <;> cases bI s i==10 <;> cases bI s i==13 <;> rfl
    have hw:(bif loI (bI s i) then some true else some (upI (bI s i)))=some (loI (bI s i)||upI (bI s i)):=by cases loI (bI s i) <;> rfl
    simp only[Ao (ω:(i:Int)<(s.size:Int)),Ak,c1,Ad,c2,U,A24,A25,A26,hw]
    cases U:(bI s i==9||bI s i==10||bI s i==13||bI s i==32) with
    | true=>
     have g:¬Gd s:=by
      intro u
      have h0:=(A u).1
      subst h0
      have:=u.2.2.1
      simp only[upI,Dz,D8]at this
      simp only[Bool.or_eq_true,beq_iff_eq]at U
      omega
     exact .inl ⟨(((i+1:Nat):Int),o),by simp only[Ak];rw[C5 h ω],⟨i+1,rfl,ω,(by show o.length<=i+1;omega),hk,λu=>(g u).elim⟩,ζ⟩
    | false=>
     simp only[Am]
     cases R:(bI s i==35) with
     | true=>
      have g:¬Gd s:=by
       intro u
       have h0:=(A u).1
       subst h0
       have:=u.2.2.1
       simp only[upI,Dz,D8]at this
       simp only[beq_iff_eq]at R
       omega
      simp only[Ak]
      obtain⟨n,n1,D,n3,n4,B⟩:=Xk (step:=λv54:Int=>bif v54<(s.size:Int) then ((Gj s v54).bind λah=>bif ((ah.toNat:Int) != (10:Int)) then some (.inl (Aa (v54+1))) else some (.inr v54)) else some (.inr v54))
       s (λc=>c != 10) (λj=>(j:Int)) (λj=>(j:Int)) 0 (λj _ hj hp=>by
        obtain⟨c,c1,c2⟩:=Js (s:=s) (i:=(j:Int)) rfl hj
        simp only[Ao (ω:(j:Int)<(s.size:Int)),Ak,c1,Ad,c2,hp,C5 hj ω]) (λj _ hj hp=>by
        obtain⟨c,c1,c2⟩:=Js (s:=s) (i:=(j:Int)) rfl hj
        simp only[Ao (ω:(j:Int)<(s.size:Int)),Ak,c1,Ad,c2,hp,Am]) ψ (s.size-i) i ω ω
      have ai:i<n:=by
       rcases Cf i n with h'|h'
       .exact h'
       .have:n=i:=ω
        subst this
        have:=n4 h
        simp only[beq_iff_eq]at R
        rw[R]at this;cases this
      have B:An _ (i:Int)=_:=B
      rw[B,Ad]
      exact .inl ⟨((n:Int),o),rfl,⟨n,rfl,ω,(by show o.length<=n;omega),hk,λu=>(g u).elim⟩,ζ⟩
     | false=>
      simp only[Am]
      cases S:(loI (bI s i)||upI (bI s i)) with
      | true=>
       simp only[Ak]
       obtain⟨n,n1,D,n3,n4,B⟩:=Xk (step:=λv67:Int=>bif (Aa ((i:Int)+v67))<(s.size:Int) then ((Gj s (Aa ((i:Int)+v67))).bind λag=>(some (loI (ag.toNat:Int))).bind λa8=>
         bif a8 then some (.inl (Aa (v67+1))) else ((Gj s (Aa ((i:Int)+v67))).bind λaf=>(some (upI (af.toNat:Int))).bind λa7=>bif a7 then some (.inl (Aa (v67+1))) else
         ((Gj s (Aa ((i:Int)+v67))).bind λae=>(some (diI (ae.toNat:Int))).bind λa6=>bif a6 then some (.inl (Aa (v67+1))) else ((Gj s (Aa ((i:Int)+v67))).bind λad=>bif ((ad.toNat:Int)==(95:Int)) then some (.inl (Aa (v67+1))) else some (.inr v67))))) else some (.inr v67))
        s wiI (λj=>(j:Int)-(i:Int)) (λj=>(j:Int)-(i:Int)) i (λj q hj hp=>by
         obtain⟨c,c1,c2⟩:=Js (s:=s) (i:=(j:Int)) rfl hj
         have V:Aa ((j:Int)-(i:Int)+1)=((j+1:Nat):Int)-(i:Int):=by rw[Aa,B6] <;> omega
         simp only[f j q ω,Ao (ω:(j:Int)<(s.size:Int)),Ak,c1,Ad,c2,V]
         unfold wiI at hp
         revert hp
         cases loI (bI s j) <;> cases upI (bI s j) <;> cases diI (bI s j) <;> cases (bI s j==95) <;> simp) (λj q hj hp=>by
         obtain⟨c,c1,c2⟩:=Js (s:=s) (i:=(j:Int)) rfl hj
         simp only[f j q ω,Ao (ω:(j:Int)<(s.size:Int)),Ak,c1,Ad,c2]
         unfold wiI at hp
         revert hp
         cases loI (bI s j) <;> cases upI (bI s j) <;> cases diI (bI s j) <;> cases (bI s j==95) <;> simp) (by
         simp only[f s.size hi ω];simp) (s.size-(i+1)) (i+1) ω ω
       have Z:((i+1:Nat):Int)-(i:Int)=1:=ω
       simp only[Z]at B
       simp only[Ad]at B
       rw[B,Ad]
       have k:E6 s (i:Int) (Aa ((i:Int)+((n:Int)-(i:Int))))=some (s.extract i n):=by rw[f n ω D];exact Pe rfl rfl ω D
       have X:(s.extract i n).size=n-i:=by rw[ByteArray.size_extract];omega
       have Y:∀j,i<=j->j<n->wiI (bI s j)=true:=λj a1 a2=>by
        rcases Cf i j with h'|h'
        .exact n3 j h' a2
        .have:j=i:=ω
         subst this;unfold wiI;rw[S];rfl
       have E:Gd s->n=s.size:=by
        intro u
        rcases Cf n s.size with h'|h'
        .have:=n4 h'
         rw[u.2.2.2 _ h']at this;cases this
        .omega
       by_cases aj:n-i<=24
       .rw[As ω]
        simp only[Am]
        cases N:upI (bI s i) with
        | true=>
         simp only[Ak,Ad,k]
         rw[Dn ζ,Ad,f n ω D]
         refine .inl ⟨_,rfl,⟨n,rfl,D,ζ,?_,?_⟩,ζ⟩
         .intro t ht
          rcases Ef.1 ht with h'|h'
          .exact hk t h'
          .simp only[E3]at h'
           subst h'
           intro _
           refine⟨?_,?_,?_,?_⟩
           .show 1<=(s.extract i n).size;omega
           .show (s.extract i n).size<=24;omega
           .show upI (bI (s.extract i n) 0)=true
            rw[Uv ω ω];exact N
           .show ∀j,j<(s.extract i n).size->wiI (bI (s.extract i n) j)=true
            intro j hj
            rw[Uv ω ω]
            exact Y _ ω ω
         .intro u
          obtain⟨b1,b2⟩:=A u
          have hf:=E u
          subst b1;subst b2;subst hf
          rw[ByteArray.extract_zero_size]
          exact .inr ⟨rfl,rfl⟩
        | false=>
         obtain⟨b,hb,_⟩:=A3e (s.extract i n)
         have g:¬Gd s:=by
          intro u
          have h0:=(A u).1
          subst h0
          rw[u.2.2.1]at N;cases N
         have ab:∃M:Int,(bif b then some 4 else some 1:Option Int)=some M/\M≠2:=by cases b <;> exact⟨_,rfl,δ⟩
         obtain⟨M,k1,k2⟩:=ab
         simp only[Am,Ad,k,hb,k1]
         rw[Dn ζ,Ad,f n ω D]
         refine .inl ⟨_,rfl,⟨n,rfl,D,ζ,?_,λu=>(g u).elim⟩,ζ⟩
         intro t ht
         rcases Ef.1 ht with h'|h'
         .exact hk t h'
         .simp only[E3]at h'
          subst h'
          intro h';exact absurd h' k2
       .rw[Ao ω]
        refine .inr ⟨_,rfl,(by show (9:Int)≠0;decide),λu=>?_⟩
        have:=E u
        have:=u.2.1
        have:=(A u).1
        omega
      | false=>
       have g:¬Gd s:=by
        intro u
        have h0:=(A u).1
        subst h0
        rw[u.2.2.1,Bool.or_true]at S;cases S
       have J:∀(n:Nat) (M:Int),i<n->n<=s.size->M≠2->∃s':Int×List Ll,(Ca 32 o [(Ll.mk M (s.extract i n) i)]).bind (λaa=>(some (Sum.inl ((n:Int),aa)):Option ((Int×List Ll)⊕((List Ll×Int×Int)⊕List Ll))))=some (.inl s') /\
         (∃j:Nat,s'.1=j/\j<=s.size/\s'.2.length<=j/\(∀t∈s'.2,t.G=2->Gd t.Text)/\(Gd s->(j=0/\s'.2 = [])\/(j=s.size/\s'.2 = [⟨2,s,0⟩])))/\s.size-s'.1.toNat<s.size-i:=by
        intro n M a1 a2 a3
        rw[Dn ζ,Ad]
        refine⟨_,rfl,⟨n,rfl,a2,ζ,?_,λu=>(g u).elim⟩,ζ⟩
        intro t ht
        rcases Ef.1 ht with h'|h'
        .exact hk t h'
        .simp only[E3]at h'
         subst h'
         intro h';exact absurd h' a3
       simp only[Am]
       cases hd:diI (bI s i) with
       | true=>
        simp only[Ak]
        obtain⟨n,n1,D,n3,n4,B⟩:=Xk (step:=λv85:Int=>bif (Aa ((i:Int)+v85))<(s.size:Int) then ((Gj s (Aa ((i:Int)+v85))).bind λac=>(some (diI (ac.toNat:Int))).bind λv87=>
          bif v87 then some (.inl (Aa (v85+1))) else some (.inr v85)) else some (.inr v85))
         s diI (λj=>(j:Int)-(i:Int)) (λj=>(j:Int)-(i:Int)) i (λj q hj hp=>by
          obtain⟨c,c1,c2⟩:=Js (s:=s) (i:=(j:Int)) rfl hj
          have V:Aa ((j:Int)-(i:Int)+1)=((j+1:Nat):Int)-(i:Int):=by rw[Aa,B6] <;> omega
          simp only[f j q ω,Ao (ω:(j:Int)<(s.size:Int)),Ak,c1,Ad,c2,V,hp]) (λj q hj hp=>by
          obtain⟨c,c1,c2⟩:=Js (s:=s) (i:=(j:Int)) rfl hj
          simp only[f j q ω,Ao (ω:(j:Int)<(s.size:Int)),Ak,c1,Ad,c2,hp,Am]) (by
          simp only[f s.size hi ω];simp) (s.size-(i+1)) (i+1) ω ω
        have Z:((i+1:Nat):Int)-(i:Int)=1:=ω
        simp only[Z]at B
        simp only[Ad]at B
        rw[B,Ad]
        have k:E6 s (i:Int) (n:Int)=some (s.extract i n):=Pe rfl rfl ω D
        have X:(s.extract i n).size=n-i:=by rw[ByteArray.size_extract];omega
        obtain⟨b,hb,_⟩:=A3h (s.extract i n) ω
        obtain⟨b',hb'⟩:∃b':Bool,(bif decide ((n:Int)-(i:Int)>1) then some (bI s i==48) else some false)=some b':=by cases decide ((n:Int)-(i:Int)>1) <;> exact⟨_,rfl⟩
        simp only[hb',Ad,k,hb,f n ω D]
        cases b' with
        | true=>exact .inr ⟨_,rfl,(by show (2:Int)≠0;decide),g⟩
        | false=>
         simp only[Am]
         cases b.2 with
         | true=>exact .inl (J n 3 ω D δ)
         | false=>exact .inr ⟨_,rfl,(by show (9:Int)≠0;decide),g⟩
       | false=>
        have k:E6 s (i:Int) (s.size:Int)=some (s.extract i s.size):=Pe rfl rfl ω ω
        have X:(s.extract i s.size).size=s.size-i:=by rw[ByteArray.size_extract];omega
        obtain⟨r,r1,r2⟩:=A3g (s.extract i s.size) ω
        simp only[Am,k,Ad,r1]
        by_cases h0:r=0
        .subst h0
         exact .inr ⟨_,rfl,(by show (2:Int)≠0;decide),g⟩
        .simp only[Cy h0,Am]
         obtain⟨m,hm⟩:∃m:Nat,r=m:=⟨r.toNat,ω⟩
         subst hm
         have V:Aa ((i:Int)+(m:Int))=((i+m:Nat):Int):=by rw[Aa,B6] <;> omega
         rw[V,Pe (s:=s) (lo:=(i:Int)) (hi:=((i+m:Nat):Int)) rfl rfl ω ω,Ad]
         exact .inl (J (i+m) 5 ω ω δ)
   .have:i=s.size:=ω
    subst this
    refine .inr ⟨.inr o,ψ,ω,hk,λu=>?_⟩
    rcases hu u with⟨h',_⟩|⟨_,h'⟩
    .have:=u.1;omega
    .exact h'
  .rintro (⟨l,p,e⟩|o) hz
   .exact⟨_,rfl,.inl hz⟩
   .obtain⟨z1,z2,z3⟩:=hz
    simp only
    rw[Dn ζ,Ad]
    exact⟨_,rfl,.inr ⟨rfl,o,_,rfl,z2,z3⟩⟩
 .rintro⟨l,p,e⟩ (⟨h1,h2⟩|⟨h1,o,t,h2,h3,L⟩)
  .simp only at h1
   simp only[Cy h1,Am]
   exact⟨_,rfl,by simp[h2]⟩
  .simp only at h1 h2
   subst h1;subst h2
   simp only[beq_self_eq_true,Ak]
   match o,h3,L with
   | [],_,L=>exact⟨false,ψ,by simp;intro u;cases L u⟩
   | [x],h3,L=>
    have Z:Ag ([x]++[t]) 0=some x:=rfl
    simp only[Z,Ad,Ae9]
    have V:((([x]++[t]).length:Int)==2)=true:=rfl
    simp only[V,Ak]
    by_cases hx:x.G=2
    .simp only[Fm hx,Ak]
     refine⟨_,rfl,?_⟩
     rw[decide_eq_true_iff]
     constructor
     .intro h;rw[<-h];exact h3 x ψ hx
     .intro u;have:=L u;simp at this;rw[this]
    .simp only[Cy hx,Am]
     refine⟨_,rfl,?_⟩
     simp only[Bool.false_eq_true,false_iff]
     intro u;have:=L u;simp at this;rw[this]at hx;exact hx rfl
   | x::y::ys,_,L=>
    refine⟨false,?_,by simp;intro u;have:=L u;simp at this⟩
    rw[Cy]
    .rfl
    .simp;omega
def Uw (data:List Al) (d:Nat) (v:Int) (y:Oe):Prop:=Gd y.S/\y.R.length<=6/\y.R.all (Lq data d v)=true
def Se (data:List Al) (d:Nat) (x:Al):Prop:=0<=x.V/\x.V<=6/\1<=x.O.length/\x.O.length<=8/\Gd x.S/\∀y∈x.O,Uw data d x.V y
def Hw (x:Al):List ByteArray:=x.O.map (·.S)
def Hx (data:List Al):Prop:=data.length<=12/\(∀d x,data[d]? = some x->Se data d x)/\(data.map (·.S)).Nodup/\(data.flatMap Hw).Nodup
structure DSz (data:List Al):Prop where
 len:data.length<=1048576
 sz:SzD data
 nm:∀x∈data,x.S.size<=1048576
 cn:∀x∈data,∀y∈x.O,y.S.size<=1048576
theorem Nf (a b:ByteArray):(a==b)=true↔a=b:=by
 constructor
 .intro h;cases a with|mk a=>cases b with|mk b=>
  have:a=b:=(by exact eq_of_beq h);rw[this]
 .rintro rfl;cases a with|mk a=>exact beq_self_eq_true a
def L8 (o:List (ByteArray×Bool)) (L:List ByteArray):Prop:=(∀p∈o,p.2=true)/\∀s,E7 o s=true↔s∈L
theorem L8.nil:L8 [] []:=⟨ψ,by simp[E7]⟩
theorem L8.get (h:L8 o L) (b:E7 o s=true):Ik o s false=true:=by unfold Ik;unfold E7 at b;rw[any_eq_true]at b;obtain⟨p,f,c⟩:=b;cases hf:o.find? (λp=>s==p.1) with| none=>exact absurd c (by have:=find?_eq_none.1 hf p f;simpa using this)| some q=>exact h.1 q (mem_of_find?_eq_some hf)
theorem A3i (o:List (ByteArray×Bool)) (s t:ByteArray) (v:Bool):E7 (Gt o s v) t=(E7 o t||t==s):=by
 induction o with
 | nil=>simp[Gt,E7]
 | cons p o ih=>unfold Gt;cases hp:(s==p.1) with| true=>have:s=p.1:=(Nf _ _).1 hp;subst this;simp only[Ak,E7,any_cons];cases t==p.1 <;> simp| false=>simp only[E7,any_cons]at ih ⊢;simp only[Am,any_cons,ih,Bool.or_assoc]
theorem L8.put (h:L8 o L) (s:ByteArray):L8 (Gt o s true) (L++[s]):=by
 refine⟨?_,λt=>?_⟩
 .have:∀o:List (ByteArray×Bool),(∀p∈o,p.2=true)->∀p∈Gt o s true,p.2=true:=by
   intro o;induction o with
   | nil=>intro _ p hp;simp[Gt]at hp;rw[hp]
   | cons q o ih=>
    intro b p hp;unfold Gt at hp;cases hq:(s==q.1) with
    | true=>
     rw[hq]at hp;simp only[Ak,E8]at hp;rcases hp with rfl|hp
     .rfl
     .exact b p (by simp[hp])
    | false=>
     rw[hq]at hp;simp only[Am,E8]at hp;rcases hp with rfl|hp
     .exact b _ ψ
     .exact ih (λp hp=>b p (by simp[hp])) p hp
  exact this o h.1
 .rw[A3i,Bool.or_eq_true,h.2 t,Nf];simp
theorem A3j (x:Al) {c:Nat} (hy:x.O[c]? = some y):Hw x=(x.O.take c).map (·.S)++y.S::(x.O.drop (c+1)).map (·.S):=by
 have h:=take_append_drop c x.O
 have hc:=Eh hy
 have e:x.O.drop c=y::x.O.drop (c+1):=by
  rw[drop_eq_getElem_cons hc]
  rw[B4 hc]at hy
  rw[Ew hy]
 unfold Hw
 conv=>lhs;rw[<-h,e]
 simp
theorem Ar7 {m:List ByteArray} (h:(L++s::m).Nodup):s ∉ L:=by rw[nodup_append]at h;intro b;exact h.2.2 s b s ψ rfl
theorem Akj (h:L.Nodup) (c:s ∉ L):(L++[s]).Nodup:=by rw[nodup_append];refine⟨h,ψ,?_⟩;intro a ha b hb;simp at hb;subst hb;intro e;subst e;exact c ha
theorem A3k (s:DSz data) (hx:data[d]? = some x) (I:x.V<=6) (o:List (ByteArray×Bool)) (L:List ByteArray) (J:L8 o L) (N:L.Nodup) : ∃z,An (S:=(Int×List (ByteArray×Bool))) (E:=(Bool⊕(Int×List (ByteArray×Bool)))) (λ(f,g)=> bif f<(x.O.length:Int) then ((Ag x.O f).bind λv54=> (T2 v54.S).bind λA=> bif (!A) then some (.inr (.inl false)) else (bif (E7 g v54.S) then (bif (Ik g v54.S (false:Bool)) then some (.inr (.inl false)) else ((Rt data d f).bind λu=> bif (!u) then some (.inr (.inl false)) else some (.inl ((Aa (f+1)),(Gt g v54.S true))))) else ((Rt data d f).bind λv58=> bif (!v58) then some (.inr (.inl false)) else some (.inl ((Aa (f+1)),(Gt g v54.S true)))))) else some (.inr (.inr (f,g)))) (0,o)=some z /\ match z with
   | .inl r=>r=false/\¬((∀y∈x.O,Uw data d x.V y)/\(L++Hw x).Nodup)
   | .inr (_,o')=>(∀y∈x.O,Uw data d x.V y)/\(L++Hw x).Nodup/\L8 o' (L++Hw x):=by
 have hxm:=Bq hx;have M:=(s.sz x hxm).1;refine J2 (λ(f,g)=>∃c:Nat,f=c/\c<=x.O.length/\(∀y∈x.O.take c,Uw data d x.V y)/\(L++(x.O.take c).map (·.S)).Nodup/\L8 g (L++(x.O.take c).map (·.S))) (λ(f,_)=>x.O.length-f.toNat) _ ?_ _ ⟨0,rfl,ω,ψ,by simpa using N,by simpa using J⟩;rintro⟨v,g⟩ ⟨c,rfl,hc,h1,h2,h3⟩;rcases Cf c x.O.length with h|h
 .have hy:x.O[c]? = some x.O[c]:=B4 h;generalize x.O[c]=y at hy;have l:=Bq hy;obtain⟨b,b1,b2⟩:=Ar5 y.S (by have:=s.cn x hxm y l;omega);have ht:=Db hy;have D:L++Hw x=(L++(x.O.take c).map (·.S))++y.S::(x.O.drop (c+1)).map (·.S):=(by rw[A3j x hy];simp);simp only[Ao (ω:(c:Int)<(x.O.length:Int)),Ak,Br rfl hy,Ad,b1,A23 s.sz d c hx hy I s.len,C5 h ω];cases b with
  | false=>refine .inr ⟨.inl false,rfl,rfl,λk=>?_⟩;have:=b2.2 (k.1 y l).1;cases this
  | true=>
   simp only[Eg,Am];cases j:E7 g y.S with
   | true=>simp only[Ak,h3.get j];refine .inr ⟨.inl false,rfl,rfl,λk=>?_⟩;rw[D]at k;exact Ar7 k.2 ((h3.2 _).1 j)
   | false=>
    simp only[Am];cases i:(decide (y.R.length<=6)&&y.R.all (Lq data d x.V)) with
    | false=>refine .inr ⟨.inl false,rfl,rfl,λk=>?_⟩;have:=k.1 y l;rw[this.2.2,Ao this.2.1]at i;cases i
    | true=>
     simp only[Dz,D8]at i;have B:y.S ∉ L++(x.O.take c).map (·.S):=λk=>by rw[(h3.2 _).2 k]at j;cases j
     have e:L++(x.O.take (c+1)).map (·.S)=(L++(x.O.take c).map (·.S))++[y.S]:=(by rw[ht];simp);refine .inl ⟨_,rfl,⟨c+1,rfl,ω,?_,?_,?_⟩,ζ⟩
     .intro G q;rw[ht]at q;rcases Ef.1 q with h'|h'
      .exact h1 G h'
      .simp at h';subst h';exact⟨b2.1 rfl,i.1,i.2⟩
     .rw[e];exact Akj h2 B
     .rw[e];exact h3.put _
 .have:c=x.O.length:=ω;subst this;rw[Dq]at h1 h2 h3;exact .inr ⟨.inr ((x.O.length:Int),g),ψ,h1,h2,h3⟩
theorem A3l (hx:data[d]? = some x):data.flatMap Hw=((data.take d).flatMap Hw++Hw x)++(data.drop (d+1)).flatMap Hw/\data.map (·.S)=(data.take d).map (·.S)++x.S::(data.drop (d+1)).map (·.S):=by
 have h:=take_append_drop d data
 have hc:=Eh hx
 have e:data.drop d=x::data.drop (d+1):=by
  rw[drop_eq_getElem_cons hc]
  rw[B4 hc]at hx
  rw[Ew hx]
 constructor
 .conv=>lhs;rw[<-h,e]
  simp[flatMap_append]
 .conv=>lhs;rw[<-h,e]
  simp
theorem A3m (j:DSz data):∃b,Zn data=some b/\(b=true↔Hx data):=by
 have G:=j.len;unfold Zn;rcases Cf 12 data.length with h12|h12
 .rw[Ao ω];exact⟨false,rfl,by simp;intro h;have:=h.1;omega⟩
 rw[As ω];simp only[Am];refine Ey (λ(v31,f,g)=>∃d:Nat,v31=d/\d<=data.length/\(∀k x,k<d->data[k]? = some x->Se data k x)/\((data.take d).map (·.S)).Nodup/\((data.take d).flatMap Hw).Nodup/\L8 f ((data.take d).map (·.S))/\L8 g ((data.take d).flatMap Hw)) (λ(v31,_,_)=>data.length-v31.toNat) (λz=>match z with|.inl r=>r=false/\¬Hx data | .inr _=>Hx data) ⟨0,rfl,ω,by intro k x h;omega,ψ,ψ,by simpa using L8.nil,by simpa using L8.nil⟩ ?_ ?_
 .rintro⟨v,f,g⟩ ⟨d,rfl,hd,h1,h2,h3,B,V⟩;rcases Cf d data.length with h|h
  .have hx:data[d]? = some data[d]:=B4 h;generalize data[d]=x at hx;have hxm:=Bq hx;obtain⟨b,b1,b2⟩:=Ar5 x.S (by have:=j.nm x hxm;omega);obtain⟨f1,f2⟩:=A3l hx;simp only[Ao (ω:(d:Int)<(data.length:Int)),Ak,Br rfl hx,Ad,b1];have bad:∀(y:¬Se data d x),∃e:Bool⊕(List (ByteArray×Bool)×List (ByteArray×Bool)),(some (Sum.inr (Sum.inl false)):Option ((Int×List (ByteArray×Bool)×List (ByteArray×Bool))⊕(Bool⊕(List (ByteArray×Bool)×List (ByteArray×Bool)))))=some (.inr e)/\(match e with|.inl r=>r=false/\¬Hx data | .inr _=>Hx data) :=
    λy=>⟨.inl false,rfl,rfl,λc=>y (c.2.1 d x hx)⟩
   cases b with
   | false=>exact .inr (bad λc=>by have:=b2.2 c.2.2.2.2.1;cases this)
   | true=>
    simp only[Eg,Am];cases i:E7 f x.S with
    | true=>simp only[Ak,B.get i,Ad];refine .inr ⟨.inl false,rfl,rfl,λc=>?_⟩;have:=c.2.2.1;rw[f2]at this;exact Ar7 this ((B.2 _).1 i)
    | false=>
     simp only[Am];by_cases q:x.V<0
     .simp only[Ao q,Ak,Ad];exact .inr (bad λc=>by have:=c.1;omega)
     by_cases u:x.V>6
     .simp only[As q,Ao u,Ak,Am,Ad];exact .inr (bad λc=>by have:=c.2.1;omega)
     simp only[As q,As u,Am,Ad];by_cases s:(x.O.length:Int)<1
     .simp only[Ao s,Ak,Ad];exact .inr (bad λc=>by have:=c.2.2.1;omega)
     by_cases A:(x.O.length:Int)>8
     .simp only[As s,Ao A,Ak,Am,Ad];exact .inr (bad λc=>by have:=c.2.2.2.1;omega)
     simp only[As s,As A,Am,Ad];obtain⟨z,L,z2⟩:=A3k j hx ω g _ V h3;rw[L,Ad]
     match z,z2 with
     | .inl r,z2=>obtain⟨rfl,z2⟩:=z2;refine .inr ⟨.inl false,rfl,rfl,λc=>z2 ⟨(c.2.1 d x hx).2.2.2.2.2,?_⟩⟩;have:=c.2.2.2;rw[f1]at this;exact (nodup_append.1 this).1
     | .inr (v60,D),z2=>
      obtain⟨R,N,M⟩:=z2;have ht:=Db hx;have E:x.S ∉ (data.take d).map (·.S):=λc=>by rw[(B.2 _).2 c]at i;cases i
      have J:(data.take (d+1)).map (·.S)=(data.take d).map (·.S)++[x.S]:=(by rw[ht];simp);have I:(data.take (d+1)).flatMap Hw=(data.take d).flatMap Hw++Hw x:=(by rw[ht];simp[flatMap_append]);refine .inl ⟨(((d+1:Nat):Int),Gt f x.S true,D),by simp only[C5 h ω],⟨d+1,rfl,ω,?_,?_,?_,?_,?_⟩,ζ⟩
      .intro k S U l;rcases Cf k d with h'|h'
       .exact h1 k S h' l
       .have:k=d:=ω;subst this;rw[hx]at l;cases l;exact⟨ω,ω,ω,ω,b2.1 rfl,R⟩
      .rw[J];exact Akj h2 E
      .rw[I];exact N
      .rw[J];exact B.put _
      .rw[I];exact M
  .have:d=data.length:=ω;subst this;rw[Dq]at h2 h3;exact .inr ⟨.inr (f,g),ψ,h12,λd x hx=>h1 d x (Eh hx) hx,h2,h3⟩
 .rintro (r|⟨o,o'⟩) j
  .obtain⟨rfl,j⟩:=j;exact⟨false,rfl,by simp[j]⟩
  .exact⟨true,rfl,by simpa using j⟩
theorem Akk (c:DSz data):∃b,Wf data=some b/\(b=true↔Hx data):=by obtain⟨b,h1,h2⟩:=A3m c;refine⟨b,?_,h2⟩;unfold Wf;rw[h1,Ad];cases b with| false=>rfl| true=>rfl
theorem A3n {l:List ByteArray} {x:ByteArray} (h:l[j]? = some x) (b:l.Nodup):∀i y,i<j->l[i]? = some y->y≠x:=by intro i y hi hy e;subst e;have h1:=Eh h;have h2:i<l.length:=ω;rw[B4 h1]at h;rw[B4 h2]at hy;have:=(List.nodup_iff_pairwise_ne.1 b);rw[pairwise_iff_getElem]at this;exact this i j h2 h1 hi (by rw[Ew h,Ew hy])
theorem Ar8 (l:List ByteArray) (N:l.length<1099511627776):∃b,Wo l=some b/\(b=false↔l.Nodup):=by
 unfold Wo;refine Ey (λv=>∃i:Nat,v=i/\i<=l.length/\(l.take i).Nodup) (λv=>l.length-v.toNat) (λz=>match z with|.inl r=>r=true/\¬l.Nodup | .inr _=>l.Nodup) ⟨0,rfl,ω,ψ⟩ ?_ ?_
 .rintro v ⟨i,rfl,hi,A⟩;rcases Cf i l.length with h|h
  .have hx:l[i]? = some l[i]:=B4 h;generalize l[i]=x at hx;have G:(l.take i).length=i:=ζ;have D:∃z,An (S:=Int) (E:=(Bool⊕Int)) (λv4=>bif v4<(i:Int) then ((Ag l (i:Int)).bind λv5=>(Ag l v4).bind λL=>bif (v5.toList==L.toList) then some (.inr (.inl true)) else some (.inl (Aa (v4+1)))) else some (.inr (.inr v4))) 0=some z/\(match z with|.inl r=>r=true/\x∈l.take i | .inr _=>x ∉ l.take i):=by
    refine J2 (λv4:Int=>∃j:Nat,v4=j/\j<=i/\∀k y,k<j->l[k]? = some y->y≠x) (λv4=>i-v4.toNat) _ ?_ _ ⟨0,rfl,ω,λk y hk=>ω⟩;rintro v4 ⟨j,rfl,hj,g⟩;rcases Cf j i with h'|h'
    .have hy:l[j]? = some l[j]:=B4 ω;generalize l[j]=y at hy;simp only[Ao (ω:(j:Int)<(i:Int)),Ak,Br rfl hx,Br rfl hy,Ad,Ae9];by_cases c:x=y
     .rw[Ao c];refine .inr ⟨.inl true,rfl,rfl,?_⟩;subst c;exact Bq (i:=j) (by rw[getElem?_take_of_lt h'];exact hy)
     .rw[As c];refine .inl ⟨((j+1:Nat):Int),by simp only[Am];rw[C5 h' ω],⟨j+1,rfl,ω,?_⟩,ζ⟩;intro k J hk f;rcases Cf k j with h''|h''
      .exact g k J h'' f
      .have:k=j:=ω;subst this;rw[hy]at f;cases f;exact λe=>c e.symm
    .have:j=i:=ω;subst this;refine .inr ⟨.inr (j:Int),ψ,?_⟩;intro q;obtain⟨k,hk⟩:=Hu q;have B:=Eh hk;rw[getElem?_take_of_lt ω]at hk;exact g k x ω hk rfl
   obtain⟨z,I,z2⟩:=D;simp only[Ao (ω:(i:Int)<(l.length:Int)),Ak];rw[I,Ad]
   match z,z2 with
   | .inl r,z2=>obtain⟨rfl,z2⟩:=z2;refine .inr ⟨.inl true,rfl,rfl,λM=>?_⟩;obtain⟨k,hk⟩:=Hu z2;have B:=Eh hk;rw[getElem?_take_of_lt ω]at hk;exact A3n hx M k x ω hk rfl
   | .inr v8,z2=>refine .inl ⟨((i+1:Nat):Int),by simp only[C5 h ω],⟨i+1,rfl,ω,?_⟩,ζ⟩;rw[Db hx];exact Akj A z2
  .have:i=l.length:=ω;subst this;rw[Dq]at A;exact .inr ⟨.inr (),ψ,A⟩
 .rintro (r|u) s
  .obtain⟨rfl,s⟩:=s;exact⟨true,rfl,by simp[s]⟩
  .exact⟨false,rfl,by simpa using s⟩
theorem SzD.args (h:SzD data) (hx:x∈data) (hy:y∈x.O) (ht:t∈y.R):Bl t<=1048576/\t.R.length<=1048576/\y.R.length<=1048576:=by have h1:=(h x hx).2 y hy;have h3:=Iw ht;have f:=Iq t;have c:=Jr t.R;have b:=Jr y.R;omega
theorem A3o (l:DSz data) (hx:data[d]? = some x) (hy:y∈x.O) : ∃z,An (S:=Int) (E:=(Bool⊕Int)) (λb=> bif b<(y.R.length:Int) then ((Ag y.R b).bind λf=> (Rp f d x.V).bind λi=> bif i then some (.inl (Aa (b+1))) else ((Er data 0 d).bind λv218=> (P7 v218 f x.V).bind λg=> bif (!g) then some (.inr (.inl false)) else some (.inl (Aa (b+1))))) else some (.inr (.inr b))) 0=some z/\(match z with|.inl r=>r=false/\y.R.all (Lq data d x.V)=false | .inr _=>y.R.all (Lq data d x.V)=true):=by
 have hxm:=Bq hx;have A:=Eh hx;have s:=l.len;have B:y.R.length<=1048576:=by have:=(l.sz x hxm).2 y hy;have:=Jr y.R;omega
 refine J2 (λv:Int=>∃j:Nat,v=j/\j<=y.R.length/\(y.R.take j).all (Lq data d x.V)=true) (λv=>y.R.length-v.toNat) _ ?_ _ ⟨0,rfl,ω,ψ⟩;rintro v ⟨j,rfl,hj,c⟩;rcases Cf j y.R.length with h|h
 .have ht:y.R[j]? = some y.R[j]:=B4 h;generalize y.R[j]=t at ht;have k:=Bq ht;obtain⟨I,G,D⟩:=l.sz.args hxm hy k;simp only[Ao (ω:(j:Int)<(y.R.length:Int)),Ak,Br rfl ht,Ad,Arx t d x.V ω,Ut rfl (show d<=data.length by omega),Ake (data.take d) t x.V ω,C5 h ω];have good:Lq data d x.V t=true->(y.R.take (j+1)).all (Lq data d x.V)=true:=λhg=>by rw[Db ht,all_append,c];simp[hg]
  cases q:J6 t d x.V with
  | true=>exact .inl ⟨_,rfl,⟨j+1,rfl,ω,good (by unfold Lq;rw[q];rfl)⟩,ζ⟩
  | false=>simp only[Am];cases u:(He (data.take d) x.V t&&decide (Bl t<=200)) with| true=>exact .inl ⟨_,rfl,⟨j+1,rfl,ω,good (by unfold Lq;rw[u,q];rfl)⟩,ζ⟩| false=>refine .inr ⟨.inl false,rfl,rfl,?_⟩;rw[all_eq_false];exact⟨t,k,by unfold Lq;rw[u,q];simp⟩
 .have:j=y.R.length:=ω;subst this;rw[Dq]at c;exact .inr ⟨.inr (y.R.length:Int),ψ,c⟩
theorem A3p (M:DSz data) (hx:data[d]? = some x) (Y:x.O.length<=8) (L:List ByteArray) (X:L.length<=1048576) :
  ∃z,An (S:=(Int×List ByteArray)) (E:=(Bool⊕(Int×List ByteArray))) (λ(f,k)=>
   bif f<(x.O.length:Int) then (
   (show OB from
   (Ag x.O f).bind λA=>
   (Tp A.S).bind λv203=>
   bif (!v203) then some true
   else (
   (Ag x.O f).bind λu=>
   some (decide ((u.R.length:Int)>(6:Int))))
   ).bind λs=>
   bif s then some (.inr (.inl false))
   else (
   (Ag x.O f).bind λv206=>
   (Ca 16 k [v206.S]).bind λD=>
   (Ag x.O f).bind λv208=>
   (An (S:=Int) (E:=(Bool⊕Int)) (λg=>
   bif g<(v208.R.length:Int) then (
   (Ag v208.R g).bind λj=>
   (Rp j d x.V).bind λq=>
   bif q then some (.inl (Aa (g+1)))
   else (
   (Er data 0 d).bind λv218=>
   (P7 v218 j x.V).bind λl=>
   bif (!l) then some (.inr (.inl false))
   else some (.inl (Aa (g+1)))))
   else some (.inr (.inr g))) 0).bind λz=>
   match z with
   | .inl B=>some (.inr (.inl B))
   | .inr J=>some (.inl ((Aa (f+1)),D))))
   else some (.inr (.inr (f,k)))) (0,L)=some z /\
   (match z with|.inl r=>r=false/\¬(∀y∈x.O,Uw data d x.V y) | .inr (_,o)=>(∀y∈x.O,Uw data d x.V y)/\o=L++Hw x):=by
 have hxm:=Bq hx
 refine J2 (λ(v,o)=>∃c:Nat,v=c/\c<=x.O.length/\(∀y∈x.O.take c,Uw data d x.V y)/\o=L++(x.O.take c).map (·.S)) (λ(v,_)=>x.O.length-v.toNat) _ ?_ _ ⟨0,rfl,ω,ψ,ψ⟩
 rintro⟨v,o⟩ ⟨c,rfl,hc,h1,V⟩
 subst V
 rcases Cf c x.O.length with h|h
 .have hy:x.O[c]? = some x.O[c]:=B4 h
  generalize x.O[c]=y at hy
  have i:=Bq hy
  obtain⟨b,b1,b2⟩:=Ar6 y.S (by have:=M.cn x hxm y i;omega)
  obtain⟨z,R,z2⟩:=A3o M hx i
  simp only[Ao (ω:(c:Int)<(x.O.length:Int)),Ak,Br rfl hy,Ad,b1,C5 h ω]
  rw[Dn ζ]
  cases b with
  | false=>
   refine .inr ⟨.inl false,rfl,rfl,λI=>?_⟩
   have:=b2.2 (I y i).1;cases this
  | true=>
   simp only[Eg,Am,Ad]
   by_cases N:(y.R.length:Int)>6
   .rw[Ao N]
    refine .inr ⟨.inl false,rfl,rfl,λI=>?_⟩
    have:=(I y i).2.1;omega
   .rw[As N]
    simp only[Am]
    rw[R,Ad]
    match z,z2 with
    | .inl r,z2=>
     obtain⟨rfl,z2⟩:=z2
     refine .inr ⟨.inl false,rfl,rfl,λI=>?_⟩
     have:=(I y i).2.2
     rw[z2]at this;cases this
    | .inr w,z2=>
     refine .inl ⟨_,rfl,⟨c+1,rfl,ω,?_,?_⟩,ζ⟩
     .intro U G
      rw[Db hy]at G
      rcases Ef.1 G with h'|h'
      .exact h1 U h'
      .simp at h';subst h';exact⟨b2.1 rfl,ω,z2⟩
     .rw[Db hy];simp
 .have:c=x.O.length:=ω
  subst this
  rw[Dq]at h1
  exact .inr ⟨.inr ((x.O.length:Int),L++Hw x),by simp[Hw],h1,rfl⟩
theorem A3q (D:DSz data):∃b,Zc data=some b/\(b=true↔Hx data):=by
 have J:=D.len;unfold Zc;rcases Cf 12 data.length with h12|h12
 .rw[Ao ω];exact⟨false,rfl,by simp;intro h;have:=h.1;omega⟩
 rw[As ω];simp only[Am];have l:∀d,d<=data.length->(∀f x,f<d->data[f]? = some x->Se data f x)->((data.take d).flatMap Hw).length<=8*d:=by intro d;induction d with| zero=>intro _ _;simp| succ d ih=>intro hd h1;have hx:data[d]? = some data[d]:=B4 ω;have:=ih ω (λf x E=>h1 f x ω);have V:=(h1 d _ ω hx).2.2.2.1;rw[Db hx,flatMap_append,E4];simp only[flatMap_cons,flatMap_nil,append_nil,Hw,Dc];omega
 refine Ey (λ(v,k,j)=>∃d:Nat,v=d/\d<=data.length/\(∀f x,f<d->data[f]? = some x->Se data f x)/\k=(data.take d).map (·.S)/\j=(data.take d).flatMap Hw) (λ(v,_,_)=>data.length-v.toNat) (λz=>match z with|.inl r=>r=false/\¬Hx data | .inr (k,j)=>(∀d x,data[d]? = some x->Se data d x)/\k=data.map (·.S)/\j=data.flatMap Hw) ⟨0,rfl,ω,by intro f x h;omega,ψ,ψ⟩ ?_ ?_
 .rintro⟨v,k,j⟩ ⟨d,rfl,hd,h1,h2,h3⟩;rcases Cf d data.length with h|h
  .have hx:data[d]? = some data[d]:=B4 h;generalize data[d]=x at hx;have hxm:=Bq hx;obtain⟨b,b1,b2⟩:=Ar6 x.S (by have:=D.nm x hxm;omega);simp only[Ao (ω:(d:Int)<(data.length:Int)),Ak,Br rfl hx,Ad,b1];have bad:∀(u:¬Se data d x),∃e:Bool⊕(List ByteArray×List ByteArray),(some (Sum.inr (Sum.inl false)):Option ((Int×List ByteArray×List ByteArray)⊕(Bool⊕(List ByteArray×List ByteArray))))=some (.inr e)/\(match e with|.inl r=>r=false/\¬Hx data | .inr (k,j)=>(∀d x,data[d]? = some x->Se data d x)/\k=data.map (·.S)/\j=data.flatMap Hw) :=
    λu=>⟨.inl false,rfl,rfl,λc=>u (c.2.1 d x hx)⟩
   by_cases g:x.V<0
   .simp only[Ao g,Ak,Ad];exact .inr (bad λc=>by have:=c.1;omega)
   by_cases i:x.V>6
   .simp only[As g,Ao i,Ak,Am,Ad];exact .inr (bad λc=>by have:=c.2.1;omega)
   by_cases s:(x.O.length:Int)<1
   .simp only[As g,As i,Ao s,Am,Ak,Ad];exact .inr (bad λc=>by have:=c.2.2.1;omega)
   by_cases A:(x.O.length:Int)>8
   .simp only[As g,As i,As s,Ao A,Ak,Am,Ad];exact .inr (bad λc=>by have:=c.2.2.2.1;omega)
   simp only[As g,As i,As s,As A,Am,Ad];cases b with
   | false=>exact .inr (bad λc=>by have:=b2.2 c.2.2.2.2.1;cases this)
   | true=>
    have y:=l d hd h1;rw[h2,h3];simp only[Eg,Am];rw[Dn ζ,Ad];obtain⟨z,L,z2⟩:=A3p D hx ω ((data.take d).flatMap Hw) ω
    erw[L,Ad]
    match z,z2 with
    | .inl r,z2=>obtain⟨rfl,z2⟩:=z2;exact .inr (bad λc=>z2 c.2.2.2.2.2)
    | .inr (v60,S),z2=>
     obtain⟨N,M⟩:=z2;subst M;have ht:=Db hx;refine .inl ⟨(((d+1:Nat):Int),(data.take d).map (·.S)++[x.S],(data.take d).flatMap Hw++Hw x),by simp only[C5 h ω],⟨d+1,rfl,ω,?_,?_,?_⟩,ζ⟩
     .intro f R E q;rcases Cf f d with h'|h'
      .exact h1 f R h' q
      .have:f=d:=ω;subst this;rw[hx]at q;cases q;exact⟨ω,ω,ω,ω,b2.1 rfl,N⟩
     .rw[ht];simp
     .rw[ht];simp[flatMap_append]
  .have:d=data.length:=ω;subst this;rw[Dq]at h2 h3;exact .inr ⟨.inr (k,j),ψ,λd x hx=>h1 d x (Eh hx) hx,h2,h3⟩
 .rintro (r|⟨k,j⟩) hp
  .obtain⟨rfl,hp⟩:=hp;exact⟨false,rfl,by simp[hp]⟩
  .obtain⟨I,rfl,rfl⟩:=hp;have y:=l data.length ω (λd x _=>I d x);rw[Dq]at y;obtain⟨b,b1,b2⟩:=Ar8 (data.map (·.S)) ζ;obtain⟨U,G,B⟩:=Ar8 (data.flatMap Hw) ω;simp only[b1,Ad,G];cases b with
   | true=>exact⟨false,rfl,by simp;intro c;have:=b2.2 c.2.2.1;cases this⟩
   | false=>cases U with| true=>exact⟨false,rfl,by simp;intro c;have:=B.2 c.2.2.2;cases this⟩| false=>exact⟨true,rfl,by simp;exact⟨h12,I,b2.1 rfl,B.1 rfl⟩⟩
end Go.Ab
