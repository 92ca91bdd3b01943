/- Plain laws. -/
import Derived.Test.YtikjbngjfebkjaaGreatDoorLnDef
import Derived.Lib.ItoaLen
open List
namespace Go.Ab
open Go
variable {i:Nat} {E R S:Type} {α:Type _} {J:E->Option R} {l s t:List α} {X:Option (S⊕E)} {a b e:α}
theorem Ad {α β:Type} (a:α) (f:α->Option β):(some a).bind f=f a:=rfl
theorem Bq {α:Type} {l:List α} (h:i<l.length):l[i]? = some l[i]:=getElem?_eq_getElem h
theorem Bz {α:Type} {l:List α} {a:α} (h:l[i]? = some a):a∈l:=mem_of_getElem? h
theorem Cv (a b:Bool):((a&&b)=true)=(a=true/\b=true):=Bool.and_eq_true a b
theorem Fz:(!true)=false:=rfl
theorem Ak (a b:α):(bif true then a else b)=a:=rfl
theorem Ap (a b:α):(bif false then a else b)=b:=rfl
theorem Dk {p:Prop} [Decidable p]:(decide p=true)=p:=decide_eq_true_eq
theorem Ar {c:Prop} {h:Decidable c} (g:¬c) {t:α}:(if c then t else e)=e:=if_neg g
theorem Au {c:Prop} {h:Decidable c} (g:c) {t:α}:(if c then t else e)=t:=if_pos g
theorem Cf (a b:Nat):a<b\/a>=b:=Nat.lt_or_ge a b
theorem Db:l.take l.length=l:=take_length
theorem Ii (h:l.length<=i):l.take i=l:=take_of_length_le h
theorem Fr:l.length=0↔l = []:=length_eq_zero_iff
theorem Hu (h:a∈l):∃i:Nat,l[i]? = some a:=getElem?_of_mem h
theorem Gt {p:α->Bool}:l.all p=true↔∀x,x∈l->p x=true:=all_eq_true
theorem En:a∈s++t↔a∈s\/a∈t:=mem_append
theorem C5 {β:Type _} (f:α->β):(l.map f).length=l.length:=length_map f
theorem Eu (h:some a=some b):a=b:=Option.some.inj h
theorem D4:a::s++t=a::(s++t):=rfl
theorem D5:a∈[b]↔a=b:=mem_singleton
theorem Gl:a∈b::l↔a=b\/a∈l:=mem_cons
theorem D2:(a::l).length=l.length+1:=rfl
theorem Ew:(s++t).length=s.length+t.length:=length_append
theorem Lt (h:l.length<=i):l[i]? = none:=getElem?_eq_none h
theorem Ki {step:S->Option (S⊕E)} {s:S} {r:R} (c:S->Prop) (m:S->Nat) (b:E->Prop) (h0:c s) (f:∀s,c s->(∃h,step s=some (.inl h)/\c h/\m h < m s)\/(∃e,step s=some (.inr e)/\b e)) (g:∀e,b e->J e=some r):(Am step s).bind J=some r:=by obtain⟨e,q,u⟩:=Kf c m b f s h0;rw[q];exact g e u
theorem Ej {step:S->Option (S⊕E)} {s:S} {Q:R->Prop} (c:S->Prop) (m:S->Nat) (b:E->Prop) (h0:c s) (f:∀s,c s->(∃h,step s=some (.inl h)/\c h/\m h < m s)\/(∃e,step s=some (.inr e)/\b e)) (g:∀e,b e->∃r,J e=some r/\Q r):∃r,(Am step s).bind J=some r/\Q r:=by obtain⟨e,q,u⟩:=Kf c m b f s h0;rw[q];exact g e u
theorem Xu {Q:S->Prop} (h:∃r,X=some r/\∃g,r = .inl g/\Q g):∃g,X=some (.inl g)/\Q g:=by obtain⟨r,q,g,rfl,u⟩:=h;exact⟨g,q,u⟩
theorem A45 {Q:E->Prop} (h:∃r,X=some r/\∃e,r = .inr e/\Q e):∃e,X=some (.inr e)/\Q e:=by obtain⟨r,g,q,rfl,u⟩:=h;exact⟨q,g,u⟩
theorem Ab2 {A:Type} {X:Option R} (f:A->R) {Q:A->Prop} (h:∃r,X=some r/\∃a,r=f a/\Q a):∃a,X=some (f a)/\Q a:=by obtain⟨r,g,a,rfl,q⟩:=h;exact⟨a,g,q⟩
variable {a b i:Int} {n:Nat} {p:Prop} {α:Type} {l:List α}
theorem A46 {β:Type} {c:Prop} [Decidable c] (a b:Option α) (f:α->Option β):(if c then a else b).bind f=if c then a.bind f else b.bind f:=by split <;> rfl
theorem B4 {n:Int} (g : -9223372036854775808<=n) (h:n<=9223372036854775807):IntKind.i64.wrap n=n:=by
 have e:IntKind.i64.wrap n=if 9223372036854775808<=n % 18446744073709551616 then n % 18446744073709551616-18446744073709551616 else n % 18446744073709551616:=by simp[IntKind.wrap,IntKind.bits,IntKind.signed]
 rw[e];split <;> omega
theorem Dr {n:Int} (g:0<=n) (h:n<=18446744073709551615):IntKind.u64.wrap n=n:=by
 have e:IntKind.u64.wrap n=n % 18446744073709551616:=by simp[IntKind.wrap,IntKind.bits,IntKind.signed]
 rw[e];omega
theorem Hc {n:Int} (g:0<=n) (h:n<=4294967295):IntKind.u32.wrap n=n:=by
 have e:IntKind.u32.wrap n=n % 4294967296:=by simp[IntKind.wrap,IntKind.bits,IntKind.signed]
 rw[e];omega
theorem Ev (g:i=n) (h:n<l.length):Ag l i=some l[n]:=by subst g;simp[Ag,h]
theorem Br {x:α} (g:i=n) (h:l[n]? = some x):Ag l i=some x:=by subst g;simp[Ag,h]
theorem Ab3 (h:i<0\/(l.length:Int)<=i):Ag l i=none:=by
 unfold Ag;split
 .rw[Lt];omega
 .rfl
theorem He (g:i=n) (x:α):Ct l i x=l.set n x:=by subst g;simp[Ct]
theorem Dl {b:Nat} {xs ys:List α} (h:(xs.length+ys.length)*b<=140737488355328):B6 b xs ys=some (xs++ys):=by simp[B6,h]
theorem Ld {b:Nat} {len f:Int} {z:α} {c:Nat} (h:len=n) (q:f=c) (A:n<=c) (u:b*c<=281474976710656) (g:c<=140737488355328):Gw b len f z=some (replicate n z):=by subst h;subst q;have B:(0:Int)<=(n:Int):=ω;have v:(n:Int)<=(c:Int):=ω;have w:(c:Int)<=140737488355328:=ω;simp[Gw,v,w,u]
theorem Aln {b:Nat} {f:Int} {z:α} {c:Nat} (h:f=c) (q:b*c<=281474976710656) (g:c<=140737488355328):Gw b 0 f z=some []:=by exact Ld (len:=0) (n:=0) (c:=c) rfl h ω q g
theorem Cu (h:a≠b):(a==b)=false:=by simpa using h
theorem Ef (h:a=b):(a==b)=true:=by simpa using h
theorem F7 (h:a≠b):(a != b)=true:=by simpa using h
theorem G1 (h:a=b):(a != b)=false:=by simpa using h
theorem As [Decidable p] (h:p):decide p=true:=decide_eq_true h
theorem Aw [Decidable p] (h:¬p):decide p=false:=decide_eq_false h
theorem Xv {g:Int} (h:g=n) (b:n<=l.length):F5 l 0 g=some (l.take n):=by subst h;have:(n:Int)<=(l.length:Int):=ω;simp[F5,this]
theorem Mf (g:0<=a) (hb:0<b):Iu a b=some (a % b):=by have:b≠0:=ω;simp[Iu,this,Int.tmod_eq_emod_of_nonneg g]
theorem Mz (g:0<=a) (c:a<=18446744073709551615) (hb:0<b):H3 .u64 a b=some (a / b):=by have:b≠0:=ω;have h:0<=a / b:=Int.ediv_nonneg g ω;have q:a / b<=a:=Int.ediv_le_self _ g;simp[H3,this,Int.tdiv_eq_ediv_of_nonneg g];exact Dr h ω
theorem Alo (g:0<=a) (c:a<=4294967295) (hb:0<b):H3 .u32 a b=some (a / b):=by have:b≠0:=ω;have h:0<=a / b:=Int.ediv_nonneg g ω;have q:a / b<=a:=Int.ediv_le_self _ g;simp[H3,this,Int.tdiv_eq_ediv_of_nonneg g];exact Hc h ω
def Al:List Int->Int
 | []=>0
 | d::l=>d+1000000000*Al l
def Cj (l:List Int):Prop:=∀d∈l,0<=d/\d<1000000000
def Nu (l:List Int):Prop:=∀d∈l,0<=d/\d<4294967296
def Can (l:List Int):Prop:=Cj l/\∀h:l≠[],l.getLast h≠0
def Ah (n:Nat):List Int:=if h:n=0 then [] else ((n % 1000000000:Nat):Int)::Ah (n / 1000000000)
termination_by n
decreasing_by exact Nat.div_lt_self ω δ
theorem Hv:Ah 0 = []:=by rw[Ah];simp
theorem Ot (h:n≠0):Ah n=((n % 1000000000:Nat):Int)::Ah (n / 1000000000):=by rw[Ah];simp[h]
theorem Cj.nil:Cj []:=λ_ h=>by cases h
theorem Cj.append {l m:List Int} (h:Cj l) (h':Cj m):Cj (l++m):=by
 intro d hd;rcases En.1 hd with hd|hd
 .exact h d hd
 .exact h' d hd
variable {d:Int} {l:List Int} {i n:Nat}
theorem Cj.one (h:0<=d) (h':d<1000000000):Cj [d]:=by intro x hx;simp at hx;subst hx;exact⟨h,h'⟩
theorem Cj.snoc (h:Cj l) (hd:0<=d) (b:d<1000000000):Cj (l++[d]):=h.append (Cj.one hd b)
theorem Cj.take (h:Cj l) (k:Nat):Cj (l.take k):=λd hd=>h d (mem_of_mem_take hd)
theorem Cj.drop (h:Cj l) (k:Nat):Cj (l.drop k):=λd hd=>h d (mem_of_mem_drop hd)
theorem Cj.get (h:Cj l) (hi:i<l.length):0<=l[i]/\l[i]<1000000000:=h _ (getElem_mem hi)
theorem Cj.set (h:Cj l) (i:Nat) (hd:0<=d) (b:d<1000000000):Cj (l.set i d):=by
 intro x hx;rcases mem_or_eq_of_mem_set hx with hx|rfl
 .exact h x hx
 .exact⟨hd,b⟩
theorem Cj.replicate (n:Nat):Cj (replicate n 0):=by intro d hd;have:=eq_of_mem_replicate hd;subst this;decide
theorem Cj.tail (h:Cj (d::l)):Cj l:=λx hx=>h x (by simp[hx])
theorem Cj.u32 (h:Cj l):Nu l:=λd hd=>by have:=h d hd;omega
theorem Alp (l m:List Int):Al (l++m)=Al l+1000000000 ^ l.length*Al m:=by induction l with| nil=>simp[Al]| cons d l ih=>simp only[D4,Al,ih,D2,Int.pow_succ];grind
theorem Mg (l:List Int) (d:Int):Al (l++[d])=Al l+1000000000 ^ l.length*d:=by rw[Alp];simp[Al]
theorem Hf (l:List Int) {k:Nat} (h:k<l.length):Al (l.take (k+1))=Al (l.take k)+1000000000 ^ k*l[k]:=by rw[take_succ_eq_append_getElem h,Mg];simp[Nat.min_eq_left (Nat.le_of_lt h)]
theorem Agi (n:Nat):Al (replicate n 0)=0:=by induction n with| zero=>rfl| succ n ih=>simp[replicate_succ,Al,ih]
theorem Pu (l:List Int) (k:Nat) (h:k<=l.length):Al l=Al (l.take k)+1000000000 ^ k*Al (l.drop k):=by have e:=Alp (l.take k) (l.drop k);rw[take_append_drop]at e;rw[e,length_take,Nat.min_eq_left h]
theorem Nv (l:List Int) (h:i<l.length) (d:Int):Al (l.set i d)=Al l+1000000000 ^ i*(d-l[i]):=by
 induction l generalizing i with
 | nil=>simp at h
 | cons x l ih=>cases i with| zero=>simp[Al];omega| succ i=>have g:i<l.length:=(by simpa using h);simp only[set_cons_succ,Al,ih g,getElem_cons_succ,Int.pow_succ];grind
theorem H8 (h:Nu l):0<=Al l:=by induction l with| nil=>simp[Al]| cons d l ih=>have q:=h d ψ;have u:=ih λx g=>h x (by simp[g]);simp only[Al];omega
theorem Lu (n:Nat):(0:Int)<1000000000 ^ n:=Int.pow_pos δ
theorem Lv (h:Cj l):Al l<1000000000 ^ l.length:=by induction l with| nil=>simp[Al]| cons d l ih=>have g:=h d ψ;have q:=ih h.tail;simp only[Al,D2,Int.pow_succ];omega
theorem Gc (n:Nat):Al (Ah n)=n:=by
 induction n using Nat.strongRecOn with
 | _ n ih=>
  by_cases h:n=0
  .subst h;rw[Hv];rfl
  .rw[Ot h,Al,ih (n / 1000000000) (Nat.div_lt_self ω δ)];omega
theorem F0 (n:Nat):Cj (Ah n):=by
 induction n using Nat.strongRecOn with
 | _ n ih=>
  by_cases h:n=0
  .subst h;rw[Hv];exact Cj.nil
  .rw[Ot h];intro d g;simp at g;rcases g with rfl|g
   .omega
   .exact ih (n / 1000000000) (Nat.div_lt_self ω δ) d g
theorem Kj (h:n≠0):Ah n≠[]:=by rw[Ot h];simp
theorem Agj (n:Nat):Can (Ah n):=by
 refine⟨F0 n,?_⟩;induction n using Nat.strongRecOn with
 | _ n ih=>
  intro b;have h:n≠0:=λe=>b (by rw[e];exact Hv);have q:=Ot h;by_cases g:n / 1000000000=0
  .have c:Ah n = [((n % 1000000000:Nat):Int)]:=(by rw[q,g,Hv]);simp only[c,getLast_singleton];omega
  .have:=ih (n / 1000000000) (Nat.div_lt_self ω δ) (Kj g);simp only[q];rwa [getLast_cons (Kj g)]
theorem Alq (h:Can l):Ah (Al l).toNat=l:=by induction l with| nil=>exact Hv| cons d l ih=>obtain⟨q,u⟩:=h;have w:=q d ψ;have f:Can l:=(by refine⟨q.tail,λb=>?_⟩;have:=u ψ;rwa [getLast_cons b]at this);have v:=H8 (q.tail).u32;have b:(Al (d::l)).toNat≠0:=(by intro e;simp only[Al]at e;have c:d=0:=ω;have v:Al l=0:=ω;have:l = []:=(by rw[<-ih f,v];exact Hv);subst this;exact u ψ (by simpa using c));rw[Ot b];simp only[Al];have i:((d+1000000000*Al l).toNat % 1000000000:Nat)=d.toNat:=ω;have g:(d+1000000000*Al l).toNat / 1000000000=(Al l).toNat:=ω;rw[i,g,ih f];congr 1;omega
theorem Agk (h:Can l) (g:Al l=n):l=Ah n:=by rw[<-Alq h,g];rfl
def I2:List Int->List Int
 | []=>[]
 | d::l=>match I2 l with
  | []=>if d=0 then [] else [d]
  | x::m=>d::x::m
theorem A47 (l:List Int):I2 (l++[0])=I2 l:=by induction l with| nil=>rfl| cons d l ih=>simp only[D4,I2,ih]
theorem A48 (h:d≠0):I2 (l++[d])=l++[d]:=by
 induction l with
 | nil=>simp[I2,h]
 | cons x l ih=>simp only[D4,I2,ih];cases l with| nil=>rfl| cons y l=>rfl
theorem As5 (h:Cj l):Can (I2 l)/\Al (I2 l)=Al l:=by
 induction l with
 | nil=>exact⟨⟨Cj.nil,λh=>(h rfl).elim⟩,rfl⟩
 | cons d l ih=>
  obtain⟨⟨v,w⟩,g⟩:=ih h.tail;have q:=h d ψ;simp only[I2];cases A:I2 l with
  | nil=>
   rw[A]at g;simp only[Al]at g;simp only[];by_cases b:d=0
   .rw[Au b];refine⟨⟨Cj.nil,λh=>(h rfl).elim⟩,?_⟩;simp only[Al];rw[<-g];omega
   .rw[Ar b];refine⟨⟨Cj.one q.1 q.2,λ_=>by simpa using b⟩,?_⟩;simp only[Al];rw[<-g]
  | cons x m=>
   rw[A]at v w g;simp only[];refine⟨⟨?_,λ_=>?_⟩,?_⟩
   .intro y u;rcases Gl.1 u with rfl|u
    .exact q
    .exact v y u
   .rw[getLast_cons ψ];exact w ψ
   .simp only[Al]at g ⊢;rw[g]
theorem M0 (h:Cj l) (g:Al l=n):I2 l=Ah n:=by obtain⟨q,u⟩:=As5 h;exact Agk q (u.trans g)
theorem A49 (h:Can l):I2 l=l:=by obtain⟨g,q⟩:=As5 h.1;rw[<-Alq g,q,Alq h]
variable {j k m n:Nat} {E R S α:Type} {J:E->Option R} {l:List α} {r rf rt:R} {s0:S} {x:α} {p:α×Nat->Bool}
def Bs (n:Nat):Nat:=(Ah n).length
theorem Ab4:Bs 0=0:=by simp[Bs,Hv]
theorem Ou (n:Nat):n<1000000000 ^ Bs n:=by have:=Lv (F0 n);rw[Gc]at this;have e:((1000000000 ^ Bs n:Nat):Int)=1000000000 ^ Bs n:=ψ;unfold Bs at *;omega
theorem Kk (h:n<1000000000 ^ k):Bs n<=k:=by
 induction k generalizing n with
 | zero=>simp at h;subst h;simp[Ab4]
 | succ k ih=>
  by_cases g:n=0
  .subst g;simp[Ab4]
  .unfold Bs;rw[Ot g,D2];have:n / 1000000000<1000000000 ^ k:=(by rw[Nat.div_lt_iff_lt_mul δ];rwa [Nat.pow_succ]at h);have:=ih this;unfold Bs at this;omega
theorem Ja (h:m<=n):Bs m<=Bs n:=Kk (Nat.lt_of_le_of_lt h (Ou n))
theorem As6 (h:k<Bs n):1000000000 ^ k<=n:=by
 rcases Cf n (1000000000 ^ k) with g|g
 .have:=Kk g;omega
 .exact g
theorem Ab5 (m n:Nat):Bs (m+n)<=max (Bs m) (Bs n)+1:=by apply Kk;have g:=Ou m;have h:=Ou n;have q:1000000000 ^ Bs m<=1000000000 ^ max (Bs m) (Bs n):=Nat.pow_le_pow_right δ (Nat.le_max_left _ _);have u:1000000000 ^ Bs n<=1000000000 ^ max (Bs m) (Bs n):=Nat.pow_le_pow_right δ (Nat.le_max_right _ _);rw[Nat.pow_succ];omega
theorem H5 (m n:Nat):Bs (m*n)<=Bs m+Bs n:=by apply Kk;rw[Nat.pow_add];exact Nat.mul_lt_mul_of_lt_of_le (Ou m) (Nat.le_of_lt (Ou n)) (Nat.pow_pos δ)
theorem Alr (m n:Nat):Bs (m / n)<=Bs m:=Ja (Nat.div_le_self _ _)
theorem As7 (h:Bs m<Bs n):m<n:=Nat.lt_of_lt_of_le (Ou m) (As6 h)
theorem As8 {l m:List Int} (g:Cj l) (q:k<l.length) (b:k<m.length) (f:Cj m) (u:l.drop (k+1)=m.drop (k+1)) (c:l[k]<m[k]):Al l<Al m:=by have j:=Pu l (k+1) q;have i:=Pu m (k+1) b;rw[Hf l q]at j;rw[Hf m b,<-u]at i;have v:=Lv (g.take k);have w:=H8 ((f.take k).u32);rw[length_take,Nat.min_eq_left (Nat.le_of_lt q)]at v;have h:1000000000 ^ k*(l[k]+1)<=1000000000 ^ k*m[k]:=Int.mul_le_mul_of_nonneg_left c (Int.le_of_lt (Lu k));rw[Int.mul_add]at h;omega
theorem Jn {step:S->Option (S⊕E)} (n:Nat) (b:Nat->S) (h0:s0=b 0) (c:∀j,j<n->step (b j)=some (.inl (b (j+1)))) (f:∃e,step (b n)=some (.inr e)/\J e=some r):(Am step s0).bind J=some r:=by
 have g:∀m,m<=n->Am step (b 0)=Am step (b m):=by intro m;induction m with| zero=>intro _;rfl| succ m ih=>intro h;rw[ih ω,Lm (c m ω)]
 obtain⟨e,q,u⟩:=f;rw[h0,g n (Nat.le_refl _),Ga q];exact u
theorem C6 (h:j<n) (b:n<4611686018427387904):Ac ((j:Int)+1)=((j+1:Nat):Int):=by rw[Ac,B4] <;> omega
theorem As9 (h:l.zipIdx.all p=false):∃j x,l[j]? = some x/\p (x,j)=false/\∀i y,i<j->l[i]? = some y->p (y,i)=true:=by
 have q:∀(n:Nat),(∀i y,i<n->l[i]? = some y->p (y,i)=true)\/∃j x,j<n/\l[j]? = some x/\p (x,j)=false/\∀i y,i<j->l[i]? = some y->p (y,i)=true:=by
  intro n;induction n with
  | zero=>exact .inl (λi y h=>ω)
  | succ n ih=>
   rcases ih with ih|⟨j,x,C,u,v,w⟩
   .cases A:l[n]? with
    | none=>exact .inl (λi y B g=>by
      rcases Cf i n with h|h
      .exact ih i y h g
      .have:i=n:=ω
       subst this;rw[A]at g;cases g)
    | some x=>
     cases hp:p (x,n) with
     | true=>exact .inl (λi y B g=>by
       rcases Cf i n with h|h
       .exact ih i y h g
       .have:i=n:=ω
        subst this;rw[A]at g;cases g;exact hp)
     | false=>exact .inr ⟨n,x,ω,A,hp,ih⟩
   .exact .inr ⟨j,x,ω,u,v,w⟩
 rcases q l.length with D|⟨j,x,C,u,v,w⟩
 .exfalso;have:l.zipIdx.all p=true:=by
   rw[Gt];rintro⟨y,i⟩ g;have:=mk_mem_zipIdx_iff_getElem?.1 g;have B:i<l.length:=by
    rcases Cf i l.length with h|h
    .exact h
    .rw[Lt h]at this;cases this
   exact D i y B this
  rw[this]at h;cases h
 .exact⟨j,x,u,v,w⟩
theorem Jo (h:l.zipIdx.all p=true) (g:l[j]? = some x):p (x,j)=true := Gt.1 h _ (mk_mem_zipIdx_iff_getElem?.2 g)
theorem Als (h:∀j x,l[j]? = some x->p (x,j)=true):l.zipIdx.all p=true:=by rw[Gt];rintro⟨y,i⟩ g;exact h i y (mk_mem_zipIdx_iff_getElem?.1 g)
theorem Xw {step:S->Option (S⊕E)} (l:List α) (p:α×Nat->Bool) (b:Nat->S) (h0:s0=b 0) (g:l.length<4611686018427387904) (f:∀(j:Nat) (x:α),l[j]? = some x->(∀i y,i<j->l[i]? = some y->p (y,i)=true)->decide ((j:Int)<(l.length:Int))=true->Ag l (j:Int)=some x->Ac ((j:Int)+1)=((j+1:Nat):Int) -> (p (x,j)=true->step (b j)=some (.inl (b (j+1))))/\(p (x,j)=false->∃e,step (b j)=some (.inr e)/\J e=some rf)) (q:decide ((l.length:Int)<(l.length:Int))=false->l.zipIdx.all p=true->∃e,step (b l.length)=some (.inr e)/\J e=some rt):(Am step s0).bind J=some (bif l.zipIdx.all p then rt else rf):=by
 have c:∀(j:Nat) (x:α),l[j]? = some x->(∀i y,i<j->l[i]? = some y->p (y,i)=true)->_:=λj x u v=>
  have w:j<l.length:=by
   rcases Cf j l.length with h|h
   .exact h
   .rw[Lt h]at u;cases u
  f j x u v (As ω) (Br rfl u) (C6 w g)
 cases A:l.zipIdx.all p with
 | true=>refine Jn l.length b h0 (λj w=>?_) (q ψ A);have u:l[j]? = some l[j]:=Bq w;exact (c j _ u λi y _ v=>Jo A v).1 (Jo A u)
 | false=>
  obtain⟨j,x,B,D,C⟩:=As9 A;refine Jn j b h0 (λi F=>?_) ((c j x B C).2 D);have w:j<l.length:=by
   rcases Cf j l.length with h|h
   .exact h
   .rw[Lt h]at B;cases B
  have u:l[i]? = some l[i]:=Bq ω;exact (c i _ u λk y G v=>C k y ω v).1 (C i _ F u)
theorem Agl (l:List α) (p:α->Bool):l.zipIdx.all (λq=>p q.1)=l.all p:=by
 cases h:l.all p with
 | true=>exact Als λj x g=>Gt.1 h _ (Bz g)
 | false=>cases u:l.zipIdx.all (λq=>p q.1) with| false=>rfl| true=>rw[<-h];symm;rw[Gt];intro x g;obtain⟨j,v⟩:=Hu g;exact Jo u v
theorem Ab6 {step:S->Option (S⊕E)} (l:List α) (p:α->Bool) (b:Nat->S) (h0:s0=b 0) (f:l.length<4611686018427387904) (c:∀(j:Nat) (x:α),l[j]? = some x->decide ((j:Int)<(l.length:Int))=true->Ag l (j:Int)=some x->Ac ((j:Int)+1)=((j+1:Nat):Int) -> (p x=true->step (b j)=some (.inl (b (j+1))))/\(p x=false->∃e,step (b j)=some (.inr e)/\J e=some rf)) (g:decide ((l.length:Int)<(l.length:Int))=false->∃e,step (b l.length)=some (.inr e)/\J e=some rt):(Am step s0).bind J=some (bif l.all p then rt else rf):=by rw[<-Agl l p];exact Xw l (λq=>p q.1) b h0 f (λj x u _=>c j x u) (λh _=>g h)
theorem Gd {step:S->Option (S⊕E)} (l:List α) (b:Nat->S) (h0:s0=b 0) (f:l.length<4611686018427387904) (c:∀(j:Nat) (x:α),j<l.length->l[j]? = some x->decide ((j:Int)<(l.length:Int))=true->Ag l (j:Int)=some x->Ac ((j:Int)+1)=((j+1:Nat):Int)->step (b j)=some (.inl (b (j+1)))) (g:decide ((l.length:Int)<(l.length:Int))=false->∃e,step (b l.length)=some (.inr e)/\J e=some r):(Am step s0).bind J=some r:=by refine Jn l.length b h0 (λj h=>?_) (g ψ);have q:l[j]? = some l[j]:=Bq h;exact c j _ h q (As ω) (Br rfl q) (C6 h f)
theorem Cz (h:l[j]? = some x):l.take (j+1)=l.take j++[x]:=by rw[take_add_one,h];rfl
theorem Ek (h:l[j]? = some x):j<l.length:=by
 rcases Cf j l.length with g|g
 .exact g
 .rw[Lt g]at h;cases h
theorem Ab7 (b:Bool):(bif b then true else false)=b:=by cases b <;> rfl
theorem A5a (b:Bool):(bif b then false else true) = !b:=by cases b <;> rfl
theorem Ata {A:Type} {X:Option A} {f:A->Option R} {y:R} {Q:A->Prop} (h:∃r,X=some r/\Q r) (g:∀r,Q r->f r=some y):X.bind f=some y:=by obtain⟨r,q,u⟩:=h;rw[q];exact g r u
theorem Alt (l:List α) (p:α->Bool) {step:Int->Option (Int⊕(Int⊕Unit))} {J:Int⊕Unit->Option Int} (g:l.length<4611686018427387904) (f:∀(j:Nat) (x:α),x∈l->decide ((j:Int)<(l.length:Int))=true->Ag l (j:Int)=some x->Ac ((j:Int)+1)=((j+1:Nat):Int) -> step (j:Int)=bif p x then some (.inr (.inl (j:Int))) else some (.inl ((j+1:Nat):Int))) (k:decide ((l.length:Int)<(l.length:Int))=false->step (l.length:Int)=some (.inr (.inr ()))) (c:∀i,J (.inl i)=some i) (b:J (.inr ())=some (-1)):∃i,(Am step 0).bind J=some i/\decide (i>=0)=l.any p:=by
 have q:(Am step 0).bind (λz=>(J z).bind λi=>some (decide (i>=0)))=some (bif l.all (λx=>!p x) then false else true):=by refine Ab6 l (λx=>!p x) (λj=>(j:Int)) rfl g (λj x w A B C=>?_) λh=>⟨.inr (),k h,by rw[b];rfl⟩;have h:=f j x (Bz w) A B C;simp only[h];cases p x with| true=>exact⟨nofun,λ_=>⟨.inl (j:Int),rfl,by simp only[c,Ad];rw[As ω]⟩⟩| false=>exact⟨λ_=>rfl,λh=>by cases h⟩
 have e:l.any p=(bif l.all (λx=>!p x) then false else true):=by rw[A5a,not_all_eq_any_not];simp
 rw[e];cases u:Am step 0 with
 | none=>rw[u]at q;cases q
 | some z=>rw[u,Ad]at q;rw[Ad];cases v:J z with| none=>rw[v]at q;cases q| some i=>rw[v,Ad]at q;exact⟨i,rfl,Eu q⟩
theorem Alu {M:Type} {step:S->Option (S⊕E)} (l:List α) (p:α×Nat->Bool) (b:Nat->M->S) (I:M->Prop) (s u:R->Prop) (m0:M) (h0:s0=b 0 m0) (g:I m0) (A:l.length<4611686018427387904) (z:∀(j:Nat) (x:α) (m:M),I m->l[j]? = some x->(∀i y,i<j->l[i]? = some y->p (y,i)=true)->decide ((j:Int)<(l.length:Int))=true->Ag l (j:Int)=some x->Ac ((j:Int)+1)=((j+1:Nat):Int) -> (p (x,j)=true->∃f,step (b j m)=some (.inl (b (j+1) f))/\I f)/\(p (x,j)=false->∃e,step (b j m)=some (.inr e)/\∃r,J e=some r/\u r)) (B:∀m,I m->decide ((l.length:Int)<(l.length:Int))=false->l.zipIdx.all p=true->∃e,step (b l.length m)=some (.inr e)/\∃r,J e=some r/\s r) : ∃r,(Am step s0).bind J=some r/\((l.zipIdx.all p=true/\s r)\/(l.zipIdx.all p=false/\u r)):=by
 have c:∀(j:Nat) (x:α) (m:M),I m->l[j]? = some x->(∀i y,i<j->l[i]? = some y->p (y,i)=true)->_:=λj x m D w v=>
  have T:j<l.length:=Ek w
  z j x m D w v (As ω) (Br rfl w) (C6 T A)
 have F:∀n,n<=l.length->(∀i y,i<n->l[i]? = some y->p (y,i)=true)->∃m,I m/\Am step s0=Am step (b n m):=by intro n;induction n with| zero=>intro _ _;exact⟨m0,g,by rw[h0]⟩| succ n ih=>intro L v;obtain⟨m,C,H⟩:=ih ω λi y U=>v i y ω;have w:l[n]? = some l[n]:=Bq ω;obtain⟨f,K,N⟩:=(c n _ m C w λi y U=>v i y ω).1 (v n _ ω w);exact⟨f,N,by rw[H,Lm K]⟩
 cases P:l.zipIdx.all p with| true=>obtain⟨m,C,H⟩:=F l.length (Nat.le_refl _) λi y _ v=>Jo P v;obtain⟨e,q,r,k,h⟩:=B m C ψ P;exact⟨r,by rw[H,Ga q];exact k,.inl ⟨rfl,h⟩⟩| false=>obtain⟨j,x,C,H,K⟩:=As9 P;obtain⟨m,N,G⟩:=F j (Nat.le_of_lt (Ek C)) K;obtain⟨e,q,r,k,h⟩:=(c j x m N C K).2 H;exact⟨r,by rw[G,Ga q];exact k,.inr ⟨rfl,h⟩⟩
mutual
def B0:Af->Nat
 | ⟨_,_,l⟩=>1+Dx l
def Dx:List Af->Nat
 | []=>0
 | x::xs=>B0 x+Dx xs
end
theorem J2 (t:Af):B0 t=1+Dx t.R:=by cases t;simp only[B0]
theorem Vg (t:Af):1<=B0 t:=by rw[J2];omega
theorem Kl {l:List Af} {a:Af} (h:a∈l):B0 a<=Dx l:=by
 induction l with
 | nil=>cases h
 | cons x xs ih=>
  simp only[Dx];rcases Gl.1 h with rfl|h
  .omega
  .have:=ih h;omega
theorem Lw (l:List Af):l.length<=Dx l:=by induction l with| nil=>simp| cons x xs ih=>simp only[Dx,D2];have:=Vg x;omega
theorem Agm (l m:List Af):Dx (l++m)=Dx l+Dx m:=by induction l with| nil=>simp[Dx]| cons x xs ih=>simp only[D4,Dx,ih];omega
def Lx (data:List Aj) (vars k n:Int) (len:Nat):Bool := if k=1\/k=2\/k=3 then n==0&&len==0 else if k=4 then decide (0<=n)&&decide (n<vars)&&len==0 else if k=5 then decide (0<=n)&&(match data[n.toNat]? with|some d=>(len:Int)==d.V|none=>false) else if k=6 then n==0&&decide (2<=len)&&decide (len<=6) else if k=7\/k=8 then n==0&&len==1 else if k=9 then n==0&&decide (1<=len)&&decide (len<=7) else false
mutual
def Fe (data:List Aj) (vars:Int):Af->Bool
 | ⟨k,n,l⟩=>Lx data vars k n l.length&&Gu data vars l
def Gu (data:List Aj) (vars:Int):List Af->Bool
 | []=>true
 | x::xs=>Fe data vars x&&Gu data vars xs
end
variable {i:Int} {l:List Af} {j:Nat} {R α:Type}
theorem Ab8 (data:List Aj) (vars:Int) (t:Af):Fe data vars t=(Lx data vars t.G t.U t.R.length&&Gu data vars t.R):=by cases t;simp only[Fe]
theorem Atb (l:List α) (n:Nat):((l.length:Int)==(n:Int))=(l.length==n):=by
 by_cases h:l.length=n
 .subst h;simp
 .rw[Cu ω];simp[h]
theorem A5b (k:Nat) (t:Af) (data:List Aj) (vars left:Int) (v:1<=left) (w:left<=1000) : Oj (k+1) t ⟨data,vars,left⟩=bif Lx data vars t.G t.U t.R.length then ((Xo k t.R ⟨data,vars,left-1⟩).bind λh=>some ((!h.1),h.2)) else some (false,⟨data,vars,left-1⟩):=by have q:Ac (left-1)=left-1:=B4 ω ω;have b:¬left-1<0:=ω;rw[Oj];simp only[q,Aw b,Ap];generalize g:(Xo k t.R ⟨data,vars,left-1⟩).bind (λh=>some ((!h.1),h.2))=X;generalize f:(some (false,⟨data,vars,left-1⟩):Option (Bool×H7))=Y;unfold Lx Ag;generalize t.R.length=len;generalize t.G=c;generalize t.U=n;cases u:data[n.toNat]? <;> simp only[Bool.cond_eq_ite,A46,Ad,Option.bind_none,u] <;> grind
theorem Alv (h:j<l.length):Dx (l.take (j+1))=Dx (l.take j)+B0 l[j]:=by rw[take_succ_eq_append_getElem h,Agm];simp[Dx]
theorem Atc (data:List Aj) (vars:Int) (l m:List Af):Gu data vars (l++m)=(Gu data vars l&&Gu data vars m):=by induction l with| nil=>simp[Gu]| cons x xs ih=>simp only[D4,Gu,ih,Bool.and_assoc]
theorem Atd (data:List Aj) (vars:Int) (h:j<l.length):Gu data vars (l.take (j+1))=(Gu data vars (l.take j)&&Fe data vars l[j]):=by rw[take_succ_eq_append_getElem h,Atc];simp[Gu]
theorem Alw (l:List Af) (j:Nat):Dx (l.take j)<=Dx l:=by have:=Agm (l.take j) (l.drop j);rw[take_append_drop]at this;omega
theorem A5c (data:List Aj) (vars:Int) (l:List Af) (j:Nat) (h:Gu data vars l=true):Gu data vars (l.take j)=true:=by have:=Atc data vars (l.take j) (l.drop j);rw[take_append_drop,h]at this;have:=this.symm;simp only[Cv]at this;exact this.1
theorem A5d (data:List Aj) (vars:Int) (k:Nat) (l:List Af) (c:Nat) (E:l.length<1099511627776) (ih:∀(a:Af),a∈l->∀f:Nat,f<=c->∃g:Int,Oj k a ⟨data,vars,f⟩=some (Fe data vars a&&decide (B0 a<=f),⟨data,vars,g⟩)/\((Fe data vars a&&decide (B0 a<=f))=true->g=(f:Int)-B0 a)) : ∃p:Int×Int,Abx (k+2) l ⟨data,vars,c⟩=some (p.1,⟨data,vars,p.2⟩)/\((Gu data vars l&&decide (Dx l<=c))=true->p.1 = -1/\p.2=(c:Int)-Dx l)/\((Gu data vars l&&decide (Dx l<=c))=false->0<=p.1):=by
 rw[Abx];refine Ab2 (λp:Int×Int=>(p.1,H7.mk data vars p.2)) (Ej (λ(F,v,w,s)=>∃j:Nat,F=j/\j<=l.length/\v=data/\w=vars/\Gu data vars (l.take j)=true/\Dx (l.take j)<=c/\s=(c:Int)-Dx (l.take j)) (λ(F,_,_,_)=>l.length-F.toNat) (λz=>match z with|.inl (i,b)=>0<=i/\(∃g,b=⟨data,vars,g⟩)/\(Gu data vars l&&decide (Dx l<=c))=false | .inr (v,w,s)=>v=data/\w=vars/\(Gu data vars l&&decide (Dx l<=c))=true/\s=(c:Int)-Dx l) ⟨0,rfl,ω,rfl,rfl,rfl,by simp[Dx],by simp[Dx]⟩ ?_ ?_)
 .rintro⟨F,v,w,s⟩ ⟨j,rfl,N,rfl,rfl,x,A,rfl⟩;rcases Cf j l.length with h|h
  .obtain⟨u,y⟩:∃u:Nat,(c:Int)-Dx (l.take j)=u/\u<=c:=⟨c-Dx (l.take j),ω,ω⟩;obtain⟨g,D,B⟩:=ih l[j] (getElem_mem h) u y.2;simp only[As (ω:(j:Int)<(l.length:Int)),Ak,Ev rfl h,Ad,Aau,y.1,D];cases H:(Fe v w l[j]&&decide (B0 l[j]<=u)) with
   | true=>
    have G:=B H;simp only[Cv,Dk]at H;refine .inl ⟨(((j+1:Nat):Int),v,w,g),?_,⟨j+1,rfl,ω,rfl,rfl,?_,?_,?_⟩,ζ⟩
    .simp only[Fz,Ap];rw[show Ac ((j:Int)+1)=((j+1:Nat):Int) by rw[Ac,B4] <;> omega]
    .rw[Atd _ _ h,x,H.1];rfl
    .rw[Alv h];omega
    .show g=_;rw[Alv h];omega
   | false=>refine .inr ⟨.inl ((j:Int),⟨v,w,g⟩),ψ,ω,⟨g,rfl⟩,?_⟩;cases q:(Gu v w l&&decide (Dx l<=c)) with| false=>rfl| true=>exfalso;simp only[Cv,Dk]at q;have C:=A5c v w l (j+1) q.1;rw[Atd _ _ h]at C;simp only[Cv]at C;have M:=Alw l (j+1);rw[Alv h]at M;rw[C.2,Bool.true_and,decide_eq_false_iff_not]at H;omega
  .have:j=l.length:=ω;subst this;rw[Db]at *;refine .inr ⟨.inr (v,w,(c:Int)-Dx l),ψ,rfl,rfl,by simp[x,A],rfl⟩
 .rintro (⟨i,b⟩|⟨v,w,s⟩) K
  .obtain⟨C,⟨g,rfl⟩,I⟩:=K;exact⟨_,rfl,(i,g),rfl,(λh=>by rw[I]at h;cases h),λ_=>C⟩
  .obtain⟨rfl,rfl,I,rfl⟩:=K;exact⟨_,rfl,(-1,_),rfl,λ_=>⟨rfl,rfl⟩,λh=>by rw[I]at h;cases h⟩
theorem A5e (data:List Aj) (vars:Int):∀(left:Nat) (t:Af) (k:Nat),left<=200->4*left+4<=k->B0 t<1099511627776 -> ∃f:Int,Oj k t ⟨data,vars,left⟩=some (Fe data vars t&&decide (B0 t<=left),⟨data,vars,f⟩)/\((Fe data vars t&&decide (B0 t<=left))=true->f=(left:Int)-B0 t):=by
 intro left;induction left using Nat.strongRecOn with
 | _ left s=>
  intro t k A H I;have hp:=Vg t;obtain⟨g,rfl⟩:∃g,k=g+1:=⟨k-1,ω⟩;cases left with
  | zero=>refine⟨-1,?_,λh=>by simp at h;omega⟩;rw[Oj];have C:decide (B0 t<=0)=false:=Aw ω;rw[C,Bool.and_false];rfl
  | succ b=>
   rw[A5b g t data vars ((b+1:Nat):Int) ω ω];have y:((b+1:Nat):Int)-1=(b:Int):=ω;rw[y,Ab8];cases z:Lx data vars t.G t.U t.R.length with
   | false=>exact⟨b,ψ,λh=>by simp at h⟩
   | true=>
    obtain⟨q,rfl⟩:∃q,g=q+3:=⟨g-3,ω⟩;have j:=J2 t;have u:=Lw t.R;obtain⟨⟨i,f⟩,D,w,F⟩:=A5d data vars q t.R b ω (λa G c x=>by have:=Kl G;exact s c ω a q ω ω ω);have l:decide (B0 t<=b+1)=decide (Dx t.R<=b):=(by rw[j];congr 1;simp only[eq_iff_iff];omega);simp only[Ak,Xo,D,Ad,Bool.true_and,l];refine⟨f,?_,λh=>?_⟩
    .cases B:(Gu data vars t.R&&decide (Dx t.R<=b)) with| true=>have v:i = -1:=(w B).1;rw[Aw (ω:¬i>=0)];rfl| false=>have v:0<=i:=F B;rw[As (ω:i>=0)];rfl
    .have v:f=(b:Int)-Dx t.R:=(w h).2;rw[v,j];omega
theorem Xx (data:List Aj) (t:Af) (vars:Int) (ht:B0 t<1099511627776):Pf data t vars=some (Fe data vars t&&decide (B0 t<=200)):=by unfold Pf;obtain⟨b,g,_⟩:=A5e data vars 200 t 4000000 δ δ ht;have g:Oj 4000000 t ⟨data,vars,200⟩=_:=g;rw[g];rfl
def Sx (a:Af) (i:Int):Bool:=a.G==4&&a.U==i&&a.R.length==0
def Ate (l:List Af):Bool:=l.zipIdx.all λq=>Sx q.1 q.2
def Ky (t:Af) (d vars:Int):Bool:=t.G==5&&t.U==d&&(t.R.length:Int)==vars&&Ate t.R
def Eb (data:List Aj) (d c:Int):List Bool := match Ag data d with
 | none=>[]
 | some x=>match Ag x.O c with
  | none=>[]
  | some y=>y.R.map λt=>Ky t d x.V
theorem Hg {l:List α} {x:α} (h:Ag l i=some x):0<=i/\i<l.length/\l[i.toNat]? = some x/\x∈l:=by
 unfold Ag at h;split at h
 .have g:i.toNat<l.length:=Ek h;exact⟨by assumption,ω,h,Bz h⟩
 .cases h
theorem Ab9 {l:List α} (h:Ag l i=none):i<0\/(l.length:Int)<=i:=by
 unfold Ag at h;split at h
 .rw[List.getElem?_eq_none_iff]at h;right;omega
 .left;omega
theorem A5f (data:List Aj) (d c:Int) (F:Aj->Qw->Option R) (z:R) (X:Option R) (f:X=((bif d<(0:Int) then some true else bif d>=(data.length:Int) then some true else bif c<(0:Int) then some true else (Ag data d).bind λb=>some (decide (c>=(b.O.length:Int))):OB).bind λw=>bif w then some z else (Ag data d).bind λq=>(Ag q.O c).bind λA=>F q A)) : X=match Ag data d with
   | none=>some z
   | some x=>match Ag x.O c with
    | none=>some z
    | some y=>F x y:=by
 subst f;cases u:Ag data d with
 | none=>
  rcases Ab9 u with h|h
  .simp only[As h,Ak,Ad]
  .by_cases g:d<0
   .simp only[As g,Ak,Ad]
   .simp only[Aw g,As (show d>=(data.length:Int) from h),Ak,Ap,Ad]
 | some x=>
  obtain⟨B,C,_,_⟩:=Hg u;simp only[Aw (ω:¬d<0),Aw (ω:¬d>=(data.length:Int)),Ap,Ad];cases v:Ag x.O c with
  | none=>
   rcases Ab9 v with h|h
   .simp only[As h,Ak,Ad]
   .by_cases g:c<0
    .simp only[As g,Ak,Ad]
    .simp only[Aw g,As (show c>=(x.O.length:Int) from h),Ak,Ap,Ad]
  | some y=>obtain⟨D,G,_,_⟩:=Hg v;simp only[Aw (ω:¬c<0),Aw (ω:¬c>=(x.O.length:Int)),Ap,Ad]
def A5g (l:List Af):Prop:=l.length<=4194304/\∀a∈l,a.R.length<=4194304
def M1 (data:List Aj):Prop:=∀x∈data,∀y∈x.O,A5g y.R
theorem Aca (l m:List α) (y x:α) (i:Int) (n:Nat) (h:i=n) (b:n=l.length):Ct (l++y::m) i x=l++x::m:=by rw[He h];subst b;simp
theorem Acb (l m:List α) (y:α) (i:Int) (n:Nat) (h:i=n) (b:n=l.length):Ag (l++y::m) i=some y:=by rw[Br h];subst b;simp
theorem A5h (l:List Af) (k f:List Bool) (i:Int) (n:Nat) (b:Bool) (h:i=n) (s:n=k.length) (A:l.length<1099511627776) {J:Int×List Bool->Option R} {r:R} (z:J ((l.length:Int),k++(b&&Ate l)::f)=some r) : (Am (S:=(Int×List Bool)) (E:=(Int×List Bool)) (λ(c,g)=> bif c<(l.length:Int) then ((Ag l c).bind λv=> bif (v.G != (4:Int)) then ((Ag g i).bind λF=> some (.inl ((Ac (c+1)),(Ct g i false)))) else (bif (v.U != c) then ((Ag g i).bind λy=> some (.inl ((Ac (c+1)),(Ct g i false)))) else (bif (v.R.length:Int)>(0:Int) then ((Ag g i).bind λu=> some (.inl ((Ac (c+1)),(Ct g i false)))) else (some (.inl ((Ac (c+1)),g)))))) else (some (.inr (c,g)))) (0,k++b::f)).bind J=some r:=by
 refine Gd l (λj=>((j:Int),k++(b&&(l.take j).zipIdx.all λq=>Sx q.1 q.2)::f)) ψ ω ?_ ?_
 .intro j x G H C I K;have e:(l.take (j+1)).zipIdx.all (λq=>Sx q.1 q.2)=((l.take j).zipIdx.all (λq=>Sx q.1 q.2)&&Sx x j):=(by rw[Cz H,zipIdx_append,all_append];simp[Nat.min_eq_left (Nat.le_of_lt G)]);simp only[C,I,K,Ak,Ad,Acb k f _ i n h s,Aca k f _ _ i n h s,e];unfold Sx;by_cases w:x.G=4
  .by_cases B:x.U=j
   .by_cases D:x.R.length=0
    .rw[Aw ω];simp[w,B,D]
    .rw[As ω];have:(x.R.length==0)=false:=(by simpa using D);simp[w,B,this]
   .simp[w,B,F7 B]
  .simp[w,F7 w]
 .intro C;refine⟨_,by simp only[C];rfl,?_⟩;rw[Db];exact z
theorem Xy (data:List Aj) (d c:Int) (w:M1 data):Pl data d c=some (Eb data d c):=by
 unfold Pl;rw[A5f data d c (λF G=>_) [] _ rfl];unfold Eb;cases A:Ag data d with
 | none=>rfl
 | some x=>
  cases q:Ag x.O c with
  | none=>simp only[q]
  | some y=>
   simp only[q];have f:=w x (Hg A).2.2.2 y (Hg q).2.2.2;have g:=f.1;rw[Ld (n:=y.R.length) (c:=y.R.length) rfl rfl ω ω ω,Ad];refine Gd y.R (λj=>((j:Int),((y.R.take j).map λt=>Ky t d x.V)++replicate (y.R.length-j) false)) rfl ω ?_ ?_
   .intro j t H v u B C;obtain⟨m,h⟩:∃m,y.R.length-j=m+1:=⟨y.R.length-j-1,ω⟩;have i:y.R.length-(j+1)=m:=ω;have b:j=((y.R.take j).map λt=>Ky t d x.V).length:=ζ;simp only[u,B,Ak,Ad,h,i,replicate_succ,Cz v,map_append,map_cons,map_nil,append_assoc,D4,nil_append, Acb _ _ _ (j:Int) j rfl b,Aca _ _ _ _ (j:Int) j rfl b];have D:(bif t.G==5 then bif t.U==d then some (map (λt=>Ky t d x.V) (take j y.R)++((t.R.length:Int)==x.V)::replicate m false)
       else some (map (λt=>Ky t d x.V) (take j y.R)++false::replicate m false) else some (map (λt=>Ky t d x.V) (take j y.R)++false::replicate m false))=some (map (λt=>Ky t d x.V) (take j y.R)++(t.G==5&&t.U==d&&((t.R.length:Int)==x.V))::replicate m false):=by cases t.G==5 <;> cases t.U==d <;> simp
    rw[D,Ad];refine A5h t.R _ _ (j:Int) j _ rfl b (by have:=f.2 t (Bz v);omega) ?_;rw[C];rfl
   .intro u;exact⟨_,by simp only[u];rfl,ψ⟩
mutual
def mnt (d:Int):Af->Bool
 | ⟨k,n,l⟩=>(k==5&&n==d)||Qy d l
def Qy (d:Int):List Af->Bool
 | []=>false
 | x::xs=>mnt d x||Qy d xs
end
theorem A5i (d:Int) (t:Af):mnt d t=((t.G==5&&t.U==d)||Qy d t.R):=by cases t;simp only[mnt]
theorem A5j (d:Int) (l:List Af):Qy d l=l.any (mnt d):=by induction l with| nil=>rfl| cons x xs ih=>simp only[Qy,ih,any_cons]
theorem A5k (d:Int):∀(n:Nat) (t:Af) (k:Nat),B0 t<=n->4*n+4<=k->n<1099511627776->Uu k t d=some (mnt d t):=by
 intro n;induction n with
 | zero=>intro t k h;have:=Vg t;omega
 | succ n ih=>intro t k h C g;obtain⟨k,rfl⟩:∃c,k=c+4:=⟨k-4,ω⟩;have f:=J2 t;have b:=Lw t.R;have q:Xn (k+3) t.R d=some (Qy d t.R):=(by rw[Xn,Af5];rw[A5j];refine Ata (Alt t.R (mnt d) ω ?_ (λh=>by simp only[h];rfl) (λ_=>rfl) rfl) (λi u=>by rw[u]);intro j x v w A B;have l:=Kl v;simp only[w,A,B,Ak,Ad,Abi,ih x k ω ω ω]);rw[Uu,q,A5i];cases t.G==5 <;> cases t.U==d <;> simp
theorem Atf (data:List Aj) (v:Int) (l:List Af):Gu data v l=l.all (Fe data v):=by induction l with| nil=>rfl| cons x xs ih=>simp only[Gu,ih,all_cons]
theorem A5l (data:List Aj) (d:Nat) (v k n:Int) (len:Nat):(Lx (data.take (d+1)) v k n len && !(k==5&&n==(d:Int)))=Lx (data.take d) v k n len:=by
 by_cases g:k=5
 .subst g;unfold Lx;simp only[beq_self_eq_true,Bool.true_and,getElem?_take];by_cases b:n=d
  .subst b;simp
  .by_cases q:0<=n
   .have e:(n==(d:Int))=false:=Cu b;rcases Cf n.toNat d with h|h
    .simp[h,e,show n.toNat<d+1 by omega]
    .simp[e,show ¬n.toNat<d by omega,show ¬n.toNat<d+1 by omega]
   .simp[q]
 .have e:(k==(5:Int))=false:=Cu g;simp only[e,Bool.false_and,Bool.not_false,Bool.and_true,Lx,g,if_false]
mutual
theorem Atg (data:List Aj) (d:Nat) (v:Int):∀t:Af,(Fe (data.take (d+1)) v t && !mnt d t)=Fe (data.take d) v t
 | ⟨k,n,l⟩=>by
  have g:=Ath data d v l
  have h:=A5l data d v k n l.length
  simp only[Fe,mnt]
  rw[<-g,<-h]
  cases Lx (data.take (d+1)) v k n l.length <;> cases (k==5&&n==(d:Int)) <;> cases Gu (data.take (d+1)) v l <;> simp
theorem Ath (data:List Aj) (d:Nat) (v:Int):∀l:List Af,(Gu (data.take (d+1)) v l && !Qy d l)=Gu (data.take d) v l
 | []=>by simp[Gu,Qy]
 | x::xs=>by
  have g:=Atg data d v x
  have h:=Ath data d v xs
  simp only[Gu,Qy]
  rw[<-g,<-h]
  cases Fe (data.take (d+1)) v x <;> cases mnt d x <;> cases Gu (data.take (d+1)) v xs <;> simp
end
variable {t:Af} {x:Aj} {s:ByteArray} {o:List (ByteArray×Bool)} {data:List Aj} {L:List ByteArray} {a b d:Nat} {y:Qw} {R:Type} {Q:R->Prop}
theorem Ati:∀l:List Af,(∀a∈l,a.R.length=0)->Dx l=l.length
 | [],_=>rfl
 | x::xs,h=>by have g:=h x ψ;simp only[Dx,D2];rw[Ati xs λa q=>h a (by simp[q]),J2,Fr.1 g];simp only[Dx];omega
theorem Alx (v:data[d]? = some x) (G:x.V<=6) (h:Ky t d x.V=true):Fe (data.take (d+1)) x.V t=true/\B0 t<=200:=by
 unfold Ky at h;simp only[Cv,beq_iff_eq]at h;obtain⟨⟨⟨w,A⟩,B⟩,C⟩:=h;have g:∀a∈t.R,∃i:Nat,i<t.R.length/\a.G=4/\a.U=i/\a.R.length=0:=by intro a g;obtain⟨i,q⟩:=Hu g;have:=Jo C q;simp only[Sx,Cv,beq_iff_eq]at this;exact⟨i,Ek q,this.1.1,this.1.2,this.2⟩
 refine⟨?_,?_⟩
 .rw[Ab8,Atf,Cv];constructor
  .rw[w,A];unfold Lx;simp[v,B]
  .rw[Gt];intro a b;obtain⟨i,H,D,F,u⟩:=g a b;rw[Ab8,D,F,u,Fr.1 u];unfold Lx;simp[Gu];omega
 .rw[J2,Ati _ λa h=>(g a h).choose_spec.2.2.2];omega
def Sy (data:List Aj) (d:Nat) (v:Int) (t:Af):Bool:=Ky t d v||(Fe (data.take d) v t&&decide (B0 t<=200))
theorem A5m (g:data[d]? = some x) (q:x.V<=6) (t:Af):((Fe (data.take (d+1)) x.V t&&decide (B0 t<=200))&&(Ky t d x.V || !mnt d t))=Sy data d x.V t:=by unfold Sy;cases h:Ky t d x.V with| true=>obtain⟨u,v⟩:=Alx g q h;rw[u,As v];rfl| false=>rw[<-Atg data d x.V t];cases Fe (data.take (d+1)) x.V t <;> cases decide (B0 t<=200) <;> simp
def SzD (data:List Aj):Prop:=∀x∈data,x.O.length<=1048576/\∀y∈x.O,Dx y.R<=1048576
theorem SzD.short (h:SzD data):M1 data:=λx hx y hy=>by have h1:=(h x hx).2 y hy;have h2:=Lw y.R;refine⟨ω,λa ha=>?_⟩;have h3:=Kl ha;have g:=J2 a;have b:=Lw a.R;omega
theorem A5n (w:SzD data) (d c:Nat) (u:data[d]? = some x) (v:x.O[c]? = some y) (B:x.V<=6) (G:data.length<=1048576) : Sf data d c=some (decide (y.R.length<=6)&&y.R.all (Sy data d x.V)):=by
 have b:=Ek u;have k:=(w x (Bz u)).2 y (Bz v);unfold Sf;rw[Br rfl u,Ad,Br rfl v,Ad,Xy data d c w.short];by_cases i:y.R.length<=6
 .rw[Aw (ω:¬(y.R.length:Int)>6),As i];simp only[Ap,Bool.true_and,Ad];refine (Ab6 y.R (Sy data d x.V) (λj=>(j:Int)) rfl ω (rt:=true) (rf:=false) ?_ ?_).trans (by rw[Ab7])
  .intro j t A C D F;have l:=Kl (Bz A);have q:Ag (Eb data d c) (j:Int)=some (Ky t d x.V):=(by unfold Eb;simp only[Br rfl u,Br rfl v];rw[Br rfl];simp[A]);simp only[C,D,F,Ak,Ad,show Ac ((d:Int)+1)=((d+1:Nat):Int) from C6 b ω,Xv rfl (show d+1<=data.length from b),Br rfl u,
    Xx (data.take (d+1)) t x.V ω,q];rw[<-A5m u B t];cases g:(Fe (data.take (d+1)) x.V t&&decide (B0 t<=200)) with
   | false=>exact⟨nofun,λ_=>⟨.inl false,rfl,rfl⟩⟩
   | true=>
    have f:B0 t<=200:=(by simp only[Cv,Dk]at g;exact g.2);simp only[Fz,Ap,Bool.true_and];cases s:Ky t d x.V with
    | true=>exact⟨λ_=>rfl,λh=>by cases h⟩
    | false=>simp only[Bool.not_false,Ak,A5k d 200 t 4000000 f ω ω,Ad,Bool.false_or];cases mnt d t with| true=>exact⟨nofun,λ_=>⟨.inl false,rfl,rfl⟩⟩| false=>exact⟨λ_=>rfl,λh=>by cases h⟩
  .intro h;exact⟨.inr (),by simp only[h];rfl,rfl⟩
 .rw[As (ω:(y.R.length:Int)>6),Aw i];rfl
def bI (s:ByteArray) (i:Nat):Int:=if h:i<s.size then (s[i].toNat:Int) else 0
def loI (c:Int):Bool:=decide (97<=c)&&decide (c<=122)
def upI (c:Int):Bool:=decide (65<=c)&&decide (c<=90)
def diI (c:Int):Bool:=decide (48<=c)&&decide (c<=57)
def wiI (c:Int):Bool:=loI c||upI c||diI c||c==95
def J3 (s:ByteArray):Prop:=1<=s.size/\s.size<=24/\upI (bI s 0)=true/\∀i,i<s.size->wiI (bI s i)=true
theorem Qz {i:Int} {n:Nat} (g:i=n) (h:n<s.size):∃c:UInt8,Kv s i=some c/\(c.toNat:Int)=bI s n:=by
 subst g;refine⟨s[n],?_,?_⟩
 .unfold Kv;rw[Au ω,show ((n:Int)).toNat=n from rfl];simp[h]
 .unfold bI;simp[h]
theorem Acd {j:Nat} (hb:b<=s.size) (h:a+j<b):bI (s.extract a b) j=bI s (a+j):=by
 unfold bI;have g:j<(s.extract a b).size:=by rw[ByteArray.size_extract];omega
 rw[dif_pos g,dif_pos ω,ByteArray.getElem_extract]
theorem Ace {lo g:Int} (h:lo=a) (q:g=b) (u:a<=b) (v:b<=s.size):Hs s lo g=some (s.extract a b):=by subst h;subst q;unfold Hs;rw[Au ω];rfl
theorem Atj {a b:ByteArray} (h:a.toList=b.toList):a=b:=by rw[ByteArray.toList_eq,ByteArray.toList_eq]at h;have:a.data=b.data:=Array.toList_inj.1 h;cases a;cases b;simp at this;subst this;rfl
theorem Atl (a b:ByteArray):(a.toList==b.toList)=decide (a=b):=by
 by_cases h:a=b
 .subst h;simp
 .rw[Aw h];cases g:(a.toList==b.toList) with| false=>rfl| true=>exact absurd (Atj (by simpa using g)) h
theorem Atm (c:Int):Xk c=some (loI c):=by unfold Xk loI;by_cases h:(97:Int)<=c <;> simp[h]
theorem Atn (c:Int):U6 c=some (upI c):=by unfold U6 upI;by_cases h:(65:Int)<=c <;> simp[h]
theorem Agn (c:Int):So c=some (diI c):=by unfold So diI;by_cases h:(48:Int)<=c <;> simp[h]
theorem Ato (c:Int):Xl c=some (wiI c):=by unfold Xl wiI;rw[Atm,Atn,Agn];simp only[Ad];cases loI c <;> cases upI c <;> cases diI c <;> rfl
theorem Aly {S E:Type} {step:S->Option (S⊕E)} (s:ByteArray) (p:Int->Bool) (b:Nat->S) (f:Nat->E) (lo:Nat) (g:∀j,lo<=j->j<s.size->p (bI s j)=true->step (b j)=some (.inl (b (j+1)))) (q:∀j,lo<=j->j<s.size->p (bI s j)=false->step (b j)=some (.inr (f j))) (u:step (b s.size)=some (.inr (f s.size))) : ∀(m i:Nat),lo<=i->i+m=s.size->∃n,i<=n/\n<=s.size/\(∀j,i<=j->j<n->p (bI s j)=true)/\(n<s.size->p (bI s n)=false)/\Am step (b i)=some (f n):=by
 intro m;induction m with
 | zero=>intro i _ v;have:i=s.size:=ω;subst this;exact⟨s.size,ω,ω,λj _ _=>ω,λh=>ω,Ga u⟩
 | succ m ih=>
  intro i c v;cases hp:p (bI s i) with
  | true=>
   obtain⟨n,F,w,A,B,C⟩:=ih (i+1) ω ω;refine⟨n,ω,w,λj G D=>?_,B,by rw[Lm (g i c ω hp)];exact C⟩;rcases Cf i j with h|h
   .exact A j h D
   .have:j=i:=ω;subst this;exact hp
  | false=>exact⟨i,ω,ω,λj _ _=>ω,λ_=>hp,Ga (q i c ω hp)⟩
theorem A5o (s:ByteArray) (f:s.size<1099511627776):∃n,n<=s.size/\(∀j,j<n->wiI (bI s j)=true)/\(n<s.size->wiI (bI s n)=false)/\Abp s=some (s.extract 0 n):=by
 have H:=Aly (step:=λh:Int=>bif h<(s.size:Int) then ((Kv s h).bind λA=>(Xl (A.toNat:Int)).bind λB=>bif B then some (.inl (Ac (h+1))) else some (.inr h)) else some (.inr h))
  s wiI (λj=>(j:Int)) (λj=>(j:Int)) 0 (λj _ g hp=>by
   obtain⟨c,q,u⟩:=Qz (s:=s) (i:=(j:Int)) rfl g
   simp only[As (ω:(j:Int)<(s.size:Int)),Ak,q,Ad,u,Ato,hp,C6 g ω]) (λj _ g hp=>by
   obtain⟨c,q,u⟩:=Qz (s:=s) (i:=(j:Int)) rfl g
   simp only[As (ω:(j:Int)<(s.size:Int)),Ak,q,Ad,u,Ato,hp,Ap]) ψ s.size 0 ω ω
 obtain⟨n,_,w,C,D,v⟩:=H
 refine⟨n,w,λj g=>C j ω g,D,?_⟩
 unfold Abp
 have v:Am _ (0:Int)=some (n:Int):=v
 rw[v,Ad,Ace (lo:=0) (a:=0) (b:=n) rfl rfl ω w];rfl
theorem A5p (s:ByteArray) (f:s.size<1099511627776):∃n,n<=s.size/\(∀j,j<n->diI (bI s j)=true)/\(n<s.size->diI (bI s n)=false)/\Af4 s=some (s.extract 0 n):=by
 have H:=Aly (step:=λh:Int=>bif h<(s.size:Int) then ((Kv s h).bind λA=>(So (A.toNat:Int)).bind λB=>bif B then some (.inl (Ac (h+1))) else some (.inr h)) else some (.inr h))
  s diI (λj=>(j:Int)) (λj=>(j:Int)) 0 (λj _ g hp=>by
   obtain⟨c,q,u⟩:=Qz (s:=s) (i:=(j:Int)) rfl g
   simp only[As (ω:(j:Int)<(s.size:Int)),Ak,q,Ad,u,Agn,hp,C6 g ω]) (λj _ g hp=>by
   obtain⟨c,q,u⟩:=Qz (s:=s) (i:=(j:Int)) rfl g
   simp only[As (ω:(j:Int)<(s.size:Int)),Ak,q,Ad,u,Agn,hp,Ap]) ψ s.size 0 ω ω
 obtain⟨n,_,w,C,D,v⟩:=H
 refine⟨n,w,λj g=>C j ω g,D,?_⟩
 unfold Af4
 have v:Am _ (0:Int)=some (n:Int):=v
 rw[v,Ad,Ace (lo:=0) (a:=0) (b:=n) rfl rfl ω w];rfl
theorem Q2 {c:Bool} {X Y:Option R} (g:∃r,X=some r/\Q r) (h:∃r,Y=some r/\Q r):∃r,(bif c then X else Y)=some r/\Q r:=by cases c <;> assumption
theorem Alz {A:Type} {X:Option A} {f:A->Option R} (P:A->Prop) (g:∃a,X=some a/\P a) (q:∀a,P a->∃r,f a=some r/\Q r):∃r,X.bind f=some r/\Q r:=by obtain⟨a,e,h⟩:=g;rw[e];exact q a h
theorem A5q (s:ByteArray):∃b,Abq s=some b/\True:=by unfold Abq;repeat' first|refine Q2 ?_ ?_|exact⟨_,rfl,trivial⟩
theorem A5r (s:ByteArray) (q:1<=s.size):∃r,Abs s=some r/\(r.size<=s.size):=by
 have g:Hs s 0 1=some (s.extract 0 1):=Ace rfl rfl ω q;have c:(s.extract 0 1).size<=s.size:=by rw[ByteArray.size_extract];omega
 unfold Abs;refine Alz (λz=>∀r,z = .inl r->r.size<=s.size) ?_ ?_
 .by_cases v:2<=s.size
  .have f:Hs s 0 2=some (s.extract 0 2):=Ace rfl rfl ω v;have b:∀r,(Sum.inl (s.extract 0 2):ByteArray⊕Unit) = .inl r->r.size<=s.size:=(by rintro r ⟨⟩;rw[ByteArray.size_extract];omega);simp only[f,Ad];repeat' first|refine Q2 ?_ ?_|with_reducible exact⟨_,rfl,b⟩|exact⟨_,rfl,λr h=>by cases h⟩
  .rw[Aw ω];exact⟨_,rfl,λr h=>by cases h⟩
 .rintro (r|u) w
  .exact⟨_,rfl,w r rfl⟩
  .simp only[g,Ad];have A:(ByteArray.mk #[]).size<=s.size:=Nat.zero_le _;repeat' first|refine Q2 ?_ ?_|with_reducible exact⟨_,rfl,c⟩|with_reducible exact⟨_,rfl,A⟩
theorem A5s (s:ByteArray) (f:s.size<1099511627776):∃b,Abr s=some b/\True:=by
 unfold Abr;refine Ej (λ(_,i)=>∃j:Nat,i=j/\j<=s.size) (λ(_,i)=>s.size-i.toNat) (λ_=>True) ⟨0,rfl,ω⟩ ?_ ?_
 .rintro⟨v,i⟩ ⟨j,rfl,q⟩;rcases Cf j s.size with h|h
  .obtain⟨c,g,_⟩:=Qz (s:=s) (i:=(j:Int)) rfl h;simp only[As (ω:(j:Int)<(s.size:Int)),Ak,g,Ad,C6 h ω];cases decide (Ac (Ac (v*10)+Ac (wu8 ((c.toNat:Int)-48)))>1000000) with| true=>exact .inr ⟨_,rfl,trivial⟩| false=>exact .inl ⟨_,rfl,⟨j+1,rfl,ω⟩,ζ⟩
  .have:j=s.size:=ω;subst this;exact .inr ⟨.inr (),ψ,trivial⟩
 .rintro (r|u) _ <;> exact⟨_,rfl,trivial⟩
theorem A5t (s:ByteArray) (i:Nat) (N:i<s.size) (M:s.size<1099511627776) : ∃r,Abh s i=some r/\(r.2=0->1<=r.1.Text.size/\i+r.1.Text.size<=s.size/\(r.1.G=2->J3 r.1.Text))/\(J3 s->i=0->r=(⟨2,s,0⟩,0)):=by
 obtain⟨c,P,T⟩:=Qz (s:=s) (i:=(i:Int)) rfl N;have u:Hs s (i:Int) (s.size:Int)=some (s.extract i s.size):=Ace rfl rfl ω ω;have I:(s.extract i s.size).size=s.size-i:=by rw[ByteArray.size_extract];omega
 have x:bI (s.extract i s.size) 0=bI s i:=Acd ω ω;unfold Abh;simp only[P,Ad,T,Atm,Atn,Agn,u];have U:(bif loI (bI s i) then some true else some (upI (bI s i)))=some (loI (bI s i)||upI (bI s i)):=by cases loI (bI s i) <;> rfl
 rw[U];simp only[Ad];cases l:(loI (bI s i)||upI (bI s i)) with
 | true=>
  obtain⟨n,G,D,y,F⟩:=A5o (s.extract i s.size) ω;have A:1<=n:=by
   rcases Nat.eq_zero_or_pos n with h|h
   .subst h;have:=y ω;rw[x]at this;unfold wiI at this;rw[l]at this;cases this
   .exact h
  have H:(s.extract i s.size).extract 0 n=s.extract i (i+n):=(by rw[ByteArray.extract_extract];congr 1;omega);have q:(s.extract i (i+n)).size=n:=(by rw[ByteArray.size_extract];omega);rw[H]at F;simp only[Ak,F,Ad,q];have g:J3 s->i=0->n=s.size:=by
   intro w C;rcases Cf n s.size with h|h
   .have:=y ω;rw[Acd ω ω,w.2.2.2 _ ω]at this;cases this
   .omega
  by_cases J:n<=24
  .rw[Aw ω];cases k:upI (bI s i) with
   | true=>
    refine⟨_,rfl,λ_=>⟨?_,?_,λ_=>⟨?_,?_,?_,?_⟩⟩,?_⟩
    .show 1<=(s.extract i (i+n)).size;omega
    .show i+(s.extract i (i+n)).size<=s.size;omega
    .show 1<=(s.extract i (i+n)).size;omega
    .show (s.extract i (i+n)).size<=24;omega
    .show upI (bI (s.extract i (i+n)) 0)=true;rw[Acd ω ω];exact k
    .show ∀j,j<(s.extract i (i+n)).size->wiI (bI (s.extract i (i+n)) j)=true;intro j W;rw[Acd ω ω];have:=D j ω;rw[Acd ω ω]at this;exact this
    .intro w C;have:=g w C;subst C;subst this;rw[Nat.zero_add,ByteArray.extract_zero_size];rfl
   | false=>obtain⟨b,K,_⟩:=A5q (s.extract i (i+n));simp only[Ap,K,Ad];have f:J3 s->i=0->False:=(by intro w C;subst C;rw[w.2.2.1]at k;cases k);cases b with| true=>exact⟨_,rfl,λ_=>⟨by show 1<=(s.extract i (i+n)).size;omega,by show i+(s.extract i (i+n)).size<=s.size;omega,λh=>by cases h⟩,λw C=>(f w C).elim⟩| false=>exact⟨_,rfl,λ_=>⟨by show 1<=(s.extract i (i+n)).size;omega,by show i+(s.extract i (i+n)).size<=s.size;omega,λh=>by cases h⟩,λw C=>(f w C).elim⟩
  .rw[As ω];refine⟨_,rfl,nofun,λw C=>?_⟩;have:=g w C;have:=w.2.1;omega
 | false=>
  have f:J3 s->i=0->False:=(by intro w C;subst C;rw[w.2.2.1,Bool.or_true]at l;cases l);simp only[Ap];cases V:diI (bI s i) with
  | true=>
   obtain⟨n,G,D,y,F⟩:=A5p (s.extract i s.size) ω;have A:1<=n:=by
    rcases Nat.eq_zero_or_pos n with h|h
    .subst h;have:=y ω;rw[x,V]at this;cases this
    .exact h
   have H:(s.extract i s.size).extract 0 n=s.extract i (i+n):=(by rw[ByteArray.extract_extract];congr 1;omega);have q:(s.extract i (i+n)).size=n:=(by rw[ByteArray.size_extract];omega);rw[H]at F;obtain⟨b,K,_⟩:=A5s (s.extract i (i+n)) ω;simp only[Ak,F,Ad,K];refine Alz (λ_=>True) ?_ ?_
   .exact Q2 ⟨_,rfl,trivial⟩ ⟨_,rfl,trivial⟩
   .intro v _;refine Q2 ⟨_,rfl,nofun,λw C=>(f w C).elim⟩ (Q2 ⟨_,rfl,nofun,λw C=>(f w C).elim⟩ ⟨_,rfl,λ_=>⟨?_,?_,λh=>by cases h⟩,λw C=>(f w C).elim⟩)
    .show 1<=(s.extract i (i+n)).size;omega
    .show i+(s.extract i (i+n)).size<=s.size;omega
  | false=>
   obtain⟨r,E,L⟩:=A5r (s.extract i s.size) ω;simp only[Ap,E,Ad];rw[Atl];by_cases z:r=ByteArray.mk #[]
   .rw[As z];exact⟨_,rfl,nofun,λw C=>(f w C).elim⟩
   .rw[Aw z];refine⟨_,rfl,λ_=>⟨?_,?_,λh=>by cases h⟩,λw C=>(f w C).elim⟩
    .show 1<=r.size;rcases Nat.eq_zero_or_pos r.size with h|h
     .have B:r.data.toList.length=0:=(by simpa using h);exact absurd (Atj (by rw[ByteArray.toList_eq,Fr.1 B,ByteArray.toList_eq])) z
     .exact h
    .show i+r.size<=s.size;omega
theorem A5u (c:Int):Abg c=some (c==9||c==10||c==13||c==32):=by unfold Abg;cases c==9 <;> cases c==10 <;> cases c==13 <;> rfl
theorem Atp (s:ByteArray) (M:s.size<1099511627776):∃b,Uo s=some b/\(b=true↔J3 s):=by
 unfold Uo Afs
 by_cases q:(s.size:Int)>16384
 .rw[As q]
  refine⟨false,rfl,by simp;rintro⟨_,h,_⟩;omega⟩
 rw[Aw q]
 simp only[Ap]
 refine Alz (λr:List Kw×Int×Int=>(r.2.2≠0/\¬J3 s)\/(r.2.2=0/\∃o e,r.1=o++[e]/\(∀t∈o,t.G=2->J3 t.Text)/\(J3 s->o = [⟨2,s,0⟩]))) ?_ ?_
 .refine Ej (λ(H,f)=>∃i:Nat,H=i/\i<=s.size/\f.length<=i/\(∀t∈f,t.G=2->J3 t.Text)/\(J3 s->(i=0/\f = [])\/(i=s.size/\f = [⟨2,s,0⟩])))
   (λ(H,_)=>s.size-H.toNat)
   (λz=>match z with|.inl o=>o.length<=16384/\(∀t∈o,t.G=2->J3 t.Text)/\(J3 s->o = [⟨2,s,0⟩]) | .inr (_,_,e)=>e≠0/\¬J3 s)
   ⟨0,rfl,ω,ψ,ψ,λ_=>.inl ⟨rfl,rfl⟩⟩ ?_ ?_
  .rintro⟨v,o⟩ ⟨i,rfl,hi,Z,K,hu⟩
   rcases Cf i s.size with h|h
   .obtain⟨c,P,T⟩:=Qz (s:=s) (i:=(i:Int)) rfl h
    have g:J3 s->i=0/\o = []:=λu=>by
     rcases hu u with w|w
     .exact w
     .omega
    simp only[As (ω:(i:Int)<(s.size:Int)),Ak,P,Ad,T,A5u]
    cases E:(bI s i==9||bI s i==10||bI s i==13||bI s i==32) with
    | true=>
     have k:¬J3 s:=by
      intro u
      have h0:=(g u).1
      subst h0
      have:=u.2.2.1
      simp only[upI,Cv,Dk]at this
      simp only[Bool.or_eq_true,beq_iff_eq]at E
      omega
     exact .inl ⟨(((i+1:Nat):Int),o),by simp only[Ak];rw[C6 h ω],⟨i+1,rfl,ω,(by show o.length<=i+1;omega),K,λu=>(k u).elim⟩,ζ⟩
    | false=>
     simp only[Ap]
     cases A:(bI s i==35) with
     | true=>
      have k:¬J3 s:=by
       intro u
       have h0:=(g u).1
       subst h0
       have:=u.2.2.1
       simp only[upI,Cv,Dk]at this
       simp only[beq_iff_eq]at A
       omega
      simp only[Ak]
      obtain⟨n,Y,X,V,n4,D⟩:=Aly (step:=λC:Int=>bif C<(s.size:Int) then ((Kv s C).bind λG=>bif ((G.toNat:Int)==(10:Int)) then some (.inr (.inl C)) else some (.inl (Ac (C+1)))) else some (.inr (.inr C)))
       s (λc=>!(c==10)) (λj=>(j:Int)) (λj=>if j<s.size then Sum.inl (j:Int) else Sum.inr (j:Int)) 0 (λj _ W hp=>by
        obtain⟨c,P,T⟩:=Qz (s:=s) (i:=(j:Int)) rfl W
        simp only[Bool.not_eq_true']at hp
        simp only[As (ω:(j:Int)<(s.size:Int)),Ak,P,Ad,T,hp,C6 W ω,Ap]) (λj _ W hp=>by
        obtain⟨c,P,T⟩:=Qz (s:=s) (i:=(j:Int)) rfl W
        simp only[Bool.not_eq_false']at hp
        simp only[As (ω:(j:Int)<(s.size:Int)),Ak,P,Ad,T,hp,Au W]) ψ (s.size-i) i ω ω
      have N:i<n:=by
       rcases Cf i n with w|w
       .exact w
       .have:n=i:=ω
        subst this
        have:=n4 h
        simp only[beq_iff_eq]at A
        rw[A]at this;cases this
      have D:Am _ (i:Int)=_:=D
      rw[D,Ad]
      rcases Cf n s.size with w|w
      .rw[Au w]
       exact .inl ⟨((n:Int),o),rfl,⟨n,rfl,ω,(by show o.length<=n;omega),K,λu=>(k u).elim⟩,ζ⟩
      .rw[Ar ω]
       exact .inr ⟨.inl o,rfl,ω,K,λu=>(k u).elim⟩
     | false=>
      obtain⟨r,L,J,I⟩:=A5t s i h M
      simp only[Ap,L,Ad]
      by_cases B:r.2=0
      .obtain⟨a1,a2,a3⟩:=J B
       simp only[G1 B,Ap]
       rw[Dl ζ,Ad]
       refine .inl ⟨(((i+r.1.Text.size:Nat):Int),o++[r.1]),?_,⟨i+r.1.Text.size,rfl,a2,ζ,?_,?_⟩,ζ⟩
       .rw[show Ac ((i:Int)+(r.1.Text.size:Int))=((i+r.1.Text.size:Nat):Int) by rw[Ac,B4] <;> omega]
       .intro t ht
        rcases En.1 ht with w|w
        .exact K t w
        .simp at w;subst w;exact a3
       .intro u
        obtain⟨b1,b2⟩:=g u
        have:=I u b1
        subst b1;subst b2;subst this
        exact .inr ⟨ψ,rfl⟩
      .simp only[F7 B,Ak]
       refine .inr ⟨_,rfl,B,λu=>?_⟩
       rw[I u (g u).1]at B
       exact B rfl
   .have:i=s.size:=ω
    subst this
    refine .inr ⟨.inl o,ψ,ω,K,λu=>?_⟩
    rcases hu u with⟨w,_⟩|⟨_,w⟩
    .have:=u.1;omega
    .exact w
  .rintro (o|⟨l,p,e⟩) hz
   .obtain⟨U,z2,z3⟩:=hz
    simp only
    rw[Dl ζ,Ad]
    exact⟨_,rfl,.inr ⟨rfl,o,_,rfl,z2,z3⟩⟩
   .exact⟨_,rfl,.inl hz⟩
 .rintro⟨l,p,e⟩ (⟨h1,h2⟩|⟨h1,o,t,h2,h3,F⟩)
  .simp only at h1
   simp only[Cu h1,Ap]
   exact⟨_,rfl,by simp[h2]⟩
  .simp only at h1 h2
   subst h1;subst h2
   simp only[beq_self_eq_true,Ak]
   match o,h3,F with
   | [],_,F=>exact⟨false,ψ,by simp;intro u;cases F u⟩
   | [x],h3,F=>
    have S:Ag ([x]++[t]) 0=some x:=rfl
    simp only[S,Ad,Atl]
    have R:((([x]++[t]).length:Int)==2)=true:=rfl
    simp only[R,Ak]
    by_cases hx:x.G=2
    .simp only[Ef hx,Ak]
     refine⟨_,rfl,?_⟩
     rw[decide_eq_true_iff]
     constructor
     .intro h;rw[<-h];exact h3 x ψ hx
     .intro u;have:=F u;simp at this;rw[this]
    .simp only[Cu hx,Ap]
     refine⟨_,rfl,?_⟩
     simp only[Bool.false_eq_true,false_iff]
     intro u;have:=F u;simp at this;rw[this]at hx;exact hx rfl
   | x::y::ys,_,F=>
    refine⟨false,?_,by simp;intro u;have:=F u;simp at this⟩
    rw[Cu]
    .rfl
    .simp;omega
def Ago (data:List Aj) (d:Nat) (v:Int) (y:Qw):Prop:=J3 y.S/\y.R.length<=6/\y.R.all (Sy data d v)=true
def Al0 (data:List Aj) (d:Nat) (x:Aj):Prop:=0<=x.V/\x.V<=6/\1<=x.O.length/\x.O.length<=8/\J3 x.S/\∀y∈x.O,Ago data d x.V y
def Lf (x:Aj):List ByteArray:=x.O.map (·.S)
def H9 (data:List Aj):Prop:=data.length<=12/\(∀d x,data[d]? = some x->Al0 data d x)/\(data.map (·.S)).Nodup/\(data.flatMap Lf).Nodup
structure DSz (data:List Aj):Prop where
 len:data.length<=1048576
 sz:SzD data
 nm:∀x∈data,x.S.size<=1048576
 cn:∀x∈data,∀y∈x.O,y.S.size<=1048576
theorem Nw (a b:ByteArray):(a==b)=true↔a=b:=by
 constructor
 .intro h;cases a with|mk a=>cases b with|mk b=>
  have:a=b:=(by exact eq_of_beq h);rw[this]
 .rintro rfl;cases a with|mk a=>exact beq_self_eq_true a
def Mh (o:List (ByteArray×Bool)) (L:List ByteArray):Prop:=(∀p∈o,p.2=true)/\∀s,Fd o s=true↔s∈L
theorem Mh.nil:Mh [] []:=⟨ψ,by simp[Fd]⟩
theorem Mh.get (h:Mh o L) (b:Fd o s=true):Iv o s false=true:=by unfold Iv;unfold Fd at b;rw[any_eq_true]at b;obtain⟨p,f,c⟩:=b;cases hf:o.find? (λp=>s==p.1) with| none=>exact absurd c (by have:=find?_eq_none.1 hf p f;simpa using this)| some q=>exact h.1 q (mem_of_find?_eq_some hf)
theorem A5v (o:List (ByteArray×Bool)) (s t:ByteArray) (v:Bool):Fd (Gy o s v) t=(Fd o t||t==s):=by
 induction o with
 | nil=>simp[Gy,Fd]
 | cons p o ih=>unfold Gy;cases hp:(s==p.1) with| true=>have:s=p.1:=(Nw _ _).1 hp;subst this;simp only[Ak,Fd,any_cons];cases t==p.1 <;> simp| false=>simp only[Fd,any_cons]at ih ⊢;simp only[Ap,any_cons,ih,Bool.or_assoc]
theorem Mh.put (h:Mh o L) (s:ByteArray):Mh (Gy o s true) (L++[s]):=by
 refine⟨?_,λt=>?_⟩
 .have:∀o:List (ByteArray×Bool),(∀p∈o,p.2=true)->∀p∈Gy o s true,p.2=true:=by
   intro o;induction o with
   | nil=>intro _ p hp;simp[Gy]at hp;rw[hp]
   | cons q o ih=>
    intro b p hp;unfold Gy at hp;cases g:(s==q.1) with
    | true=>
     rw[g]at hp;simp only[Ak,Gl]at hp;rcases hp with rfl|hp
     .rfl
     .exact b p (by simp[hp])
    | false=>
     rw[g]at hp;simp only[Ap,Gl]at hp;rcases hp with rfl|hp
     .exact b _ ψ
     .exact ih (λp hp=>b p (by simp[hp])) p hp
  exact this o h.1
 .rw[A5v,Bool.or_eq_true,h.2 t,Nw];simp
theorem A5w (x:Aj) {c:Nat} (g:x.O[c]? = some y):Lf x=(x.O.take c).map (·.S)++y.S::(x.O.drop (c+1)).map (·.S):=by
 have h:=take_append_drop c x.O
 have q:=Ek g
 have e:x.O.drop c=y::x.O.drop (c+1):=by
  rw[drop_eq_getElem_cons q]
  rw[Bq q]at g
  rw[Eu g]
 unfold Lf
 conv=>lhs;rw[<-h,e]
 simp
theorem Atq {m:List ByteArray} (h:(L++s::m).Nodup):s ∉ L:=by rw[nodup_append]at h;intro b;exact h.2.2 s b s ψ rfl
theorem Atr (h:L.Nodup) (c:s ∉ L):(L++[s]).Nodup:=by rw[nodup_append];refine⟨h,ψ,?_⟩;intro a q b g;simp at g;subst g;intro e;subst e;exact c q
theorem A5x (M:DSz data) (V:data[d]? = some x) (hv:x.V<=6) (o:List (ByteArray×Bool)) (L:List ByteArray) (D:Mh o L) (I:L.Nodup) : ∃z,Am (S:=(Int×List (ByteArray×Bool))) (E:=(Bool⊕(Int×List (ByteArray×Bool)))) (λ(f,g)=> bif f<(x.O.length:Int) then ((Ag x.O f).bind λw=> (Uo w.S).bind λs=> bif (!s) then some (.inr (.inl false)) else (bif (Fd g w.S) then (bif (Iv g w.S (false:Bool)) then some (.inr (.inl false)) else ((Sf data d f).bind λq=> bif (!q) then some (.inr (.inl false)) else some (.inl ((Ac (f+1)),(Gy g w.S true))))) else ((Sf data d f).bind λP=> bif (!P) then some (.inr (.inl false)) else some (.inl ((Ac (f+1)),(Gy g w.S true)))))) else some (.inr (.inr (f,g)))) (0,o)=some z /\ match z with
   | .inl r=>r=false/\¬((∀y∈x.O,Ago data d x.V y)/\(L++Lf x).Nodup)
   | .inr (_,o')=>(∀y∈x.O,Ago data d x.V y)/\(L++Lf x).Nodup/\Mh o' (L++Lf x):=by
 have K:=Bz V;have G:=(M.sz x K).1;refine Kf (λ(f,g)=>∃c:Nat,f=c/\c<=x.O.length/\(∀y∈x.O.take c,Ago data d x.V y)/\(L++(x.O.take c).map (·.S)).Nodup/\Mh g (L++(x.O.take c).map (·.S))) (λ(f,_)=>x.O.length-f.toNat) _ ?_ _ ⟨0,rfl,ω,ψ,by simpa using I,by simpa using D⟩;rintro⟨v,g⟩ ⟨c,rfl,hc,T,U,F⟩;rcases Cf c x.O.length with h|h
 .have H:x.O[c]? = some x.O[c]:=Bq h;generalize x.O[c]=y at H;have k:=Bz H;obtain⟨b,b1,W⟩:=Atp y.S (by have:=M.cn x K y k;omega);have ht:=Cz H;have A:L++Lf x=(L++(x.O.take c).map (·.S))++y.S::(x.O.drop (c+1)).map (·.S):=(by rw[A5w x H];simp);simp only[As (ω:(c:Int)<(x.O.length:Int)),Ak,Br rfl H,Ad,b1,A5n M.sz d c V H hv M.len,C6 h ω];cases b with
  | false=>refine .inr ⟨.inl false,rfl,rfl,λC=>?_⟩;have:=W.2 (C.1 y k).1;cases this
  | true=>
   simp only[Fz,Ap];cases j:Fd g y.S with
   | true=>simp only[Ak,F.get j];refine .inr ⟨.inl false,rfl,rfl,λC=>?_⟩;rw[A]at C;exact Atq C.2 ((F.2 _).1 j)
   | false=>
    simp only[Ap];cases i:(decide (y.R.length<=6)&&y.R.all (Sy data d x.V)) with
    | false=>refine .inr ⟨.inl false,rfl,rfl,λC=>?_⟩;have:=C.1 y k;rw[this.2.2,As this.2.1]at i;cases i
    | true=>
     simp only[Cv,Dk]at i;have u:y.S ∉ L++(x.O.take c).map (·.S):=λC=>by rw[(F.2 _).2 C]at j;cases j
     have e:L++(x.O.take (c+1)).map (·.S)=(L++(x.O.take c).map (·.S))++[y.S]:=(by rw[ht];simp);refine .inl ⟨_,rfl,⟨c+1,rfl,ω,?_,?_,?_⟩,ζ⟩
     .intro B l;rw[ht]at l;rcases En.1 l with N|N
      .exact T B N
      .simp at N;subst N;exact⟨W.1 rfl,i.1,i.2⟩
     .rw[e];exact Atr U u
     .rw[e];exact F.put _
 .have:c=x.O.length:=ω;subst this;rw[Db]at T U F;exact .inr ⟨.inr ((x.O.length:Int),g),ψ,T,U,F⟩
theorem A5y (g:data[d]? = some x):data.flatMap Lf=((data.take d).flatMap Lf++Lf x)++(data.drop (d+1)).flatMap Lf/\data.map (·.S)=(data.take d).map (·.S)++x.S::(data.drop (d+1)).map (·.S):=by
 have h:=take_append_drop d data
 have q:=Ek g
 have e:data.drop d=x::data.drop (d+1):=by
  rw[drop_eq_getElem_cons q]
  rw[Bq q]at g
  rw[Eu g]
 constructor
 .conv=>lhs;rw[<-h,e]
  simp[flatMap_append]
 .conv=>lhs;rw[<-h,e]
  simp
theorem A5z (H:DSz data):∃b,Aad data=some b/\(b=true↔H9 data):=by
 have B:=H.len;unfold Aad;rcases Cf 12 data.length with T|T
 .rw[As ω];exact⟨false,rfl,by simp;intro h;have:=h.1;omega⟩
 rw[Aw ω];simp only[Ap];refine Ej (λ(K,c,f)=>∃d:Nat,K=d/\d<=data.length/\(∀i x,i<d->data[i]? = some x->Al0 data i x)/\((data.take d).map (·.S)).Nodup/\((data.take d).flatMap Lf).Nodup/\Mh c ((data.take d).map (·.S))/\Mh f ((data.take d).flatMap Lf)) (λ(K,_,_)=>data.length-K.toNat) (λz=>match z with|.inl r=>r=false/\¬H9 data | .inr _=>H9 data) ⟨0,rfl,ω,by intro i x h;omega,ψ,ψ,by simpa using Mh.nil,by simpa using Mh.nil⟩ ?_ ?_
 .rintro⟨v,c,f⟩ ⟨d,rfl,hd,h1,V,W,U,R⟩;rcases Cf d data.length with h|h
  .have C:data[d]? = some data[d]:=Bq h;generalize data[d]=x at C;have a0:=Bz C;obtain⟨b,b1,b2⟩:=Atp x.S (by have:=H.nm x a0;omega);obtain⟨f1,f2⟩:=A5y C;simp only[As (ω:(d:Int)<(data.length:Int)),Ak,Br rfl C,Ad,b1];have F:∀(s:¬Al0 data d x),∃e:Bool⊕(List (ByteArray×Bool)×List (ByteArray×Bool)),(some (Sum.inr (Sum.inl false)):Option ((Int×List (ByteArray×Bool)×List (ByteArray×Bool))⊕(Bool⊕(List (ByteArray×Bool)×List (ByteArray×Bool)))))=some (.inr e)/\(match e with|.inl r=>r=false/\¬H9 data | .inr _=>H9 data) :=
    λs=>⟨.inl false,rfl,rfl,λw=>s (w.2.1 d x C)⟩
   cases b with
   | false=>exact .inr (F λw=>by have:=b2.2 w.2.2.2.2.1;cases this)
   | true=>
    simp only[Fz,Ap];cases g:Fd c x.S with
    | true=>simp only[Ak,U.get g,Ad];refine .inr ⟨.inl false,rfl,rfl,λw=>?_⟩;have:=w.2.2.1;rw[f2]at this;exact Atq this ((U.2 _).1 g)
    | false=>
     simp only[Ap];by_cases k:x.V<0
     .simp only[As k,Ak,Ad];exact .inr (F λw=>by have:=w.1;omega)
     by_cases q:x.V>6
     .simp only[Aw k,As q,Ak,Ap,Ad];exact .inr (F λw=>by have:=w.2.1;omega)
     simp only[Aw k,Aw q,Ap,Ad];by_cases l:(x.O.length:Int)<1
     .simp only[As l,Ak,Ad];exact .inr (F λw=>by have:=w.2.2.1;omega)
     by_cases u:(x.O.length:Int)>8
     .simp only[Aw l,As u,Ak,Ap,Ad];exact .inr (F λw=>by have:=w.2.2.2.1;omega)
     simp only[Aw l,Aw u,Ap,Ad];obtain⟨z,G,P⟩:=A5x H C ω f _ R W;rw[G,Ad]
     match z,P with
     | .inl r,P=>obtain⟨rfl,P⟩:=P;refine .inr ⟨.inl false,rfl,rfl,λw=>P ⟨(w.2.1 d x C).2.2.2.2.2,?_⟩⟩;have:=w.2.2.2;rw[f1]at this;exact (nodup_append.1 this).1
     | .inr (a1,y),P=>
      obtain⟨L,J,I⟩:=P;have ht:=Cz C;have A:x.S ∉ (data.take d).map (·.S):=λw=>by rw[(U.2 _).2 w]at g;cases g
      have E:(data.take (d+1)).map (·.S)=(data.take d).map (·.S)++[x.S]:=(by rw[ht];simp);have D:(data.take (d+1)).flatMap Lf=(data.take d).flatMap Lf++Lf x:=(by rw[ht];simp[flatMap_append]);refine .inl ⟨(((d+1:Nat):Int),Gy c x.S true,y),by simp only[C6 h ω],⟨d+1,rfl,ω,?_,?_,?_,?_,?_⟩,ζ⟩
      .intro i M N j;rcases Cf i d with h'|h'
       .exact h1 i M h' j
       .have:i=d:=ω;subst this;rw[C]at j;cases j;exact⟨ω,ω,ω,ω,b2.1 rfl,L⟩
      .rw[E];exact Atr V A
      .rw[D];exact J
      .rw[E];exact U.put _
      .rw[D];exact I
  .have:d=data.length:=ω;subst this;rw[Db]at V W;exact .inr ⟨.inr (c,f),ψ,T,λd x C=>h1 d x (Ek C) C,V,W⟩
 .rintro (r|⟨o,o'⟩) H
  .obtain⟨rfl,H⟩:=H;exact⟨false,rfl,by simp[H]⟩
  .exact⟨true,rfl,by simpa using H⟩
theorem Agp (g:DSz data):∃b,Ud data=some b/\(b=true↔H9 data):=by obtain⟨b,h,q⟩:=A5z g;refine⟨b,?_,q⟩;unfold Ud;rw[h,Ad];cases b with| false=>rfl| true=>rfl
theorem SzD.args (h:SzD data) (hx:x∈data) (hy:y∈x.O) (ht:t∈y.R):B0 t<=1048576/\t.R.length<=1048576/\y.R.length<=1048576:=by have h1:=(h x hx).2 y hy;have h3:=Kl ht;have g:=J2 t;have c:=Lw t.R;have b:=Lw y.R;omega
def isV (σ:List Af) (k n:Int):Bool:=k==4&&decide (0<=n)&&decide (n<(σ.length:Int))
mutual
def El (σ:List Af):Af->Af
 | ⟨k,n,l⟩=>match (if isV σ k n then σ[n.toNat]? else none) with
  | some s=>s
  | none=>⟨k,n,Ov σ l⟩
def Ov (σ:List Af):List Af->List Af
 | []=>[]
 | x::xs=>El σ x::Ov σ xs
end
variable {t:Af} {σ:List Af}
theorem Al1 (σ l:List Af):Ov σ l=l.map (El σ):=by induction l with| nil=>rfl| cons x xs ih=>simp only[Ov,ih,map_cons]
theorem Agq {k n:Int} (h:isV σ k n=true):∃s,σ[n.toNat]? = some s/\Ag σ n=some s/\s∈σ:=by simp only[isV,Cv,Dk]at h;have b:n.toNat < σ.length:=ω;refine⟨σ[n.toNat],Bq b,?_,getElem_mem b⟩;unfold Ag;rw[Au ω,Bq b]
theorem Acf {s:Af} (h:isV σ t.G t.U=true) (b:σ[t.U.toNat]? = some s):El σ t=s:=by cases t;simp only[El]at *;simp[h,b]
theorem Agr (h:isV σ t.G t.U=false):El σ t=⟨t.G,t.U,t.R.map (El σ)⟩:=by cases t;simp only[El]at *;simp[h,Al1]
mutual
theorem Ats:∀t:Af,El [] t=t
 | ⟨k,n,l⟩=>by
  have g:isV [] k n=false:=by
   unfold isV
   by_cases h:0<=n
   .rw[Aw (by simp;omega:¬n<(([]:List Af).length:Int))];simp
   .rw[Aw h];simp
  simp only[El,g,Att l];rfl
theorem Att:∀l:List Af,Ov [] l=l
 | []=>rfl
 | x::xs=>by simp only[Ov,Ats x,Att xs]
end
mutual
theorem Atu (σ:List Af) (M:Nat) (q:1<=M) (h:∀s∈σ,B0 s<=M):∀t:Af,B0 (El σ t)<=B0 t*M
 | ⟨k,n,l⟩=>by
  cases g:isV σ k n with
  | true=>
   obtain⟨s,u,_,v⟩:=Agq g
   rw[Acf (t:=⟨k,n,l⟩) g u]
   have:=h s v
   have w:=Vg ⟨k,n,l⟩
   calc B0 s<=1*M:=ω
    _<=_:=Nat.mul_le_mul_right M w
  | false=>
   have:=Atv σ M q h l
   simp only[El,g,B0]
   simp only[Bool.false_eq_true,if_false,B0]
   rw[Nat.add_mul];omega
theorem Atv (σ:List Af) (M:Nat) (g:1<=M) (h:∀s∈σ,B0 s<=M):∀l:List Af,Dx (Ov σ l)<=Dx l*M
 | []=>by simp[Ov,Dx]
 | x::xs=>by
  have q:=Atu σ M g h x
  have u:=Atv σ M g h xs
  simp only[Ov,Dx]
  rw[Nat.add_mul];omega
end
variable {t:Af} {b:Bool} {l:List Af} {data:List Aj} {r:List Bool} {j:Nat}
theorem Atw (σ:List Af) (t:Af):(bif t.G==(4:Int) then bif decide (t.U>=(0:Int)) then some (decide (t.U<(σ.length:Int))) else some false else some false)=some (isV σ t.G t.U):=by unfold isV;cases t.G==4 <;> simp;by_cases h:0<=t.U <;> simp[h]
theorem A50:∀(k:Nat) (t:Af) (σ:List Af) (M:Nat),(∀s∈σ,B0 s<=M)->B0 t+M+1<=k->k<1099511627776->Qt k t σ=some (El σ t):=by
 intro k;induction k with
 | zero=>intro t σ M _ h;omega
 | succ k ih=>
  intro t σ M b h A;have f:=J2 t;have c:=Lw t.R;rw[Qt];rw[show (show OB from bif t.G==(4:Int) then bif decide (t.U>=(0:Int)) then some (decide (t.U<(σ.length:Int))) else some false else some false)=some (isV σ t.G t.U) from Atw σ t,Ad];cases q:isV σ t.G t.U with
  | true=>obtain⟨s,g,u,v⟩:=Agq q;have:=b s v;simp only[Ak,u,Ad,Acf q g,ih s [] 0 ψ ω ω,Ats]
  | false=>
   rw[Agr q];simp only[Ap];refine Gd t.R (λj=>((j:Int),(t.R.take j).map (El σ))) rfl ω ?_ ?_
   .intro j x B w g u v;have:=Kl (Bz w);simp only[g,u,v,Ak,Ad,ih x σ M b ω ω];rw[Dl ζ,Ad,Cz w];simp
   .intro g;exact⟨t.R.map (El σ),ψ,rfl⟩
theorem A51:∀(k:Nat) (t:Af),B0 t<=k->B0 t<1099511627776->Sg k t=some (B0 t:Int):=by
 intro k;induction k with
 | zero=>intro t h;have:=Vg t;omega
 | succ k ih=>
  intro t h A;have b:=J2 t;have c:=Lw t.R;rw[Sg];refine Gd t.R (λj=>(1+(Dx (t.R.take j):Int),(j:Int))) rfl ω ?_ ?_
  .intro j x B q u v w;have g:=Kl (Bz q);have f:=Alw t.R (j+1);have e:Dx (t.R.take (j+1))=Dx (t.R.take j)+B0 x:=(by rw[Cz q,Agm];simp[Dx]);simp only[u,v,w,Ak,Ad,ih x ω ω];rw[show Ac (1+(Dx (t.R.take j):Int)+(B0 x:Int))=1+(Dx (t.R.take (j+1)):Int) by rw[e,Ac,B4] <;> omega]
  .intro u;exact⟨1+(Dx t.R:Int),ψ,by rw[b];simp⟩
theorem ξ {p:Prop} (h:p:=by rw[Ac,B4]<;>omega):p:=h
theorem A52 (σ:List Af) (M:Nat) (B:1<=M) (q:M<=1048576) (y:∀s∈σ,B0 s<=M):∀(k:Nat) (t:Af),B0 t<=k->B0 t<=1048576 -> ∃v:Nat,Sh k t (σ.map λs=>(B0 s:Int))=some (v:Int)/\v<=B0 (El σ t)/\((v=B0 (El σ t))\/200<v):=by
 intro k;induction k with
 | zero=>intro t h;have:=Vg t;omega
 | succ k ih=>
  intro t h K;have z:=J2 t;have u:=Lw t.R;have g:∀x,B0 x<=1048576->B0 (El σ x)<=1099511627776:=λx w=>by have:=Atu σ M B y x;have:B0 x*M<=1048576*1048576:=Nat.mul_le_mul w q;omega
  rw[Sh];rw[show (show OB from bif t.G==(4:Int) then bif decide (t.U>=(0:Int)) then some (decide (t.U<((σ.map λs=>(B0 s:Int)).length:Int))) else some false else some false)=some (isV σ t.G t.U) by rw[C5];exact Atw σ t,Ad];cases C:isV σ t.G t.U with
  | true=>obtain⟨s,G,N,U⟩:=Agq C;have P:Ag (σ.map λs=>(B0 s:Int)) t.U=some (B0 s:Int):=(by have:=Hg N;rw[Br (n:=t.U.toNat) ω];simp[G]);simp only[Ak,P,Ad,Acf C G];exact⟨B0 s,rfl,Nat.le_refl _,.inl rfl⟩
  | false=>
   have H:=g t K;rw[Agr C]at H ⊢;simp only[Ap];have f:B0 ⟨t.G,t.U,t.R.map (El σ)⟩=1+Dx (t.R.map (El σ)):=(by simp only[B0]);rw[f]at H ⊢;refine Ab2 (λv:Nat=>(v:Int)) (Ej (λ(n,i)=>∃j:Nat,i=j/\j<=t.R.length/\n=1+(Dx ((t.R.map (El σ)).take j):Int)) (λ(_,i)=>t.R.length-i.toNat) (λn=>∃v:Nat,n=v/\v<=1+Dx (t.R.map (El σ))/\(v=1+Dx (t.R.map (El σ))\/200<v)) ⟨0,rfl,ω,by simp[Dx]⟩ ?_ ?_)
   .rintro⟨n,i⟩ ⟨j,rfl,V,l⟩;have l:n=_:=l;subst l;rcases Cf j t.R.length with F|F
    .have w:t.R[j]? = some t.R[j]:=Bq F;generalize t.R[j]=x at w;have E:=Kl (Bz w);obtain⟨v,b,I,W⟩:=ih x ω ω;have c:(t.R.map (El σ))[j]? = some (El σ x):=(by simp[w]);have e:Dx ((t.R.map (El σ)).take (j+1))=Dx ((t.R.map (El σ)).take j)+B0 (El σ x):=(by rw[Cz c,Agm];simp[Dx]);have A:=Alw (t.R.map (El σ)) (j+1);have D:Ac (1+(Dx ((t.R.map (El σ)).take j):Int)+(v:Int))=((1+Dx ((t.R.map (El σ)).take j)+v:Nat):Int):=ξ;simp only[As (ω:(j:Int)<(t.R.length:Int)),Ak,Br rfl w,Ad,b,C6 F ω,D];by_cases T:1+Dx ((t.R.map (El σ)).take j)+v>200
     .rw[As ω];exact .inr ⟨_,rfl,_,rfl,ω,.inr T⟩
     .rw[Aw ω];refine .inl ⟨_,rfl,⟨j+1,rfl,ω,?_⟩,ζ⟩;have:v=B0 (El σ x):=ω;subst this;rw[e];omega
    .have:j=t.R.length:=ω;subst this;refine .inr ⟨_,by simp;rfl,1+Dx (t.R.map (El σ)),?_,ω,.inl rfl⟩;rw[Ii ψ];omega
   .rintro n ⟨v,rfl,b,I⟩;exact⟨_,rfl,v,rfl,b,I⟩
def Jp (data:List Aj) (t:Af) (c:Int):Option (List Af) := if t.G=5 then match Ag data t.U with
  | none=>none
  | some x=>if (t.R.length:Int)=x.V then match Ag x.O c with
    | none=>none
    | some y=>if (y.R.map (El t.R)).all (λa=>decide (B0 a<=200)) then some (y.R.map (El t.R)) else none else none else none
def okL (o:Option (List Af)):List Af×Bool:=match o with|none=>([],false) | some l=>(l,true)
def Szv (data:List Aj):Prop:=∀x∈data,∀y∈x.O,y.R.length<=6/\∀a∈y.R,B0 a<=200
theorem H9.szv (h:H9 data):Szv data:=by
 intro x hx y hy;obtain⟨d,hd⟩:=Hu hx;have h1:=h.2.1 d x hd;obtain⟨_,c2,c3⟩:=h1.2.2.2.2.2 y hy;refine⟨c2,λa ha=>?_⟩;have:=Gt.1 c3 a ha;unfold Sy at this;rw[Bool.or_eq_true]at this;rcases this with h'|h'
 .exact (Alx hd h1.2.1 h').2
 .simp only[Cv,Dk]at h';exact h'.2
theorem Acg (U:Szv data) (t:Af) (ht:B0 t<=200) (c:Int):Vb data t c=some (okL (Jp data t c)):=by
 have A:=J2 t;have q:=Lw t.R;unfold Vb Jp;by_cases H:t.G=5
 .simp only[G1 H,Ap,Au H];cases N:Ag data t.U with
  | none=>
   rcases Ab9 N with h|h
   .simp only[As h,Ak,Ad,okL]
   .by_cases C:t.U<0
    .simp only[As C,Ak,Ad,okL]
    .simp only[Aw C,As (show t.U>=(data.length:Int) from h),Ak,Ap,Ad,okL]
  | some x=>
   obtain⟨W,a2,_,M⟩:=Hg N;simp only[Aw (ω:¬t.U<0),Aw (ω:¬t.U>=(data.length:Int)),Ap,Ad];by_cases I:(t.R.length:Int)=x.V
   .simp only[G1 I,Ap,Au I];cases P:Ag x.O c with
    | none=>
     rcases Ab9 P with h|h
     .simp only[As h,Ak,Ad,okL]
     .by_cases C:c<0
      .simp only[As C,Ak,Ad,okL]
      .simp only[Aw C,As (show c>=(x.O.length:Int) from h),Ak,Ap,Ad,okL]
    | some y=>
     obtain⟨b1,b2,_,i⟩:=Hg P;obtain⟨E,b⟩:=U x M y i;simp only[Aw (ω:¬c<0),Aw (ω:¬c>=(x.O.length:Int)),Ap,Ad];rw[Ld (n:=t.R.length) (c:=t.R.length) rfl rfl ω ω ω,Ad];refine Gd t.R (λj=>((j:Int),((t.R.take j).map λs=>(B0 s:Int))++replicate (t.R.length-j) 0)) rfl ω ?_ ?_
     .intro j s V g w F G;have:=Kl (Bz g);obtain⟨m,B⟩:∃m,t.R.length-j=m+1:=⟨t.R.length-j-1,ω⟩;have D:t.R.length-(j+1)=m:=ω;have k:j=((t.R.take j).map λs=>(B0 s:Int)).length:=ζ;simp only[w,F,G,Ak,Ad,A51 4000000 s ω ω,B,D,replicate_succ,Acb _ _ _ (j:Int) j rfl k,Aca _ _ _ _ (j:Int) j rfl k,Cz g];simp
     .intro w;refine⟨t.R.map λs=>(B0 s:Int),ψ,?_⟩;have l:∀s∈t.R,B0 s<=200:=λs g=>by have:=Kl g;omega
      refine (Ab6 (rt:=(y.R.map (El t.R),true)) (rf:=([],false)) y.R (λa=>decide (B0 (El t.R a)<=200)) (λj=>(j:Int)) rfl ω ?_ ?_).trans ?_
      .intro j a K w F G;have z:=b a (Bz K);obtain⟨v,u,v2,v3⟩:=A52 t.R 200 ω ω l 4000000 a ω ω;simp only[w,F,G,Ak,Ad,u];by_cases T:B0 (El t.R a)<=200
       .rw[As T,Aw ω];exact⟨λ_=>rfl,λh=>by cases h⟩
       .rw[Aw T,As ω];exact⟨nofun,λ_=>⟨_,rfl,rfl⟩⟩
      .intro w;refine⟨.inr (),ψ,?_⟩;simp only;refine Gd y.R (λj=>((j:Int),(y.R.take j).map (El t.R))) rfl ω ?_ ?_
       .intro j a V K w F G;have z:=b a (Bz K);simp only[w,F,G,Ak,Ad,A50 4000000 a t.R 200 l ω ω];rw[Dl ζ,Ad,Cz K];simp
       .intro w;exact⟨y.R.map (El t.R),ψ,rfl⟩
      .rw[all_map];cases f:y.R.all ((λa=>decide (B0 a<=200)) ∘ El t.R) with| true=>rw[Au rfl];rw[show (y.R.all λa=>decide (B0 (El t.R a)<=200))=true from f];rfl| false=>rw[show (y.R.all λa=>decide (B0 (El t.R a)<=200))=false from f];rfl
   .simp only[F7 I,Ak,Ad,Ar I,okL]
 .simp only[F7 H,Ak,Ad,Ar H,okL]
theorem A53 (g:Szv data) (t:Af) (ht:B0 t<=200) (c:Int):Afg data t c=some (okL (Jp data t c)):=Acg g t ht c
theorem Pv {c:Int} (h:Jp data t c=some l) : ∃x y,t.G=5/\Ag data t.U=some x/\(t.R.length:Int)=x.V/\Ag x.O c=some y/\l=y.R.map (El t.R)/\∀a∈l,B0 a<=200:=by
 unfold Jp at h;by_cases g:t.G=5
 .rw[Au g]at h;cases v:Ag data t.U with
  | none=>rw[v]at h;cases h
  | some x=>
   rw[v]at h;simp only at h;by_cases q:(t.R.length:Int)=x.V
   .rw[Au q]at h;cases u:Ag x.O c with
    | none=>rw[u]at h;cases h
    | some y=>
     rw[u]at h;simp only at h;by_cases b:(y.R.map (El t.R)).all (λa=>decide (B0 a<=200))=true
     .rw[Au b]at h;cases h;refine⟨x,y,g,rfl,q,u,rfl,λa w=>?_⟩;have:=Gt.1 b a w;simpa using this
     .rw[Ar b]at h;cases h
   .rw[Ar q]at h;cases h
 .rw[Ar g]at h;cases h
def Gf (l:List Af) (r:List Bool):List Af:=((l.zip r).filter λp=>!p.2).map (·.1)
def G2 (data:List Aj) (t:Af) (c:Int):Option (List Af):=(Jp data t c).map λl=>Gf l (Eb data t.U c)
theorem Xz {c:Int} (h:Jp data t c=some l):(Eb data t.U c).length=l.length:=by obtain⟨x,y,_,g,_,q,rfl,_⟩:=Pv h;unfold Eb;simp only[g,q,C5]
theorem Ags {a:Af} (g:l[j]? = some a) (h:r[j]? = some b):Gf (l.take (j+1)) (r.take (j+1))=Gf (l.take j) (r.take j)++bif b then [] else [a]:=by unfold Gf;have f:=Ek g;have c:=Ek h;rw[Cz g,Cz h,zip_append ζ];cases b <;> simp
theorem X0 (l:List Af) (r:List Bool):(Gf l r).length<=l.length:=by unfold Gf;rw[C5];refine Nat.le_trans (length_filter_le _ _) ?_;rw[length_zip];omega
theorem Agt (w:Szv data) (g:M1 data) (t:Af) (ht:B0 t<=200) (c:Int):Xj data t c=some (okL (G2 data t c)):=by
 unfold Xj G2;rw[Acg w t ht c,Ad];cases A:Jp data t c with
 | none=>rfl
 | some l=>
  have h:=Xz A;obtain⟨x,y,_,B,_,C,k,_⟩:=Pv A;obtain⟨f,_⟩:=w x (Hg B).2.2.2 y (Hg C).2.2.2;have i:l.length<=6:=(by rw[k];simpa using f);simp only[okL,Fz,Ap,Xy data t.U c g,Ad,Option.map_some];refine Gd (Eb data t.U c) (λj=>((j:Int),Gf (l.take j) ((Eb data t.U c).take j))) (by simp[Gf]) ω ?_ ?_
  .intro j b H D u F G;have v:l[j]? = some l[j]:=Bq ω;generalize l[j]=a at v;have q:=X0 (l.take j) ((Eb data t.U c).take j);have:(l.take j).length<=6:=ζ;simp only[u,F,G,Ak,Ad,Br rfl v,Ags v D];rw[Dl ζ];cases b <;> simp
  .intro u;refine⟨Gf l (Eb data t.U c),?_,rfl⟩;simp only[u];rw[Ii ω,Ii (Nat.le_refl _)];rfl
def Jb (r:List Bool):List Int:=(r.zipIdx.filter λp=>!p.1).map λp=>(p.2:Int)
theorem A54 (h:r[j]? = some b):(r.take (j+1)).zipIdx=(r.take j).zipIdx++[(b,j)]:=by have:=Ek h;rw[Cz h,zipIdx_append];simp;omega
theorem Agu {c:Int} (h:G2 data t c=some l):(∀a∈l,B0 a<=200)/\∃x,Ag data t.U=some x/\0<=c/\c<x.O.length:=by unfold G2 at h;cases g:Jp data t c with| none=>rw[g]at h;cases h| some m=>rw[g]at h;cases h;obtain⟨x,y,_,v,_,q,_,f⟩:=Pv g;refine⟨λa u=>?_,x,v,(Hg q).1,(Hg q).2.1⟩;unfold Gf at u;obtain⟨p,b,rfl⟩:=mem_map.1 u;exact f _ (of_mem_zip (mem_filter.1 b).1).1
mutual
def Bw:Ai->Nat
 | ⟨_,l⟩=>1+Ci l
def Ci:List Ai->Nat
 | []=>0
 | x::xs=>Bw x+Ci xs
end
theorem Ey (t:Ai):Bw t=1+Ci t.K:=by cases t;simp only[Bw]
theorem Km {l:List Ai} {a:Ai} (h:a∈l):Bw a<=Ci l:=by
 induction l with
 | nil=>cases h
 | cons x xs ih=>
  simp only[Ci];rcases Gl.1 h with rfl|h
  .omega
  .have:=ih h;omega
theorem Px (l:List Ai):l.length<=Ci l:=by induction l with| nil=>simp| cons x xs ih=>simp only[Ci,D2];have:=Ey x;omega
mutual
def Dj (data:List Aj):Ai->Af->Option Nat
 | ⟨n,g⟩,t=>
  if t.G=6 then (if n=0 then C4 data g t.R else none)
  else if t.G=7 then (if 0<=n/\n<=6/\g.length=0 then some n.toNat else none)
  else if t.G=5 then (if n=0 then F1 data g t else none)
  else if n=0/\g.length=0 then some 0 else none
def C4 (data:List Aj):List Ai->List Af->Option Nat
 | [],[]=>some 0
 | i::is,t::g=>(Dj data i t).bind λa=>(C4 data is g).map (a + ·)
 | [],_::_=>none
 | _::_,[]=>none
def F1 (data:List Aj):List Ai->Af->Option Nat
 | [],_=>some 0
 | ⟨n,g⟩::h,t=>(G2 data t n).bind λq=>(C4 data g q).bind λa=>(F1 data h t).map (1+a + ·)
end
variable {m n:Int} {data:List Aj} {d:Nat}
theorem Mi (data:List Aj) (i:Ai) (t:Af):Dj data i t=if t.G=6 then (if i.U=0 then C4 data i.K t.R else none) else if t.G=7 then (if 0<=i.U/\i.U<=6/\i.K.length=0 then some i.U.toNat else none) else if t.G=5 then (if i.U=0 then F1 data i.K t else none) else if i.U=0/\i.K.length=0 then some 0 else none:=by cases i;simp only[Dj]
theorem Vh (data:List Aj) (e:Ai) (es:List Ai) (t:Af):F1 data (e::es) t=(G2 data t e.U).bind λg=>(C4 data e.K g).bind λa=>(F1 data es t).map (1+a + ·):=by cases e;simp only[F1]
theorem Nx (data:List Aj) (i:Ai) (is:List Ai) (t:Af) (ts:List Af):C4 data (i::is) (t::ts)=(Dj data i t).bind λa=>(C4 data is ts).map (a + ·):=by simp only[C4]
theorem Al2 (data:List Aj):∀(is:List Ai) (ts:List Af),ts.length≠is.length->C4 data is ts=none
 | [],[],h=>absurd rfl h
 | i::is,t::ts,h=>by rw[Nx,Al2 data is ts (by simpa using h)];cases Dj data i t <;> rfl
 | [],_::_,_=>by simp only[C4]
 | _::_,[],_=>by simp only[C4]
theorem Vi (data:List Aj):∀(es:List Ai) (t:Af) (d:Nat),F1 data es t=some d->es.length<=d
 | [],_,_,_=>ψ
 | e::es,t,d,h=>by
  rw[Vh]at h;cases q:G2 data t e.U with
  | none=>rw[q]at h;cases h
  | some v=>
   rw[q,Ad]at h;cases u:C4 data e.K v with
   | none=>rw[u]at h;cases h
   | some a=>rw[u,Ad]at h;cases g:F1 data es t with| none=>rw[g]at h;cases h| some b=>rw[g]at h;cases h;have:=Vi data es t b g;simp only[D2];omega
def Ju (o:Option Nat):Int:=match o with|some d=>if d<=6 then (d:Int) else -1|none => -1
theorem Q3 (h:d<=6):Ju (some d)=d:=by simp[Ju,h]
theorem Al3 (h:6<d):Ju (some d) = -1:=by simp only[Ju];rw[Ar ω]
theorem Al4 (o:Option Nat):(Ju o = -1/\∀d,o=some d->6<d)\/∃d,o=some d/\d<=6/\Ju o=d:=by
 cases o with
 | none=>exact .inl ⟨rfl,λd h=>by cases h⟩
 | some d=>
  rcases Cf 6 d with h|h
  .exact .inl ⟨Al3 h,λe b=>by cases b;exact h⟩
  .exact .inr ⟨d,rfl,h,Q3 h⟩
theorem Atx {o:Option Nat} (h:∀d,o=some d->6<d):Ju o = -1:=by cases o with| none=>rfl| some d=>exact Al3 (h d rfl)
def Pr (p:Int×Bool) (o:Option Nat):Prop:=(p.2=true/\∃d:Nat,o=some d/\d<=6/\p.1=d)\/(p.2=false/\∀d,o=some d->6<d)
theorem Jv {α:Type} {l:List α} {j:Nat} {x:α} (h:l[j]? = some x):l.drop j=x::l.drop (j+1):=by have g:=Ek h;rw[drop_eq_getElem_cons g];rw[Bq g]at h;rw[Eu h]
theorem A55 (hz:Szv data) (L:M1 data):∀k:Nat, (∀(i:Ai) (t:Af),2*Bw i<=k->Bw i<=1048576->B0 t<=200->∃p,Si k data t i=some p/\Pr p (Dj data i t)) /\ (∀(is:List Ai) (ts:List Af),2*Ci is+1<=k->Ci is<=1048576->(∀t∈ts,B0 t<=200)->∃p,Sl k data ts is=some p/\Pr p (C4 data is ts)):=by
 intro k;induction k with
 | zero=>exact⟨λi t h=>by have:=Ey i;omega,λis ts h=>ω⟩
 | succ k ih=>
  obtain⟨X,I⟩:=ih;constructor
  .intro i t hk hi T;have a6:=Ey i;have Y:=Px i.K;rw[Si,Mi];by_cases N:t.G=6
   .simp only[Ef N,Ak,Au N];by_cases F:i.U=0
    .simp only[G1 F,Ap,Au F];obtain⟨p,p1,p2⟩:=I i.K t.R ω ω (λa H=>by have:=Kl H;have:=J2 t;omega);rw[p1];exact⟨p,rfl,p2⟩
    .simp only[F7 F,Ak,Ar F];exact⟨_,rfl,.inr ⟨rfl,λd h=>by cases h⟩⟩
   .simp only[Cu N,Ap,Ar N];by_cases M:t.G=7
    .simp only[Ef M,Ak,Au M];by_cases W:0<=i.U
     .by_cases a2:i.U<=6
      .by_cases K:i.K.length=0
       .rw[As (show i.U>=0 from W),As a2,Au ⟨W,a2,K⟩];exact⟨_,rfl,.inl ⟨by simp[K],i.U.toNat,rfl,ω,ζ⟩⟩
       .rw[As (show i.U>=0 from W),As a2,Ar λh=>K h.2.2];exact⟨_,rfl,.inr ⟨Cu ω,λd h=>by cases h⟩⟩
      .rw[As (show i.U>=0 from W),Aw a2,Ar λh=>a2 h.2.1];exact⟨_,rfl,.inr ⟨rfl,λd h=>by cases h⟩⟩
     .rw[Aw (show ¬i.U>=0 from W),Ar λh=>W h.1];exact⟨_,rfl,.inr ⟨rfl,λd h=>by cases h⟩⟩
    .simp only[Cu M,Ap,Ar M];by_cases R:t.G=5
     .simp only[Ef R,Ak,Au R];by_cases F:i.U=0
      .simp only[G1 F,Ap,Au F];have P:∀(m j w:Nat),j+m=i.K.length->w<=6->∃z,Am (S:=(Int×Int)) (E:=((Int×Bool)⊕Int)) (λ(v8,v9)=>
         bif v9<(i.K.length:Int) then ((Ag i.K v9).bind λs=> (Xj data t s.U).bind λa0=> bif (!a0.2) then some (.inr (.inl (0,false))) else ((Sl k data a0.1 s.K).bind λB=> bif (!B.2) then some (.inr (.inl (0,false))) else (bif (Ac (v8+(Ac (1+B.1))))>(6:Int) then some (.inr (.inl (0,false))) else some (.inl ((Ac (v8+(Ac (1+B.1)))),(Ac (v9+1))))))) else some (.inr (.inr v8))) ((w:Int),(j:Int))=some z/\(match z with|.inl p=>p=(0,false)/\∀d,(F1 data (i.K.drop j) t).map (w + ·)=some d->6<d | .inr v=>∃d:Nat,(F1 data (i.K.drop j) t).map (w + ·)=some d/\d<=6/\v=d):=by
        intro m;induction m with
        | zero=>intro j w hj f;have:j=i.K.length:=ω;subst this;exact⟨.inr (w:Int),Ga ψ,w,by simp[F1],f,rfl⟩
        | succ m x=>
         intro j w hj f;have c:i.K[j]? = some i.K[j]:=Bq ω;generalize i.K[j]=e at c;have Z:=Km (Bz c);have a7:=Ey e;rw[Jv c,Vh];cases hp:G2 data t e.U with
         | none=>refine⟨.inl (0,false),Ga ?_,rfl,λd h=>by simp at h⟩;simp only[As (ω:(j:Int)<(i.K.length:Int)),Ak,Br rfl c,Ad,Agt hz L t T e.U,hp,okL,Bool.not_false]
         | some ts=>
          obtain⟨q,G,g⟩:=I e.K ts ω ω (Agu hp).1;rcases g with⟨g,a,y,q4,V⟩|⟨g,y⟩
          .have U:Ac ((w:Int)+Ac (1+q.1))=((w+(1+a):Nat):Int):=(by rw[V,show Ac (1+(a:Int))=((1+a:Nat):Int) by rw[Ac,B4] <;> omega,Ac,B4] <;> omega);by_cases hb:w+(1+a)<=6
           .obtain⟨z,l,C⟩:=x (j+1) (w+(1+a)) ω hb;refine⟨z,?_,?_⟩
            .rw[Lm (s':=(((w+(1+a):Nat):Int),((j+1:Nat):Int)))]
             .exact l
             .simp only[As (ω:(j:Int)<(i.K.length:Int)),Ak,Br rfl c,Ad,Agt hz L t T e.U,hp,okL,Fz,Ap,G,g,U,Aw (ω:¬((w+(1+a):Nat):Int)>6),C6 (show j<i.K.length by omega) ω]
            .have D:∀o:Option Nat,(((some a:Option Nat).bind λa=>o.map (1+a + ·)).map (w + ·))=o.map (w+(1+a) + ·):=(by intro o;cases o <;> simp[Nat.add_assoc]);rw[Ad,y,D];exact C
           .refine⟨.inl (0,false),Ga ?_,rfl,λd h=>?_⟩
            .simp only[As (ω:(j:Int)<(i.K.length:Int)),Ak,Br rfl c,Ad,Agt hz L t T e.U,hp,okL,Fz,Ap,G,g,U,As (ω:((w+(1+a):Nat):Int)>6)]
            .rw[Ad,y,Ad]at h;cases A:F1 data (i.K.drop (j+1)) t with| none=>rw[A]at h;cases h| some b=>rw[A]at h;simp at h;omega
          .refine⟨.inl (0,false),Ga ?_,rfl,λd h=>?_⟩
           .simp only[As (ω:(j:Int)<(i.K.length:Int)),Ak,Br rfl c,Ad,Agt hz L t T e.U,hp,okL,Fz,Ap,G,g,Bool.not_false]
           .rw[Ad]at h;cases H:C4 data e.K ts with
            | none=>rw[H]at h;cases h
            | some a=>rw[H,Ad]at h;have:=y a H;cases A:F1 data (i.K.drop (j+1)) t with| none=>rw[A]at h;cases h| some b=>rw[A]at h;simp at h;omega
       obtain⟨z,l,C⟩:=P i.K.length 0 0 ω ω;have l:Am _ ((0:Int),(0:Int))=some z:=l;rw[l,Ad];have D:∀o:Option Nat,o.map (0 + ·)=o:=(by intro o;cases o <;> simp);rw[drop_zero,D]at C
       match z,C with| .inl p,C=>exact⟨_,rfl,.inr ⟨by rw[C.1],C.2⟩⟩| .inr v,C=>obtain⟨d,d1,d2,d3⟩:=C;exact⟨_,rfl,.inl ⟨rfl,d,d1,d2,d3⟩⟩
      .simp only[F7 F,Ak,Ar F];exact⟨_,rfl,.inr ⟨rfl,λd h=>by cases h⟩⟩
     .simp only[Cu R,Ap,Ar R];by_cases F:i.U=0
      .simp only[Ef F,Ak];by_cases K:i.K.length=0
       .rw[Au ⟨F,K⟩];exact⟨_,rfl,.inl ⟨by simp[K],0,rfl,ω,rfl⟩⟩
       .rw[Ar λh=>K h.2];exact⟨_,rfl,.inr ⟨Cu ω,λd h=>by cases h⟩⟩
      .simp only[Cu F,Ap];rw[Ar λh=>F h.1];exact⟨_,rfl,.inr ⟨rfl,λd h=>by cases h⟩⟩
  .intro is ts hk hi T;have Y:=Px is;rw[Sl];by_cases hl:ts.length=is.length
   .rw[G1 ω];simp only[Ap];have P:∀(m j w:Nat),j+m=is.length->w<=6*j->∃z,Am (S:=(Int×Int)) (E:=((Int×Bool)⊕Int)) (λ(v5,J)=>
      bif J<(ts.length:Int) then ((Ag ts J).bind λv7=> (Ag is J).bind λv9=> (Si k data v7 v9).bind λs=> bif (!s.2) then some (.inr (.inl (0,false))) else some (.inl ((Ac (v5+s.1)),(Ac (J+1))))) else some (.inr (.inr v5))) ((w:Int),(j:Int))=some z/\(match z with|.inl p=>p=(0,false)/\∀d,(C4 data (is.drop j) (ts.drop j)).map (w + ·)=some d->6<d | .inr v=>∃d:Nat,(C4 data (is.drop j) (ts.drop j)).map (w + ·)=some d/\v=d):=by
     intro m;induction m with
     | zero=>intro j w hj f;have:j=ts.length:=ω;subst this;refine⟨.inr (w:Int),Ga ψ,w,?_,rfl⟩;rw[drop_of_length_le ω,drop_of_length_le ω];simp[C4]
     | succ m x=>
      intro j w hj f;have c:is[j]? = some is[j]:=Bq ω;generalize is[j]=e at c;have hu:ts[j]? = some ts[j]:=Bq ω;generalize ts[j]=u at hu;have Z:=Km (Bz c);rw[Jv c,Jv hu,Nx];obtain⟨q,G,g⟩:=X e u ω ω (T u (Bz hu));rcases g with⟨g,a,y,q4,V⟩|⟨g,y⟩
      .have U:Ac ((w:Int)+q.1)=((w+a:Nat):Int):=(by rw[V,Ac,B4] <;> omega);obtain⟨z,l,C⟩:=x (j+1) (w+a) ω ω;refine⟨z,?_,?_⟩
       .rw[Lm (s':=(((w+a:Nat):Int),((j+1:Nat):Int)))]
        .exact l
        .simp only[As (ω:(j:Int)<(ts.length:Int)),Ak,Br rfl c,Br rfl hu,Ad,Fz,Ap,G,g,U,C6 (show j<is.length by omega) ω]
       .have D:∀o:Option Nat,(((some a:Option Nat).bind λa=>o.map (a + ·)).map (w + ·))=o.map (w+a + ·):=(by intro o;cases o <;> simp[Nat.add_assoc]);rw[y,D];exact C
      .refine⟨.inl (0,false),Ga ?_,rfl,λd h=>?_⟩
       .simp only[As (ω:(j:Int)<(ts.length:Int)),Ak,Br rfl c,Br rfl hu,Ad,G,g,Bool.not_false]
       .cases H:Dj data e u with
        | none=>rw[H]at h;cases h
        | some a=>rw[H,Ad]at h;have:=y a H;cases A:C4 data (is.drop (j+1)) (ts.drop (j+1)) with| none=>rw[A]at h;cases h| some b=>rw[A]at h;simp at h;omega
    obtain⟨z,l,C⟩:=P is.length 0 0 ω ω;have l:Am _ ((0:Int),(0:Int))=some z:=l;rw[l,Ad];have D:∀o:Option Nat,o.map (0 + ·)=o:=(by intro o;cases o <;> simp);rw[drop_zero,drop_zero,D]at C
    match z,C with
    | .inl p,C=>exact⟨_,rfl,.inr ⟨by rw[C.1],C.2⟩⟩
    | .inr v,C=>
     obtain⟨d,d1,d3⟩:=C;by_cases hd:d<=6
     .exact⟨_,rfl,.inl ⟨As ω,d,d1,hd,d3⟩⟩
     .exact⟨_,rfl,.inr ⟨Aw ω,λe c=>by rw[d1]at c;cases c;omega⟩⟩
   .rw[F7 ω,Al2 data is ts hl];exact⟨_,rfl,.inr ⟨rfl,λd h=>by cases h⟩⟩
theorem H9.cons8 (h:H9 data):∀x∈data,x.O.length<=8:=by intro x hx;obtain⟨d,hd⟩:=Hu hx;exact (h.2.1 d x hd).2.2.2.1
def Ee (n:Int):Prop:= -9223372036854775808<=n/\n<=9223372036854775807
def ti (n:Int):List Int:=(Lib.itoa n).map λc=>(c.toNat:Int)
def Q4 (c:Int):Bool:=c==45||(decide (48<=c)&&decide (c<=57))
theorem X1 (h:d<10):(UInt8.ofNat (48+d)).toNat=48+d:=by rw[UInt8.toNat_ofNat'];omega
theorem Agv:∀(n u:Nat),u<=n->∀c∈Lib.decDigits u,48<=c.toNat/\c.toNat<=57:=by
 intro n;induction n with
 | zero=>intro u q c g;rw[Lib.decDigits,dif_pos ω]at g;simp only[D5]at g;subst g;rw[X1 ω];omega
 | succ n ih=>
  intro u q c g;rw[Lib.decDigits]at g;split at g
  .simp only[D5]at g;subst g;rw[X1 ω];omega
  .rcases En.1 g with h|h
   .exact ih (u / 10) ω c h
   .simp only[D5]at h;subst h;rw[X1 ω];omega
def Agw (l:List UInt8):Nat:=l.foldl (λa c=>10*a+(c.toNat-48)) 0
theorem Aty:∀(n u:Nat),u<=n->Agw (Lib.decDigits u)=u:=by
 intro n;induction n with
 | zero=>intro u g;rw[Lib.decDigits,dif_pos ω];simp only[Agw,foldl_cons,foldl_nil];rw[X1 ω];omega
 | succ n ih=>
  intro u g;rw[Lib.decDigits];split
  .simp only[Agw,foldl_cons,foldl_nil];rw[X1 ω];omega
  .have:=ih (u / 10) ω;unfold Agw at *;rw[foldl_append,this];simp only[foldl_cons,foldl_nil];rw[X1 ω];omega
theorem Atz {u v:Nat} (h:Lib.decDigits u=Lib.decDigits v):u=v:=by rw[<-Aty u u (Nat.le_refl _),h,Aty v v (Nat.le_refl _)]
theorem A56 (u:Nat):Lib.decDigits u≠[]:=by rw[Lib.decDigits];split <;> simp
theorem A57 (h:Lib.itoa m=Lib.itoa n):m=n:=by
 have b:∀u v:Nat,45::Lib.decDigits u≠Lib.decDigits v:=by intro u v e;have:=Agv v v (Nat.le_refl _) 45 (by rw[<-e];simp);exact absurd this δ
 unfold Lib.itoa at h;split at h <;> split at h
 .have:=Atz (List.cons.inj h).2;omega
 .exact absurd h (b _ _)
 .exact absurd h.symm (b _ _)
 .have:=Atz h;omega
theorem Jq (n:Int):∀c∈ti n,Q4 c=true:=by
 intro c u;unfold ti at u;obtain⟨b,g,rfl⟩:=mem_map.1 u;have q:b=45\/(48<=b.toNat/\b.toNat<=57):=by
  unfold Lib.itoa at g;split at g
  .rcases Gl.1 g with h|h
   .exact .inl h
   .exact .inr (Agv _ _ (Nat.le_refl _) b h)
  .exact .inr (Agv _ _ (Nat.le_refl _) b g)
 unfold Q4;rcases q with rfl|⟨v,w⟩
 .decide
 .rw[Bool.or_eq_true,Cv,Dk,Dk];right;omega
theorem Agx (n:Int):ti n≠[]:=by
 unfold ti Lib.itoa;split
 .simp
 .simpa using A56 _
theorem Vj (h:ti m=ti n):m=n:=by
 unfold ti at h;have:∀l m:List UInt8,l.map (λc=>(c.toNat:Int))=m.map (λc=>(c.toNat:Int))->l=m:=by
  intro l;induction l with
  | nil=>intro m h;cases m with|nil=>rfl|cons=>simp at h
  | cons x xs ih=>intro m h;cases m with| nil=>simp at h| cons y g=>simp only[map_cons,List.cons.injEq]at h;rw[ih g h.2,UInt8.toNat.inj (ω:x.toNat=y.toNat)]
 exact A57 (this _ _ h)
theorem Ow (h:Ee n):(ti n).length<=21:=by unfold ti;rw[C5];exact Lib.itoa_length_le n h.1 h.2
def Sz (X:List Int):Prop:=∀c m,X=c::m->Q4 c=false/\c≠40
def M2 (X:List Int):Prop:=∀c m,X=c::m->Q4 c=false
theorem Q5:∀(a b X Y:List Int),(∀c∈a,Q4 c=true)->(∀c∈b,Q4 c=true)->M2 X->M2 Y->a++X=b++Y->a=b/\X=Y
 | [],[],_,_,_,_,_,_,h=>⟨rfl,h⟩
 | [],y::b,X,Y,_,q,g,_,h=>by have:=g y (b++Y) h;rw[q y ψ]at this;cases this
 | x::a,[],X,Y,u,_,_,f,h=>by have:=f x (a++X) h.symm;rw[u x ψ]at this;cases this
 | x::a,y::b,X,Y,u,q,g,f,h=>by simp only[D4,List.cons.injEq]at h;obtain⟨j,i⟩:=Q5 a b X Y (λc v=>u c (by simp[v])) (λc v=>q c (by simp[v])) g f h.2;exact⟨by rw[h.1,j],i⟩
mutual
def wx:Ai->List Int
 | ⟨n,g⟩=>ti n++(if g.length=0 then [] else 40::(wxs g++[41]))
def wxs:List Ai->List Int
 | []=>[]
 | x::xs=>wx x++44::wxs xs
end
theorem Agy (i:Ai):wx i=ti i.U++(if i.K.length=0 then [] else 40::(wxs i.K++[41])):=by cases i;simp only[wx]
theorem At0 (l m:List Ai):wxs (l++m)=wxs l++wxs m:=by induction l with| nil=>simp[wxs]| cons x xs ih=>simp only[D4,wxs,ih,append_assoc]
theorem At1 (b:List Ai) (X:List Int) (f:Sz X):M2 ((if b.length=0 then [] else 40::(wxs b++[41]))++X):=by
 intro c m h;by_cases g:b.length=0
 .rw[Au g,nil_append]at h;exact (f c m h).1
 .rw[Ar g,D4]at h;cases h;decide
theorem At2 (X:List Int):Sz (44::X):=by intro c m h;cases h;exact⟨δ,δ⟩
theorem Agz:Sz []:=by intro c m h;cases h
mutual
theorem Ag0:∀(i j:Ai) (X Y:List Int),Sz X->Sz Y->wx i++X=wx j++Y->i=j/\X=Y
 | ⟨n,k⟩,⟨C,v⟩,X,Y,w,A,h=>by
  simp only[wx,append_assoc]at h
  obtain⟨B,q⟩:=Q5 _ _ _ _ (Jq n) (Jq C) (At1 k X w) (At1 v Y A) h
  have B:=Vj B
  subst B
  by_cases u:k.length=0
  .by_cases g:v.length=0
   .rw[Au u,Au g]at q
    rw[Fr.1 u,Fr.1 g]
    exact⟨rfl,q⟩
   .rw[Au u,Ar g,nil_append,D4]at q
    exact absurd rfl (w _ _ q).2
  .by_cases g:v.length=0
   .rw[Ar u,Au g,nil_append,D4]at q
    exact absurd rfl (A _ _ q.symm).2
   .rw[Ar u,Ar g,D4,D4,append_assoc,append_assoc]at q
    obtain⟨D,F⟩:=At3 k v X Y w A (List.cons.inj q).2
    rw[D];exact⟨rfl,F⟩
theorem At3:∀(l m:List Ai) (X Y:List Int),Sz X->Sz Y->wxs l++([41]++X)=wxs m++([41]++Y)->l=m/\X=Y
 | [],[],X,Y,_,_,h=>by
  simp only[wxs,nil_append,D4,List.cons.injEq,true_and]at h
  exact⟨rfl,h⟩
 | [],y::u,X,Y,_,_,h=>by
  exfalso
  cases g:ti y.U with
  | nil=>exact Agx _ g
  | cons c r=>
   have q:=Jq y.U c (by rw[g];simp)
   simp only[wxs,Agy y,g,nil_append,D4,List.cons.injEq]at h
   rw[<-h.1]at q;exact absurd q δ
 | x::xs,[],X,Y,_,_,h=>by
  exfalso
  cases g:ti x.U with
  | nil=>exact Agx _ g
  | cons c r=>
   have q:=Jq x.U c (by rw[g];simp)
   simp only[wxs,Agy x,g,nil_append,D4,List.cons.injEq]at h
   rw[h.1]at q;exact absurd q δ
 | x::xs,y::u,X,Y,v,w,h=>by
  simp only[wxs,append_assoc,D4]at h
  obtain⟨A,B⟩:=Ag0 x y _ _ (At2 _) (At2 _) h
  obtain⟨C,D⟩:=At3 xs u X Y v w (by simpa using B)
  exact⟨by rw[A,C],D⟩
end
mutual
def iR:Ai->Prop
 | ⟨n,l⟩=>Ee n/\Ff l
def Ff:List Ai->Prop
 | []=>True
 | x::xs=>iR x/\Ff xs
end
theorem Py (i:Ai):iR i↔Ee i.U/\Ff i.K:=by cases i;simp only[iR]
theorem Al5 {l:List Ai} (h:Ff l) {a:Ai} (g:a∈l):iR a:=by
 induction l with
 | nil=>cases g
 | cons x xs ih=>
  simp only[Ff]at h;rcases Gl.1 g with rfl|g
  .exact h.1
  .exact ih h.2 g
mutual
theorem Al6:∀i:Ai,iR i->(wx i).length+1<=24*Bw i
 | ⟨n,l⟩,h=>by
  simp only[iR]at h
  have q:=Ag1 l h.2
  have u:=Ow h.1
  simp only[wx,Bw,Ew]
  by_cases g:l.length=0
  .rw[Au g];simp;omega
  .rw[Ar g];simp;omega
theorem Ag1:∀l:List Ai,Ff l->(wxs l).length<=24*Ci l
 | [],_=>by simp[wxs,Ci]
 | x::xs,h=>by
  simp only[Ff]at h
  have g:=Al6 x h.1
  have q:=Ag1 xs h.2
  have u:=Ey x
  simp only[wxs,Ci,Ew,D2];omega
end
theorem Vk (l m:List Ai):Ci (l++m)=Ci l+Ci m:=by induction l with| nil=>simp[Ci]| cons x xs ih=>simp only[D4,Ci,ih];omega
theorem Al7 (l m:List Ai):Ff (l++m)↔Ff l/\Ff m:=by induction l with| nil=>simp[Ff]| cons x xs ih=>simp only[D4,Ff,ih,and_assoc]
theorem Al8 {n:Int} (h:Ee n):Qh n=some ⟨(Lib.itoa n).toArray⟩:=by unfold Qh;rw[Au (show _/\_ from h)]
theorem A58 (n:Int):Od ⟨(Lib.itoa n).toArray⟩=ti n:=by unfold Od ti;simp
theorem At4:∀(k:Nat) (i:Ai) (b:List Int),Bw i<=k->iR i->b.length+24*Bw i<=1099511627776->Pm k i b=some (b++wx i):=by
 intro k;induction k with
 | zero=>intro i b h;have:=Ey i;omega
 | succ k ih=>
  intro i b h c H;have I:=Ey i;have z:=Px i.K;have c:=(Py i).1 c;have B:=Ow c.1;rw[Pm,Agy];simp only[Jk,Al8 c.1,Ad,Hx,Xp,A58];rw[Dl ω];simp only[Ad];by_cases w:i.K.length=0
  .rw[Aw ω,Au w];simp
  .rw[As ω,Ar w];simp only[Ak,Ns,Xp,Ad];rw[Dl ζ,Ad];have g:=Ag1 i.K c.2;have l:∀j,(wxs (i.K.take j)).length<=24*Ci i.K:=λj=>by have:=At0 (i.K.take j) (i.K.drop j);rw[take_append_drop]at this;rw[this,Ew]at g;omega
   refine Gd i.K (λj=>((j:Int),b++ti i.U++[40]++wxs (i.K.take j))) (by simp[wxs]) ω ?_ ?_
   .intro j x K v C F G;have A:=Km (Bz v);have f:=Al5 c.2 (Bz v);have y:=Al6 x f;have D:=l (j+1);have e:wxs (i.K.take (j+1))=wxs (i.K.take j)++(wx x++[44]):=(by rw[Cz v,At0];simp[wxs]);rw[e]at D;simp only[Ew,D2,length_nil]at D;simp only[C,F,G,Ak,Ad];have u:Ci (i.K.take j)+Bw x<=Ci i.K:=(by have q:=Vk (i.K.take (j+1)) (i.K.drop (j+1));rw[take_append_drop,Cz v,Vk]at q;simp only[Ci]at q;omega);have s:(wxs (i.K.take j)).length<=24*Ci (i.K.take j):=Ag1 _ (by have:=(Al7 (i.K.take j) (i.K.drop j)).1 (by rw[take_append_drop];exact c.2);exact this.1);rw[ih x _ ω f ζ];simp only[Ad];rw[Dl ζ,e];simp
   .intro C;refine⟨b++ti i.U++[40]++wxs i.K,ψ,?_⟩;rw[Dl ζ];simp
def Lg (v:Int) (i:Ai):List Int:=118::(ti v++58::wx i)
def Pz (v:Int) (i:Ai):ByteArray:=⟨(Fp (Lg v i)).toArray⟩
mutual
theorem Al9:∀i:Ai,∀c∈wx i,0<=c/\c<256
 | ⟨n,l⟩,c,h=>by
  simp only[wx,En]at h
  rcases h with h|h
  .have:=Jq n c h
   simp only[Q4,Bool.or_eq_true,Cv,beq_iff_eq,Dk]at this
   omega
  .by_cases g:l.length=0
   .rw[Au g]at h;cases h
   .rw[Ar g]at h
    simp only[Gl,En,not_mem_nil,or_false]at h
    rcases h with h|h|h
    .omega
    .exact At5 l c h
    .omega
theorem At5:∀l:List Ai,∀c∈wxs l,0<=c/\c<256
 | [],c,h=>by simp[wxs]at h
 | x::xs,c,h=>by
  simp only[wxs,En,Gl]at h
  rcases h with h|h|h
  .exact Al9 x c h
  .omega
  .exact At5 xs c h
end
theorem Ag2 (v:Int) (i:Ai):∀c∈Lg v i,0<=c/\c<256:=by
 intro c h;simp only[Lg,Gl,En]at h;rcases h with h|h|h|h
 .omega
 .have:=Jq v c h;simp only[Q4,Bool.or_eq_true,Cv,beq_iff_eq,Dk]at this;omega
 .omega
 .exact Al9 i c h
theorem Ama:∀l m:List Int,(∀c∈l,0<=c/\c<256)->(∀c∈m,0<=c/\c<256)->Fp l=Fp m->l=m
 | [],[],_,_,_=>rfl
 | [],_::_,_,_,h=>by simp[Fp]at h
 | _::_,[],_,_,h=>by simp[Fp]at h
 | x::xs,y::v,q,u,h=>by simp only[Fp,map_cons,List.cons.injEq]at h;have w:=q x ψ;have A:=u y ψ;have e:x.toNat=y.toNat:=(by have:=congrArg UInt8.toNat h.1;rw[UInt8.toNat_ofNat',UInt8.toNat_ofNat']at this;omega);rw[Ama xs v (λc g=>q c (by simp[g])) (λc g=>u c (by simp[g])) h.2,show x=y by omega]
theorem A59 {v w:Int} {i j:Ai} (h:Pz v i=Pz w j):v=w/\i=j:=by
 unfold Pz at h;have u:(Fp (Lg v i)).toArray=(Fp (Lg w j)).toArray:=by injection h
 have A:Fp (Lg v i)=Fp (Lg w j):=by simpa using congrArg Array.toList u
 have q:=Ama _ _ (Ag2 v i) (Ag2 w j) A;simp only[Lg,List.cons.injEq,true_and]at q;have b:∀X:List Int,M2 (58::X):=λX c m e=>by cases e;decide
 obtain⟨k,g⟩:=Q5 _ _ _ _ (Jq v) (Jq w) (b _) (b _) q;obtain⟨f,_⟩:=Ag0 i j [] [] Agz Agz (by simpa using (List.cons.inj g).2);exact⟨Vj k,f⟩
theorem A6a (l:List UInt8):Od ⟨l.toArray⟩=l.map λb=>(b.toNat:Int):=by unfold Od;simp
theorem Ag3 (v:Int) (i:Ai) (q:Ee v) (f:iR i) (u:Bw i<=1048576):Mw v i=some (Pz v i):=by
 have k:=Ow q;have c:(Lib.itoa v).length=(ti v).length:=by unfold ti;simp
 unfold Mw;have j:Gx (ByteArray.mk #[118]) ⟨(Lib.itoa v).toArray⟩=some ⟨(118::Lib.itoa v).toArray⟩:=by
  unfold Gx;rw[Au]
  .congr 1
  .show 1+(Lib.itoa v).toArray.size<=9223372036854775807;rw[size_toArray];omega
 have h:Gx ⟨(118::Lib.itoa v).toArray⟩ (ByteArray.mk #[58])=some ⟨(118::(Lib.itoa v++[58])).toArray⟩:=by
  unfold Gx;rw[Au]
  .congr 1
  .show (118::Lib.itoa v).toArray.size+1<=9223372036854775807;rw[size_toArray,D2];omega
 simp only[Jk,Al8 q,Ad,j,h,Kh,Abb,A6a];rw[Dl ζ];simp only[Ad];rw[At4 4000000 i _ ω f ζ];simp only[Ad,Md];have g:([]++(118::(Lib.itoa v++[58])).map λb=>(b.toNat:Int))++wx i=Lg v i:=by unfold Lg ti;simp
 rw[g];unfold Zk Pz;rw[Au (Ag2 v i)];rfl
end Go.Ab
