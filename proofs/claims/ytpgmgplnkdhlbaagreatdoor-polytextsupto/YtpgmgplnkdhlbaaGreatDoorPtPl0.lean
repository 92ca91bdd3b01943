/- Plain laws: what the plain functions answer. -/
import Derived.Test.YtpgmgplnkdhlbaaGreatDoorPtDef
namespace Go.Ab
open Go
theorem Ad {α β:Type} (a:α) (f:α->Option β):(some a).bind f=f a:=rfl
theorem B0 {α:Type} {l:List α} {i:Nat} (h:i<l.length):l[i]? = some l[i]:=List.getElem?_eq_getElem h
theorem Br {α:Type} {l:List α} {i:Nat} {a:α} (h:l[i]? = some a):a∈l:=List.mem_of_getElem? h
theorem C7 (a b:Bool):((a&&b)=true)=(a=true/\b=true):=Bool.and_eq_true a b
theorem De:(!true)=false:=rfl
theorem Gi {S E R:Type} {step:S->Option (S⊕E)} {s:S} {J:E->Option R} {r:R} (c:S->Prop) (m:S->Nat) (b:E->Prop) (h0:c s)
  (f:∀s,c s->(∃s',step s=some (.inl s')/\c s'/\m s' < m s)\/(∃e,step s=some (.inr e)/\b e)) (g:∀e,b e->J e=some r):(An step s).bind J=some r:=by
 obtain ⟨e,h1,h2⟩:=P7 c m b f s h0
 rw [h1]; exact g e h2
theorem Eb {S E R:Type} {step:S->Option (S⊕E)} {s:S} {J:E->Option R} {Q:R->Prop} (c:S->Prop) (m:S->Nat) (b:E->Prop) (h0:c s)
  (f:∀s,c s->(∃s',step s=some (.inl s')/\c s'/\m s' < m s)\/(∃e,step s=some (.inr e)/\b e)) (g:∀e,b e->∃r,J e=some r/\Q r):∃r,(An step s).bind J=some r/\Q r:=by
 obtain ⟨e,h1,h2⟩:=P7 c m b f s h0
 rw [h1]; exact g e h2
theorem Xp {S E:Type} {X:Option (S⊕E)} {Q:S->Prop} (h:∃r,X=some r/\∃s',r = .inl s'/\Q s'):∃s',X=some (.inl s')/\Q s':=by
 obtain ⟨r,h1,s',rfl,h2⟩:=h
 exact ⟨s',h1,h2⟩
theorem Arz {S E:Type} {X:Option (S⊕E)} {Q:E->Prop} (h:∃r,X=some r/\∃e,r = .inr e/\Q e):∃e,X=some (.inr e)/\Q e:=by
 obtain ⟨r,h1,s',rfl,h2⟩:=h
 exact ⟨s',h1,h2⟩
theorem Aci {A R:Type} {X:Option R} (f:A->R) {Q:A->Prop} (h:∃r,X=some r/\∃a,r=f a/\Q a):∃a,X=some (f a)/\Q a:=by
 obtain ⟨r,h1,a,rfl,h2⟩:=h
 exact ⟨a,h1,h2⟩
theorem Ar0 {A R:Type} {X:Option A} {f g:A->Option R} (h:∀a,f a=g a):X.bind f=X.bind g:=by
 have:f=g:=funext h
 rw [this]
theorem Acj {α β:Type} {c:Prop} [Decidable c] (a b:Option α) (f:α->Option β):(if c then a else b).bind f=if c then a.bind f else b.bind f:=by split <;> rfl
theorem Bl {n:Int} (h1 : -9223372036854775808<=n) (h2:n<=9223372036854775807):IntKind.i64.wrap n=n:=by
 have e:IntKind.i64.wrap n=if 9223372036854775808<=n % 18446744073709551616 then n % 18446744073709551616-18446744073709551616 else n % 18446744073709551616:=by
  simp [IntKind.wrap,IntKind.bits,IntKind.signed]
 rw [e]; split <;> omega
theorem Cs {n:Int} (h1:0<=n) (h2:n<=18446744073709551615):IntKind.u64.wrap n=n:=by
 have e:IntKind.u64.wrap n=n % 18446744073709551616:=by simp [IntKind.wrap,IntKind.bits,IntKind.signed]
 rw [e]; omega
theorem Fw {n:Int} (h1:0<=n) (h2:n<=4294967295):IntKind.u32.wrap n=n:=by
 have e:IntKind.u32.wrap n=n % 4294967296:=by simp [IntKind.wrap,IntKind.bits,IntKind.signed]
 rw [e]; omega
theorem Dp {α:Type} {l:List α} {i:Int} {n:Nat} (hi:i=n) (h:n<l.length):Ae l i=some l[n]:=by
 subst hi; simp [Ae,h]
theorem Bv {α:Type} {l:List α} {i:Int} {n:Nat} {x:α} (hi:i=n) (h:l[n]? = some x):Ae l i=some x:=by
 subst hi; simp [Ae,h]
theorem Hn {α:Type} {l:List α} {i:Int} {n:Nat} (hi:i=n) (x:α):Cu l i x=l.set n x:=by
 subst hi; simp [Cu]
theorem Ds {α:Type} {b:Nat} {xs ys:List α} (h:(xs.length+ys.length)*b<=140737488355328):B7 b xs ys=some (xs++ys):=by
 simp [B7,h]
theorem Kc {α:Type} {b:Nat} {len f:Int} {z:α} {n c:Nat} (h1:len=n) (h2:f=c) (h3:n<=c) (h4:b*c<=281474976710656) (g:c<=140737488355328):Ek b len f z=some (List.replicate n z):=by
 subst h1; subst h2
 have a1:(0:Int)<=(n:Int):=by omega
 have a2:(n:Int)<=(c:Int):=by omega
 have a3:(c:Int)<=140737488355328:=by omega
 simp [Ek,a2,a3,h4]
theorem Ar1 {α:Type} {b:Nat} {f:Int} {z:α} {c:Nat} (h2:f=c) (h4:b*c<=281474976710656) (g:c<=140737488355328):Ek b 0 f z=some []:=by
 exact Kc (len:=0) (n:=0) (c:=c) rfl h2 (by omega) h4 g
theorem B2 {a b:Int} (h:a≠b):(a==b)=false:=by simpa using h
theorem Da {a b:Int} (h:a=b):(a==b)=true:=by simpa using h
theorem Cy {a b:Int} (h:a≠b):(a != b)=true:=by simpa using h
theorem C4 {a b:Int} (h:a=b):(a != b)=false:=by simpa using h
theorem Aj {p:Prop} [Decidable p] (h:p):decide p=true:=decide_eq_true h
theorem Ap {p:Prop} [Decidable p] (h:¬p):decide p=false:=decide_eq_false h
theorem Xq {α:Type} {l:List α} {hi:Int} {n:Nat} (h:hi=n) (b:n<=l.length):Ga l 0 hi=some (l.take n):=by
 subst h
 have:(n:Int)<=(l.length:Int):=by omega
 simp [Ga,this]
theorem Je {a b:Int} (ha:0<=a) (hb:0<b):Ed a b=some (a % b):=by
 have:b≠0:=by omega
 simp [Ed,this,Int.tmod_eq_emod_of_nonneg ha]
theorem I0 {a b:Int} (ha:0<=a) (c:a<=18446744073709551615) (hb:0<b):Dr .u64 a b=some (a / b):=by
 have:b≠0:=by omega
 have h1:0<=a / b:=Int.ediv_nonneg ha (by omega)
 have h2:a / b<=a:=Int.ediv_le_self _ ha
 simp [Dr,this,Int.tdiv_eq_ediv_of_nonneg ha]
 exact Cs h1 (by omega)
theorem Ar2 {a b:Int} (ha:0<=a) (c:a<=4294967295) (hb:0<b):Dr .u32 a b=some (a / b):=by
 have:b≠0:=by omega
 have h1:0<=a / b:=Int.ediv_nonneg ha (by omega)
 have h2:a / b<=a:=Int.ediv_le_self _ ha
 simp [Dr,this,Int.tdiv_eq_ediv_of_nonneg ha]
 exact Fw h1 (by omega)
def Ak:List Int->Int
 | []=>0
 | d::l=>d+1000000000*Ak l
def Bp (l:List Int):Prop:=∀d∈l,0<=d/\d<1000000000
def Jf (l:List Int):Prop:=∀d∈l,0<=d/\d<4294967296
def Can (l:List Int):Prop:=Bp l/\∀h:l≠[],l.getLast h≠0
def Ag (n:Nat):List Int:=if h:n=0 then [] else ((n % 1000000000:Nat):Int)::Ag (n / 1000000000)
termination_by n
decreasing_by exact Nat.div_lt_self (by omega) (by decide)
theorem El:Ag 0 = []:=by rw [Ag]; simp
theorem Kd {n:Nat} (h:n≠0):Ag n=((n % 1000000000:Nat):Int)::Ag (n / 1000000000):=by rw [Ag]; simp [h]
theorem Bp.nil:Bp []:=fun _ h=>by cases h
theorem Bp.append {l m:List Int} (h:Bp l) (h':Bp m):Bp (l++m):=by
 intro d hd
 rcases List.mem_append.1 hd with hd | hd
 .exact h d hd
 .exact h' d hd
theorem Bp.one {d:Int} (h:0<=d) (h':d<1000000000):Bp [d]:=by
 intro x hx; simp at hx; subst hx; exact ⟨h,h'⟩
theorem Bp.snoc {l:List Int} {d:Int} (h:Bp l) (hd:0<=d) (b:d<1000000000):Bp (l++[d]):=h.append (Bp.one hd b)
theorem Bp.take {l:List Int} (h:Bp l) (k:Nat):Bp (l.take k):=fun d hd=>h d (List.mem_of_mem_take hd)
theorem Bp.drop {l:List Int} (h:Bp l) (k:Nat):Bp (l.drop k):=fun d hd=>h d (List.mem_of_mem_drop hd)
theorem Bp.get {l:List Int} (h:Bp l) {i:Nat} (hi:i<l.length):0<=l[i]/\l[i]<1000000000:=h _ (List.getElem_mem hi)
theorem Bp.set {l:List Int} (h:Bp l) (i:Nat) {d:Int} (hd:0<=d) (b:d<1000000000):Bp (l.set i d):=by
 intro x hx
 rcases List.mem_or_eq_of_mem_set hx with hx | rfl
 .exact h x hx
 .exact ⟨hd,b⟩
theorem Bp.replicate (n:Nat):Bp (List.replicate n 0):=by
 intro d hd
 have:=List.eq_of_mem_replicate hd
 subst this; decide
theorem Bp.tail {d:Int} {l:List Int} (h:Bp (d::l)):Bp l:=fun x hx=>h x (by simp [hx])
theorem Bp.u32 {l:List Int} (h:Bp l):Jf l:=fun d hd=>by have:=h d hd; omega
theorem Aix (l m:List Int):Ak (l++m)=Ak l+1000000000 ^ l.length*Ak m:=by
 induction l with
 | nil=>simp [Ak]
 | cons d l ih=>simp only [List.cons_append,Ak,ih,List.length_cons,Int.pow_succ]; grind
theorem Ub (l:List Int) (d:Int):Ak (l++[d])=Ak l+1000000000 ^ l.length*d:=by rw [Aix]; simp [Ak]
theorem F4 (l:List Int) {k:Nat} (h:k<l.length):Ak (l.take (k+1))=Ak (l.take k)+1000000000 ^ k*l[k]:=by
 rw [List.take_succ_eq_append_getElem h,Ub]
 simp [Nat.min_eq_left (Nat.le_of_lt h)]
theorem Xr (n:Nat):Ak (List.replicate n 0)=0:=by
 induction n with
 | zero=>rfl
 | succ n ih=>simp [List.replicate_succ,Ak,ih]
theorem Kx (l:List Int) (k:Nat) (h:k<=l.length):Ak l=Ak (l.take k)+1000000000 ^ k*Ak (l.drop k):=by
 have e:=Aix (l.take k) (l.drop k)
 rw [List.take_append_drop] at e
 rw [e,List.length_take,Nat.min_eq_left h]
theorem Jg (l:List Int) {i:Nat} (h:i<l.length) (d:Int):Ak (l.set i d)=Ak l+1000000000 ^ i*(d-l[i]):=by
 induction l generalizing i with
 | nil=>simp at h
 | cons x l ih=>
  cases i with
  | zero=>simp [Ak]; omega
  | succ i=>
   have hi:i<l.length:=by simpa using h
   simp only [List.set_cons_succ,Ak,ih hi,List.getElem_cons_succ,Int.pow_succ]
   grind
theorem Gc {l:List Int} (h:Jf l):0<=Ak l:=by
 induction l with
 | nil=>simp [Ak]
 | cons d l ih=>
  have h1:=h d (by simp)
  have h2:=ih (fun x hx=>h x (by simp [hx]))
  simp only [Ak]; omega
theorem I1 (n:Nat):(0:Int)<1000000000 ^ n:=Int.pow_pos (by decide)
theorem I2 {l:List Int} (h:Bp l):Ak l<1000000000 ^ l.length:=by
 induction l with
 | nil=>simp [Ak]
 | cons d l ih=>
  have h1:=h d (by simp)
  have h2:=ih h.tail
  simp only [Ak,List.length_cons,Int.pow_succ]
  omega
theorem Es (n:Nat):Ak (Ag n)=n:=by
 induction n using Nat.strongRecOn with
 | _ n ih=>
  by_cases h:n=0
  .subst h; rw [El]; rfl
  .rw [Kd h,Ak,ih (n / 1000000000) (Nat.div_lt_self (by omega) (by decide))]
   omega
theorem Ef (n:Nat):Bp (Ag n):=by
 induction n using Nat.strongRecOn with
 | _ n ih=>
  by_cases h:n=0
  .subst h; rw [El]; exact Bp.nil
  .rw [Kd h]
   intro d hd
   simp at hd
   rcases hd with rfl | hd
   .omega
   .exact ih (n / 1000000000) (Nat.div_lt_self (by omega) (by decide)) d hd
theorem G0 {n:Nat} (h:n≠0):Ag n≠[]:=by rw [Kd h]; simp
theorem Rj (n:Nat):Can (Ag n):=by
 refine ⟨Ef n,?_⟩
 induction n using Nat.strongRecOn with
 | _ n ih=>
  intro b
  have h:n≠0:=fun e=>b (by rw [e]; exact El)
  have hc:=Kd h
  by_cases h2:n / 1000000000=0
  .have c:Ag n = [((n % 1000000000:Nat):Int)]:=by rw [hc,h2,El]
   simp only [c,List.getLast_singleton]
   omega
  .have:=ih (n / 1000000000) (Nat.div_lt_self (by omega) (by decide)) (G0 h2)
   simp only [hc]
   rwa [List.getLast_cons (G0 h2)]
theorem Ack {l:List Int} (h:Can l):Ag (Ak l).toNat=l:=by
 induction l with
 | nil=>exact El
 | cons d l ih=>
  obtain ⟨h1,h2⟩:=h
  have hd:=h1 d (by simp)
  have g:Can l:=by
   refine ⟨h1.tail,fun b=>?_⟩
   have:=h2 (by simp)
   rwa [List.getLast_cons b] at this
  have f:=Gc (h1.tail).u32
  have b:(Ak (d::l)).toNat≠0:=by
   intro e
   simp only [Ak] at e
   have c:d=0:=by omega
   have f:Ak l=0:=by omega
   have:l = []:=by rw [<-ih g,f]; exact El
   subst this
   exact h2 (by simp) (by simpa using c)
  rw [Kd b]
  simp only [Ak]
  have j:((d+1000000000*Ak l).toNat % 1000000000:Nat)=d.toNat:=by omega
  have i:(d+1000000000*Ak l).toNat / 1000000000=(Ak l).toNat:=by omega
  rw [j,i,ih g]
  congr 1; omega
theorem Ar3 {l:List Int} {n:Nat} (h:Can l) (b:Ak l=n):l=Ag n:=by
 rw [<-Ack h,b]; rfl
def F1:List Int->List Int
 | []=>[]
 | d::l=>match F1 l with
  | []=>if d=0 then [] else [d]
  | x::m=>d::x::m
theorem Ar4 (l:List Int):F1 (l++[0])=F1 l:=by
 induction l with
 | nil=>rfl
 | cons d l ih=>simp only [List.cons_append,F1,ih]
theorem Ar5 {l:List Int} {d:Int} (h:d≠0):F1 (l++[d])=l++[d]:=by
 induction l with
 | nil=>simp [F1,h]
 | cons x l ih=>
  simp only [List.cons_append,F1,ih]
  cases l with
  | nil=>rfl
  | cons y l=>rfl
theorem Aiy {l:List Int} (h:Bp l):Can (F1 l)/\Ak (F1 l)=Ak l:=by
 induction l with
 | nil=>exact ⟨⟨Bp.nil,fun h=>(h rfl).elim⟩,rfl⟩
 | cons d l ih=>
  obtain ⟨⟨i1,i2⟩,i3⟩:=ih h.tail
  have hd:=h d (by simp)
  simp only [F1]
  cases ht:F1 l with
  | nil=>
   rw [ht] at i3
   simp only [Ak] at i3
   simp only []
   by_cases b:d=0
   .rw [if_pos b]
    refine ⟨⟨Bp.nil,fun h=>(h rfl).elim⟩,?_⟩
    simp only [Ak]; rw [<-i3]; omega
   .rw [if_neg b]
    refine ⟨⟨Bp.one hd.1 hd.2,fun _=>by simpa using b⟩,?_⟩
    simp only [Ak]; rw [<-i3]
  | cons x m=>
   rw [ht] at i1 i2 i3
   simp only []
   refine ⟨⟨?_,fun _=>?_⟩,?_⟩
   .intro y hy
    rcases List.mem_cons.1 hy with rfl | hy
    .exact hd
    .exact i1 y hy
   .rw [List.getLast_cons (by simp)]; exact i2 (by simp)
   .simp only [Ak] at i3 ⊢; rw [i3]
theorem Jh {l:List Int} {n:Nat} (h:Bp l) (b:Ak l=n):F1 l=Ag n:=by
 obtain ⟨h1,h2⟩:=Aiy h
 exact Ar3 h1 (h2.trans b)
theorem Ar6 {l:List Int} (h:Can l):F1 l=l:=by
 obtain ⟨h1,h2⟩:=Aiy h.1
 rw [<-Ack h1,h2,Ack h]
def Bj (n:Nat):Nat:=(Ag n).length
theorem Acl:Bj 0=0:=by simp [Bj,El]
theorem M7 (n:Nat):n<1000000000 ^ Bj n:=by
 have:=I2 (Ef n)
 rw [Es] at this
 have e:((1000000000 ^ Bj n:Nat):Int)=1000000000 ^ Bj n:=by simp
 unfold Bj at *
 omega
theorem O9 {n k:Nat} (h:n<1000000000 ^ k):Bj n<=k:=by
 induction k generalizing n with
 | zero=>simp at h; subst h; simp [Acl]
 | succ k ih=>
  by_cases h0:n=0
  .subst h0; simp [Acl]
  .unfold Bj
   rw [Kd h0,List.length_cons]
   have:n / 1000000000<1000000000 ^ k:=by
    rw [Nat.div_lt_iff_lt_mul (by decide)]; rwa [Nat.pow_succ] at h
   have:=ih this
   unfold Bj at this; omega
theorem Lu {m n:Nat} (h:m<=n):Bj m<=Bj n:=O9 (Nat.lt_of_le_of_lt h (M7 n))
theorem Ar7 {n k:Nat} (h:k<Bj n):1000000000 ^ k<=n:=by
 rcases Nat.lt_or_ge n (1000000000 ^ k) with h' | h'
 .have:=O9 h'; omega
 .exact h'
theorem Acm (m n:Nat):Bj (m*n)<=Bj m+Bj n:=by
 apply O9
 rw [Nat.pow_add]
 exact Nat.mul_lt_mul_of_lt_of_le (M7 m) (Nat.le_of_lt (M7 n)) (Nat.pow_pos (by decide))
theorem Acn (m n:Nat):Bj (m / n)<=Bj m:=Lu (Nat.div_le_self _ _)
theorem Aiz {m n:Nat} (h:Bj m<Bj n):m<n:=Nat.lt_of_lt_of_le (M7 m) (Ar7 h)
theorem Ai0 {l m:List Int} (g:Bp l) {k:Nat} (hk:k<l.length) (b:k<m.length) (f:Bp m) (hd:l.drop (k+1)=m.drop (k+1)) (c:l[k]<m[k]):Ak l<Ak m:=by
 have j:=Kx l (k+1) hk
 have i:=Kx m (k+1) b
 rw [F4 l hk] at j
 rw [F4 m b,<-hd] at i
 have h3:=I2 (g.take k)
 have h4:=Gc ((f.take k).u32)
 rw [List.length_take,Nat.min_eq_left (Nat.le_of_lt hk)] at h3
 have h:1000000000 ^ k*(l[k]+1)<=1000000000 ^ k*m[k]:=Int.mul_le_mul_of_nonneg_left c (Int.le_of_lt (I1 k))
 rw [Int.mul_add] at h
 omega
end Go.Ab
namespace Go.Ab
open Go
theorem Gj {S E R:Type} {step:S->Option (S⊕E)} {s0:S} {J:E->Option R} {r:R} (n:Nat) (b:Nat->S) (h0:s0=b 0)
  (hs:∀j,j<n->step (b j)=some (.inl (b (j+1)))) (he:∃e,step (b n)=some (.inr e)/\J e=some r):(An step s0).bind J=some r:=by
 have key:∀m,m<=n->An step (b 0)=An step (b m):=by
  intro m
  induction m with
  | zero=>intro _; rfl
  | succ m ih=>intro h; rw [ih (by omega),J1 (hs m (by omega))]
 obtain ⟨e,h1,h2⟩:=he
 rw [h0,key n (Nat.le_refl _),E6 h1]
 exact h2
theorem Di {j n:Nat} (h:j<n) (b:n<4611686018427387904):Ac ((j:Int)+1)=((j+1:Nat):Int):=by
 rw [Ac,Bl] <;> omega
theorem Ai1 {α:Type} {l:List α} {p:α×Nat->Bool} (h:l.zipIdx.all p=false):∃j x,l[j]? = some x/\p (x,j)=false/\∀i y,i<j->l[i]? = some y->p (y,i)=true:=by
 have key:∀(n:Nat),(∀i y,i<n->l[i]? = some y->p (y,i)=true)\/∃j x,j<n/\l[j]? = some x/\p (x,j)=false/\∀i y,i<j->l[i]? = some y->p (y,i)=true:=by
  intro n
  induction n with
  | zero=>exact .inl (fun i y h=>by omega)
  | succ n ih=>
   rcases ih with ih | ⟨j,x,h1,h2,h3,h4⟩
   .cases hx:l[n]? with
    | none=>exact .inl (fun i y hi hy=>by
      rcases Nat.lt_or_ge i n with h | h
      .exact ih i y h hy
      .have:i=n:=by omega
       subst this; rw [hx] at hy; cases hy)
    | some x=>
     cases hp:p (x,n) with
     | true=>exact .inl (fun i y hi hy=>by
       rcases Nat.lt_or_ge i n with h | h
       .exact ih i y h hy
       .have:i=n:=by omega
        subst this; rw [hx] at hy; cases hy; exact hp)
     | false=>exact .inr ⟨n,x,by omega,hx,hp,ih⟩
   .exact .inr ⟨j,x,by omega,h2,h3,h4⟩
 rcases key l.length with hk | ⟨j,x,h1,h2,h3,h4⟩
 .exfalso
  have:l.zipIdx.all p=true:=by
   rw [List.all_eq_true]
   rintro ⟨y,i⟩ hy
   have:=List.mk_mem_zipIdx_iff_getElem?.1 hy
   have hi:i<l.length:=by
    rcases Nat.lt_or_ge i l.length with h | h
    .exact h
    .rw [List.getElem?_eq_none h] at this; cases this
   exact hk i y hi this
  rw [this] at h; cases h
 .exact ⟨j,x,h2,h3,h4⟩
theorem Hb {α:Type} {l:List α} {p:α×Nat->Bool} (h:l.zipIdx.all p=true) {j:Nat} {x:α} (hx:l[j]? = some x):p (x,j)=true :=
 List.all_eq_true.1 h _ (List.mk_mem_zipIdx_iff_getElem?.2 hx)
theorem Xs {α:Type} {l:List α} {p:α×Nat->Bool} (h:∀j x,l[j]? = some x->p (x,j)=true):l.zipIdx.all p=true:=by
 rw [List.all_eq_true]
 rintro ⟨y,i⟩ hy
 exact h i y (List.mk_mem_zipIdx_iff_getElem?.1 hy)
theorem Pa {S E R α:Type} {step:S->Option (S⊕E)} {s0:S} {J:E->Option R} {rt rf:R} (l:List α) (p:α×Nat->Bool) (b:Nat->S) (h0:s0=b 0) (f:l.length<4611686018427387904)
  (hs:∀(j:Nat) (x:α),l[j]? = some x->(∀i y,i<j->l[i]? = some y->p (y,i)=true)->decide ((j:Int)<(l.length:Int))=true->Ae l (j:Int)=some x->Ac ((j:Int)+1)=((j+1:Nat):Int) ->
   (p (x,j)=true->step (b j)=some (.inl (b (j+1))))/\(p (x,j)=false->∃e,step (b j)=some (.inr e)/\J e=some rf))
  (he:decide ((l.length:Int)<(l.length:Int))=false->l.zipIdx.all p=true->∃e,step (b l.length)=some (.inr e)/\J e=some rt):(An step s0).bind J=some (bif l.zipIdx.all p then rt else rf):=by
 have c:∀(j:Nat) (x:α),l[j]? = some x->(∀i y,i<j->l[i]? = some y->p (y,i)=true)->_:=fun j x hx hy=>
  have hj:j<l.length:=by
   rcases Nat.lt_or_ge j l.length with h | h
   .exact h
   .rw [List.getElem?_eq_none h] at hx; cases hx
  hs j x hx hy (Aj (by omega)) (Bv rfl hx) (Di hj f)
 cases hb:l.zipIdx.all p with
 | true=>
  refine Gj l.length b h0 (fun j hj=>?_) (he (by simp) hb)
  have hx:l[j]? = some l[j]:=B0 hj
  exact (c j _ hx (fun i y _ hy=>Hb hb hy)).1 (Hb hb hx)
 | false=>
  obtain ⟨j,x,h1,h2,h3⟩:=Ai1 hb
  refine Gj j b h0 (fun i hi=>?_) ((c j x h1 h3).2 h2)
  have hj:j<l.length:=by
   rcases Nat.lt_or_ge j l.length with h | h
   .exact h
   .rw [List.getElem?_eq_none h] at h1; cases h1
  have hx:l[i]? = some l[i]:=B0 (by omega)
  exact (c i _ hx (fun k y hk hy=>h3 k y (by omega) hy)).1 (h3 i _ hi hx)
theorem Xt {α:Type} (l:List α) (p:α->Bool):l.zipIdx.all (fun q=>p q.1)=l.all p:=by
 cases h:l.all p with
 | true=>
  exact Xs fun j x hx=>List.all_eq_true.1 h _ (Br hx)
 | false=>
  cases h':l.zipIdx.all (fun q=>p q.1) with
  | false=>rfl
  | true=>
   rw [<-h]; symm
   rw [List.all_eq_true]
   intro x hx
   obtain ⟨j,hj⟩:=List.getElem?_of_mem hx
   exact Hb h' hj
theorem M8 {S E R α:Type} {step:S->Option (S⊕E)} {s0:S} {J:E->Option R} {rt rf:R} (l:List α) (p:α->Bool) (b:Nat->S) (h0:s0=b 0) (c:l.length<4611686018427387904)
  (hs:∀(j:Nat) (x:α),l[j]? = some x->decide ((j:Int)<(l.length:Int))=true->Ae l (j:Int)=some x->Ac ((j:Int)+1)=((j+1:Nat):Int) ->
   (p x=true->step (b j)=some (.inl (b (j+1))))/\(p x=false->∃e,step (b j)=some (.inr e)/\J e=some rf))
  (he:decide ((l.length:Int)<(l.length:Int))=false->∃e,step (b l.length)=some (.inr e)/\J e=some rt):(An step s0).bind J=some (bif l.all p then rt else rf):=by
 rw [<-Xt l p]
 exact Pa l (fun q=>p q.1) b h0 c (fun j x hx _=>hs j x hx) (fun h _=>he h)
theorem Im {S E R α:Type} {step:S->Option (S⊕E)} {s0:S} {J:E->Option R} {r:R} (l:List α) (b:Nat->S) (h0:s0=b 0) (c:l.length<4611686018427387904)
  (hs:∀(j:Nat) (x:α),j<l.length->l[j]? = some x->decide ((j:Int)<(l.length:Int))=true->Ae l (j:Int)=some x->Ac ((j:Int)+1)=((j+1:Nat):Int)->step (b j)=some (.inl (b (j+1))))
  (he:decide ((l.length:Int)<(l.length:Int))=false->∃e,step (b l.length)=some (.inr e)/\J e=some r):(An step s0).bind J=some r:=by
 refine Gj l.length b h0 (fun j hj=>?_) (he (by simp))
 have hx:l[j]? = some l[j]:=B0 hj
 exact hs j _ hj hx (Aj (by omega)) (Bv rfl hx) (Di hj c)
theorem Dk {α:Type} {l:List α} {j:Nat} {x:α} (h:l[j]? = some x):l.take (j+1)=l.take j++[x]:=by
 rw [List.take_add_one,h]; rfl
theorem Fh {α:Type} {l:List α} {j:Nat} {x:α} (h:l[j]? = some x):j<l.length:=by
 rcases Nat.lt_or_ge j l.length with h' | h'
 .exact h'
 .rw [List.getElem?_eq_none h'] at h; cases h
theorem Lv (b:Bool):(bif b then true else false)=b:=by cases b <;> rfl
theorem Ar8 (b:Bool):(bif b then false else true) = !b:=by cases b <;> rfl
theorem Uc {A R:Type} {X:Option A} {f:A->Option R} {y:R} {Q:A->Prop} (h:∃r,X=some r/\Q r) (b:∀r,Q r->f r=some y):X.bind f=some y:=by
 obtain ⟨r,h1,h2⟩:=h
 rw [h1]; exact b r h2
theorem Ai2 {α:Type} (l:List α) (p:α->Bool) {step:Int->Option (Int⊕(Int⊕Unit))} {J:Int⊕Unit->Option Int} (g:l.length<4611686018427387904)
  (hs:∀(j:Nat) (x:α),x∈l->decide ((j:Int)<(l.length:Int))=true->Ae l (j:Int)=some x->Ac ((j:Int)+1)=((j+1:Nat):Int) ->
   step (j:Int)=bif p x then some (.inr (.inl (j:Int))) else some (.inl ((j+1:Nat):Int)))
  (he:decide ((l.length:Int)<(l.length:Int))=false->step (l.length:Int)=some (.inr (.inr ())))
  (c:∀i,J (.inl i)=some i) (b:J (.inr ())=some (-1)):∃i,(An step 0).bind J=some i/\decide (i>=0)=l.any p:=by
 have key:(An step 0).bind (fun z=>(J z).bind fun i=>some (decide (i>=0)))=some (bif l.all (fun x=>!p x) then false else true):=by
  refine M8 l (fun x=>!p x) (fun j=>(j:Int)) rfl g (fun j x hx h1 h2 h3=>?_) (fun h=>⟨.inr (),he h,by rw [b]; rfl⟩)
  have h:=hs j x (Br hx) h1 h2 h3
  simp only [h]
  cases p x with
  | true=>exact ⟨(fun h=>by cases h),fun _=>⟨.inl (j:Int),rfl,by simp only [c,Ad]; rw [Aj (by omega)]⟩⟩
  | false=>exact ⟨fun _=>rfl,fun h=>by cases h⟩
 have e:l.any p=(bif l.all (fun x=>!p x) then false else true):=by
  rw [Ar8,List.not_all_eq_any_not]; simp
 rw [e]
 cases f:An step 0 with
 | none=>rw [f] at key; cases key
 | some z=>
  rw [f,Ad] at key
  rw [Ad]
  cases hi:J z with
  | none=>rw [hi] at key; cases key
  | some i=>
   rw [hi,Ad] at key
   exact ⟨i,rfl,Option.some.inj key⟩
theorem Ud {S E R α M:Type} {step:S->Option (S⊕E)} {s0:S} {J:E->Option R} (l:List α) (p:α×Nat->Bool) (b:Nat->M->S) (I:M->Prop) (u z:R->Prop) (g:M) (h0:s0=b 0 g) (h:I g) (A:l.length<4611686018427387904)
  (hs:∀(j:Nat) (x:α) (m:M),I m->l[j]? = some x->(∀i y,i<j->l[i]? = some y->p (y,i)=true)->decide ((j:Int)<(l.length:Int))=true->Ae l (j:Int)=some x->Ac ((j:Int)+1)=((j+1:Nat):Int) ->
   (p (x,j)=true->∃f,step (b j m)=some (.inl (b (j+1) f))/\I f)/\(p (x,j)=false->∃e,step (b j m)=some (.inr e)/\∃r,J e=some r/\z r))
  (he:∀m,I m->decide ((l.length:Int)<(l.length:Int))=false->l.zipIdx.all p=true->∃e,step (b l.length m)=some (.inr e)/\∃r,J e=some r/\u r) :
  ∃r,(An step s0).bind J=some r/\((l.zipIdx.all p=true/\u r)\/(l.zipIdx.all p=false/\z r)):=by
 have c:∀(j:Nat) (x:α) (m:M),I m->l[j]? = some x->(∀i y,i<j->l[i]? = some y->p (y,i)=true)->_:=fun j x m B hx hy=>
  have hj:j<l.length:=Fh hx
  hs j x m B hx hy (Aj (by omega)) (Bv rfl hx) (Di hj A)
 have key:∀n,n<=l.length->(∀i y,i<n->l[i]? = some y->p (y,i)=true)->∃m,I m/\An step s0=An step (b n m):=by
  intro n
  induction n with
  | zero=>intro _ _; exact ⟨g,h,by rw [h0]⟩
  | succ n ih=>
   intro G hy
   obtain ⟨m,h1,h2⟩:=ih (by omega) (fun i y hi=>hy i y (by omega))
   have hx:l[n]? = some l[n]:=B0 (by omega)
   obtain ⟨f,h3,h4⟩:=(c n _ m h1 hx (fun i y hi=>hy i y (by omega))).1 (hy n _ (by omega) hx)
   exact ⟨f,h4,by rw [h2,J1 h3]⟩
 cases hb:l.zipIdx.all p with
 | true=>
  obtain ⟨m,h1,h2⟩:=key l.length (Nat.le_refl _) (fun i y _ hy=>Hb hb hy)
  obtain ⟨e,s,r,q,k⟩:=he m h1 (by simp) hb
  exact ⟨r,by rw [h2,E6 s]; exact q,.inl ⟨rfl,k⟩⟩
 | false=>
  obtain ⟨j,x,h1,h2,h3⟩:=Ai1 hb
  obtain ⟨m,h4,D⟩:=key j (Nat.le_of_lt (Fh h1)) h3
  obtain ⟨e,s,r,q,k⟩:=(c j x m h4 h1 h3).2 h2
  exact ⟨r,by rw [D,E6 s]; exact q,.inr ⟨rfl,k⟩⟩
end Go.Ab
namespace Go.Ab
open Go
theorem Pb (l:List Int) (c:l.length<4611686018427387904):Ij l=some (F1 l):=by
 unfold Ij
 refine Gi (fun v=>∃k:Nat,v=k/\k<=l.length/\F1 (l.take k)=F1 l) (fun v=>v.toNat) (fun v=>∃k:Nat,v=k/\k<=l.length/\l.take k=F1 l) ⟨l.length,rfl,Nat.le_refl _,by simp⟩ ?_ ?_
 .rintro v ⟨k,rfl,hk,ht⟩
  cases k with
  | zero=>exact .inr ⟨0,rfl,0,rfl,by omega,by simpa [F1] using ht⟩
  | succ j=>
   have b:Ac (((j+1:Nat):Int)-1)=(j:Int):=by rw [Ac,Bl] <;> omega
   have hj:j<l.length:=by omega
   have hp:decide (((j+1:Nat):Int)>0)=true:=Aj (by omega)
   simp only [hp,cond_true,b,Dp rfl hj,Ad]
   rw [List.take_succ_eq_append_getElem hj] at ht
   by_cases h0:l[j]=0
   .rw [h0,Ar4] at ht
    exact .inl ⟨j,by rw [Da h0]; rfl,⟨j,rfl,by omega,ht⟩,by omega⟩
   .rw [Ar5 h0] at ht
    exact .inr ⟨((j+1:Nat):Int),by rw [B2 h0]; rfl,j+1,rfl,by omega,by rw [List.take_succ_eq_append_getElem hj]; exact ht⟩
 .rintro v ⟨k,rfl,hk,ht⟩
  rw [Xq rfl hk,ht]; rfl
theorem Ai3 (l:List Int) (hd:Jf l) (D:l.length<1099511627776):Qm l=some (Ag (Ak l).toNat):=by
 unfold Qm
 have f:Ac ((l.length:Int)+1)=((l.length+1:Nat):Int):=by rw [Ac,Bl] <;> omega
 rw [f,Ar1 rfl (by omega) (by omega)]
 simp only [Ad]
 refine Gi (fun (c,i,o)=>∃k:Nat,i=k/\k<=l.length/\o.length=k/\Bp o/\0<=c/\c<5/\Ak o+1000000000 ^ k*c=Ak (l.take k))
  (fun (_,i,_)=>l.length-i.toNat) (fun (c,o)=>o.length=l.length/\Bp o/\0<=c/\c<5/\Ak o+1000000000 ^ l.length*c=Ak l)
  ⟨0,rfl,by omega,rfl,Bp.nil,by omega,by omega,by simp [Ak]⟩ ?_ ?_
 .rintro ⟨c,i,o⟩ ⟨k,rfl,hk,g,b,q,hc,u⟩
  rcases Nat.lt_or_ge k l.length with h | h
  .have hx:=hd l[k] (List.getElem_mem h)
   refine .inl ⟨((l[k]+c) / 1000000000,((k+1:Nat):Int),o++[(l[k]+c) % 1000000000]),?_,⟨k+1,rfl,by omega,by simp [g],b.snoc (by omega) (by omega),by omega,by omega,?_⟩,by simp; omega⟩
   .have A:A0 l[k]=l[k]:=Cs (by omega) (by omega)
    have z:A0 (l[k]+c)=l[k]+c:=Cs (by omega) (by omega)
    have s:Cj ((l[k]+c) % 1000000000)=(l[k]+c) % 1000000000:=Fw (by omega) (by omega)
    have y:Ac ((k:Int)+1)=((k+1:Nat):Int):=by rw [Ac,Bl] <;> omega
    have x:decide ((k:Int)<(l.length:Int))=true:=by simpa using h
    simp only [x,cond_true,Dp rfl h,Ad,A,z,Je (show 0<=l[k]+c by omega) (show (0:Int)<1000000000 by decide),s,Ds (show (o.length+[(l[k]+c) % 1000000000].length)*4<=_ by simp; omega),I0 (show 0<=l[k]+c by omega) (show l[k]+c<=_ by omega) (show (0:Int)<1000000000 by decide),y]
   .rw [F4 l h,<-u,Ub,g,Int.pow_succ]
    have:=Int.mul_ediv_add_emod (l[k]+c) 1000000000
    grind
  .have j:k=l.length:=by omega
   subst j
   refine .inr ⟨(c,o),by simp,g,b,q,hc,by simpa using u⟩
 .rintro ⟨c,o⟩ ⟨h2,h3,h4,G,E⟩
  have B:=Gc hd
  by_cases hc:c>0
  .have s:Cj c=c:=Fw (by omega) (by omega)
   simp only [decide_eq_true hc,cond_true,s,Ds (show (o.length+[c].length)*4<=_ by simp; omega),Ad,Pb (o++[c]) (by simp; omega)]
   rw [Jh (h3.snoc (by omega) (by omega)) (n:=(Ak l).toNat) (by rw [Ub,h2]; omega)]
  .have:c=0:=by omega
   subst this
   simp only [Int.lt_irrefl,gt_iff_lt,decide_false,cond_false,Pb o (by omega),Ad]
   rw [Jh h3 (n:=(Ak l).toNat) (by omega)]
end Go.Ab
namespace Go.Ab
open Go
theorem Xu {n:Nat} (h:n<18446744073709551616):Bj n<=3:=O9 (Nat.lt_of_lt_of_le h (by decide))
theorem Rk (n:Nat) (h:n<18446744073709551616):Lo n=some (Ag n):=by
 unfold Lo
 have b:=Xu h
 unfold Bj at b
 refine Gi (fun (w,o)=>∃k:Nat,w=k/\k<=n/\o++Ag k=Ag n) (fun (w,_)=>w.toNat) (fun o=>o=Ag n) ⟨n,rfl,Nat.le_refl _,by simp⟩ ?_ (by rintro o rfl; rfl)
 rintro ⟨w,o⟩ ⟨k,rfl,hk,c⟩
 by_cases h0:k=0
 .subst h0
  rw [El,List.append_nil] at c
  exact .inr ⟨o,by simp,c⟩
 .have f:o.length<=3:=by rw [<-c] at b; simp at b; omega
  refine .inl ⟨(((k / 1000000000:Nat):Int),o++[((k % 1000000000:Nat):Int)]),?_,⟨k / 1000000000,rfl,by omega,by rw [List.append_assoc]; rw [Kd h0] at c; exact c⟩,by simp; omega⟩
  have l:decide ((k:Int)>0)=true:=Aj (by omega)
  have j:Ed (k:Int) 1000000000=some ((k % 1000000000:Nat):Int):=by rw [Je (by omega) (by decide)]; rfl
  have i:Cj ((k % 1000000000:Nat):Int)=((k % 1000000000:Nat):Int):=Fw (by omega) (by omega)
  have g:Dr .u64 (k:Int) 1000000000=some ((k / 1000000000:Nat):Int):=by rw [I0 (by omega) (by omega) (by decide)]; rfl
  simp only [l,cond_true,j,Ad,i,Ds (show (o.length+[((k % 1000000000:Nat):Int)].length)*4<=_ by simp; omega),g]
def E8 (m n:Nat):Int:=if m<n then -1 else if n<m then 1 else 0
theorem Ue (m n:Nat) (g:Bj m<1099511627776) (f:Bj n<1099511627776):Mn (Ag m) (Ag n)=some (E8 m n):=by
 unfold Mn
 unfold Bj at g f
 by_cases h:(Ag m).length=(Ag n).length
 .rw [C4 (by omega:((Ag m).length:Int)=(Ag n).length),cond_false]
  have c:Ac (((Ag m).length:Int)-1)=((Ag m).length:Int)-1:=by rw [Ac,Bl] <;> omega
  rw [c]
  refine Gi (fun v=>∃k:Nat,v=(k:Int)-1/\k<=(Ag m).length/\(Ag m).drop k=(Ag n).drop k) (fun v=>(v+1).toNat)
   (fun e=>match e with | .inl r=>r=E8 m n | .inr _=>m=n) ⟨(Ag m).length,rfl,Nat.le_refl _,by rw [List.drop_length,h,List.drop_length]⟩ ?_ ?_
  .rintro v ⟨k,rfl,hk,hd⟩
   cases k with
   | zero=>
    refine .inr ⟨.inr (),by simp,?_⟩
    have:Ag m=Ag n:=by simpa using hd
    have:=congrArg Ak this
    rw [Es,Es] at this
    show m=n
    omega
   | succ j=>
    have hj:j<(Ag m).length:=by omega
    have hj':j<(Ag n).length:=by omega
    have l:((j+1:Nat):Int)-1=(j:Int):=by omega
    have i:decide ((j:Int)>=0)=true:=Aj (by omega)
    simp only [l,i,cond_true,Dp rfl hj,Dp rfl hj',Ad]
    rcases Int.lt_trichotomy (Ag m)[j] (Ag n)[j] with b | heq | hgt
    .refine .inr ⟨.inl (-1),by rw [Aj b]; rfl,?_⟩
     have:=Ai0 (Ef m) hj hj' (Ef n) hd b
     rw [Es,Es] at this
     show (-1:Int)=E8 m n
     rw [E8,if_pos (by omega)]
    .refine .inl ⟨(j:Int)-1,?_,⟨j,rfl,by omega,?_⟩,by omega⟩
     .rw [Ap (by omega:¬(Ag m)[j]<(Ag n)[j]),cond_false,Ap (by omega:¬(Ag m)[j]>(Ag n)[j]),cond_false]
      rw [Ac,Bl (by omega) (by omega)]
     .rw [List.drop_eq_getElem_cons hj,List.drop_eq_getElem_cons hj',hd,heq]
    .refine .inr ⟨.inl 1,by rw [Ap (by omega:¬(Ag m)[j]<(Ag n)[j]),cond_false,Aj (by omega:(Ag m)[j]>(Ag n)[j])]; rfl,?_⟩
     have:=Ai0 (Ef n) hj' hj (Ef m) hd.symm hgt
     rw [Es,Es] at this
     show (1:Int)=E8 m n
     rw [E8,if_neg (by omega),if_pos (by omega)]
  .rintro (e | e) he
   .simp only at he ⊢; rw [he]
   .simp only at he ⊢; rw [E8,if_neg (by omega),if_neg (by omega)]
 .rw [Cy (by omega:((Ag m).length:Int)≠(Ag n).length),cond_true]
  by_cases b:(Ag m).length<(Ag n).length
  .rw [Aj (by omega:((Ag m).length:Int)<(Ag n).length),cond_true]
   have:=Aiz (m:=m) (n:=n) b
   rw [E8,if_pos this]
  .rw [Ap (by omega:¬((Ag m).length:Int)<(Ag n).length),cond_false]
   have:=Aiz (m:=n) (n:=m) (by unfold Bj; omega)
   rw [E8,if_neg (by omega),if_pos this]
theorem Aco (l:List Int) {k:Nat} (h:l.length<=k):Ak (l.take k)=Ak l:=by rw [List.take_of_length_le h]
end Go.Ab
namespace Go.Ab
open Go
theorem Ky {k n:Nat} (h:k<n) (b:n<4611686018427387904):Ac ((k:Int)+1)=((k+1:Nat):Int):=by rw [Ac,Bl] <;> omega
theorem Acp (m d:Nat) (N:Bj m<1099511627776) (hd:0<d) (R:d<4294967296):Ov (Ag m) d=some (Ag (m / d),((m % d:Nat):Int)):=by
 unfold Ov
 unfold Bj at N
 rw [Kc rfl rfl (Nat.le_refl _) (by omega) (by omega)]
 simp only [Ad]
 have ha:=Ef m
 have J:Ac (((Ag m).length:Int)-1)=((Ag m).length:Int)-1:=by rw [Ac,Bl] <;> omega
 rw [J]
 refine Gi (fun (r,i,o)=>∃k:Nat,i=(k:Int)-1/\k<=(Ag m).length/\o.length=(Ag m).length/\Bp o/\0<=r/\r<d/\Ak (o.drop k)*d+r=Ak ((Ag m).drop k))
  (fun (_,i,_)=>(i+1).toNat) (fun (r,o)=>o.length=(Ag m).length/\Bp o/\0<=r/\r<d/\Ak o*d+r=m)
  ⟨(Ag m).length,rfl,Nat.le_refl _,by simp,Bp.replicate _,by omega,by omega,by simp [Ak]⟩ ?_ ?_
 .rintro ⟨r,i,o⟩ ⟨k,rfl,hk,A,g,s,M,z⟩
  cases k with
  | zero=>exact .inr ⟨(r,o),by simp,A,g,s,M,by simpa [Es] using z⟩
  | succ j=>
   have hj:j<(Ag m).length:=by omega
   have h:j<o.length:=by omega
   have hx:=ha.get hj
   have X:((j+1:Nat):Int)-1=(j:Int):=by omega
   have V:decide ((j:Int)>=0)=true:=Aj (by omega)
   have I:A0 (r*1000000000)=r*1000000000:=Cs (by omega) (by omega)
   have G:A0 (Ag m)[j]=(Ag m)[j]:=Cs (by omega) (by omega)
   have E:A0 (r*1000000000+(Ag m)[j])=r*1000000000+(Ag m)[j]:=Cs (by omega) (by omega)
   have b:(0:Int)<(d:Int):=by omega
   have c:0<=r*1000000000+(Ag m)[j]:=by omega
   have f:0<=(r*1000000000+(Ag m)[j]) / (d:Int):=Int.ediv_nonneg c (by omega)
   have u:(r*1000000000+(Ag m)[j]) / (d:Int)<1000000000:=by
    apply Int.ediv_lt_of_lt_mul b
    have:(r+1)*1000000000<=d*1000000000:=Int.mul_le_mul_of_nonneg_right (by omega) (by decide)
    omega
   have D:Cj ((r*1000000000+(Ag m)[j]) / (d:Int))=(r*1000000000+(Ag m)[j]) / (d:Int):=Fw f (by omega)
   have y:=Int.emod_nonneg (r*1000000000+(Ag m)[j]) (by omega:(d:Int)≠0)
   have x:=Int.emod_lt_of_pos (r*1000000000+(Ag m)[j]) b
   have B:Ac ((j:Int)-1)=(j:Int)-1:=by rw [Ac,Bl] <;> omega
   refine .inl ⟨((r*1000000000+(Ag m)[j]) % (d:Int),(j:Int)-1,o.set j ((r*1000000000+(Ag m)[j]) / (d:Int))),?_,⟨j,rfl,by omega,by simpa using A,g.set _ f u,y,x,?_⟩,by simp⟩
   .simp only [X,V,cond_true,Dp rfl hj,Dp rfl h,Ad,I,G,E,I0 c (by omega) b,Je c b,D,B,Hn rfl]
   .have d1:(o.set j ((r*1000000000+(Ag m)[j]) / (d:Int))).drop j=((r*1000000000+(Ag m)[j]) / (d:Int))::o.drop (j+1):=by
     rw [List.drop_eq_getElem_cons (by simpa using h),List.drop_set_of_lt (by omega)]; simp
    rw [d1,List.drop_eq_getElem_cons hj]
    simp only [Ak]
    rw [<-z]
    have:=Int.mul_ediv_add_emod (r*1000000000+(Ag m)[j]) (d:Int)
    grind
 .rintro ⟨r,o⟩ ⟨h2,h3,h4,U,S⟩
  simp only []
  have L:=Gc h3.u32
  have l:((m / d:Nat):Int)=Ak o/\((m % d:Nat):Int)=r:=by
   have b:(0:Int)<(d:Int):=by omega
   have e:=Int.ediv_emod_unique b (r:=r) (q:=Ak o) (a:=(m:Int))
   have:=e.2 ⟨by rw [<-S]; grind,h4,U⟩
   exact ⟨by rw [Int.natCast_ediv]; exact this.1,by rw [Int.natCast_emod]; exact this.2⟩
  rw [Pb o (by omega),Ad,Jh h3 l.1.symm,l.2]
end Go.Ab
namespace Go.Ab
open Go
theorem Xv {x y:Int} (hx:0<=x) (c:x<1000000000) (hy:0<=y) (b:y<1000000000):0<=x*y/\x*y<=999999998000000001:=by
 refine ⟨Int.mul_nonneg hx hy,?_⟩
 have h1:x*y<=999999999*y:=Int.mul_le_mul_of_nonneg_right (by omega) hy
 omega
theorem Ai4 (m n:Nat) (hm:Bj m<549755813888) (hn:Bj n<549755813888):J7 (Ag m) (Ag n)=some (Ag (m*n)):=by
 unfold J7
 unfold Bj at hm hn
 by_cases hz:m=0\/n=0
 .have:(show Option Bool from bif (((Ag m).length:Int)==(0:Int)) then some true else some (((Ag n).length:Int)==(0:Int)))=some true:=by
   show (bif (((Ag m).length:Int)==(0:Int)) then some true else some (((Ag n).length:Int)==(0:Int)))=some true
   by_cases h:m=0
   .subst h; rw [El]; rfl
   .have y:n=0:=by omega
    subst y
    rw [B2 (by have:=G0 h; have:(Ag m).length≠0:=fun e=>this (List.length_eq_zero_iff.1 e); omega),El]; rfl
  rw [this,Ad,cond_true]
  have:m*n=0:=by rcases hz with rfl | rfl <;> simp
  rw [this,El]
 .have I:m≠0:=by omega
  have y:n≠0:=by omega
  have aa:(Ag m).length≠0:=fun e=>G0 I (List.length_eq_zero_iff.1 e)
  have a8:(Ag n).length≠0:=fun e=>G0 y (List.length_eq_zero_iff.1 e)
  simp only [B2 (by omega:((Ag m).length:Int)≠0),B2 (by omega:((Ag n).length:Int)≠0),cond_false,Ad]
  have hw:Ac (((Ag m).length:Int)+((Ag n).length:Int))=(((Ag m).length+(Ag n).length:Nat):Int):=by rw [Ac,Bl] <;> omega
  rw [hw,Kc rfl rfl (Nat.le_refl _) (by omega) (by omega)]
  simp only [Ad]
  have ha:=Ef m
  have hb:=Ef n
  refine Gi (fun (i,o)=>∃k:Nat,i=k/\k<=(Ag m).length/\o.length=(Ag m).length+(Ag n).length/\Bp o/\o.drop (k+(Ag n).length)=List.replicate ((Ag m).length-k) 0/\Ak o=Ak ((Ag m).take k)*n)
   (fun (i,_)=>(Ag m).length-i.toNat) (fun o=>o.length=(Ag m).length+(Ag n).length/\Bp o/\Ak o=((m*n:Nat):Int))
   ⟨0,rfl,by omega,by simp,Bp.replicate _,by rw [List.drop_replicate]; congr 1; omega,by simp [Xr,Ak]⟩ ?_ ?_
  .rintro ⟨i,o⟩ ⟨k,rfl,hk,R,D,L,G⟩
   rcases Nat.lt_or_ge k (Ag m).length with h | h
   .have hx:=ha.get h
    have e4:=Ky h (by omega)
    have e5:decide ((k:Int)<((Ag m).length:Int))=true:=Aj (by omega)
    simp only [e5,cond_true]
    refine .inl (Xp (Eb (fun (c,j,o')=>∃q:Nat,j=q/\q<=(Ag n).length/\o'.length=(Ag m).length+(Ag n).length/\Bp o'/\o'.drop (k+(Ag n).length)=List.replicate ((Ag m).length-k) 0/\0<=c/\c<1000000000 /\
      Ak o' + 1000000000 ^ (k+q)*c=Ak o+1000000000 ^ k*((Ag m)[k]*Ak ((Ag n).take q)))
     (fun (_,j,_)=>(Ag n).length-j.toNat) (fun (c,j,o')=>o'.length=(Ag m).length+(Ag n).length/\Bp o'/\o'.drop (k+(Ag n).length)=List.replicate ((Ag m).length-k) 0/\0<=c/\c<1000000000 /\
      Ak o' + 1000000000 ^ (k+(Ag n).length)*c=Ak o+1000000000 ^ k*((Ag m)[k]*n))
     ⟨0,rfl,by omega,R,D,L,by omega,by omega,by simp [Ak]⟩ ?_ ?_))
    .rintro ⟨c,j,o'⟩ ⟨q,rfl,hq,l,b,f,z,hc,x⟩
     rcases Nat.lt_or_ge q (Ag n).length with hq' | hq'
     .have hy:=hb.get hq'
      have g:k+q<o'.length:=by omega
      have a1:=b.get g
      have a6:=Xv hx.1 hx.2 hy.1 hy.2
      have Y:A0 (Ag m)[k]=(Ag m)[k]:=Cs (by omega) (by omega)
      have X:A0 (Ag n)[q]=(Ag n)[q]:=Cs (by omega) (by omega)
      have V:A0 ((Ag m)[k]*(Ag n)[q])=(Ag m)[k]*(Ag n)[q]:=Cs (by omega) (by omega)
      have U:A0 o'[k+q]=o'[k+q]:=Cs (by omega) (by omega)
      have S:A0 ((Ag m)[k]*(Ag n)[q]+o'[k+q])=(Ag m)[k]*(Ag n)[q]+o'[k+q]:=Cs (by omega) (by omega)
      have N:A0 ((Ag m)[k]*(Ag n)[q]+o'[k+q]+c)=(Ag m)[k]*(Ag n)[q]+o'[k+q]+c:=Cs (by omega) (by omega)
      have e6:=Ky hq' (by omega)
      have e7:decide ((q:Int)<((Ag n).length:Int))=true:=Aj (by omega)
      have M:Ac ((k:Int)+(q:Int))=((k+q:Nat):Int):=by rw [Ac,Bl] <;> omega
      generalize hs:(Ag m)[k]*(Ag n)[q]+o'[k+q]+c=s at N
      have A:0<=s:=by omega
      have a7:s<1000000000000000000:=by omega
      have E:Cj (s % 1000000000)=s % 1000000000:=Fw (by omega) (by omega)
      refine .inl ⟨(s / 1000000000,((q+1:Nat):Int),o'.set (k+q) (s % 1000000000)),?_,⟨q+1,rfl,by omega,by simpa using l,b.set _ (by omega) (by omega),?_,by omega,by omega,?_⟩,by simp; omega⟩
      .simp only [e7,cond_true,Dp rfl h,Dp rfl hq',M,Dp rfl g,Ad,Y,X,V,U,S,hs,N,Je A (show (0:Int)<1000000000 by decide),I0 A (show s<=_ by omega) (show (0:Int)<1000000000 by decide),E,e6,Hn rfl]
      .rw [List.drop_set_of_lt (by omega)]; exact f
      .rw [Jg _ g,F4 _ hq']
       have:=Int.mul_ediv_add_emod s 1000000000
       have Z:(1000000000:Int) ^ (k+(q+1))=1000000000 ^ (k+q)*1000000000:=by rw [<-Nat.add_assoc,Int.pow_succ]
       have p2:(1000000000:Int) ^ (k+q)=1000000000 ^ k*1000000000 ^ q:=Int.pow_add ..
       rw [Z]
       grind
     .have:q=(Ag n).length:=by omega
      subst this
      refine .inr ⟨(c,_,o'),by simp; rfl,l,b,f,z,hc,?_⟩
      rw [List.take_length,Es] at x
      exact x
    .rintro ⟨c,j,o'⟩ ⟨l,b,f,z,hc,x⟩
     have M:Ac ((k:Int)+((Ag n).length:Int))=((k+(Ag n).length:Nat):Int):=by rw [Ac,Bl] <;> omega
     have g:k+(Ag n).length<o'.length:=by omega
     have E:Cj c=c:=Fw (by omega) (by omega)
     have u:o'[k+(Ag n).length]=0:=by
      have:=congrArg List.head? f
      rw [List.head?_drop,B0 g] at this
      have B:(List.replicate ((Ag m).length-k) (0:Int)).head? = some 0:=by
       cases hh:(Ag m).length-k with
       | zero=>omega
       | succ t=>rfl
      rw [B] at this
      exact Option.some.inj this
     refine ⟨_,by simp only [M,Dp rfl g,Ad,E,e4,Hn rfl]; rfl,_,rfl,⟨k+1,rfl,by omega,by simpa using l,b.set _ z hc,?_,?_⟩,by simp; omega⟩
     .rw [List.drop_set_of_lt (by omega),show k+1+(Ag n).length=(k+(Ag n).length)+1 by omega,<-List.drop_drop,f,List.drop_replicate]
      congr 1
     .rw [Jg _ g,u,F4 _ h,Int.add_mul,<-G]
      grind
   .have J:k=(Ag m).length:=by omega
    subst J
    refine .inr ⟨o,by simp,R,D,?_⟩
    rw [List.take_length,Es] at G
    rw [G]; simp
  .rintro o ⟨h2,h3,h4⟩
   rw [Pb o (by omega),Ad,Jh h3 h4]
theorem Ai5 (a:List Int) (m:Nat) (ha:Bp a) (U:a.length<1099511627776) (S:m<1000000000) :
  ∃o,Q4 a m=some o/\o.length=a.length+1/\Bp o/\Ak o=Ak a*m:=by
 unfold Q4
 have u:Ac ((a.length:Int)+1)=((a.length+1:Nat):Int):=by rw [Ac,Bl] <;> omega
 rw [u,Kc rfl rfl (Nat.le_refl _) (by omega) (by omega)]
 simp only [Ad]
 refine Eb (fun (c,i,o)=>∃k:Nat,i=k/\k<=a.length/\o.length=a.length+1/\Bp o/\o.drop k=List.replicate (a.length+1-k) 0/\0<=c/\c<1000000000/\Ak o+1000000000 ^ k*c=Ak (a.take k)*m)
  (fun (_,i,_)=>a.length-i.toNat) (fun (c,o)=>o.length=a.length+1/\Bp o/\o.drop a.length = [0]/\0<=c/\c<1000000000/\Ak o+1000000000 ^ a.length*c=Ak a*m)
  ⟨0,rfl,by omega,by simp,Bp.replicate _,by simp,by omega,by omega,by simp [Ak,Xr]⟩ ?_ ?_
 .rintro ⟨c,i,o⟩ ⟨k,rfl,hk,B,q,g,z,hc,I⟩
  rcases Nat.lt_or_ge k a.length with h | h
  .have hx:=ha.get h
   have f:k<o.length:=by omega
   have G:=Xv hx.1 hx.2 (show (0:Int)<=m by omega) (by omega)
   have R:=Ky h (by omega)
   have N:decide ((k:Int)<(a.length:Int))=true:=Aj (by omega)
   have E:A0 a[k]=a[k]:=Cs (by omega) (by omega)
   have D:A0 (a[k]*(m:Int))=a[k]*m:=Cs (by omega) (by omega)
   have A:A0 (a[k]*(m:Int)+c)=a[k]*m+c:=Cs (by omega) (by omega)
   have b:o[k]=0:=by
    have:=congrArg List.head? g
    rw [List.head?_drop,B0 f] at this
    have l:(List.replicate (a.length+1-k) (0:Int)).head? = some 0:=by
     cases V:a.length+1-k with
     | zero=>omega
     | succ t=>rfl
    rw [l] at this
    exact Option.some.inj this
   generalize hs:a[k]*(m:Int)+c=s at A
   have j:0<=s:=by omega
   have J:s<1000000000000000000:=by omega
   have x:Cj (s % 1000000000)=s % 1000000000:=Fw (by omega) (by omega)
   refine .inl ⟨(s / 1000000000,((k+1:Nat):Int),o.set k (s % 1000000000)),?_,⟨k+1,rfl,by omega,by simpa using B,q.set _ (by omega) (by omega),?_,by omega,by omega,?_⟩,by simp; omega⟩
   .simp only [N,cond_true,Dp rfl h,Dp rfl f,Ad,E,D,hs,A,Je j (show (0:Int)<1000000000 by decide),I0 j (show s<=_ by omega) (show (0:Int)<1000000000 by decide),x,R,Hn rfl]
   .rw [List.drop_set_of_lt (by omega),<-List.drop_drop,g,List.drop_replicate]; congr 1
   .rw [Jg _ f,b,F4 _ h,Int.pow_succ]
    have:=Int.mul_ediv_add_emod s 1000000000
    grind
  .have y:k=a.length:=by omega
   subst y
   refine .inr ⟨(c,o),by simp,B,q,by rw [g]; simp,z,hc,by rwa [List.take_length] at I⟩
 .rintro ⟨c,o⟩ ⟨h2,h3,g,h4,M,L⟩
  have f:a.length<o.length:=by omega
  have x:Cj c=c:=Fw (by omega) (by omega)
  have b:o[a.length]=0:=by
   have:=congrArg List.head? g
   rw [List.head?_drop,B0 f] at this
   exact Option.some.inj this
  refine ⟨o.set a.length c,by simp only [Dp rfl f,Ad,x,Hn rfl],by simpa using h2,h3.set _ h4 M,?_⟩
  rw [Jg _ f,b,<-L]; grind
end Go.Ab
namespace Go.Ab
open Go
theorem M9 {α:Type} {l:List α} {off n:Nat} {i:Int} {k:Nat} (hi:i=k) (hk:k<n) (h:off+k<l.length):H3 l off n i=some l[off+k]:=by
 subst hi
 have h1:(0:Int)<=(k:Int):=by omega
 have h2:(k:Int)<(n:Int):=by omega
 simp [H3,hk,h]
theorem Ar9 {P j k tb hb V U q g B:Int} (i:0<P) (u:V=j+P*tb) (l:0<=j) (x:U=k+P*hb) (s:k<P) (hq:q*V<=U) (c:0<=g) (h:hb<g*tb) (b:0<=tb):q<g:=by
 rcases Int.lt_or_le q g with h' | h'
 .exact h'
 .exfalso
  have f:0<=V:=by
   have:=Int.mul_nonneg (Int.le_of_lt i) b
   omega
  have h1:g*V<=q*V:=Int.mul_le_mul_of_nonneg_right h' f
  have h2:g*(P*tb)<=g*V:=Int.mul_le_mul_of_nonneg_left (by omega) c
  have h3:P*(hb+1)<=P*(g*tb):=Int.mul_le_mul_of_nonneg_left (by omega) (Int.le_of_lt i)
  have h4:g*(P*tb)=P*(g*tb):=by grind
  have y:P*(hb+1)=P*hb+P:=by grind
  omega
theorem Ai6 {P j k tb hb V U q g:Int} (i:0<P) (y:V=j+P*tb) (s:j<P) (z:U=k+P*hb) (u:0<=k) (hq:U<(q+1)*V) (l:0<=g) (hgt:g<=tb+1) (h:g*tb<=hb) (b:0<V):g<=q+1:=by
 rcases Int.lt_or_le (q+1) g with h' | h'
 .exfalso
  have f:0<=g-1:=by
   rcases Int.lt_or_le g 1 with h2 | h2
   .have:g=0:=by omega
    subst this
    have c:q+1<0:=h'
    have:(q+1)*V<0:=Int.mul_neg_of_neg_of_pos c b
    have h0:0<=hb:=by simpa using h
    have:=Int.mul_nonneg (Int.le_of_lt i) h0
    omega
   .omega
  have h1:(q+1)*V<=(g-1)*V:=Int.mul_le_mul_of_nonneg_right (by omega) (Int.le_of_lt b)
  have x:P*(tb+1)=P*tb+P:=by grind
  have h2:(g-1)*V<=(g-1)*(P*(tb+1)):=Int.mul_le_mul_of_nonneg_left (by omega) f
  have h3:(g-1)*(P*(tb+1))=P*(g*tb+(g-tb-1)):=by grind
  have h4:P*(g*tb+(g-tb-1))<=P*hb:=Int.mul_le_mul_of_nonneg_left (by omega) (Int.le_of_lt i)
  omega
 .exact h'
theorem Asa {A C:Type} {X:Option (A×C)} {Q:A->C->Prop} (h:∃r,X=some r/\Q r.1 r.2):∃q o,X=some (q,o)/\Q q o:=by
 obtain ⟨⟨a,c⟩,h1,h2⟩:=h
 exact ⟨a,c,h1,h2⟩
theorem al1 {g t r h:Int} (k:g*t+r=h):(g-1)*t+(r+t)=h:=by grind
theorem al2 {o P s x b p d:Int} (e:s-1000000000*d=x-b-p):o+P*(s-x)-P*1000000000*d=(o-P*b)-P*p:=by grind
theorem al3 (b X K g A y:Int):b-X*(g*A)-X*K*(g*y)=b-X*(g*(A+K*y)):=by grind
theorem al4 {u X W N c U b g V:Int} (h:u+X*(W+N*c-U)-X*N*b=u-X*(g*V)):X*(U-g*V)=X*(W+N*(c-b)):=by grind
theorem al5 (u X q:Int):u-X*q-u=X*(-q):=by grind
theorem al6 {o P x b r:Int} (h:o-P*b=r):o+P*(x-b-x)=r:=by grind
theorem al7 {b X K c s x y o A:Int} (hs:x+y+c=s) (f:1000000000*(s / 1000000000)+s % 1000000000=s) (h:b+X*K*c=o+X*A):b+X*K*(s % 1000000000-x)+X*K*1000000000*(s / 1000000000)=o+X*(A+K*y):=by grind
theorem al8 {o X N b u q V W f U c:Int} (h1:o-X*N*b=u-X*((q+1)*V)) (h2:u+X*(W+N*f-U)+X*N*c=o+X*V):X*(U-q*V)=X*(W+N*(f-b+c)):=by grind
theorem al9 {g P c o X V b u q f:Int} (h1:g+P*c=o+X*V) (h2:o-P*b=u-X*((q+1)*V)) (h3:f=b-c):g+P*(0-f)=u-X*(q*V):=by grind
theorem gtb {g t r h x:Int} (k:g*t+r=h):g*(t*1000000000+x)=(h-r)*1000000000+g*x:=by subst k; grind
theorem Acq {k:Nat} {x y:Int} (h:(1000000000:Int) ^ k*x=1000000000 ^ k*y):x=y:=Int.eq_of_mul_eq_mul_left (by have:=I1 k; omega) h
theorem Ai7 {o u:List Int} {off:Nat} (b:off<=o.length) (hu:off<=u.length) (h:o.take off=u.take off):Ak o-Ak u=1000000000 ^ off*(Ak (o.drop off)-Ak (u.drop off)):=by
 rw [Kx o off b,Kx u off hu,h]; grind
theorem Xw {l:List Int} (h:Bp l) (k:Nat):0<=Ak (l.drop k):=Gc (h.drop k).u32
theorem Asb {D:List Int} (b:Bp D) {n:Nat} (h2:2<=n) (i:n<D.length) (g:Ak D<1000000000 ^ (n+1)) :
  Ak D=Ak (D.take (n-2))+1000000000 ^ (n-2)*((D[n]*1000000000+D[n-1])*1000000000+D[n-2]):=by
 have e:=Kx D (n+1) i
 have h0:Ak (D.drop (n+1))=0:=by
  have s:=Xw b (n+1)
  have ht:=Gc ((b.take (n+1)).u32)
  rcases Int.lt_or_le 0 (Ak (D.drop (n+1))) with h | h
  .have:(1000000000:Int) ^ (n+1)*1<=1000000000 ^ (n+1)*Ak (D.drop (n+1)):=Int.mul_le_mul_of_nonneg_left h (Int.le_of_lt (I1 _))
   omega
  .omega
 rw [h0,Int.mul_zero,Int.add_zero] at e
 obtain ⟨t,rfl⟩:∃t,n=t+2:=⟨n-2,by omega⟩
 have q:=F4 D (k:=t) (by omega)
 have l:=F4 D (k:=t+1) (by omega)
 have j:=F4 D (k:=t+2) (by omega)
 have f:(1000000000:Int) ^ (t+1)=1000000000 ^ t*1000000000:=Int.pow_succ ..
 have c:(1000000000:Int) ^ (t+2)=1000000000 ^ (t+1)*1000000000:=Int.pow_succ ..
 have i1:t+2-2=t:=rfl
 have i2:t+2-1=t+1:=rfl
 simp only [i1,i2]
 rw [e,j,l,q,c,f]
 grind
theorem Asd {v:List Int} {n:Nat} (h2:2<=n) (g:v.length=n) :
  Ak v=Ak (v.take (n-2))+1000000000 ^ (n-2)*(v[n-1]*1000000000+v[n-2]):=by
 obtain ⟨t,rfl⟩:∃t,n=t+2:=⟨n-2,by omega⟩
 have f:=F4 v (k:=t) (by omega)
 have b:=F4 v (k:=t+1) (by omega)
 have e:v.take (t+1+1)=v:=List.take_of_length_le (by omega)
 rw [e] at b
 have c:(1000000000:Int) ^ (t+1)=1000000000 ^ t*1000000000:=Int.pow_succ ..
 have i1:t+2-2=t:=rfl
 have i2:t+2-1=t+1:=rfl
 simp only [i1,i2]
 rw [b,f,c]
 grind
set_option maxHeartbeats 1000000 in
theorem Ase (v u:List Int) (off n:Nat) (hv:Bp v) (hu:Bp u) (hn:v.length=n) (h2:2<=n) (bx:n<1099511627776) (bn:500000000<=v[n-1]) (X:off+n<u.length) (hT:Ak (u.drop off)<Ak v*1000000000) :
  ∃q o,Tp off (n+1) v u=some (q,o)/\o.length=u.length/\Bp o/\0<=q/\q<1000000000/\Ak o=Ak u-1000000000 ^ off*(q*Ak v)/\0<=Ak (o.drop off)/\Ak (o.drop off)<Ak v:=by
 have b7:=I2 hv
 rw [hn] at b7
 have c2:(u.drop off).length=u.length-off:=List.length_drop
 have A:=hu.drop off
 have bm:=Gc A.u32
 have b9:Ak (u.drop off)<1000000000 ^ (n+1):=by rw [Int.pow_succ]; omega
 have ab:=Asb A h2 (by omega) b9
 have ao:=Asd h2 hn
 have gd:∀i (h:i<(u.drop off).length),(u.drop off)[i]=u[off+i]'(by omega):=fun i h=>List.getElem_drop
 rw [gd,gd,gd] at ab
 have bq:=hu.get (i:=off+n) (by omega)
 have bt:=hu.get (i:=off+(n-1)) (by omega)
 have br:=hu.get (i:=off+(n-2)) (by omega)
 have bu:=hv.get (i:=n-1) (by omega)
 have ad:=hv.get (i:=n-2) (by omega)
 have hP:=I1 (n-2)
 have b8:=Gc ((hv.take (n-2)).u32)
 have aa:=I2 (hv.take (n-2))
 rw [List.length_take,Nat.min_eq_left (by omega)] at aa
 have bb:=Gc ((A.take (n-2)).u32)
 have ba:=I2 (A.take (n-2))
 rw [List.length_take,Nat.min_eq_left (by omega)] at ba
 have y:0<Ak v:=by
  have:(1000000000:Int) ^ (n-2)*1<=1000000000 ^ (n-2)*(v[n-1]*1000000000+v[n-2]):=Int.mul_le_mul_of_nonneg_left (by omega) (Int.le_of_lt hP)
  omega
 generalize hq:Ak (u.drop off) / Ak v=q
 have bh:q*Ak v<=Ak (u.drop off):=by rw [<-hq]; exact Int.ediv_mul_le _ (by omega)
 have ar:Ak (u.drop off)<(q+1)*Ak v:=by
  rw [<-hq]
  have:=Int.lt_ediv_add_one_mul_self (Ak (u.drop off)) y
  exact this
 have ag:0<=q:=by rw [<-hq]; exact Int.ediv_nonneg bm (by omega)
 have bf:q<1000000000:=by rw [<-hq]; exact Int.ediv_lt_of_lt_mul y (by rw [Int.mul_comm]; exact hT)
 have l:(0:Int)<v[n-1]:=by omega
 generalize ak:u[off+n]*1000000000+u[off+(n-1)]=head at ab
 have am:0<=head:=by omega
 have c0:head<=v[n-1]*1000000000+v[n-2]:=by
  rcases Int.lt_or_le (v[n-1]*1000000000+v[n-2]) head with h | h
  .exfalso
   have a1:(1000000000:Int) ^ (n-2)*((v[n-1]*1000000000+v[n-2]+1)*1000000000)<=1000000000 ^ (n-2)*(head*1000000000+u[off+(n-2)]):=Int.mul_le_mul_of_nonneg_left (by omega) (Int.le_of_lt hP)
   have a2:Ak v*1000000000<(1000000000 ^ (n-2)*(v[n-1]*1000000000+v[n-2]+1))*1000000000:=by
    have:(1000000000:Int) ^ (n-2)*(v[n-1]*1000000000+v[n-2]+1)=1000000000 ^ (n-2)*(v[n-1]*1000000000+v[n-2])+1000000000 ^ (n-2):=by grind
    omega
   have a3:((1000000000:Int) ^ (n-2)*(v[n-1]*1000000000+v[n-2]+1))*1000000000=1000000000 ^ (n-2)*((v[n-1]*1000000000+v[n-2]+1)*1000000000):=by grind
   omega
  .exact h
 have c1:0<=head / v[n-1]:=Int.ediv_nonneg am (by omega)
 have bk:head / v[n-1]<=1000000001:=by
  have:head / v[n-1]<1000000002:=Int.ediv_lt_of_lt_mul l (by omega)
  omega
 have be:=Int.emod_nonneg head (by omega:v[n-1]≠0)
 have bv:=Int.emod_lt_of_pos head l
 have bl:=Int.mul_ediv_add_emod head v[n-1]
 unfold Tp
 have w1:Ac ((v.length:Int)-1)=((n-1:Nat):Int):=by rw [Ac,Bl] <;> omega
 have w2:Ac ((v.length:Int)-2)=((n-2:Nat):Int):=by rw [Ac,Bl] <;> omega
 have w3:(v.length:Int)=((n:Nat):Int):=by omega
 have x1:A0 u[off+n]=u[off+n]:=Cs (by omega) (by omega)
 have x2:A0 (u[off+n]*1000000000)=u[off+n]*1000000000:=Cs (by omega) (by omega)
 have x3:A0 u[off+(n-1)]=u[off+(n-1)]:=Cs (by omega) (by omega)
 have x4:A0 (u[off+n]*1000000000+u[off+(n-1)])=head:=by rw [A0,Cs (by omega) (by omega),ak]
 have x5:A0 v[n-1]=v[n-1]:=Cs (by omega) (by omega)
 have x6:A0 v[n-2]=v[n-2]:=Cs (by omega) (by omega)
 have x7:A0 u[off+(n-2)]=u[off+(n-2)]:=Cs (by omega) (by omega)
 rw [w1,w2,Dp rfl (by omega:n-1<v.length),Ad,Dp rfl (by omega:n-2<v.length),Ad,w3,M9 rfl (by omega:n<n+1) (by omega),Ad,M9 rfl (by omega:n-1<n+1) (by omega),Ad,x1,x2,x3,x4,x5,x6,I0 am (by omega) l,Ad,Je am l,Ad]
 refine Asa (Eb (fun (g,rest)=>g*v[n-1]+rest=head/\0<=rest/\rest<2000000000/\q<=g/\g<=1000000001) (fun (g,_)=>g.toNat) (fun g=>q<=g/\g<=q+1/\g<=1000000000)
  ⟨by rw [Int.mul_comm]; exact bl,be,by omega,?_,bk⟩ ?_ ?_)
 .
  rcases Int.lt_or_le (head / v[n-1]) q with h | h
  .exfalso
   have a1:(head / v[n-1]+1)*v[n-1]<=q*v[n-1]:=Int.mul_le_mul_of_nonneg_right (by omega) (by omega)
   have a2:head<(head / v[n-1]+1)*v[n-1]:=Int.lt_ediv_add_one_mul_self head l
   have a3:q*(1000000000 ^ (n-2)*(v[n-1]*1000000000+v[n-2]))<=q*Ak v:=Int.mul_le_mul_of_nonneg_left (by omega) ag
   have a4:(1000000000:Int) ^ (n-2)*((head+1)*1000000000)<=1000000000 ^ (n-2)*(q*(v[n-1]*1000000000+v[n-2])):=by
    apply Int.mul_le_mul_of_nonneg_left _ (Int.le_of_lt hP)
    have b1:(head+1)*1000000000<=q*v[n-1]*1000000000:=by omega
    have b2:0<=q*v[n-2]:=Int.mul_nonneg ag ad.1
    have b3:q*(v[n-1]*1000000000+v[n-2])=q*v[n-1]*1000000000+q*v[n-2]:=by grind
    omega
   have a5:q*((1000000000:Int) ^ (n-2)*(v[n-1]*1000000000+v[n-2]))=1000000000 ^ (n-2)*(q*(v[n-1]*1000000000+v[n-2])):=by grind
   have a6:(1000000000:Int) ^ (n-2)*((head+1)*1000000000)=1000000000 ^ (n-2)*(head*1000000000)+1000000000 ^ (n-2)*1000000000:=by grind
   have a7:(1000000000:Int) ^ (n-2)*(head*1000000000+u[off+(n-2)])=1000000000 ^ (n-2)*(head*1000000000)+1000000000 ^ (n-2)*u[off+(n-2)]:=by grind
   have a8:(1000000000:Int) ^ (n-2)*(u[off+(n-2)]+1)<=1000000000 ^ (n-2)*1000000000:=Int.mul_le_mul_of_nonneg_left (by omega) (Int.le_of_lt hP)
   have a9:(1000000000:Int) ^ (n-2)*(u[off+(n-2)]+1)=1000000000 ^ (n-2)*u[off+(n-2)]+1000000000 ^ (n-2):=by grind
   omega
  .exact h
 .rintro ⟨g,rest⟩ ⟨k1,k2,k3,k4,k5⟩
  have S:0<=g:=by omega
  have w4:A0 (v[n-1])=v[n-1]:=x5
  have af:∀(hgt:q<g),(some (Sum.inl ((A0 (g-1)),(A0 (rest+v[n-1])))):Option ((Int×Int)⊕Int))=some (.inl (g-1,rest+v[n-1])):=by
   intro hgt
   rw [show A0 (g-1)=g-1 from Cs (by omega) (by omega),show A0 (rest+v[n-1])=rest+v[n-1] from Cs (by omega) (by omega)]
  have stay:∀(hr:rest<1000000000) (hgt:q<g),(g-1)*v[n-1]+(rest+v[n-1])=head/\0<=rest+v[n-1]/\rest+v[n-1]<2000000000/\q<=g-1/\g-1<=1000000001:=by
   intro hr hgt
   exact ⟨al1 k1,by omega,by omega,by omega,by omega⟩
  by_cases hr:rest<1000000000
  .by_cases Y:g>=1000000000
   .refine .inl ⟨(g-1,rest+v[n-1]),?_,stay hr (by omega),by simp; omega⟩
    simp only [Aj hr,cond_true,Aj Y,Ad]
    exact af (by omega)
   .have bp:=Xv S (by omega) ad.1 ad.2
    have y1:A0 (g*v[n-2])=g*v[n-2]:=Cs (by omega) (by omega)
    have y2:A0 (rest*1000000000)=rest*1000000000:=Cs (by omega) (by omega)
    have y3:A0 (rest*1000000000+u[off+(n-2)])=rest*1000000000+u[off+(n-2)]:=Cs (by omega) (by omega)
    have az:g*(v[n-1]*1000000000+v[n-2])=(head-rest)*1000000000+g*v[n-2]:=gtb k1
    simp only [Aj hr,cond_true,Ap Y,cond_false,M9 rfl (by omega:n-2<n+1) (by omega:off+(n-2)<u.length),Ad,y1,x7,y2,y3]
    by_cases ae:g*v[n-2]>rest*1000000000+u[off+(n-2)]
    .have hgt:q<g:=Ar9 (P:=1000000000 ^ (n-2)) (tb:=v[n-1]*1000000000+v[n-2]) (hb:=head*1000000000+u[off+(n-2)]) (B:=0) hP ao b8 ab ba bh S (by omega) (by omega)
     refine .inl ⟨(g-1,rest+v[n-1]),?_,stay hr hgt,by simp; omega⟩
     rw [Aj ae,cond_true]
     exact af hgt
    .refine .inr ⟨g,by rw [Ap ae,cond_false],k4,?_,by omega⟩
     exact Ai6 (P:=1000000000 ^ (n-2)) (tb:=v[n-1]*1000000000+v[n-2]) (hb:=head*1000000000+u[off+(n-2)]) hP ao aa ab bb ar S (by omega) (by omega) y
  .refine .inr ⟨g,by simp only [Ap hr,cond_false,Ad],k4,?_⟩
   have Y:g<=1000000000:=by
    rcases Int.lt_or_le 1000000000 g with h | h
    .exfalso
     have:g=1000000001:=by omega
     subst this
     omega
    .exact h
   refine ⟨?_,Y⟩
   have az:g*(v[n-1]*1000000000+v[n-2])=(head-rest)*1000000000+g*v[n-2]:=gtb k1
   have bo:g*v[n-2]<=1000000000*v[n-2]:=Int.mul_le_mul_of_nonneg_right Y ad.1
   exact Ai6 (P:=1000000000 ^ (n-2)) (tb:=v[n-1]*1000000000+v[n-2]) (hb:=head*1000000000+u[off+(n-2)]) hP ao aa ab bb ar S (by omega) (by omega) y
 .rintro g ⟨k1,k2,k3⟩
  have S:0<=g:=by omega
  refine Eb (fun (b,i,o)=>∃k:Nat,i=k/\k<=n/\o.length=u.length/\Bp o/\o.take off=u.take off/\o.drop (off+k)=u.drop (off+k)/\0<=b/\b<=1000000001/\Ak o-1000000000 ^ (off+k)*b=Ak u-1000000000 ^ off*(g*Ak (v.take k)))
   (fun (_,i,_)=>n-i.toNat) (fun (b,o)=>o.length=u.length/\Bp o/\o.take off=u.take off/\o.drop (off+n)=u.drop (off+n)/\0<=b/\b<=1000000001/\Ak o-1000000000 ^ (off+n)*b=Ak u-1000000000 ^ off*(g*Ak v))
   ⟨0,rfl,by omega,rfl,hu,rfl,rfl,by omega,by omega,by simp [Ak]⟩ ?_ ?_
  .rintro ⟨b,i,o⟩ ⟨k,rfl,hk,ho,I,M,L,b6,b5,f⟩
   rcases Nat.lt_or_ge k n with h | h
   .have E:off+k<o.length:=by omega
    have J:k<v.length:=by omega
    have hx:=I.get E
    have hy:=hv.get J
    have e4:=Ky h (by omega)
    have e5:decide ((k:Int)<(n:Int))=true:=Aj (by omega)
    have av:0<=g*v[k]:=Int.mul_nonneg S hy.1
    have bw:g*v[k]<=1000000000*v[k]:=Int.mul_le_mul_of_nonneg_right k3 hy.1
    have y1:A0 v[k]=v[k]:=Cs (by omega) (by omega)
    have y2:A0 (g*v[k])=g*v[k]:=Cs (by omega) (by omega)
    have y3:Ac o[off+k]=o[off+k]:=Bl (by omega) (by omega)
    generalize au:g*v[k]=p at *
    have y4:Ac (o[off+k]-b)=o[off+k]-b:=Bl (by omega) (by omega)
    have y5:Ac (p % 1000000000)=p % 1000000000:=Bl (by omega) (by omega)
    have y6:Ac (o[off+k]-b-p % 1000000000)=o[off+k]-b-p % 1000000000:=Bl (by omega) (by omega)
    have y7:Ac (p / 1000000000)=p / 1000000000:=Bl (by omega) (by omega)
    simp only [e5,cond_true,M9 rfl (by omega:k<n+1) E,Dp rfl J,Ad,y1,y2,au,y3,y4,Je av (show (0:Int)<1000000000 by decide),I0 av (show p<=_ by omega) (show (0:Int)<1000000000 by decide),y5,y6,y7]
    refine .inl (Xp (Eb (fun (b',s)=>∃t:Nat,b'=p / 1000000000+t/\s=o[off+k]-b-p % 1000000000+t*1000000000/\s<1000000000/\t<=3) (fun (_,s)=>(-s).toNat)
     (fun (b',s)=>∃t:Nat,b'=p / 1000000000+t/\s=o[off+k]-b-p % 1000000000+t*1000000000/\s<1000000000/\0<=s/\t<=2) ⟨0,by simp,by simp,by omega,by omega⟩ ?_ ?_))
    .rintro ⟨b',s⟩ ⟨t,rfl,hs,ac,ht⟩
     by_cases G:s<0
     .refine .inl ⟨(p / 1000000000+(t+1:Nat),s+1000000000),?_,⟨t+1,rfl,by rw [hs]; simp; omega,by omega,by omega⟩,by simp; omega⟩
      rw [Aj G,cond_true,show Ac (p / 1000000000+(t:Int)+1)=p / 1000000000+((t+1:Nat):Int) by rw [Ac,Bl] <;> omega,show Ac (s+1000000000)=s+1000000000 from Bl (by omega) (by omega)]
     .exact .inr ⟨(p / 1000000000+t,s),by rw [Ap G,cond_false],t,rfl,hs,ac,by omega,by omega⟩
    .rintro ⟨b',s⟩ ⟨t,rfl,hs,ac,G,ht⟩
     have y8:Cj s=s:=Fw (by omega) (by omega)
     refine ⟨.inl (p / 1000000000+t,((k+1:Nat):Int),o.set (off+k) s),by simp only [M9 rfl (by omega:k<n+1) E,Ad,y8,e4]; rw [Hn (n:=off+k) (by omega)],_,rfl,⟨k+1,rfl,by omega,by simpa using ho,I.set _ G ac,?_,?_,by omega,by omega,?_⟩,by simp; omega⟩
     .rw [List.take_set_of_le (by omega)]; exact M
     .rw [List.drop_set_of_lt (by omega),show off+(k+1)=(off+k)+1 by omega,<-List.drop_drop,L,List.drop_drop]
     .rw [Jg _ E,F4 v J,show off+(k+1)=(off+k)+1 by omega,Int.pow_succ]
      have ay:=Int.mul_ediv_add_emod p 1000000000
      have pa:(1000000000:Int) ^ (off+k)=1000000000 ^ off*1000000000 ^ k:=Int.pow_add ..
      have eA:s-1000000000*(p / 1000000000+(t:Int))=o[off+k]-b-p:=by rw [hs]; omega
      rw [al2 eA,f,<-au,pa]
      exact al3 _ _ _ _ _ _
   .have aj:k=n:=by omega
    subst aj
    refine .inr ⟨(b,o),by simp,ho,I,M,L,b6,b5,?_⟩
    rw [List.take_of_length_le (by omega)] at f
    exact f
  .rintro ⟨b,o⟩ ⟨ho,I,M,L,b6,b5,f⟩
   have hV:=y
   have ah:off+n<o.length:=by omega
   have ax:o[off+n]=u[off+n]:=by
    have:=congrArg List.head? L
    rw [List.head?_drop,List.head?_drop,B0 ah,B0 X] at this
    exact Option.some.inj this
   have hE:Ak (u.drop (off+n))=u[off+n]:=by
    have a1:=Kx (u.drop off) (n+1) (by omega)
    have a2:=Gc (((hu.drop off).take (n+1)).u32)
    have a3:=Xw (hu.drop off) (n+1)
    have a4:Ak ((u.drop off).drop (n+1))=0:=by
     rcases Int.lt_or_le 0 (Ak ((u.drop off).drop (n+1))) with h | h
     .have:(1000000000:Int) ^ (n+1)*1<=1000000000 ^ (n+1)*Ak ((u.drop off).drop (n+1)):=Int.mul_le_mul_of_nonneg_left h (Int.le_of_lt (I1 _))
      omega
     .omega
    rw [List.drop_eq_getElem_cons X]
    simp only [Ak]
    rw [List.drop_drop,show off+(n+1)=off+n+1 by omega] at a4
    rw [a4]; omega
   have main:∀o':List Int,o'.length=u.length->Bp o'->o'.take off=u.take off->o'.drop (off+n)=u.drop (off+n)->0<=Ak ((o'.drop off).take n)/\Ak ((o'.drop off).take n)<1000000000 ^ n /\
     Ak o'=Ak u+1000000000 ^ off*(Ak ((o'.drop off).take n)+1000000000 ^ n*u[off+n]-Ak (u.drop off)):=by
    intro o' l1 l2 l3 l4
    have a1:=Kx (o'.drop off) n (by rw [List.length_drop]; omega)
    rw [List.drop_drop,l4,hE] at a1
    have a2:=Ai7 (by omega) (by omega) l3
    refine ⟨Gc (((l2.drop off).take n).u32),?_,by rw [<-a1]; omega⟩
    have:=I2 ((l2.drop off).take n)
    rw [List.length_take,List.length_drop,Nat.min_eq_left (by omega)] at this
    exact this
   obtain ⟨m1,m2,m3⟩:=main o ho I M L
   have pa:(1000000000:Int) ^ (off+n)=1000000000 ^ off*1000000000 ^ n:=Int.pow_add ..
   have star:Ak (u.drop off)-g*Ak v=Ak ((o.drop off).take n)+1000000000 ^ n*(u[off+n]-b):=by
    apply Acq (k:=off)
    rw [m3,pa] at f
    exact al4 f
   have y1:Ac u[off+n]=u[off+n]:=Bl (by omega) (by omega)
   have y2:Ac (u[off+n]-b)=u[off+n]-b:=Bl (by omega) (by omega)
   have ap:=I1 n
   have fin:∀(U:List Int) (x:Int) (j:List Int),U=j.set (off+n) x->j.length=u.length->Bp j->0<=x->x<1000000000->j.take off=u.take off->Ak U=Ak u-1000000000 ^ off*(q*Ak v) ->
     U.length=u.length/\Bp U/\0<=q/\q<1000000000/\Ak U=Ak u-1000000000 ^ off*(q*Ak v)/\0<=Ak (U.drop off)/\Ak (U.drop off)<Ak v:=by
    intro U x j e l1 l2 x0 x1 l3 aq
    have L4:U.length=u.length:=by rw [e]; simpa using l1
    have T4:U.take off=u.take off:=by rw [e,List.take_set_of_le (by omega)]; exact l3
    have hp:=Ai7 (by omega) (by omega) T4
    have hd:Ak (U.drop off)=Ak (u.drop off)-q*Ak v:=by
     have:Ak (U.drop off)-Ak (u.drop off) = - (q*Ak v):=by
      apply Acq (k:=off)
      rw [<-hp,aq]; exact al5 _ _ _
     omega
    have bg:(q+1)*Ak v=q*Ak v+Ak v:=by grind
    exact ⟨L4,by rw [e]; exact l2.set _ x0 x1,ag,bf,aq,by omega,by omega⟩
   simp only [M9 rfl (by omega:n<n+1) ah,ax,Ad,y1,y2]
   by_cases z:u[off+n]-b>=0
   .have bz:g*Ak v<=Ak (u.drop off):=by
     have:=Int.mul_nonneg (Int.le_of_lt ap) z
     omega
    have R:g=q:=by
     rcases Int.lt_or_le q g with h | h
     .exfalso
      have:(q+1)*Ak v<=g*Ak v:=Int.mul_le_mul_of_nonneg_right (by omega) (by omega)
      omega
     .omega
    have y3:Cj (u[off+n]-b)=u[off+n]-b:=Fw (by omega) (by omega)
    have y4:Cj g=g:=Fw (by omega) (by omega)
    rw [Aj z,cond_true,y3,y4,Hn (n:=off+n) (by omega)]
    refine ⟨_,rfl,?_⟩
    rw [R]
    refine fin _ (u[off+n]-b) o rfl ho I z (by omega) M ?_
    rw [Jg _ ah,ax]
    rw [R] at f
    exact al6 f
   .have R:g=q+1:=by
     have h1:1000000000 ^ n*(u[off+n]-b)<=1000000000 ^ n*(-1):=Int.mul_le_mul_of_nonneg_left (by omega) (Int.le_of_lt ap)
     rcases Int.lt_or_le q g with h | h
     .omega
     .exfalso
      have:g*Ak v<=q*Ak v:=Int.mul_le_mul_of_nonneg_right h (by omega)
      omega
    rw [Ap z,cond_false]
    refine Eb (fun (c,i,j)=>∃k:Nat,i=k/\k<=n/\j.length=u.length/\Bp j/\j.take off=u.take off/\j.drop (off+k)=o.drop (off+k)/\0<=c/\c<=1/\Ak j+1000000000 ^ (off+k)*c=Ak o+1000000000 ^ off*Ak (v.take k))
     (fun (_,i,_)=>n-i.toNat) (fun (c,j)=>j.length=u.length/\Bp j/\j.take off=u.take off/\j.drop (off+n)=o.drop (off+n)/\0<=c/\c<=1/\Ak j+1000000000 ^ (off+n)*c=Ak o+1000000000 ^ off*Ak v)
     ⟨0,rfl,by omega,ho,I,M,rfl,by omega,by omega,by simp [Ak]⟩ ?_ ?_
    .rintro ⟨c,i,j⟩ ⟨k,rfl,hk,h3,N,V,Z,b4,b0,D⟩
     rcases Nat.lt_or_ge k n with h | h
     .have E:off+k<j.length:=by omega
      have J:k<v.length:=by omega
      have hx:=N.get E
      have hy:=hv.get J
      have e4:=Ky h (by omega)
      have e5:decide ((k:Int)<(n:Int))=true:=Aj (by omega)
      have z1:Cj (j[off+k]+v[k])=j[off+k]+v[k]:=Fw (by omega) (by omega)
      have z2:Cj (j[off+k]+v[k]+c)=j[off+k]+v[k]+c:=Fw (by omega) (by omega)
      generalize hs:j[off+k]+v[k]+c=s at z2
      have G:0<=s:=by omega
      have ac:s<2000000000:=by omega
      refine .inl ⟨(s / 1000000000,((k+1:Nat):Int),j.set (off+k) (s % 1000000000)),?_,⟨k+1,rfl,by omega,by simpa using h3,N.set _ (by omega) (by omega),?_,?_,by omega,by omega,?_⟩,by simp; omega⟩
      .simp only [e5,cond_true,M9 rfl (by omega:k<n+1) E,Dp rfl J,Ad,z1,hs,z2,Ar2 G (show s<=_ by omega) (show (0:Int)<1000000000 by decide),Je G (show (0:Int)<1000000000 by decide),e4]
       rw [Hn (n:=off+k) (by omega)]
      .rw [List.take_set_of_le (by omega)]; exact V
      .rw [List.drop_set_of_lt (by omega),show off+(k+1)=(off+k)+1 by omega,<-List.drop_drop,Z,List.drop_drop]
      .rw [Jg _ E,F4 v J,show off+(k+1)=(off+k)+1 by omega,Int.pow_succ]
       have ay:=Int.mul_ediv_add_emod s 1000000000
       have pk:(1000000000:Int) ^ (off+k)=1000000000 ^ off*1000000000 ^ k:=Int.pow_add ..
       rw [pk] at D ⊢
       exact al7 hs ay D
     .have aj:k=n:=by omega
      subst aj
      refine .inr ⟨(c,j),by simp,h3,N,V,Z,b4,b0,?_⟩
      rw [List.take_of_length_le (by omega)] at D
      exact D
    .rintro ⟨c,j⟩ ⟨h3,N,V,Z,b4,b0,D⟩
     have ai:off+n<j.length:=by omega
     obtain ⟨r1,r2,r3⟩:=main j h3 N V (Z.trans L)
     have bi:j[off+n]=u[off+n]:=by
      have:=congrArg List.head? (Z.trans L)
      rw [List.head?_drop,List.head?_drop,B0 ai,B0 X] at this
      exact Option.some.inj this
     have bd:Ak (u.drop off)-q*Ak v=Ak ((j.drop off).take n)+1000000000 ^ n*(u[off+n]-b+c):=by
      apply Acq (k:=off)
      rw [r3,pa] at D
      rw [R] at f
      rw [pa] at f
      exact al8 f D
     have bj:u[off+n]-b+c=0:=by
      have bg:(q+1)*Ak v=q*Ak v+Ak v:=by grind
      rcases Int.lt_or_le (u[off+n]-b+c) 0 with h | h
      .exfalso
       have h1:1000000000 ^ n*(u[off+n]-b+c)<=1000000000 ^ n*(-1):=Int.mul_le_mul_of_nonneg_left (by omega) (Int.le_of_lt ap)
       omega
      .omega
     have y5:Ac c=c:=Bl (by omega) (by omega)
     have y6:Ac (u[off+n]-b+c)=0:=by rw [bj]; rfl
     have y7:Cj (0:Int)=0:=rfl
     have y8:A0 (g-1)=q:=by rw [R,A0,Cs (by omega) (by omega)]; omega
     have y9:Cj q=q:=Fw (by omega) (by omega)
     simp only [M9 rfl (by omega:n<n+1) ai,Ad,y5,y6,y7,y8,y9]
     rw [Hn (n:=off+n) (by omega)]
     refine ⟨_,rfl,?_⟩
     refine fin _ 0 j rfl h3 N (by omega) (by omega) V ?_
     rw [Jg _ ai,bi]
     rw [R] at f
     exact al9 D f (by omega)
end Go.Ab
namespace Go.Ab
open Go
theorem Asf (a:List Int) (m:Int):Ab9 a m=Q4 a m:=rfl
theorem Asg {t d r:Int} (ht:1<=t) (b:t<1000000000) (hd:d*(t+1)+r=1000000000) (g:0<=r) (c:r<=t):500000000<=d*t:=by
 have f:0<=d:=by
  rcases Int.lt_or_le d 0 with h | h
  .exfalso
   have:d*(t+1)<=(-1)*(t+1):=Int.mul_le_mul_of_nonneg_right (by omega) (by omega)
   omega
  .exact h
 have e:d*(t+1)=d*t+d:=by grind
 rcases Int.lt_or_le t 2 with h | h
 .have:t=1:=by omega
  subst this
  omega
 .rcases Int.lt_or_le d 2 with h2 | h2
  .have:d=0\/d=1:=by omega
   rcases this with rfl | rfl <;> omega
  .have h3:2*(t-1)<=d*(t-1):=Int.mul_le_mul_of_nonneg_right h2 (by omega)
   have h4:d*(t-1)=d*t-d:=by grind
   omega
theorem bl1 (P t d:Int):P*t*d=P*(d*t):=by grind
theorem bl2 {u o X q V K Q S:Int} (h:o=u-X*(q*V)) (b:u+V*(X*1000000000)*Q=S):o+V*X*(q+1000000000*Q)=S:=by grind
set_option maxHeartbeats 1000000 in
theorem Acr (m n:Nat) (hm:Bj m<274877906944) (hn:Bj n<274877906944) (G:n≠0):Oi (Ag m) (Ag n)=some (Ag (m / n),Ag (m % n)):=by
 unfold Oi
 rw [Ue m n (by omega) (by omega),Ad]
 unfold Bj at hm hn
 by_cases g:m<n
 .rw [show E8 m n = -1 by rw [E8,if_pos g],Aj (by decide:(-1:Int)<0),cond_true,Ds (by simp; omega),Ad,Nat.div_eq_of_lt g,Nat.mod_eq_of_lt g,El]; rfl
 .rw [Ap (show ¬E8 m n<0 by rw [E8,if_neg g]; split <;> decide),cond_false]
  have bd:(Ag n).length<=(Ag m).length:=Lu (by omega)
  have b0:(Ag n).length≠0:=fun e=>G0 G (List.length_eq_zero_iff.1 e)
  by_cases h1:(Ag n).length=1
  .rw [Da (by omega:((Ag n).length:Int)=1),cond_true]
   have a6:n<1000000000:=by
    have:=M7 n
    rw [show Bj n=1 from h1] at this
    simpa using this
   have am:Ag n = [(n:Int)]:=by
    rw [Kd G,Nat.div_eq_of_lt a6,El,Nat.mod_eq_of_lt a6]
   rw [am,show Ae [(n:Int)] 0=some (n:Int) from rfl,Ad,show A0 (n:Int)=n from Cs (by omega) (by omega),Acp m n (by unfold Bj; omega) (by omega) (by omega),Ad]
   have az:m % n<n:=Nat.mod_lt _ (by omega)
   rw [Rk (m % n) (by omega),Ad]
  .rw [B2 (by omega:((Ag n).length:Int)≠1),cond_false]
   generalize hL:(Ag n).length=L at *
   generalize hA:(Ag m).length=A at *
   have w1:Ac ((L:Int)-1)=((L-1:Nat):Int):=by rw [Ac,Bl] <;> omega
   have hi:L-1<(Ag n).length:=by omega
   have ht:=(Ef n).get hi
   have ax:(Ag n)[L-1]≠0:=by
    have:=(Rj n).2 (G0 G)
    rw [List.getLast_eq_getElem] at this
    simpa [hL] using this
   generalize y:(Ag n)[L-1]=t at *
   have w2:A0 t=t:=Cs (by omega) (by omega)
   have w3:A0 (t+1)=t+1:=Cs (by omega) (by omega)
   rw [w1,Dp rfl hi,y,Ad,w2,w3,I0 (by decide) (by decide) (by omega),Ad]
   have U:=Int.mul_ediv_add_emod 1000000000 (t+1)
   have ah:=Int.emod_nonneg 1000000000 (by omega:t+1≠0)
   have b9:=Int.emod_lt_of_pos 1000000000 (by omega:0<t+1)
   have aq:1<=1000000000 / (t+1):=by
    rcases Int.lt_or_le (1000000000 / (t+1)) 1 with h | h
    .exfalso
     have:(t+1)*(1000000000 / (t+1))<=(t+1)*0:=Int.mul_le_mul_of_nonneg_left (by omega) (by omega)
     omega
    .exact h
   have ap:1000000000 / (t+1)<=500000000:=by
    have:=Int.ediv_lt_of_lt_mul (a:=1000000000) (b:=500000001) (c:=t+1) (by omega) (by omega)
    omega
   obtain ⟨d,hd⟩:∃d:Nat,1000000000 / (t+1)=(d:Int):=⟨(1000000000 / (t+1)).toNat,by omega⟩
   rw [hd] at U aq ap ⊢
   obtain ⟨u,ag,E,S,R⟩:=Ai5 (Ag m) d (Ef m) (by omega) (by omega)
   obtain ⟨v0,af,ae,D,b7⟩:=Ai5 (Ag n) d (Ef n) (by omega) (by omega)
   rw [ag,Ad,Asf,af,Ad,Es] at *
   rw [hL] at ae
   rw [hA] at E
   rw [Xq rfl (by omega:L<=v0.length),Ad]
   have x:=I1 (L-1)
   have pL:(1000000000:Int) ^ L=1000000000 ^ (L-1)*1000000000:=by rw [<-Int.pow_succ]; congr 1; omega
   have Y:=F4 (Ag n) hi
   rw [List.take_of_length_le (by omega),Es,y] at Y
   have ay:=Gc (((Ef n).take (L-1)).u32)
   have Z:=I2 ((Ef n).take (L-1))
   rw [List.length_take,hL,Nat.min_eq_left (by omega)] at Z
   have bb:(n:Int)*d<1000000000 ^ L:=by
    have a1:(n:Int)*d<(1000000000 ^ (L-1)*(t+1))*d:=Int.mul_lt_mul_of_pos_right (by
     have:(1000000000:Int) ^ (L-1)*(t+1)=1000000000 ^ (L-1)*t+1000000000 ^ (L-1):=by grind
     omega) (by omega)
    have a2:(1000000000 ^ (L-1)*(t+1))*(d:Int)=1000000000 ^ (L-1)*((t+1)*d):=by grind
    have a3:(1000000000:Int) ^ (L-1)*((t+1)*d)<=1000000000 ^ (L-1)*1000000000:=Int.mul_le_mul_of_nonneg_left (by omega) (Int.le_of_lt x)
    omega
   have M:Ak (v0.take L)=(n:Int)*d:=by
    have e:=Kx v0 L (by omega)
    have z:Ak (v0.drop L)=0:=by
     have a1:=Xw D L
     have a2:=Gc ((D.take L).u32)
     rcases Int.lt_or_le 0 (Ak (v0.drop L)) with h | h
     .have:(1000000000:Int) ^ L*1<=1000000000 ^ L*Ak (v0.drop L):=Int.mul_le_mul_of_nonneg_left h (Int.le_of_lt (I1 _))
      omega
     .omega
    rw [z] at e; omega
   have I:(v0.take L).length=L:=by rw [List.length_take]; omega
   have f:=D.take L
   have J:L-1<(v0.take L).length:=by omega
   have ak:500000000<=(d:Int)*t:=Asg (r:=1000000000 % (t+1)) (by omega) (by omega) (by rw [Int.mul_comm]; exact U) ah (by omega)
   have l:500000000<=(v0.take L)[L-1]:=by
    have e:=F4 (v0.take L) J
    rw [List.take_of_length_le (by omega),M] at e
    have b1:=I2 (f.take (L-1))
    rw [List.length_take,I,Nat.min_eq_left (by omega)] at b1
    have b2:(1000000000:Int) ^ (L-1)*t*d<=n*d:=Int.mul_le_mul_of_nonneg_right (by omega) (by omega)
    have b3:(1000000000:Int) ^ (L-1)*500000000<=1000000000 ^ (L-1)*(d*t):=Int.mul_le_mul_of_nonneg_left ak (Int.le_of_lt x)
    rw [bl1] at b2
    rcases Int.lt_or_le (v0.take L)[L-1] 500000000 with h | h
    .exfalso
     have b4:(1000000000:Int) ^ (L-1)*((v0.take L)[L-1]+1)<=1000000000 ^ (L-1)*500000000:=Int.mul_le_mul_of_nonneg_left (by omega) (Int.le_of_lt x)
     have b5:(1000000000:Int) ^ (L-1)*((v0.take L)[L-1]+1)=1000000000 ^ (L-1)*(v0.take L)[L-1]+1000000000 ^ (L-1):=by grind
     omega
    .exact h
   generalize b6:v0.take L=v at *
   have w4:Ac ((A:Int)-(L:Int))=((A-L:Nat):Int):=by rw [Ac,Bl] <;> omega
   have w5:Ac (((A-L:Nat):Int)+1)=((A-L+1:Nat):Int):=by rw [Ac,Bl] <;> omega
   rw [w4,w5,Kc rfl rfl (Nat.le_refl _) (by omega) (by omega),Ad,E]
   have b8:=Gc S.u32
   have ar:(0:Int)<(n:Int)*d:=Int.mul_pos (by omega) (by omega)
   refine Gi (fun (i,w,q)=>∃k:Nat,i=(k:Int)-1/\k<=A-L+1/\w.length=A+1/\Bp w/\q.length=A-L+1/\Bp q/\Ak w<Ak v*1000000000 ^ k/\Ak w+Ak v*1000000000 ^ k*Ak (q.drop k)=(m:Int)*d)
    (fun (i,_,_)=>(i+1).toNat) (fun (w,q)=>w.length=A+1/\Bp w/\q.length=A-L+1/\Bp q/\Ak w<Ak v/\Ak w+Ak v*Ak q=(m:Int)*d)
    ⟨A-L+1,by omega,Nat.le_refl _,E,S,by simp,Bp.replicate _,?_,by rw [List.drop_of_length_le (by simp)]; simp [Ak,R]⟩ ?_ ?_
   .
    have aj:(m:Int)<1000000000 ^ A:=by
     have:=I2 (Ef m)
     rwa [Es,hA] at this
    have a1:(m:Int)*d<1000000000 ^ A*500000000:=by
     have c1:(m:Int)*d<=m*500000000:=Int.mul_le_mul_of_nonneg_left (by omega) (by omega)
     have c2:(m:Int)*500000000<1000000000 ^ A*500000000:=Int.mul_lt_mul_of_pos_right aj (by decide)
     omega
    have a2:(1000000000:Int) ^ (L-1)*500000000<=Ak v:=by
     have e:=F4 v J
     rw [List.take_of_length_le (by omega)] at e
     have b1:=Gc ((f.take (L-1)).u32)
     have b3:(1000000000:Int) ^ (L-1)*500000000<=1000000000 ^ (L-1)*v[L-1]:=Int.mul_le_mul_of_nonneg_left l (Int.le_of_lt x)
     omega
    have a3:(1000000000:Int) ^ (L-1)*500000000*1000000000 ^ (A-L+1)<=Ak v*1000000000 ^ (A-L+1):=Int.mul_le_mul_of_nonneg_right a2 (Int.le_of_lt (I1 _))
    have a4:(1000000000:Int) ^ (L-1)*500000000*1000000000 ^ (A-L+1)=1000000000 ^ A*500000000:=by
     have:(1000000000:Int) ^ A=1000000000 ^ (L-1)*1000000000 ^ (A-L+1):=by rw [<-Int.pow_add]; congr 1; omega
     rw [this]; grind
    rw [R]; omega
   .rintro ⟨i,w,q⟩ ⟨k,rfl,hk,ac,B,X,V,a7,s⟩
    cases k with
    | zero=>exact .inr ⟨(w,q),by simp,ac,B,X,V,by simpa using a7,by simpa using s⟩
    | succ j=>
     have e0:((j+1:Nat):Int)-1=(j:Int):=by omega
     have e1:decide ((j:Int)>=0)=true:=Aj (by omega)
     have w6:Ac ((j:Int)+(L:Int))=((j+L:Nat):Int):=by rw [Ac,Bl] <;> omega
     have w7:Ac (((j+L:Nat):Int)+1)=((j+L+1:Nat):Int):=by rw [Ac,Bl] <;> omega
     have sA:Sf (A+1) (j:Int) ((j+L+1:Nat):Int)=some (j,j+L+1):=by
      have c1:(0:Int)<=(j:Int):=by omega
      have c2:(j:Int)<=((j+L+1:Nat):Int):=by omega
      have c3:((j+L+1:Nat):Int)<=((A+1:Nat):Int):=by omega
      have c4:(j:Int)=0\/(j:Int)<((j+L+1:Nat):Int):=by omega
      rw [Sf,if_pos ⟨c1,c2,c3,c4⟩]; rfl
     have au:Ak (w.drop j)<Ak v*1000000000:=by
      have s1:=Kx w j (by omega)
      have s2:=Gc ((B.take j).u32)
      rcases Int.lt_or_le (Ak (w.drop j)) (Ak v*1000000000) with h | h
      .exact h
      .exfalso
       have:(1000000000:Int) ^ j*(Ak v*1000000000)<=1000000000 ^ j*Ak (w.drop j):=Int.mul_le_mul_of_nonneg_left h (Int.le_of_lt (I1 _))
       have e:Ak v*(1000000000:Int) ^ (j+1)=1000000000 ^ j*(Ak v*1000000000):=by rw [Int.pow_succ]; grind
       omega
     obtain ⟨qd,o,r1,r2,r3,r4,r5,r6,r7,r8⟩:=Ase v w j L f B I (by omega) (by omega) l (by omega) au
     have a8:j<q.length:=by omega
     have w8:Ac ((j:Int)-1)=(j:Int)-1:=by rw [Ac,Bl] <;> omega
     have lG:Gz (A+1) o=some ():=by rw [Gz,if_pos (by omega)]
     refine .inl ⟨((j:Int)-1,o,q.set j qd),?_,⟨j,rfl,by omega,by omega,r3,by simpa using X,V.set _ r4 r5,?_,?_⟩,by simp⟩
     .simp only [e0,e1,cond_true,w6,w7,sA,Ad,Nat.zero_add,show j+L+1-j=L+1 by omega,r1,lG,Dp rfl a8,w8,Hn rfl]
     .have s1:=Kx o j (by omega)
      have s2:=I2 (r3.take j)
      rw [List.length_take,Nat.min_eq_left (by omega)] at s2
      have:(1000000000:Int) ^ j*(Ak (o.drop j)+1)<=1000000000 ^ j*Ak v:=Int.mul_le_mul_of_nonneg_left (by omega) (Int.le_of_lt (I1 _))
      have e:(1000000000:Int) ^ j*(Ak (o.drop j)+1)=1000000000 ^ j*Ak (o.drop j)+1000000000 ^ j:=by grind
      rw [Int.mul_comm (Ak v)]; omega
     .have d1:(q.set j qd).drop j=qd::q.drop (j+1):=by
       rw [List.drop_eq_getElem_cons (by simpa using a8),List.drop_set_of_lt (by omega)]; simp
      rw [d1]
      simp only [Ak]
      rw [Int.pow_succ] at s
      exact bl2 (K:=0) r6 s
   .rintro ⟨w,q⟩ ⟨h2,h3,h4,h5,h6,h7⟩
    rw [M] at h6 h7
    have ad:=Gc h3.u32
    have ba:=Gc h5.u32
    have N:=(Int.ediv_emod_unique ar (r:=Ak w) (q:=Ak q) (a:=(m:Int)*d)).2 ⟨by rw [<-h7],ad,h6⟩
    have ao:(m*d) / (n*d)=m / n:=Nat.mul_div_mul_right m n (by omega)
    have ai:(m*d) % (n*d)=(m % n)*d:=Nat.mul_mod_mul_right d m n
    have av:Ak q=((m / n:Nat):Int):=by
     rw [<-N.1,<-ao]; simp
    have aa:Ak w=(((m % n)*d:Nat):Int):=by
     rw [<-N.2,<-ai]; simp
    have ab:Bj ((m % n)*d)<1099511627776:=by
     have g:=I2 h3
     have:Bj ((m % n)*d)<=A+1:=by
      apply O9
      rw [h2,aa] at g
      have e:((1000000000 ^ (A+1):Nat):Int)=1000000000 ^ (A+1):=by rw [Int.natCast_pow]; rfl
      omega
     omega
    dsimp only
    rw [Pb w (by omega),Ad,Jh h3 aa,Acp _ d ab (by omega) (by omega),Ad,Pb q (by omega),Ad,Jh h5 av,Nat.mul_div_cancel _ (by omega)]
end Go.Ab
namespace Go.Ab
open Go
theorem Ai8 {n:Nat} (h:Bj n<=2):n<1000000000000000000:=by
 have h1:=M7 n
 have h2:1000000000 ^ Bj n<=1000000000 ^ 2:=Nat.pow_le_pow_right (by decide) h
 omega
theorem Ai9 (n:Nat) (h:Bj n<=2):Q3 (Ag n)=some ((n:Int),true):=by
 unfold Q3
 unfold Bj at h
 have ha:=Ef n
 refine Gi (fun (w,i)=>∃k:Nat,i=k/\k<=(Ag n).length/\w=Ak ((Ag n).drop ((Ag n).length-k))) (fun (_,i)=>(Ag n).length-i.toNat)
  (fun e=>match e with | .inl _=>False | .inr w=>w=n) ⟨0,rfl,by omega,by simp [Ak]⟩ ?_ ?_
 .rintro ⟨w,i⟩ ⟨k,rfl,hk,rfl⟩
  rcases Nat.lt_or_ge k (Ag n).length with c | hge
  .have z:decide ((k:Int)<((Ag n).length:Int))=true:=Aj (by omega)
   have s:Ac (((Ag n).length:Int)-1)=((Ag n).length:Int)-1:=by rw [Ac,Bl] <;> omega
   have q:Ac (((Ag n).length:Int)-1-(k:Int))=(((Ag n).length-1-k:Nat):Int):=by rw [Ac,Bl] <;> omega
   have hj:(Ag n).length-1-k<(Ag n).length:=by omega
   have hx:=ha.get hj
   have x:=Xw ha ((Ag n).length-k)
   have b:=I2 (ha.drop ((Ag n).length-k))
   rw [List.length_drop,show (Ag n).length-((Ag n).length-k)=k by omega] at b
   have u:(1000000000:Int) ^ k<=1000000000:=by
    have:k=0\/k=1:=by omega
    rcases this with rfl | rfl <;> decide
   have l:A0 (Ag n)[(Ag n).length-1-k]=(Ag n)[(Ag n).length-1-k]:=Cs (by omega) (by omega)
   have j:A0 (18446744073709551615-(Ag n)[(Ag n).length-1-k])=18446744073709551615-(Ag n)[(Ag n).length-1-k]:=Cs (by omega) (by omega)
   have g:A0 (Ak ((Ag n).drop ((Ag n).length-k))*1000000000)=Ak ((Ag n).drop ((Ag n).length-k))*1000000000:=Cs (by omega) (by omega)
   have f:A0 (Ak ((Ag n).drop ((Ag n).length-k))*1000000000+(Ag n)[(Ag n).length-1-k])=Ak ((Ag n).drop ((Ag n).length-k))*1000000000+(Ag n)[(Ag n).length-1-k]:=Cs (by omega) (by omega)
   have y:=Ky c (by omega)
   have hc:¬Ak ((Ag n).drop ((Ag n).length-k))>(18446744073709551615-(Ag n)[(Ag n).length-1-k]) / 1000000000:=by omega
   refine .inl ⟨(Ak ((Ag n).drop ((Ag n).length-k))*1000000000+(Ag n)[(Ag n).length-1-k],((k+1:Nat):Int)),?_,⟨k+1,rfl,by omega,?_⟩,by simp; omega⟩
   .simp only [z,cond_true,s,q,Dp rfl hj,Ad,l,j,I0 (show 0<=18446744073709551615-(Ag n)[(Ag n).length-1-k] by omega) (show 18446744073709551615-(Ag n)[(Ag n).length-1-k]<=_ by omega) (show (0:Int)<1000000000 by decide),Ap hc,cond_false,g,f,y]
   .have hd:(Ag n).drop ((Ag n).length-(k+1))=(Ag n)[(Ag n).length-1-k]::(Ag n).drop ((Ag n).length-k):=by
     rw [show (Ag n).length-(k+1)=(Ag n).length-1-k by omega,List.drop_eq_getElem_cons hj]
     congr 2; omega
    rw [hd]; simp only [Ak]; omega
  .have:k=(Ag n).length:=by omega
   subst this
   refine .inr ⟨.inr _,by simp; rfl,?_⟩
   exact Es n
 .rintro (e | e) he
  .exact he.elim
  .simp only at he ⊢; rw [he]
theorem Ash (m n:Nat) (z:Bj m<274877906944) (s:Bj n<274877906944):Tf (Ag m) (Ag n)=some (Ag (Nat.gcd m n)):=by
 unfold Tf
 refine Gi (fun (a,b)=>∃x y:Nat,a=Ag x/\b=Ag y/\Bj x<274877906944/\Bj y<274877906944/\Nat.gcd x y=Nat.gcd m n) (fun (_,b)=>(Ak b).toNat)
  (fun e=>match e with | .inl r=>r=Ag (Nat.gcd m n) | .inr r=>r=Ag (Nat.gcd m n)) ⟨m,n,rfl,rfl,z,s,rfl⟩ ?_ ?_
 .rintro ⟨a,b⟩ ⟨x,y,rfl,rfl,hx,hy,j⟩
  by_cases c:y=0
  .subst c
   refine .inr ⟨.inr (Ag x),by rw [El]; rfl,?_⟩
   show Ag x=_
   rw [<-j,Nat.gcd_zero_right]
  .have A:(Ag y).length≠0:=fun e=>G0 c (List.length_eq_zero_iff.1 e)
   have k:decide (((Ag y).length:Int)>0)=true:=Aj (by omega)
   by_cases h2:Bj x<=2/\Bj y<=2
   .have h:=Ai8 h2.1
    have g:=Ai8 h2.2
    unfold Bj at h2
    simp only [k,cond_true,Aj (by omega:((Ag x).length:Int)<=2),Aj (by omega:((Ag y).length:Int)<=2),Ad,Ai9 x h2.1,Ai9 y h2.2]
    refine .inr (Arz (Eb (fun (p,q)=>∃u v:Nat,p=u/\q=v/\u<1000000000000000000/\v<1000000000000000000/\Nat.gcd u v=Nat.gcd m n) (fun (_,q)=>q.toNat) (fun (p,q)=>p=((Nat.gcd m n:Nat):Int)/\Nat.gcd m n<1000000000000000000)
     ⟨x,y,rfl,rfl,h,g,j⟩ ?_ ?_))
    .rintro ⟨p,q⟩ ⟨u,v,rfl,rfl,hu,l,f⟩
     by_cases i:v=0
     .subst i
      refine .inr ⟨((u:Int),(0:Int)),rfl,?_⟩
      rw [Nat.gcd_zero_right] at f
      exact ⟨by rw [f],by omega⟩
     .refine .inl ⟨((v:Int),((u % v:Nat):Int)),?_,⟨v,u % v,rfl,rfl,l,by have:=Nat.mod_lt u (by omega:v>0); omega,?_⟩,?_⟩
      .simp only [Aj (by omega:(v:Int)>0),cond_true,Je (by omega:(0:Int)<=u) (by omega:(0:Int)<v),Ad]; rfl
      .rw [<-f,Nat.gcd_comm v,<-Nat.gcd_rec,Nat.gcd_comm]
      .have:=Nat.mod_lt u (by omega:v>0); simp only [Int.toNat_natCast]; exact this
    .rintro ⟨p,q⟩ ⟨rfl,B⟩
     dsimp only
     rw [Rk _ (by omega)]
     exact ⟨_,rfl,_,rfl,rfl⟩
   .refine .inl ⟨(Ag y,Ag (x % y)),?_,⟨y,x % y,rfl,rfl,hy,by have:=Lu (Nat.mod_le x y); omega,?_⟩,?_⟩
    .have:(bif (decide (((Ag x).length:Int)<=(2:Int))) then some (decide (((Ag y).length:Int)<=(2:Int))) else some false)=some false:=by
      unfold Bj at h2
      by_cases hc:(Ag x).length<=2
      .rw [Aj (by omega:((Ag x).length:Int)<=2),cond_true,Ap (by omega:¬((Ag y).length:Int)<=2)]
      .rw [Ap (by omega:¬((Ag x).length:Int)<=2),cond_false]
     simp only [k,cond_true]
     rw [this,Ad,cond_false,Acr x y hx hy c,Ad]
    .rw [<-j,Nat.gcd_comm y,<-Nat.gcd_rec,Nat.gcd_comm]
    .simp only [Es]
     have:=Nat.mod_lt x (by omega:y>0)
     omega
 .rintro (e | e) he
  .simp only at he ⊢; rw [he]
  .simp only at he ⊢; rw [he]
theorem Lw:Ag 1 = [1]:=by rw [Kd (by decide),show 1 / 1000000000=0 by decide,El]; rfl
theorem Xx (n:Nat):Ln (Ag n)=some (decide (n=1)):=by
 unfold Ln
 by_cases h0:n=0
 .subst h0; rw [El]; rfl
 .rw [Kd h0]
  by_cases h1:n / 1000000000=0
  .rw [h1,El]
   have e:Ae [((n % 1000000000:Nat):Int)] 0=some ((n % 1000000000:Nat):Int):=rfl
   simp only [List.length_singleton,e,Ad]
   have:(((1:Nat):Int)==(1:Int))=true:=rfl
   rw [this,cond_true]
   congr 1
   by_cases b:n=1
   .subst b; rfl
   .rw [B2 (by omega),Ap b]
  .have c:(Ag (n / 1000000000)).length≠0:=fun e=>G0 h1 (List.length_eq_zero_iff.1 e)
   rw [B2 (by simp; omega),cond_false,Ap (by omega)]
def Bw (b:Bool) (n d:Nat):A4:=if n=0 then ⟨false,[],[1]⟩ else ⟨b,Ag (n / Nat.gcd n d),Ag (d / Nat.gcd n d)⟩
theorem Xy (b:Bool) (n d:Nat) (h:Bj n<274877906944) (hd:Bj d<274877906944):J6 ⟨b,Ag n,Ag d⟩=some (Bw b n d):=by
 unfold J6 Qo
 dsimp only
 by_cases h0:n=0
 .subst h0; rw [El]; rfl
 .have i:(Ag n).length≠0:=fun e=>G0 h0 (List.length_eq_zero_iff.1 e)
  rw [B2 (by omega),cond_false,Xx,Ad,Bw,if_neg h0]
  by_cases h1:d=1
  .subst h1
   rw [Aj rfl,cond_true]
   simp
  .rw [Ap h1,cond_false,Ash n d h hd,Ad,Xx,Ad]
   by_cases g:Nat.gcd n d=1
   .rw [Aj g,cond_true,g]; simp
   .have f:Nat.gcd n d≠0:=by
     have:=Nat.gcd_pos_of_pos_left d (by omega:0<n); omega
    have c:Bj (Nat.gcd n d)<274877906944:=by
     have:=Lu (Nat.gcd_le_left d (by omega:0<n)); omega
    rw [Ap g,cond_false,Acr n _ h c f,Ad,Acr d _ hd c f,Ad]; rfl
def nv (a:A4):Nat:=if (Ak a.Num).toNat=0\/(Ak a.Den).toNat=0 then 0 else (Ak a.Num).toNat
def dv (a:A4):Nat:=if (Ak a.Num).toNat=0\/(Ak a.Den).toNat=0 then 1 else (Ak a.Den).toNat
def sv (a:A4):Bool:=if (Ak a.Num).toNat=0\/(Ak a.Den).toNat=0 then false else a.Neg
structure RB (k:Nat) (a:A4):Prop where
 num:Jf a.Num
 den:Jf a.Den
 nl:a.Num.length<=k
 dl:a.Den.length<=k
theorem Asi {l:List Int} (h:Jf l):Ak l<=5*1000000000 ^ l.length-5:=by
 induction l with
 | nil=>simp [Ak]
 | cons d l ih=>
  have h1:=h d (by simp)
  have h2:=ih (fun x hx=>h x (by simp [hx]))
  simp only [Ak,List.length_cons]
  rw [Int.pow_succ]
  omega
theorem Asj {l:List Int} (h:Jf l):Ak l<1000000000 ^ (l.length+1):=by
 have h1:=Asi h
 have hp:=I1 l.length
 rw [Int.pow_succ]
 omega
theorem Xz {l:List Int} (h:Jf l):Bj (Ak l).toNat<=l.length+1:=by
 apply O9
 have h1:=Asj h
 have h2:=Gc h
 have e:((1000000000 ^ (l.length+1):Nat):Int)=1000000000 ^ (l.length+1):=by rw [Int.natCast_pow]; rfl
 omega
theorem RB.mono {j k:Nat} {a:A4} (h:RB j a) (hk:j<=k):RB k a:=⟨h.num,h.den,by have:=h.nl; omega,by have:=h.dl; omega⟩
theorem X0:Bj 1=1:=by unfold Bj; rw [Lw]; rfl
theorem RB.nv {k:Nat} {a:A4} (h:RB k a):Bj (nv a)<=k+1:=by
 unfold Ab.nv
 split
 .simp [Acl]
 .have:=Xz h.num; have:=h.nl; omega
theorem RB.dv {k:Nat} {a:A4} (h:RB k a):Bj (dv a)<=k+1:=by
 unfold Ab.dv
 split
 .simp [X0]
 .have:=Xz h.den; have:=h.dl; omega
theorem Gs (a:A4):dv a≠0:=by
 unfold dv; split
 .decide
 .omega
theorem Rl (a:A4) (k:Nat) (h:RB k a) (hk:k<274877906900):Ii a=some ⟨sv a,Ag (nv a),Ag (dv a)⟩:=by
 unfold Ii
 have h1:=h.nl
 have h2:=h.dl
 rw [Ai3 _ h.num (by omega),Ad,Ai3 _ h.den (by omega),Ad]
 unfold nv dv sv
 generalize (Ak a.Num).toNat=x
 generalize (Ak a.Den).toNat=y
 by_cases hx:x=0
 .subst hx
  simp only [El,true_or,if_true,Lw]; rfl
 .have c:(Ag x).length≠0:=fun e=>G0 hx (List.length_eq_zero_iff.1 e)
  by_cases hy:y=0
  .subst hy
   simp only [El,or_true,if_true,Lw,B2 (by omega:((Ag x).length:Int)≠0),cond_false]; rfl
  .have b:(Ag y).length≠0:=fun e=>G0 hy (List.length_eq_zero_iff.1 e)
   simp only [hx,hy,or_self,if_false,B2 (by omega:((Ag x).length:Int)≠0),cond_false,B2 (by omega:((Ag y).length:Int)≠0),Ad]
end Go.Ab
namespace Go.Ab
open Go
theorem Ask (a:A4) (k:Nat) (h:RB k a) (hk:k<274877906900):Ml a=some (Bw (sv a) (nv a) (dv a)):=by
 unfold Ml
 have h1:=h.nv
 have h2:=h.dv
 rw [Rl a k h hk,Ad,Xy _ _ _ (by omega) (by omega)]; rfl
def Dt (s:Bool) (n:Nat):Int:=if n=0 then 0 else if s then -1 else 1
theorem Acs (s:Bool) (n:Nat) (d:List Int):N8 ⟨s,Ag n,d⟩=some (Dt s n):=by
 unfold N8 Dt
 dsimp only
 by_cases h:n=0
 .subst h; rw [El]; rfl
 .have b:(Ag n).length≠0:=fun e=>G0 h (List.length_eq_zero_iff.1 e)
  rw [B2 (by omega),cond_false,if_neg h]
  cases s <;> rfl
theorem Acu (a:A4) (k:Nat) (h:RB k a) (hk:k<274877906900):G7 a=some (Dt (sv a) (nv a)):=by
 unfold G7
 rw [Rl a k h hk,Ad,Acs]; rfl
theorem Asl (z:Int) (h1 : -9223372036854775808<=z) (h2:z<=9223372036854775807):Od z=some (Ag z.natAbs):=by
 unfold Od
 by_cases h:z<0
 .have e:A0 z=z+18446744073709551616:=by
   have:IntKind.u64.wrap z=z % 18446744073709551616:=by simp [IntKind.wrap,IntKind.bits,IntKind.signed]
   rw [A0,this]; omega
  have b:A0 (0-(z+18446744073709551616))=((z.natAbs:Nat):Int):=by
   have:IntKind.u64.wrap (0-(z+18446744073709551616))=(0-(z+18446744073709551616)) % 18446744073709551616:=by simp [IntKind.wrap,IntKind.bits,IntKind.signed]
   rw [A0,this]; omega
  rw [Aj h,cond_true,e,b,Rk _ (by omega)]; rfl
 .have b:A0 z=((z.natAbs:Nat):Int):=by rw [A0,Cs (by omega) (by omega)]; omega
  rw [Ap h,cond_false,b,Rk _ (by omega)]; rfl
theorem Asm (z:Int) (h1 : -9223372036854775808<=z) (h2:z<=9223372036854775807):Gb z=some (Bw (decide (z<0)) z.natAbs 1):=by
 unfold Gb
 have:=Xu (n:=z.natAbs) (by omega)
 rw [Asl z h1 h2,Ad,<-Lw,Xy _ _ _ (by omega) (by rw [X0]; decide)]; rfl
theorem Acv (s:Bool) (d:Nat):Bw s 0 d=⟨false,[],[1]⟩:=by simp [Bw]
theorem Acw (s:Bool) (n d k:Nat) (b:Bj n<=k) (hd:Bj d<=k) (hk:1<=k):RB k (Bw s n d):=by
 unfold Bw
 split
 .refine ⟨(fun _ h=>by cases h),(fun x h=>?_),by simp,by simpa using hk⟩
  simp at h; subst h; decide
 .have h1:=Acn n (Nat.gcd n d)
  have h2:=Acn d (Nat.gcd n d)
  unfold Bj at *
  exact ⟨(Ef _).u32,(Ef _).u32,by simp only; omega,by simp only; omega⟩
theorem Acx (s:Bool) (n d:Nat) (hd:d≠0):nv (Bw s n d)=n / Nat.gcd n d/\dv (Bw s n d)=d / Nat.gcd n d/\(n≠0->sv (Bw s n d)=s)/\(n=0->sv (Bw s n d)=false):=by
 by_cases h0:n=0
 .subst h0
  rw [Acv]
  have c:d / Nat.gcd 0 d=1:=by rw [Nat.gcd_zero_left]; exact Nat.div_self (by omega)
  refine ⟨by simp [nv,Ak],?_,fun h=>(h rfl).elim,fun _=>by simp [sv,Ak]⟩
  rw [c]; simp [dv,Ak]
 .have f:0<Nat.gcd n d:=Nat.gcd_pos_of_pos_left d (by omega)
  have h1:n / Nat.gcd n d≠0:=by
   have:=Nat.div_pos (Nat.gcd_le_left d (by omega:0<n)) f; omega
  have h2:d / Nat.gcd n d≠0:=by
   have:=Nat.div_pos (Nat.gcd_le_right n (by omega:0<d)) f; omega
  have e:Bw s n d=⟨s,Ag (n / Nat.gcd n d),Ag (d / Nat.gcd n d)⟩:=by simp [Bw,h0]
  have b:(Ak (Ag (n / Nat.gcd n d))).toNat=n / Nat.gcd n d:=by rw [Es]; rfl
  have v2:(Ak (Ag (d / Nat.gcd n d))).toNat=d / Nat.gcd n d:=by rw [Es]; rfl
  rw [e]
  have hc:¬(n / Nat.gcd n d=0\/d / Nat.gcd n d=0):=by omega
  refine ⟨?_,?_,fun _=>?_,fun h=>(h0 h).elim⟩
  .simp only [nv,b,v2,if_neg hc]
  .simp only [dv,b,v2,if_neg hc]
  .simp only [sv,b,v2,if_neg hc]
theorem Acy (s:Bool) (n d k:Nat) (hk:k≠0):Bw s (k*n) (k*d)=Bw s n d:=by
 unfold Bw
 by_cases h:n=0
 .subst h; simp
 .have h1:k*n≠0:=Nat.mul_ne_zero hk h
  rw [if_neg h1,if_neg h,Nat.gcd_mul_left,Nat.mul_div_mul_left _ _ (by omega),Nat.mul_div_mul_left _ _ (by omega)]
theorem Asn {s t:Bool} {n d:Nat} (h:n≠0->s=t):Bw s n d=Bw t n d:=by
 unfold Bw
 by_cases h0:n=0
 .simp [h0]
 .rw [h h0]
end Go.Ab
namespace Go.Ab
open Go
theorem Aja (l:List Int):Ik l=(Ij l).bind fun v=>B7 4 [] v:=by
 unfold Ik Ij
 generalize An _ _=x
 cases x with
 | none=>rfl
 | some v=>
  simp only [Ad]
  cases Ga l 0 v with
  | none=>rfl
  | some y=>
   simp only [Ad]
   cases B7 4 [] y <;> rfl
theorem Aso (l:List Int):(F1 l).length<=l.length:=by
 induction l with
 | nil=>simp [F1]
 | cons d l ih=>
  simp only [F1]
  cases ht:F1 l with
  | nil=>simp only []; split <;> simp
  | cons x m=>rw [ht] at ih; simpa using ih
theorem Pc (l:List Int) (b:l.length<2199023255552):Ik l=some (F1 l):=by
 have:=Aso l
 rw [Aja,Pb l (by omega),Ad,Ds (by simp; omega)]; rfl
theorem Ajb (l:List Int) (hd:Jf l) (B:l.length<1099511627776):Qt l=some (Ag (Ak l).toNat):=by
 unfold Qt
 refine Gi (fun (c,i,o)=>∃k:Nat,i=k/\k<=l.length/\o.length=k/\Bp o/\0<=c/\c<5/\Ak o+1000000000 ^ k*c=Ak (l.take k))
  (fun (_,i,_)=>l.length-i.toNat) (fun (c,o)=>o.length=l.length/\Bp o/\0<=c/\c<5/\Ak o+1000000000 ^ l.length*c=Ak l)
  ⟨0,rfl,by omega,rfl,Bp.nil,by omega,by omega,by simp [Ak]⟩ ?_ ?_
 .rintro ⟨c,i,o⟩ ⟨k,rfl,hk,f,b,j,hc,s⟩
  rcases Nat.lt_or_ge k l.length with h | h
  .have hx:=hd l[k] (List.getElem_mem h)
   refine .inl ⟨((c+l[k]) / 1000000000,((k+1:Nat):Int),o++[(c+l[k]) % 1000000000]),?_,⟨k+1,rfl,by omega,by simp [f],b.snoc (by omega) (by omega),by omega,by omega,?_⟩,by simp; omega⟩
   .have z:A0 l[k]=l[k]:=Cs (by omega) (by omega)
    have y:A0 (c+l[k])=c+l[k]:=Cs (by omega) (by omega)
    have q:Cj ((c+l[k]) % 1000000000)=(c+l[k]) % 1000000000:=Fw (by omega) (by omega)
    have x:=Ky h (by omega)
    have u:decide ((k:Int)<(l.length:Int))=true:=by simpa using h
    simp only [u,cond_true,Dp rfl h,Ad,z,y,Je (show 0<=c+l[k] by omega) (show (0:Int)<1000000000 by decide),q,Ds (show (o.length+[(c+l[k]) % 1000000000].length)*4<=_ by simp; omega),I0 (show 0<=c+l[k] by omega) (show c+l[k]<=_ by omega) (show (0:Int)<1000000000 by decide),x]
   .rw [F4 l h,<-s,Ub,f,Int.pow_succ]
    have:=Int.mul_ediv_add_emod (c+l[k]) 1000000000
    grind
  .have g:k=l.length:=by omega
   subst g
   refine .inr ⟨(c,o),by simp,f,b,j,hc,by simpa using s⟩
 .rintro ⟨c,o⟩ ⟨h2,h3,h4,E,D⟩
  have A:=Gc hd
  by_cases hc:c>0
  .have q:Cj c=c:=Fw (by omega) (by omega)
   simp only [decide_eq_true hc,cond_true,q,Ds (show (o.length+[c].length)*4<=_ by simp; omega),Ad,Pc (o++[c]) (by simp; omega)]
   rw [Jh (h3.snoc (by omega) (by omega)) (n:=(Ak l).toNat) (by rw [Ub,h2]; omega)]
  .have:c=0:=by omega
   subst this
   simp only [Int.lt_irrefl,gt_iff_lt,decide_false,cond_false,Pc o (by omega),Ad]
   rw [Jh h3 (n:=(Ak l).toNat) (by omega)]
theorem Ajc (n:Int):Lm n=Lo n:=rfl
theorem Acz (a b:List Int):Om a b=Mn a b:=rfl
theorem Asp (m d:Nat) (c:Bj m<1099511627776) (hd:0<d) (b:d<4294967296):Th (Ag m) d=some (Ag (m / d),((m % d:Nat):Int)):=by
 have h:=Acp m d c hd b
 unfold Ov at h
 unfold Th
 unfold Bj at c
 rw [Kc rfl rfl (Nat.le_refl _) (by omega) (by omega)] at h ⊢
 simp only [Ad] at h ⊢
 revert h
 generalize An _ _=x
 cases x with
 | none=>intro h; cases h
 | some v=>
  obtain ⟨r,o⟩:=v
  simp only [Ad]
  intro h
  rw [Aja]
  cases ht:Ij o with
  | none=>rw [ht] at h; cases h
  | some y=>
   rw [ht] at h
   simp only [Ad] at h ⊢
   have hy:y=Ag (m / d):=congrArg Prod.fst (Option.some.inj h)
   have:=Acn m d
   unfold Bj at this
   rw [Ds (by rw [hy]; simp; omega)]
   exact h
theorem Ajd (m n:Nat) (V:Bj m<1099511627776) (G:n<=m):Qz (Ag m) (Ag n)=some (Ag (m-n)):=by
 unfold Qz
 have J:(Ag n).length<=(Ag m).length:=Lu G
 unfold Bj at V
 rw [Kc rfl rfl (Nat.le_refl _) (by omega) (by omega)]
 simp only [Ad]
 have ha:=Ef m
 have hb:=Ef n
 refine Gi (fun (c,i,o)=>∃k:Nat,i=k/\k<=(Ag m).length/\o.length=(Ag m).length/\Bp o/\o.drop k=List.replicate ((Ag m).length-k) 0/\0<=c/\c<=1/\Ak o=Ak ((Ag m).take k)-Ak ((Ag n).take k)+1000000000 ^ k*c)
  (fun (_,i,_)=>(Ag m).length-i.toNat) (fun o=>∃c:Int,o.length=(Ag m).length/\Bp o/\0<=c/\c<=1/\Ak o=(m:Int)-n+1000000000 ^ (Ag m).length*c)
  ⟨0,rfl,by omega,by simp,Bp.replicate _,by simp,by omega,by omega,by simp [Ak,Xr]⟩ ?_ ?_
 .rintro ⟨c,i,o⟩ ⟨k,rfl,hk,E,u,y,M,hc,z⟩
  rcases Nat.lt_or_ge k (Ag m).length with h | h
  .have hx:=ha.get h
   have f:k<o.length:=by omega
   have R:=Ky h (by omega)
   have N:decide ((k:Int)<((Ag m).length:Int))=true:=Aj (by omega)
   have b:o[k]=0:=by
    have:=congrArg List.head? y
    rw [List.head?_drop,B0 f] at this
    have x:(List.replicate ((Ag m).length-k) (0:Int)).head? = some 0:=by
     cases X:(Ag m).length-k with
     | zero=>omega
     | succ t=>rfl
    rw [x] at this
    exact Option.some.inj this
   have key:∀s:Int,0<=s->s<=1000000000->Ak ((Ag m).take (k+1))-Ak ((Ag n).take (k+1))=Ak ((Ag m).take k)-Ak ((Ag n).take k)+1000000000 ^ k*((Ag m)[k]-s+c) ->
     ∃(l d:Int),(bif (decide ((Ag m)[k]>=s)) then (some (Sum.inl (0,((k+1:Nat):Int),(Cu o (k:Int) (Cj ((Ag m)[k]-s)))))) else (some (Sum.inl (1,((k+1:Nat):Int),(Cu o (k:Int) (Cj ((Cj ((Ag m)[k]+1000000000))-s)))))):Option ((Int×Int×List Int)⊕List Int))=some (.inl (l,((k+1:Nat):Int),o.set k d)) /\
      (∃q:Nat,((k+1:Nat):Int)=q/\q<=(Ag m).length/\(o.set k d).length=(Ag m).length/\Bp (o.set k d)/\(o.set k d).drop q=List.replicate ((Ag m).length-q) 0/\0<=l/\l<=1/\Ak (o.set k d)=Ak ((Ag m).take q)-Ak ((Ag n).take q)+1000000000 ^ q*l):=by
    intro s h1 h2 g
    have j:∀d:Int,(o.set k d).drop (k+1)=List.replicate ((Ag m).length-(k+1)) 0:=by
     intro d
     rw [List.drop_set_of_lt (by omega),<-List.drop_drop,y,List.drop_replicate]; congr 1
    by_cases hs:(Ag m)[k]>=s
    .have A:Cj ((Ag m)[k]-s)=(Ag m)[k]-s:=Fw (by omega) (by omega)
     refine ⟨0,(Ag m)[k]-s,by rw [Aj hs,cond_true,A,Hn rfl],k+1,rfl,by omega,by simpa using E,u.set _ (by omega) (by omega),j _,by omega,by omega,?_⟩
     rw [Jg _ f,b,g,z]; grind
    .have A:Cj ((Ag m)[k]+1000000000)=(Ag m)[k]+1000000000:=Fw (by omega) (by omega)
     have U:Cj ((Ag m)[k]+1000000000-s)=(Ag m)[k]+1000000000-s:=Fw (by omega) (by omega)
     refine ⟨1,(Ag m)[k]+1000000000-s,by rw [Ap hs,cond_false,A,U,Hn rfl],k+1,rfl,by omega,by simpa using E,u.set _ (by omega) (by omega),j _,by omega,by omega,?_⟩
     rw [Jg _ f,b,g,z,Int.pow_succ]; grind
   refine .inl ?_
   rcases Nat.lt_or_ge k (Ag n).length with hb' | hb'
   .have hy:=hb.get hb'
    have S:Cj (c+(Ag n)[k])=c+(Ag n)[k]:=Fw (by omega) (by omega)
    obtain ⟨l,d,D,B⟩:=key (c+(Ag n)[k]) (by omega) (by omega) (by rw [F4 _ h,F4 _ hb']; grind)
    refine ⟨(l,((k+1:Nat):Int),o.set k d),?_,B,by simp; omega⟩
    rw [<-D]
    simp only [N,cond_true,Dp rfl h,Dp rfl f,Ad,Aj (by omega:(k:Int)<((Ag n).length:Int)),Dp rfl hb',S,R]
   .obtain ⟨l,d,D,B⟩:=key c (by omega) (by omega) (by rw [F4 _ h,Aco (Ag n) hb',Aco (Ag n) (by omega)]; grind)
    refine ⟨(l,((k+1:Nat):Int),o.set k d),?_,B,by simp; omega⟩
    rw [<-D]
    simp only [N,cond_true,Dp rfl h,Dp rfl f,Ad,Ap (by omega:¬(k:Int)<((Ag n).length:Int)),cond_false,R]
  .have L:k=(Ag m).length:=by omega
   subst L
   refine .inr ⟨o,by simp,c,E,u,M,hc,?_⟩
   rw [List.take_length,Aco _ J,Es,Es] at z
   exact z
 .rintro o ⟨c,h2,h3,h4,Z,Y⟩
  have I:=I2 h3
  rw [h2] at I
  have hp:=I1 (Ag m).length
  have:c=0:=by
   rcases Int.lt_or_le 0 c with hc | hc
   .have:c=1:=by omega
    subst this
    omega
   .omega
  subst this
  rw [Pc o (by omega),Ad,Jh h3 (n:=m-n) (by omega)]
end Go.Ab
namespace Go.Ab
open Go
theorem Asq {o:List Int} {k n:Nat} (hk:k<o.length) (h:o.drop k=List.replicate n 0):o[k]=0:=by
 have:=congrArg List.head? h
 rw [List.head?_drop,B0 hk] at this
 cases n with
 | zero=>simp at this
 | succ t=>exact Option.some.inj this
theorem cl1 {o X K c s x y A w:Int} (hs:c+x+w=s) (f:w=y*A) (b:1000000000*(s / 1000000000)+s % 1000000000=s) (z V:Int) (h:o+X*K*c=z+X*(y*V)):o+X*K*(s % 1000000000-x)+X*K*1000000000*(s / 1000000000)=z+X*(y*(V+K*A)):=by grind
set_option maxHeartbeats 1000000 in
theorem Asr (m n:Nat) (hm:Bj m<274877906944) (hn:Bj n<274877906944):On (Ag m) (Ag n)=some (Ag (m*n)):=by
  unfold On
  unfold Bj at hm hn
  have hw:Ac (((Ag m).length:Int)+((Ag n).length:Int))=(((Ag m).length+(Ag n).length:Nat):Int):=by rw [Ac,Bl] <;> omega
  have M:Ac ((((Ag m).length+(Ag n).length:Nat):Int)+1)=(((Ag m).length+(Ag n).length+1:Nat):Int):=by rw [Ac,Bl] <;> omega
  rw [hw,M,Kc rfl rfl (Nat.le_refl _) (by omega) (by omega)]
  simp only [Ad]
  have ha:=Ef m
  have hb:=Ef n
  have D:Ak (Ag n)=n:=Es n
  generalize Ag n=b at *
  generalize hL:b.length=L at *
  refine Gi (fun (i,o)=>∃k:Nat,i=k/\k<=(Ag m).length/\o.length=(Ag m).length+L+1/\Bp o/\o.drop (k+L)=List.replicate ((Ag m).length+1-k) 0/\Ak o=Ak ((Ag m).take k)*n)
    (fun (i,_)=>(Ag m).length-i.toNat) (fun o=>o.length=(Ag m).length+L+1/\Bp o/\Ak o=((m*n:Nat):Int))
    ⟨0,rfl,by omega,by simp,Bp.replicate _,by rw [List.drop_replicate]; congr 1; omega,by simp [Xr,Ak]⟩ ?_ ?_
  . rintro ⟨i,o⟩ ⟨k,rfl,hk,ho,G,U,N⟩
    rcases Nat.lt_or_ge k (Ag m).length with h | h
    . have hx:=ha.get h
      have e4:=Ky h (by omega)
      have e5:decide ((k:Int)<((Ag m).length:Int))=true:=Aj (by omega)
      simp only [e5,cond_true]
      have X:Ae (Ag m) (k:Int)=some (Ag m)[k]:=Dp rfl h
      generalize J:(Ag m)[k]=x at *
      refine .inl (Xp (Eb (fun (c,j,o')=>∃q:Nat,j=q/\o'.length=(Ag m).length+L+1/\Bp o'/\0<=c/\c<1000000000 /\
          ((q<=L/\o'.drop (k+L)=List.replicate ((Ag m).length+1-k) 0/\Ak o' + 1000000000 ^ (k+q)*c=Ak o+1000000000 ^ k*(x*Ak (b.take q))) \/
           (q=L+1/\c=0/\o'.drop (k+1+L)=List.replicate ((Ag m).length+1-(k+1)) 0/\Ak o'=Ak o+1000000000 ^ k*(x*n))))
        (fun (_,j,_)=>L+1-j.toNat) (fun (c,j,o')=>o'.length=(Ag m).length+L+1/\Bp o'/\o'.drop (k+1+L)=List.replicate ((Ag m).length+1-(k+1)) 0/\Ak o'=Ak o+1000000000 ^ k*(x*n))
        ⟨0,rfl,ho,G,by omega,by omega,.inl ⟨by omega,U,by simp [Ak]⟩⟩ ?_ ?_))
      . rintro ⟨c,j,o'⟩ ⟨q,rfl,u,g,A,hc,hq⟩
        rcases hq with ⟨hq,f,l⟩ | ⟨rfl,rfl,f,l⟩
        . have e8:Ac ((k:Int)+(q:Int))=((k+q:Nat):Int):=by rw [Ac,Bl] <;> omega
          have e6:Ac ((q:Int)+1)=((q+1:Nat):Int):=Ky (Nat.lt_succ_self q) (by omega)
          have y:k+q<o'.length:=by omega
          have a1:=g.get y
          have w4:A0 o'[k+q]=o'[k+q]:=Cs (by omega) (by omega)
          have w5:A0 (c+o'[k+q])=c+o'[k+q]:=Cs (by omega) (by omega)
          have p1:(1000000000:Int) ^ (k+(q+1))=1000000000 ^ (k+q)*1000000000:=by rw [<-Nat.add_assoc,Int.pow_succ]
          have Z:(1000000000:Int) ^ (k+q)=1000000000 ^ k*1000000000 ^ q:=Int.pow_add ..
          rcases Nat.lt_or_ge q L with hq' | hq'
          . have B:q<b.length:=by omega
            have hy:=hb.get B
            have a6:=Xv hx.1 hx.2 hy.1 hy.2
            have w1:A0 x=x:=Cs (by omega) (by omega)
            have w2:A0 b[q]=b[q]:=Cs (by omega) (by omega)
            have w3:A0 (x*b[q])=x*b[q]:=Cs (by omega) (by omega)
            have Y:A0 (c+o'[k+q]+x*b[q])=c+o'[k+q]+x*b[q]:=Cs (by omega) (by omega)
            generalize hs:c+o'[k+q]+x*b[q]=s at Y
            have E:0<=s:=by omega
            have a7:s<1000000000000000000:=by omega
            have w7:Cj (s % 1000000000)=s % 1000000000:=Fw (by omega) (by omega)
            refine .inl ⟨(s / 1000000000,((q+1:Nat):Int),o'.set (k+q) (s % 1000000000)),?_,⟨q+1,rfl,by simpa using u,g.set _ (by omega) (by omega),by omega,by omega,.inl ⟨by omega,?_,?_⟩⟩,by simp; omega⟩
            . simp only [Aj (by omega:(q:Int)<(L:Int)),cond_true,Ad,e8,Dp rfl y,X,Dp rfl B,w1,w2,w3,w4,w5,hs,Y,Je E (show (0:Int)<1000000000 by decide),I0 E (show s<=_ by omega) (show (0:Int)<1000000000 by decide),w7,e6,Hn rfl]
            . rw [List.drop_set_of_lt (by omega)]; exact f
            . rw [Jg _ y,F4 _ B,p1,Z]
              rw [Z] at l
              exact cl1 hs rfl (Int.mul_ediv_add_emod s 1000000000) _ _ l
          . have R:q=L:=by omega
            subst R
            by_cases V:c>0
            . have z:o'[k+q]=0:=Asq y f
              refine .inl ⟨(0,((q+1:Nat):Int),o'.set (k+q) c),?_,⟨q+1,rfl,by simpa using u,g.set _ (by omega) (by omega),by omega,by omega,.inr ⟨rfl,rfl,?_,?_⟩⟩,by simp⟩
              . have w8:Cj c=c:=Fw (by omega) (by omega)
                have w9:A0 c=c:=Cs (by omega) (by omega)
                simp only [Ap (by omega:¬(q:Int)<(q:Int)),cond_false,Aj V,cond_true,Ad,e8,Dp rfl y,z,show A0 (0:Int)=0 from rfl,Int.add_zero,w9,Je A (show (0:Int)<1000000000 by decide),I0 A (show c<=_ by omega) (show (0:Int)<1000000000 by decide),Int.emod_eq_of_lt A hc,Int.ediv_eq_zero_of_lt A hc,w8,e6,Hn rfl]
              . rw [List.drop_set_of_lt (by omega),show k+1+q=(k+q)+1 by omega,<-List.drop_drop,f,List.drop_replicate]; congr 1
              . rw [Jg _ y,z,Int.sub_zero]
                rw [List.take_of_length_le (by omega),D] at l
                omega
            . have I:c=0:=by omega
              subst I
              refine .inr ⟨(0,(q:Int),o'),?_,u,g,?_,?_⟩
              . simp only [Ap (by omega:¬(q:Int)<(q:Int)),cond_false,Ad,show decide ((0:Int)>0)=false from rfl]
              . rw [show k+1+q=(k+q)+1 by omega,<-List.drop_drop,f,List.drop_replicate]; congr 1
              . rw [List.take_of_length_le (by omega),D] at l
                omega
        . refine .inr ⟨(0,((L+1:Nat):Int),o'),?_,u,g,f,l⟩
          simp only [Ap (by omega:¬((L+1:Nat):Int)<(L:Int)),cond_false,Ad,show decide ((0:Int)>0)=false from rfl]
      . rintro ⟨c,j,o'⟩ ⟨u,g,f,l⟩
        refine ⟨_,by simp only [e4],(((k+1:Nat):Int),o'),rfl,⟨k+1,rfl,by omega,u,g,f,?_⟩,by simp; omega⟩
        rw [l,F4 _ h,Int.add_mul,<-N,J]; grind
    . have S:k=(Ag m).length:=by omega
      subst S
      refine .inr ⟨o,by simp,ho,G,?_⟩
      rw [List.take_length,Es] at N
      rw [N]; simp
  . rintro o ⟨h2,h3,h4⟩
    rw [Pc o (by omega),Ad,Jh h3 h4]
end Go.Ab
namespace Go.Ab
open Go Ieee
theorem Ass (n d:Nat):∃c,Toward.even.cut false n d=c/\(n / 2 ^ d<=c)/\c<=n / 2 ^ d+1/\(n % 2 ^ d=0->c=n / 2 ^ d):=by
 refine ⟨_,rfl,?_⟩
 unfold Toward.cut
 simp only [Nat.shiftLeft_eq,Nat.one_mul]
 by_cases hd:d<=n.log2+2
 .rw [Nat.min_eq_left hd]
  generalize h2:2 ^ d=g
  have h:0<g:=by rw [<-h2]; exact Nat.pow_pos (by decide)
  refine ⟨by omega,?_,fun h0=>?_⟩
  .have:=Bool.toNat_le (decide (g<2*(n % g))||(g==2*(n % g)&&n / g % 2==1))
   omega
  .rw [h0]
   have h1:decide (g<2*0)=false:=by simp
   have h3:(g==2*0)=false:=by simp; omega
   rw [h1,h3]; rfl
 .rw [Nat.min_eq_right (by omega)]
  have b:n<2 ^ (n.log2+1):=Nat.lt_log2_self
  have h:2 ^ (n.log2+2)=2*2 ^ (n.log2+1):=by rw [Nat.pow_succ]; omega
  have f:2 ^ (n.log2+2)<=2 ^ d:=Nat.pow_le_pow_right (by decide) (by omega)
  have l:n / 2 ^ (n.log2+2)=0:=Nat.div_eq_of_lt (by omega)
  have k:n % 2 ^ (n.log2+2)=n:=Nat.mod_eq_of_lt (by omega)
  have j:n / 2 ^ d=0:=Nat.div_eq_of_lt (by omega)
  have i:n % 2 ^ d=n:=Nat.mod_eq_of_lt (by omega)
  rw [l,k,j,i]
  have h1:decide (2 ^ (n.log2+2)<2*n)=false:=by simp; omega
  have h3:(2 ^ (n.log2+2)==2*n)=false:=by simp; omega
  rw [h1,h3]
  exact ⟨by simp,by simp,fun _=>rfl⟩
theorem Rm (f:Nat) (place e:Int) (x:f≠0) (he:place+f.log2=e) (h1 : -1000<=e) (h2:e<=900) :
  ∃(m:Nat) (p:Int),double.read (double.nearest false f place) = .number false m p/\4503599627370496<=m/\m<9007199254740992/\(p=e-52\/(p=e-51/\m=4503599627370496)):=by
 have g:max (place+f.log2-(double.fractionBits:Int)) double.leastPlace=e-52:=by
  have a:(double.fractionBits:Int)=52:=rfl
  have b:double.leastPlace = -1074:=by decide
  rw [a,b,he]; omega
 have l:double.nearest false f place=min ((e-52+1074).toNat*4503599627370496+Toward.even.cut false (f <<< (place-(e-52)).toNat) ((e-52)-place).toNat) (2047*4503599627370496):=by
  unfold Format.nearest
  rw [if_neg x]
  simp only [g]
  have b:double.leastPlace = -1074:=by decide
  have c:double.binade=4503599627370496:=by decide
  have d:double.infRung=2047*4503599627370496:=by decide
  rw [b,c,d]
  unfold Format.word
  simp only [Bool.false_eq_true,if_false]
  congr 3
 have hk:4503599627370496<=Toward.even.cut false (f <<< (place-(e-52)).toNat) ((e-52)-place).toNat/\Toward.even.cut false (f <<< (place-(e-52)).toNat) ((e-52)-place).toNat<=9007199254740992:=by
  obtain ⟨c,hc,u,s,i⟩:=Ass (f <<< (place-(e-52)).toNat) ((e-52)-place).toNat
  rw [hc]
  have E:2 ^ f.log2<=f:=Nat.log2_self_le x
  have D:f<2 ^ (f.log2+1):=Nat.lt_log2_self
  rw [Nat.shiftLeft_eq] at u s i
  rcases Int.le_total place (e-52) with h | h
  .have z:(place-(e-52)).toNat=0:=by omega
   rw [z,Nat.pow_zero,Nat.mul_one] at u s i
   have hd:f.log2=52+((e-52)-place).toNat:=by omega
   have hp:2 ^ f.log2=4503599627370496*2 ^ ((e-52)-place).toNat:=by rw [hd,Nat.pow_add]
   have q:2 ^ (f.log2+1)=9007199254740992*2 ^ ((e-52)-place).toNat:=by rw [Nat.pow_succ,hp]; omega
   have hpos:0<2 ^ ((e-52)-place).toNat:=Nat.pow_pos (by decide)
   have a1:4503599627370496<=f / 2 ^ ((e-52)-place).toNat:=(Nat.le_div_iff_mul_le hpos).2 (by omega)
   have a2:f / 2 ^ ((e-52)-place).toNat<9007199254740992:=(Nat.div_lt_iff_lt_mul hpos).2 (by omega)
   omega
  .have z:((e-52)-place).toNat=0:=by omega
   rw [z,Nat.pow_zero,Nat.div_one] at u s i
   have I:=i (Nat.mod_one _)
   have hd:52=f.log2+(place-(e-52)).toNat:=by omega
   have hp:2 ^ f.log2*2 ^ (place-(e-52)).toNat=4503599627370496:=by rw [<-Nat.pow_add,<-hd]
   have q:2 ^ (f.log2+1)*2 ^ (place-(e-52)).toNat=9007199254740992:=by rw [Nat.pow_succ,Nat.mul_right_comm,hp]
   have hpos:0<2 ^ (place-(e-52)).toNat:=Nat.pow_pos (by decide)
   have a1:=Nat.mul_le_mul_right (2 ^ (place-(e-52)).toNat) E
   have a2:=Nat.mul_lt_mul_of_pos_right D hpos
   omega
 generalize Toward.even.cut false (f <<< (place-(e-52)).toNat) ((e-52)-place).toNat=c at *
 obtain ⟨t,ht⟩:∃t:Nat,(e-52+1074).toNat=t/\t<=1922/\(t:Int)=e+1022:=⟨_,rfl,by omega,by omega⟩
 rw [ht.1] at l
 rw [Nat.min_eq_left (by omega)] at l
 rw [l]
 have b:double.leastPlace = -1074:=by decide
 have G:double.binade=4503599627370496:=by decide
 have d:double.infRung=2047*4503599627370496:=by decide
 have y:double.signWeight=9223372036854775808:=by decide
 unfold Format.read
 rw [b,G,d,y]
 have B:(t*4503599627370496+c) / 9223372036854775808=0:=Nat.div_eq_of_lt (by omega)
 have A:(t*4503599627370496+c) % 9223372036854775808=t*4503599627370496+c:=Nat.mod_eq_of_lt (by omega)
 simp only [B,A]
 rw [if_neg (by omega),if_pos (by omega)]
 by_cases hc:c<9007199254740992
 .refine ⟨c,e-52,?_,hk.1,hc,.inl rfl⟩
  have k:(t*4503599627370496+c) % 4503599627370496=c-4503599627370496:=by omega
  have j:(t*4503599627370496+c) / 4503599627370496=t+1:=by omega
  rw [k,j,show 4503599627370496+(c-4503599627370496)=c by omega,show (-1074:Int)+((t+1-1:Nat):Int)=e-52 by omega]; rfl
 .have hc:c=9007199254740992:=by omega
  subst hc
  refine ⟨4503599627370496,e-51,?_,by decide,by decide,.inr ⟨rfl,rfl⟩⟩
  have k:(t*4503599627370496+9007199254740992) % 4503599627370496=0:=by omega
  have j:(t*4503599627370496+9007199254740992) / 4503599627370496=t+2:=by omega
  rw [k,j,Nat.add_zero,show (-1074:Int)+((t+2-1:Nat):Int)=e-51 by omega]; rfl
theorem Ac0 (v:Int) (h:0<=v):floatOfInt .f64 v=double.nearest false v.natAbs 0:=by
 have e:decide (v<0)=false:=Ap (by omega)
 show double.nearest (decide (v<0)) v.natAbs 0=_
 rw [e]
theorem Ast:double.read 4876203697187506176 = .number false 7812500000000000 7:=by decide
theorem X1 {n k:Nat} (h1:2 ^ k<=n) (h2:n<2 ^ (k+1)):n.log2=k:=(Nat.log2_eq_iff (by have:=Nat.pow_pos (n:=k) (show 0<2 by decide); omega)).2 ⟨h1,h2⟩
theorem Uf {n k:Nat} (h:n<2 ^ (k+1)):n.log2<=k:=by
 by_cases h0:n=0
 .subst h0; simp
 .have:=(Nat.log2_lt h0).2 h; omega
theorem Ac1 {n k:Nat} (h:2 ^ k<=n):k<=n.log2:=(Nat.le_log2 (by have:=Nat.pow_pos (n:=k) (show 0<2 by decide); omega)).2 h
theorem Asu (x:Int) (h0:1<=x) (h1:x<1000000000):∃(w:Nat) (m:Nat) (p:Int),floatBits .mul .f64 (floatOfInt .f64 x) 4876203697187506176=some w/\double.read w = .number false m p/\4503599627370496<=m/\m<9007199254740992/\7<=p/\(p<=37\/(p=38/\m=4503599627370496)):=by
 have l:x.natAbs.log2<=29:=Uf (by simp; omega)
 obtain ⟨m1,b,g,a1,a2,a3⟩:=Rm x.natAbs 0 (x.natAbs.log2) (by omega) (by omega) (by omega) (by omega)
 have c:(m1*7812500000000000).log2=104\/((m1*7812500000000000).log2=105/\m1≠4503599627370496):=by
  have b1:2 ^ 104<=m1*7812500000000000:=by omega
  have b2:m1*7812500000000000<2 ^ 106:=by omega
  rcases Nat.lt_or_ge (m1*7812500000000000) (2 ^ 105) with h | h
  .exact .inl (X1 b1 h)
  .exact .inr ⟨X1 h b2,by rintro rfl; omega⟩
 obtain ⟨m2,i,f,k,j,q⟩:=Rm (m1*7812500000000000) (b+7) (b+7+(m1*7812500000000000).log2) (by omega) rfl (by omega) (by omega)
 refine ⟨double.nearest false (m1*7812500000000000) (b+7),m2,i,?_,f,k,j,by omega,by omega⟩
 show ((double.read (floatOfInt .f64 x)).product (double.read 4876203697187506176)).map double.write=_
 rw [Ac0 x (by omega),g,Ast]; rfl
theorem Asv (w:Nat) (m:Nat) (p:Int) (G:double.read w = .number false m p) (N:4503599627370496<=m) (M:m<9007199254740992) (J:7<=p) (j:p<=37\/(p=38/\m=4503599627370496)) (y:Int) (h0:0<=y) (h1:y<1000000000000000000) :
  ∃(w':Nat) (g:Nat) (f:Int),floatBits .add .f64 w (floatOfInt .f64 y)=some w'/\double.read w' = .number false g f/\4503599627370496<=g/\g<9007199254740992/\7<=f/\f<=39:=by
 obtain ⟨c,b,x,X,V⟩:∃(c:Nat) (b:Int),double.read (floatOfInt .f64 y) = .number false c b/\b<=8/\c<9007199254740992/\-1074<=b:=by
  rw [Ac0 y h0]
  by_cases hy:y.natAbs=0
  .rw [hy]; exact ⟨0,-1074,by decide,by decide,by decide,by decide⟩
  .have hl:y.natAbs.log2<=59:=Uf (by simp; omega)
   obtain ⟨m1,D,A,a1,a2,a3⟩:=Rm y.natAbs 0 (y.natAbs.log2) hy (by omega) (by omega) (by omega)
   exact ⟨m1,D,A,by omega,a2,by omega⟩
 generalize hb:min p b=base
 have ht:∃T:Nat,signed false m (p-base).toNat+signed false c (b-base).toNat=(T:Int)/\T=m*2 ^ (p-base).toNat+c*2 ^ (b-base).toNat:=by
  refine ⟨m <<< (p-base).toNat+c <<< (b-base).toNat,rfl,by rw [Nat.shiftLeft_eq,Nat.shiftLeft_eq]⟩
 obtain ⟨T,t1,t2⟩:=ht
 have I:0<2 ^ (p-base).toNat:=Nat.pow_pos (by decide)
 have i:2 ^ (b-base).toNat<=2 ^ (8-base).toNat:=Nat.pow_le_pow_right (by decide) (by omega)
 have L:m*2 ^ (p-base).toNat<=2 ^ (90-base).toNat:=by
  rcases j with h | ⟨rfl,rfl⟩
  .have e:2 ^ (90-base).toNat=2 ^ (p-base).toNat*2 ^ (90-p).toNat:=by rw [<-Nat.pow_add]; congr 1; omega
   have e2:2 ^ 53<=2 ^ (90-p).toNat:=Nat.pow_le_pow_right (by decide) (by omega)
   rw [e,Nat.mul_comm]
   exact Nat.mul_le_mul_left _ (by omega)
  .have e:2 ^ (90-base).toNat=2 ^ (38-base).toNat*2 ^ 52:=by rw [<-Nat.pow_add]; congr 1; omega
   rw [e,Nat.mul_comm]; omega
 have E:c*2 ^ (b-base).toNat<2 ^ (90-base).toNat:=by
  have e:2 ^ (90-base).toNat=2 ^ (8-base).toNat*2 ^ 82:=by rw [<-Nat.pow_add]; congr 1; omega
  have e3:c*2 ^ (b-base).toNat<=c*2 ^ (8-base).toNat:=Nat.mul_le_mul_left _ i
  have R:0<2 ^ (8-base).toNat:=Nat.pow_pos (by decide)
  have e5:c*2 ^ (8-base).toNat<2 ^ 82*2 ^ (8-base).toNat:=Nat.mul_lt_mul_of_pos_right (by omega) R
  rw [e,Nat.mul_comm (2 ^ (8-base).toNat)]; omega
 have s:T<2 ^ ((90-base).toNat+1):=by rw [Nat.pow_succ]; omega
 have q:2 ^ (52+(p-base).toNat)<=T:=by
  have:2 ^ 52*2 ^ (p-base).toNat<=m*2 ^ (p-base).toNat:=Nat.mul_le_mul_right _ (by omega)
  rw [Nat.pow_add]; omega
 have Z:=Uf s
 have Y:=Ac1 q
 have u:T≠0:=by
  have:=Nat.pow_pos (n:=52+(p-base).toNat) (show 0<2 by decide); omega
 obtain ⟨m3,B,z,U,S,c3⟩:=Rm T base (base+T.log2) u rfl (by omega) (by omega)
 refine ⟨double.nearest false T base,m3,B,?_,z,U,S,by omega,by omega⟩
 show ((double.read w).sum (double.read (floatOfInt .f64 y))).map double.write=_
 rw [G,x]
 have l:¬((T:Int)=0):=by omega
 have k:decide ((T:Int)<0)=false:=Ap (by omega)
 simp only [Datum.sum,hb,t1,if_neg l,k,Option.map_some,Int.natAbs_natCast,Format.write]
theorem Asw {b m N:Nat} {p:Int} (g:double.read b = .number false m p) (i:(Datum.number false m p).toInt .zero=some (N:Int)) (h:N<=9223372036854775808):floatToIntVal .f64 b .u64=some (N:Int):=by
 have hd:FloatKind.f64.decode b = .number false m p:=g
 have f:IntKind.u64.min=0:=by decide
 have c:IntKind.u64.max=18446744073709551615:=by decide
 unfold floatToIntVal
 rw [hd,i]
 simp only [f,c]
 rw [if_pos ⟨by omega,by omega⟩]
theorem Asx (w:Nat) (m:Nat) (p:Int) (D:double.read w = .number false m p) (R:4503599627370496<=m) (M:m<9007199254740992) (L:7<=p) (J:p<=39) (z:Int) (h0:1000000000<=z) (h1:z<1000000000000000000) :
  ∃(w':Nat) (n:Int),floatBits .quo .f64 w (floatOfInt .f64 z)=some w'/\floatToIntVal .f64 w' .u64=some n/\0<=n/\n<=9223372036854775808:=by
 have U:z.natAbs.log2<=59:=Uf (by simp; omega)
 have S:29<=z.natAbs.log2:=Ac1 (by simp; omega)
 obtain ⟨f,c,l,a1,a2,a3⟩:=Rm z.natAbs 0 (z.natAbs.log2) (by omega) (by omega) (by omega) (by omega)
 have B:m.log2=52:=X1 (by omega) (by omega)
 have x:f.log2=52:=X1 (by omega) (by omega)
 generalize hq:m*2 ^ 54 / f=q
 generalize hs:((m*2 ^ 54 % f != 0).toNat)=s
 have E:s<=1:=by rw [<-hs]; exact Bool.toNat_le _
 have I:q<2 ^ 55:=by rw [<-hq]; exact (Nat.div_lt_iff_lt_mul (by omega)).2 (by omega)
 have G:2 ^ 53<=q:=by rw [<-hq]; exact (Nat.le_div_iff_mul_le (by omega)).2 (by omega)
 have A:(2*q+s).log2<=55:=Uf (by omega)
 have y:54<=(2*q+s).log2:=Ac1 (by omega)
 obtain ⟨m4,b,u,Z,X,Y⟩:=Rm (2*q+s) (p-c-(54:Nat)-1) (p-c-(54:Nat)-1+(2*q+s).log2) (by omega) rfl (by omega) (by omega)
 have j:(Datum.number false m p).quotient (double.fractionBits+2) (Datum.number false f c)=some (.number false (2*q+s) (p-c-(54:Nat)-1)):=by
  have i:¬f=0:=by omega
  have fb:double.fractionBits+2=54:=rfl
  simp only [Datum.quotient,if_neg i,fb,B,x,Nat.shiftLeft_eq,Nat.add_sub_cancel,hq,hs,Bool.xor_self]
 have hb:m4*2 ^ b.toNat<=9223372036854775808:=by
  have k:b<=10\/(b=11/\m4=4503599627370496):=by omega
  rcases k with h | ⟨rfl,rfl⟩
  .have:2 ^ b.toNat<=2 ^ 10:=Nat.pow_le_pow_right (by decide) (by omega)
   have:=Nat.mul_le_mul (Nat.le_of_lt X) this
   omega
  .decide
 obtain ⟨N,V,g⟩:∃N:Nat,(Datum.number false m4 b).toInt .zero=some (N:Int)/\N<=9223372036854775808:=by
  refine ⟨(m4 <<< b.toNat) / (1 <<< min (-b).toNat ((m4 <<< b.toNat).log2+2)),?_,?_⟩
  .simp only [Datum.toInt,Datum.integral,Toward.cut,signed,Bool.false_eq_true,if_false,Nat.shiftLeft_zero,Bool.toNat_false,Nat.add_zero]
  .rw [Nat.shiftLeft_eq m4]
   exact Nat.le_trans (Nat.div_le_self _ _) hb
 refine ⟨double.nearest false (2*q+s) (p-c-(54:Nat)-1),(N:Int),?_,?_,by omega,by omega⟩
 .have e:floatBits .quo .f64 w (floatOfInt .f64 z)=((double.read w).quotient (double.fractionBits+2) (double.read (floatOfInt .f64 z))).map double.write:=rfl
  rw [e,D,Ac0 z (by omega),l,j]
  simp only [Option.map_some,Format.write]
 .exact Asw u V g
theorem Asy (r n:Nat) (h2:2<=Bj n) (E:Bj r<=Bj n+1) (G:Bj n<1099511627776):∃d:Nat,Ti (Ag r) (Ag n)=some (d:Int)/\d<1000000000:=by
 unfold Ti
 unfold Bj at h2 E G
 have c:n≠0:=by rintro rfl; rw [El] at h2; simp at h2
 by_cases V:(Ag r).length<(Ag n).length
 .exact ⟨0,by rw [Aj (by omega)]; rfl,by decide⟩
 .rw [Ap (by omega),cond_false]
  have y:Ac (((Ag n).length:Int)-1)=(((Ag n).length-1:Nat):Int):=by rw [Ac,Bl] <;> omega
  have u:Ac (((Ag n).length:Int)-2)=(((Ag n).length-2:Nat):Int):=by rw [Ac,Bl] <;> omega
  have i1:(Ag n).length-1<(Ag n).length:=by omega
  have i2:(Ag n).length-2<(Ag n).length:=by omega
  have h:(Ag n).length-1<(Ag r).length:=by omega
  have g:(Ag n).length-2<(Ag r).length:=by omega
  have t1:=(Ef n).get i1
  have t2:=(Ef n).get i2
  have M:=(Ef r).get h
  have L:=(Ef r).get g
  have i:(Ag n)[(Ag n).length-1]≠0:=by
   have:=(Rj n).2 (G0 c)
   rwa [List.getLast_eq_getElem] at this
  rw [y,u,Dp rfl i1,Ad,Dp rfl i2,Ad,Dp rfl h,Ad,Dp rfl g,Ad]
  generalize (Ag n)[(Ag n).length-1]=a1 at *
  generalize (Ag n)[(Ag n).length-2]=a2 at *
  generalize (Ag r)[(Ag n).length-1]=b1 at *
  generalize (Ag r)[(Ag n).length-2]=b2 at *
  have l:A0 (A0 (A0 b1*1000000000)+A0 b2)=b1*1000000000+b2:=by
   rw [show A0 b1=b1 from Cs (by omega) (by omega),show A0 b2=b2 from Cs (by omega) (by omega),show A0 (b1*1000000000)=b1*1000000000 from Cs (by omega) (by omega)]
   exact Cs (by omega) (by omega)
  have j:A0 (A0 (A0 a1*1000000000)+A0 a2)=a1*1000000000+a2:=by
   rw [show A0 a1=a1 from Cs (by omega) (by omega),show A0 a2=a2 from Cs (by omega) (by omega),show A0 (a1*1000000000)=a1*1000000000 from Cs (by omega) (by omega)]
   exact Cs (by omega) (by omega)
  rw [l,j]
  by_cases he:(Ag r).length=(Ag n).length
  .rw [Da (by omega),cond_true,I0 (by omega) (by omega) (by omega),Ad]
   have R:0<=(b1*1000000000+b2) / (a1*1000000000+a2):=Int.ediv_nonneg (by omega) (by omega)
   have N:(b1*1000000000+b2) / (a1*1000000000+a2)<1000000000:=Int.ediv_lt_of_lt_mul (by omega) (by omega)
   exact ⟨((b1*1000000000+b2) / (a1*1000000000+a2)).toNat,by congr 1; omega,by omega⟩
  .have hk:(Ag n).length<(Ag r).length:=by omega
   have b:r≠0:=by rintro rfl; rw [El] at hk; simp at hk
   have J:=(Ef r).get hk
   have f:(Ag r)[(Ag n).length]≠0:=by
    have:=(Rj r).2 (G0 b)
    rw [List.getLast_eq_getElem] at this
    have e:(Ag r).length-1=(Ag n).length:=by omega
    simpa [e] using this
   rw [B2 (by omega),cond_false,Dp rfl hk,Ad]
   generalize (Ag r)[(Ag n).length]=x at *
   obtain ⟨s,m3,A,f1,f2,f3,f4,f5,f6⟩:=Asu x (by omega) (by omega)
   obtain ⟨q,m4,z,g1,g2,g3,g4,g5,g6⟩:=Asv s m3 A f2 f3 f4 f5 f6 (b1*1000000000+b2) (by omega) (by omega)
   obtain ⟨I,k,D,B,U,S⟩:=Asx q m4 z g2 g3 g4 g5 g6 (a1*1000000000+a2) (by omega) (by omega)
   rw [f1,Ad,g1,Ad,D,Ad,B,Ad,show A0 (k+2)=k+2 from Cs (by omega) (by omega)]
   by_cases hc:(999999999:Int)<k+2
   .exact ⟨999999999,by rw [if_pos hc]; rfl,by decide⟩
   .exact ⟨(k+2).toNat,by rw [if_neg hc]; congr 1; omega,by omega⟩
end Go.Ab
