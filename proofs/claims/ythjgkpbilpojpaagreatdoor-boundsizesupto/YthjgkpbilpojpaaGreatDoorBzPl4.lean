/- Plain laws: what the plain functions answer. -/
import Derived.Test.YthjgkpbilpojpaaGreatDoorBzPl3
namespace Go.Ab
open Go
theorem Zb {α β:Type} {z:β} {X:Option (α×β)} {P:α->Prop} (h:∃r,X=some r/\∃R,r=(R,z)/\P R):∃R,X=some (R,z)/\P R:=by
 obtain ⟨r,h1,R,rfl,h2⟩:=h
 exact ⟨R,h1,h2⟩
theorem Axp {A:List Bb} {B:List Ent} (f:A = []) (h:IsE A B):B = [([],1)]:=by
 obtain ⟨gs,g,p,_,c,rfl⟩:=h
 subst f
 have b:g = []:=List.perm_nil.1 p
 cases c with
 | nil=>rfl
 | cons h1 _ _ _ _=>exact absurd (List.append_eq_nil_iff.1 b).1 h1
theorem Axq {w:Int} (hw:w=0\/w=1) {c:Ak} {k:Nat} (hk:k<=5) (hc:RB 10 c) {b1:List (ByteArray×Int)} {b2:List (ByteArray×List B7)} (l:Dj lX.Data lX.Vars lX.Res b1) (j:Lj b2) :
  ∃out g f,N8 c ⟨(mK w k).Factors,[]⟩ b1 b2 lX.Data lX.Vars lX.Res.Kind lX.Res.Num lX.Res.Args=some (out,0,g,f)/\out.length<=1/\(∀t∈out,RB 2464 t.Coef/\t.Mono=mK w k)/\Dj lX.Data lX.Vars lX.Res g/\Lj f:=by
 obtain ⟨hf,h⟩:=Y9 hw
 have s:=h k hk
 by_cases h0:rq c=0
 .refine ⟨[],b1,b2,?_,by simp,fun t ht=>(by cases ht),l,j⟩
  unfold N8
  rw [(Yn hc (by decide)).1,Ad,h0]; rfl
 .have y:Atk []:=⟨fun a ha=>(by cases ha),fun a ha=>(by cases ha),by simp [Dc],by simp⟩
  obtain ⟨out,B,d1,d2,E,D,q,_,A,z,_⟩:=Aw4 (hf.ctx R4) hc (by decide) h0 (Aw9 R4 s) y l j
  have x:=Axp rfl D
  subst x
  refine ⟨out,d1,d2,E,by rw [q.len]; simp,fun t ht=>?_,A,z⟩
  obtain ⟨i,u⟩:=List.getElem?_of_mem ht
  obtain ⟨b,g1,g2,g3,g4⟩:=q.get u
  have hb:b=([],1):=by
   have:=Cm g1
   simpa using this
  subst hb
  refine ⟨g4,g2.trans ?_⟩
  cases k <;> rfl
structure PT (w:Int) (p:List Ai):Prop where
 len:p.length<=6
 tm:∀(j:Nat) (t:Ai),p[j]? = some t->t.Mono=mK w j/\RB 10 t.Coef
structure RK (w:Int) (R:List Ai):Prop where
 cp:CP R
 tm:∀t∈R,PK w t.Mono/\RB 20000 t.Coef
 len:R.length<=6
theorem RK.can {w:Int} (hw:w=0\/w=1) {R:List Ai} (h:RK w R):Ip lX R :=
 Ip.of h.cp (fun t ht=>(h.tm t ht).1.can hw) (fun t ht=>(h.tm t ht).2.mono (by decide)) (by have:=h.len; omega)
theorem Axr {w:Int} (hw:w=0\/w=1) {p:List Ai} (hp:PT w p):∃R,Sr lX p=some (R,0)/\RK w R:=by
 obtain ⟨hf,B⟩:=Y9 hw
 have b:=hf.ctx R4
 have a1:=hp.len
 obtain ⟨b',hb,z⟩:=Avx R4 (ps:=[]) (fun q hq=>(by cases hq)) (by simp) ⟨hf,fun q hq=>(by cases hq)⟩
 unfold Sr
 rw [hb]
 refine Zb ?_
 simp only [Ad,bnt,cond_false,Sv]
 have l:∀(j:Nat) (t:Ai),p[j]? = some t->Jh lX t.Mono/\j<=5:=fun j t ht=>by
  have:=E2 ht
  rw [(hp.tm j t ht).1]
  exact ⟨B j (by omega),by omega⟩
 refine D6 (fun s=>∃(j:Nat) (o:List (ByteArray×Int)),s=((j:Int),o)/\j<=p.length/\Dj lX.Data lX.Vars lX.Res o) (fun s=>p.length-s.1.toNat)
  (fun e=>∃o,e = .inr o/\Dj lX.Data lX.Vars lX.Res o) ⟨0,b',rfl,by omega,z⟩ ?_ ?_
 .rintro s ⟨j,o,rfl,I,g⟩
  rcases Nat.lt_or_ge j p.length with h | h
  .have hx:p[j]? = some p[j]:=Ci h
   generalize p[j]=t at hx
   obtain ⟨hc,_⟩:=l j t hx
   obtain ⟨d,d1,d2⟩:=Ajz (b2:=[]) b g t.Mono hc.2
   rw [Alv hc.f] at d1
   left
   simp only [Ao (by omega:(j:Int)<(p.length:Int)),cond_true,Ch rfl hx,Ad,d1,bnt,cond_false,C9 h (by omega)]
   exact ⟨_,rfl,⟨j+1,d,rfl,by omega,d2⟩,by simp only [Int.toNat_natCast]; omega⟩
  .have:j=p.length:=by omega
   subst this
   exact .inr ⟨.inr o,by simp only [Av (by omega:¬(p.length:Int)<(p.length:Int)),cond_false],o,rfl,g⟩
 rintro e ⟨o0,rfl,y⟩
 dsimp only
 refine D6 (fun s=>∃(j:Nat) (o:List (ByteArray×Int)),s=((j:Int),o)/\j<=p.length/\Dj lX.Data lX.Vars lX.Res o) (fun s=>p.length-s.1.toNat)
  (fun e=>∃o,e = .inr o/\Dj lX.Data lX.Vars lX.Res o) ⟨0,o0,rfl,by omega,y⟩ ?_ ?_
 .rintro s ⟨j,o,rfl,I,g⟩
  rcases Nat.lt_or_ge j p.length with h | h
  .have hx:p[j]? = some p[j]:=Ci h
   generalize p[j]=t at hx
   obtain ⟨hc,_⟩:=l j t hx
   obtain ⟨⟨d,c⟩,d1,d2,d3⟩:=Aw7 (b1:=o) [] b g t.Mono hc.2 (Alv hc.f)
   have hd:=hc.f.deg
   unfold Alt at hd
   have A:¬d>6:=by
    dsimp only at d2
    omega
   left
   simp only [Ao (by omega:(j:Int)<(p.length:Int)),cond_true,Ch rfl hx,Ad,d1,Av A,cond_false,C9 h (by omega)]
   exact ⟨_,rfl,⟨j+1,c,rfl,by omega,d3⟩,by simp only [Int.toNat_natCast]; omega⟩
  .have:j=p.length:=by omega
   subst this
   exact .inr ⟨.inr o,by simp only [Av (by omega:¬(p.length:Int)<(p.length:Int)),cond_false],o,rfl,g⟩
 rintro e ⟨o1,rfl,x⟩
 dsimp only
 rw [Av (by omega),cond_false]
 refine D6 (fun s=>∃(j:Nat) (o:List (ByteArray×Int)) (q:List (ByteArray×List B7)) (ts:List Ai),s=((j:Int),o,q,plc ts,ts)/\j<=p.length/\Dj lX.Data lX.Vars lX.Res o/\Lj q/\Col (2464+j*2467) (PK w) ts/\ts.length<=j) (fun s=>p.length-s.1.toNat)
  (fun e=>∃(o:List (ByteArray×Int)) (q:List (ByteArray×List B7)) (ts:List Ai),e = .inr (o,q,plc ts,ts)/\Col 19000 (PK w) ts/\ts.length<=6) ⟨0,o1,[],[],rfl,by omega,x,fun p hp=>(by cases hp),Col.nil _ _,by simp⟩ ?_ ?_
 .rintro s ⟨j,o,q,ts,rfl,I,g,hq,i,hl⟩
  rcases Nat.lt_or_ge j p.length with h | h
  .have hx:p[j]? = some p[j]:=Ci h
   generalize p[j]=t at hx
   obtain ⟨t1,t2⟩:=hp.tm j t hx
   have a6:t.Mono.Atoms.length=0:=by rw [t1]; cases j <;> rfl
   obtain ⟨out,L,J,V,U,E,S,N⟩:=Axq hw (k:=j) (by omega) t2 g hq
   obtain ⟨v,X,v2,v3,_⟩:=Au7 (P:=PK w) (fun m h=>(h.can hw).cmo) out ts i (k:=2464) (fun u hu=>⟨(E u hu).1,j,by omega,(E u hu).2⟩) (by omega) (by omega) (by omega)
   left
   refine O2 ?_
   simp only [Ao (by omega:(j:Int)<(p.length:Int)),cond_true,Ch rfl hx,Ad,C9 h (by omega)]
   have D:¬(0:Int)<(t.Mono.Atoms.length:Int):=by omega
   refine ⟨.inl (((j+1:Nat):Int),L,J,plc v,v),?_,_,rfl,⟨j+1,L,J,v,rfl,by omega,S,N,⟨v2.dst,fun t ht=>(v2.tb t ht).mono ?_,v2.mo⟩,by omega⟩,by simp only [Int.toNat_natCast]; omega⟩
   .refine bnd (a:=.inr (0,[])) (Eh ?_) ?_
    .simp only [Av D,cond_false]
    .dsimp only
     rw [t1,V,Ad]
     dsimp only
     rw [F8 rfl,cond_false,Av (by omega),cond_false,X,Ad]
   .have:out.length*(2464+3)<=1*(2464+3):=Nat.mul_le_mul_right _ U
    omega
  .have:j=p.length:=by omega
   subst this
   exact .inr ⟨.inr (o,q,plc ts,ts),by simp only [Av (by omega:¬(p.length:Int)<(p.length:Int)),cond_false],o,q,ts,rfl,⟨i.dst,fun t ht=>(i.tb t ht).mono (by omega),i.mo⟩,by omega⟩
 rintro e ⟨o,q,ts,rfl,i,hl⟩
 obtain ⟨R,Z,Y,_,G,r5⟩:=Avp (P:=PK w) (fun m h=>(h.can hw).cmo) (plc ts) ts i (by decide) (by omega) (fun M _ h2 h3=>Avw M h2 h3)
 exact ⟨(R,0),by dsimp only; rw [Z]; rfl,R,rfl,Y,fun t ht=>⟨(G t ht).1,(G t ht).2.mono (by decide)⟩,by omega⟩
end Go.Ab
namespace Go.Ab
open Go
def rV (n:Nat):List Ai->Rat
 | []=>0
 | t::l=>rq t.Coef*(bc n (dM t.Mono):Rat)+rV n l
theorem Adz (n:Nat) (t:Ai):∀l:List Ai,rV n (l++[t])=rV n l+rq t.Coef*(bc n (dM t.Mono):Rat)
 | []=>by simp only [List.nil_append,rV]; grind
 | u::l=>by simp only [List.cons_append,rV,Adz n t l]; grind
def eV (n:Nat):Nat->List Ak->Rat
 | _,[]=>0
 | k,a::l=>rq a*(bc n k:Rat)+eV n (k+1) l
theorem Ad0 (n:Nat) (a:Ak):∀(l:List Ak) (k:Nat),eV n k (l++[a])=eV n k l+rq a*(bc n (k+l.length):Rat)
 | [],k=>by simp only [List.nil_append,eV,List.length_nil,Nat.add_zero]; grind
 | b::l,k=>by
  simp only [List.cons_append,eV,Ad0 n a l (k+1),List.length_cons]
  rw [show k+1+l.length=k+(l.length+1) by omega]; grind
theorem Alw (n:Nat) (a b:Ak):∀(l:List Ak) (k d:Nat),l[d]? = some a->eV n k (l.set d b)=eV n k l+(rq b-rq a)*(bc n (k+d):Rat)
 | [],k,d,h=>by simp at h
 | c::l,k,0,h=>by
  simp only [List.getElem?_cons_zero,Option.some.injEq] at h
  subst h
  simp only [List.set_cons_zero,eV,Nat.add_zero]; grind
 | c::l,k,d+1,h=>by
  simp only [List.getElem?_cons_succ] at h
  simp only [List.set_cons_succ,eV,Alw n a b l (k+1) d h]
  rw [show k+1+d=k+(d+1) by omega]; grind
theorem Axs {w:Int} (hw:w=0\/w=1) {m:Bc} (h:PK w m):m.Atoms.length=0/\m.Factors.length<=1/\∀(i:Nat) (f:Bq),m.Factors[i]? = some f->f.Var=w/\Gj lX f=some (1,(dM m:Int),true):=by
 obtain ⟨k,hk,rfl⟩:=h
 cases k with
 | zero=>exact ⟨rfl,by simp [mK],fun i f hf=>by simp [mK] at hf⟩
 | succ k=>
  refine ⟨rfl,by simp [mK],fun i f hf=>?_⟩
  have:f=⟨w,mI (k+1)⟩:=by
   have:=Cm hf
   simpa [mK] using this
  subst this
  rw [Za]
  exact ⟨rfl,Ady hw (by omega)⟩
theorem Alx {w:Int} (hw:w=0\/w=1) {R:List Ai} (h:RK w R):P9 lX R=some true:=by
 obtain ⟨hf,_⟩:=Y9 hw
 have k:=h.can hw
 obtain ⟨b,b1,b2⟩:=Aj6 lX R4 R k.sz
 have hb:b=true:=b2.2 ⟨hf,k.can⟩
 subst hb
 have s:=h.len
 unfold P9
 rw [b1,Ad]
 simp only [bnt,cond_false]
 refine Hw R (fun j=>(j:Int)) rfl (by omega) ?_ ?_
 .intro j t u ht h1 h2 h3
  obtain ⟨q,l,g⟩:=Axs hw (h.tm t (Cm ht)).1
  simp only [h1,h2,h3,cond_true,Ad,Av (by omega:¬(t.Mono.Atoms.length:Int)>0),cond_false]
  refine Hw t.Mono.Factors (fun i=>(i:Int)) rfl (by omega) ?_ ?_
  .intro i f x c g1 g2 g3
   simp only [g1,g2,g3,cond_true,Ad,(g i f c).2,bnt,cond_false]
  .intro g1
   exact ⟨.inr (t.Mono.Factors.length:Int),by simp only [g1,cond_false],rfl⟩
 .intro h1
  exact ⟨.inr (),by simp only [h1,cond_false],rfl⟩
theorem Axt {d:Nat} (hd:d<=5) {r:List Ak} (l:r.length<=6) (j:∀a∈r,RB 20001 a) :
  ∃o,Al (S:=(List Ak)) (E:=(List Ak)) (fun b=>
   bif (decide (((b.length:Nat):Int)<=(d:Int))) then (
   (Eo 0).bind fun v58=>
   (B4 56 b [v58]).bind fun c=>
   some (.inl c)
   )
   else (
   some (.inr b)
   )
    ) r=some o/\d<o.length/\o.length<=6/\(∀a∈o,RB 20001 a)/\(∀n,eV n 0 o=eV n 0 r)/\∀(k:Nat) a,o[k]? = some a->rq a≠0->r[k]? = some a:=by
 refine Ln (fun o:List Ak=>o.length<=6/\(∀a∈o,RB 20001 a)/\(∀n,eV n 0 o=eV n 0 r)/\∀(k:Nat) a,o[k]? = some a->rq a≠0->r[k]? = some a) (fun o=>7-o.length)
  (fun o=>d<o.length/\o.length<=6/\(∀a∈o,RB 20001 a)/\(∀n,eV n 0 o=eV n 0 r)/\∀(k:Nat) a,o[k]? = some a->rq a≠0->r[k]? = some a) ?_ r ⟨l,j,fun _=>rfl,fun _ _ h _=>h⟩
 rintro o ⟨q,i,g,on⟩
 by_cases h:o.length<=d
 .left
  rw [Ao (by omega),cond_true,Yy,Ad,Dp (by simp; omega),Ad]
  refine ⟨_,rfl,⟨by simp; omega,fun a ha=>?_,fun n=>?_,fun k a hk h0=>?_⟩,by simp; omega⟩
  .rcases List.mem_append.1 ha with ha | ha
   .exact i a ha
   .rw [List.mem_singleton] at ha
    subst ha
    exact (Rw (k:=1) (by rw [Q9]; decide) (by decide)).mono (by decide)
  .rw [Ad0,g,Nn,show ((0:Nat):Rat)=0 from rfl]; grind
  .rcases Nat.lt_or_ge k o.length with f | hge
   .rw [List.getElem?_append_left f] at hk
    exact on k a hk h0
   .rw [List.getElem?_append_right hge] at hk
    have:=Cm hk
    rw [List.mem_singleton] at this
    subst this
    exact absurd (Nn 0) h0
 .right
  exact ⟨o,by rw [Av (by omega),cond_false],by omega,q,i,g,on⟩
theorem Axu {w:Int} (hw:w=0\/w=1) {R:List Ai} (h:RK w R):∃r,P3 lX R w 1=some (r,true)/\r.length<=6/\(∀a∈r,RB 20001 a)/\∀n,eV n 0 r=rV n R:=by
 have hl:=h.len
 unfold P3
 rw [Alx hw h,Ad]
 simp only [bnt,cond_false]
 refine Zb ?_
 refine D6 (fun s=>∃(j:Nat) (r:List Ak),s=((j:Int),r)/\j<=R.length/\r.length<=6/\(∀a∈r,RB 20001 a)/\(∀n,eV n 0 r=rV n (R.take j))/\∀(k:Nat) a,r[k]? = some a->rq a≠0->∃i t,i<j/\R[i]? = some t/\dM t.Mono=k) (fun s=>R.length-s.1.toNat)
  (fun e=>∃r,e = .inr r/\r.length<=6/\(∀a∈r,RB 20001 a)/\∀n,eV n 0 r=rV n R) ⟨0,[],rfl,by omega,by simp,fun a ha=>(by cases ha),fun n=>rfl,fun k a h=>by simp at h⟩ ?_ ?_
 .rintro s ⟨j,r,rfl,hj,G,rb,y,f⟩
  rcases Nat.lt_or_ge j R.length with hh | hh
  .have hx:R[j]? = some R[j]:=Ci hh
   generalize R[j]=t at hx
   obtain ⟨hk,hR⟩:=h.tm t (Cm hx)
   obtain ⟨Z,B⟩:=hk.eq
   have D:(show Option (Int⊕((List Ak)×Bool)) from
     bif ((t.Mono.Factors.length:Int)==(0:Int)) then (
     some (.inl 0)
     )
     else (
     bif ((t.Mono.Factors.length:Int)==(1:Int)) then (
     (Af t.Mono.Factors 0).bind fun x=>
     (Gj lX x).bind fun v49=>
     (Af t.Mono.Factors 0).bind fun v50=>
     bif (v50.Var != w) then (
     some (.inr ([],false))
     )
     else (
     bif (v49.1 != 1) then (
     some (.inr ([],false))
     )
     else (
     some (.inl v49.2.1)
     )
     )
     )
     else (
     some (.inr ([],false))
     )
     )
     )=some (.inl (dM t.Mono:Int)):=by
    generalize t.Mono=m at hk
    obtain ⟨k,Y,rfl⟩:=hk
    rw [Za]
    cases k with
    | zero=>rfl
    | succ k=>
     have i0:Af (mK w (k+1)).Factors 0=some ⟨w,mI (k+1)⟩:=rfl
     have i1:(((mK w (k+1)).Factors.length:Nat):Int)=1:=rfl
     rw [i1,C2 (by decide),cond_false,beq_self_eq_true,cond_true,i0,Ad,Ady hw (by omega),Ad,Ad]
     dsimp only
     rw [F8 rfl,cond_false,F8 rfl,cond_false]
   obtain ⟨o,X,V,U,S,N,I⟩:=Axt B G rb
   obtain ⟨c,c1,_,_,c4,c5⟩:=Aue hR (by decide)
   have q:o[dM t.Mono]? = some o[dM t.Mono]:=Ci V
   generalize o[dM t.Mono]=a at q
   have E:rq a=0:=by
    by_cases h0:rq a=0
    .exact h0
    .obtain ⟨i,u,J,hu,A⟩:=f _ _ (I _ _ q h0) h0
     have g:ltT u t:=by
      obtain ⟨M,rfl⟩:=List.getElem?_eq_some_iff.1 hu
      obtain ⟨L,rfl⟩:=List.getElem?_eq_some_iff.1 hx
      exact List.pairwise_iff_getElem.1 h.cp.srt i j M L J
     have z:=(h.tm u (Cm hu)).1.eq.1
     have:u.Mono=t.Mono:=by rw [z,A,<-Z]
     unfold ltT at g
     rw [Kv.2 this] at g
     omega
   left
   refine O2 ?_
   simp only [Ao (by omega:(j:Int)<(R.length:Int)),cond_true,Ch rfl hx,Ad,C9 hh (by omega)]
   refine ⟨.inl (((j+1:Nat):Int),o.set (dM t.Mono) c),?_,_,rfl,⟨j+1,o.set (dM t.Mono) c,rfl,by omega,by simpa using U,fun b hb=>?_,fun n=>?_,fun k b hb h0=>?_⟩,by simp only [Int.toNat_natCast]; omega⟩
   .refine bnd D ?_
    dsimp only
    refine bnd X ?_
    rw [c1,Ad,Ch rfl q,Ad,E7 rfl]
   .rcases List.mem_or_eq_of_mem_set hb with hb | rfl
    .exact S b hb
    .exact c5.mono (by decide)
   .rw [Alw n a c o 0 _ q,N,y,Dy hx,Adz,E,c4,Nat.zero_add]
    grind
   .rw [List.getElem?_set] at hb
    by_cases l:dM t.Mono=k
    .exact ⟨j,t,by omega,hx,l⟩
    .rw [if_neg l] at hb
     obtain ⟨i,u,J,hu⟩:=f k b (I k b hb h0) h0
     exact ⟨i,u,by omega,hu⟩
  .have:j=R.length:=by omega
   subst this
   rw [List.take_length] at y
   exact .inr ⟨.inr r,by simp only [Av (by omega:¬(R.length:Int)<(R.length:Int)),cond_false],r,rfl,G,rb,y⟩
 .rintro e ⟨r,rfl,h1,h2,h3⟩
  exact ⟨(r,true),rfl,r,rfl,h1,h2,h3⟩
theorem Aly {n k:Nat} (b:n<=255):RB 300 (cR (bc n k)):=Rw (Nat.le_trans (Avs n k) (by omega)) (by decide)
theorem Axv {w:Int} (hw:w=0\/w=1) {R:List Ai} (h:RK w R) (n:Nat) (hn:n<=255):∃a,Ss lX R [⟨w,1,(n:Int)⟩]=some (a,0)/\RB 2000000 a/\rq a=rV n R:=by
 have hl:=h.len
 unfold Ss
 rw [Alx hw h,Ad]
 simp only [bnt,cond_false]
 refine Zb ?_
 have i0:Af [(⟨w,1,(n:Int)⟩:Oy)] 0=some ⟨w,1,(n:Int)⟩:=rfl
 have y:Ac (0+1)=1:=by decide
 have dl:decide ((0:Int)<(([(⟨w,1,(n:Int)⟩:Oy)].length:Nat):Int))=true:=rfl
 have L:decide ((1:Int)<(([(⟨w,1,(n:Int)⟩:Oy)].length:Nat):Int))=false:=rfl
 refine D6 (fun s=>s=0\/s=1) (fun s=>1-s.toNat) (fun e=>e = .inr ()) (.inl rfl) ?_ ?_
 .rintro s (rfl | rfl)
  .left
   simp only [dl,cond_true,i0,Ad,Av (by omega:¬(n:Int)<0),cond_false,Av (by omega:¬(n:Int)>5000),y]
   exact ⟨1,rfl,.inr rfl,by decide⟩
  .right
   simp only [L,cond_false]
   exact ⟨_,rfl,rfl⟩
 rintro e rfl
 dsimp only
 have Y:Ho Ia ([]:List (Fs×Int)) ⟨w,1⟩=false:=rfl
 have mp:Wh Ia ([]:List (Fs×Int)) ⟨w,1⟩ (n:Int)=some [(⟨w,1⟩,(n:Int))]:=rfl
 have D:Ho Ia [((⟨w,1⟩:Fs),(n:Int))] ⟨w,1⟩=true:=by rcases hw with rfl | rfl <;> rfl
 have G:K1 Ia [((⟨w,1⟩:Fs),(n:Int))] ⟨w,1⟩ 0=(n:Int):=by rcases hw with rfl | rfl <;> rfl
 refine D6 (fun s=>s=(0,[])\/s=(1,[((⟨w,1⟩:Fs),(n:Int))])) (fun s=>1-s.1.toNat) (fun e=>e = .inr [((⟨w,1⟩:Fs),(n:Int))]) (.inl rfl) ?_ ?_
 .rintro s (rfl | rfl)
  .left
   simp only [dl,cond_true,i0,Ad,Y,mp,cond_false,y]
   exact ⟨_,rfl,.inr rfl,show (0:Nat)<1 by decide⟩
  .right
   simp only [L,cond_false]
   exact ⟨_,rfl,rfl⟩
 rintro e rfl
 simp only [Yy,Ad]
 refine D6 (fun s=>∃(j:Nat) (g:Ak),s=((j:Int),g.Neg,g.Num,g.Den)/\j<=R.length/\RB (1+j*30000) g/\rq g=rV n (R.take j)) (fun s=>R.length-s.1.toNat)
  (fun e=>∃g:Ak,e = .inr (g.Neg,g.Num,g.Den)/\RB 2000000 g/\rq g=rV n R) ⟨0,cR 0,rfl,by omega,(Rw (k:=1) (by rw [Q9]; decide) (by decide)).mono (by omega),by rw [Nn]; rfl⟩ ?_ ?_
 .rintro s ⟨j,g,rfl,hj,J,l⟩
  rcases Nat.lt_or_ge j R.length with hh | hh
  .have hx:R[j]? = some R[j]:=Ci hh
   generalize R[j]=t at hx
   obtain ⟨hk,I⟩:=h.tm t (Cm hx)
   have f:∃(i:Int) (q:Ak),Al (S:=(Int×Bool×(List Int)×(List Int))) (E:=((Ak×Int)⊕(Int×Bool×(List Int)×(List Int)))) (fun (v72,x,u,v75)=>
     bif (decide (v72<(t.Mono.Factors.length:Int))) then (
     (Af t.Mono.Factors v72).bind fun v76=>
     (Gj lX v76).bind fun v78=>
     (show Option (Int×Bool) from
     bif (Ho Ia [((⟨w,1⟩:Fs),(n:Int))] (Fs.mk v76.Var v78.1)) then (
     some ((K1 Ia [((⟨w,1⟩:Fs),(n:Int))] (Fs.mk v76.Var v78.1) (0:Int)),true)
     )
     else (
     some (0,false)
     )
     ).bind fun (v79,v80)=>
     bif (!v80) then (
     some (.inr (.inl ((Ak.mk false [] []),14)))
     )
     else (
     (Kc v79 v78.2.1).bind fun z=>
     (Gk (Ak.mk x u v75) z.1).bind fun b=>
     some (.inl ((Ac (v72+1)),b.Neg,b.Num,b.Den))
     )
     )
     else (
     some (.inr (.inr (v72,x,u,v75)))
     )
      ) (0,t.Coef.Neg,t.Coef.Num,t.Coef.Den)=some (.inr (i,q.Neg,q.Num,q.Den))/\RB 25000 q/\rq q=rq t.Coef*(bc n (dM t.Mono):Rat):=by
    generalize t.Mono=m at hk
    generalize t.Coef=c at I
    obtain ⟨k,a1,rfl⟩:=hk
    rw [Za]
    cases k with
    | zero=>
     refine ⟨0,c,Eh rfl,I.mono (by decide),?_⟩
     rw [Iq]; show _=_*(1:Rat); grind
    | succ k=>
     obtain ⟨q,B,A,_,V⟩:=Ym I (Aly (k:=k+1) hn) (by decide) (by decide)
     refine ⟨1,q,(Iw (s':=(1,q.Neg,q.Num,q.Den)) ?_).trans (Eh rfl),A.mono (by decide),by rw [V,Nn]⟩
     have j0:Af (mK w (k+1)).Factors 0=some ⟨w,mI (k+1)⟩:=rfl
     have Z:decide ((0:Int)<(((mK w (k+1)).Factors.length:Nat):Int))=true:=rfl
     simp only [Z,cond_true,j0,Ad,Ady hw (by omega:k<5),D,G,bnt,cond_false,Ak6 n (k+1) (by omega) (by omega),y]
     rw [show (Gk (Ak.mk c.Neg c.Num c.Den) (cR (bc n (k+1))))=some q from B,Ad]
   obtain ⟨i,q,B,A,X⟩:=f
   obtain ⟨s,U,_,N,_,M⟩:=Yl J A (by omega) (by decide)
   left
   refine O2 ?_
   simp only [Ao (by omega:(j:Int)<(R.length:Int)),cond_true,Ch rfl hx,Ad,C9 hh (by omega)]
   refine ⟨.inl (((j+1:Nat):Int),s.Neg,s.Num,s.Den),bnd B ?_,_,rfl,⟨j+1,s,rfl,by omega,N.mono (by omega),?_⟩,by simp only [Int.toNat_natCast]; omega⟩
   .show (Iz g q).bind _=_
    rw [U]; rfl
   .rw [M,l,X,Dy hx,Adz]
  .have:j=R.length:=by omega
   subst this
   rw [List.take_length] at l
   exact .inr ⟨.inr (g.Neg,g.Num,g.Den),by simp only [Av (by omega:¬(R.length:Int)<(R.length:Int)),cond_false],g,rfl,J.mono (by omega),l⟩
 .rintro e ⟨g,rfl,h1,h2⟩
  exact ⟨(g,0),rfl,g,rfl,h1,h2⟩
theorem Axw {r:List Ak} (A:r.length<=6) (hb:∀a∈r,RB 20001 a) (n:Nat) (z:n<=255):∃b,Su r (n:Int)=some (b,true)/\RB 2000000 b/\rq b=eV n 0 r:=by
 unfold Su
 have e:(if (n:Int)>0 then (n:Int) else 0)=(n:Int):=by split <;> omega
 have fb:∀k:Nat,k<=64->Ms (n:Int) (k:Int)=some (cR (bc n k)):=fun k hk=>by
  rw [Aci n k (by omega) hk,U1,show Bg false (fct k*bc n k) (fct k)=Bg false (fct k*bc n k) (fct k*1) by rw [Nat.mul_one],L0 _ _ _ _ (Ud k)]
  rfl
 rw [Yy,Ad,Av (by omega),cond_false]
 refine Zb ?_
 refine D6 (fun s=>∃(j:Nat) (g:Ak),s=((j:Int),g.Neg,g.Num,g.Den)/\j<=r.length/\RB (1+j*30000) g/\rq g=eV n 0 (r.take j)) (fun s=>r.length-s.1.toNat)
  (fun e=>∃g:Ak,e=(g.Neg,g.Num,g.Den)/\RB 2000000 g/\rq g=eV n 0 r) ⟨0,cR 0,rfl,by omega,(Rw (k:=1) (by rw [Q9]; decide) (by decide)).mono (by omega),by rw [Nn]; rfl⟩ ?_ ?_
 .rintro s ⟨j,g,rfl,B,f,c⟩
  rcases Nat.lt_or_ge j r.length with hh | hh
  .have hx:r[j]? = some r[j]:=Ci hh
   generalize r[j]=a at hx
   obtain ⟨q,y,x,_,u⟩:=Ym (hb a (Cm hx)) (Aly (k:=j) z) (by decide) (by decide)
   obtain ⟨s,l,_,i,_,h⟩:=Yl f x (by omega) (by decide)
   left
   simp only [Ao (by omega:(j:Int)<(r.length:Int)),cond_true,Ch rfl hx,Ad,e,fb j (by omega),y,C9 hh (by omega)]
   rw [show (Iz (Ak.mk g.Neg g.Num g.Den) q)=some s from l,Ad]
   refine ⟨_,rfl,⟨j+1,s,rfl,by omega,i.mono (by omega),?_⟩,by simp only [Int.toNat_natCast]; omega⟩
   rw [h,c,u,Nn,Dy hx,Ad0,List.length_take,Nat.min_eq_left (by omega),Nat.zero_add]
  .have:j=r.length:=by omega
   subst this
   rw [List.take_length] at c
   exact .inr ⟨(g.Neg,g.Num,g.Den),by simp only [Av (by omega:¬(r.length:Int)<(r.length:Int)),cond_false],g,rfl,f.mono (by omega),c⟩
 .rintro e ⟨g,rfl,h1,h2⟩
  exact ⟨(g,true),rfl,g,rfl,h1,h2⟩
theorem Axx (c:Int) (hc : -128<=c/\c<=127):∃r,P2 c 2=some r/\RB 10 r:=by
 obtain ⟨a,_,a1,a2,_,_⟩:=Ak9 c (by omega) (by omega)
 obtain ⟨b,_,b1,b2,_,h⟩:=Ak9 2 (by omega) (by omega)
 obtain ⟨r,g,f,_⟩:=Axa a2 b2 (by decide) (by decide) (by rw [h]; decide)
 unfold P2
 rw [a1,Ad,b1,Ad,g,Ad]
 exact ⟨r,rfl,f.mono (by decide)⟩
theorem Axy (cs:List Int) (v n:Int) (hc:∀c∈cs,-128<=c/\c<=127) (S:0<=v/\v<=255) (Z:0<=n/\n<=255):Wn cs v n=some true:=by
 obtain ⟨w,hw,U⟩:∃w:Int,(w=0\/w=1)/\Fb v 2=some w:=⟨v.tmod 2,by rw [Int.tmod_eq_emod_of_nonneg S.1]; omega,rfl⟩
 have u:Ac w=w:=by rcases hw with rfl | rfl <;> decide
 obtain ⟨n,rfl⟩:∃m:Nat,n=m:=⟨n.toNat,by omega⟩
 have x:Ac (n:Int)=(n:Int):=by rw [Ac,Bu] <;> omega
 unfold Wn
 rw [Axd,Ad,show Sq=some lX from rfl]
 simp only [bnt,cond_false,Ad,U,u,x]
 obtain ⟨M,B⟩:∃M:Nat,(if (6:Int)<(cs.length:Int) then 6 else (cs.length:Int))=(M:Int)/\M<=6/\M<=cs.length:=by
  by_cases h:(6:Int)<(cs.length:Int)
  .exact ⟨6,by rw [if_pos h]; rfl,by omega,by omega⟩
  .exact ⟨cs.length,by rw [if_neg h],by omega,by omega⟩
 obtain ⟨B,h6,V⟩:=B
 simp only [B]
 refine Gp (fun s=>∃(j:Nat) (o:List Ai),s=((j:Int),o)/\j<=M/\o.length=j/\PT w o) (fun s=>M-s.1.toNat) (fun o=>PT w o) ⟨0,[],rfl,by omega,rfl,by simp,fun j t h=>by simp at h⟩ ?_ ?_
 .rintro s ⟨j,o,rfl,hj,g,l⟩
  rcases Nat.lt_or_ge j M with h | h
  .have hx:cs[j]? = some cs[j]:=Ci (by omega)
   generalize cs[j]=c at hx
   have A:=hc c (Cm hx)
   have q:Ac c=c:=by rw [Ac,Bu] <;> omega
   obtain ⟨r,N,L⟩:=Axx c A
   have f:PT w (o++[⟨r,mK w j⟩]):=⟨by simp; omega,fun i t k=>by
    rcases Nat.lt_or_ge i o.length with y | hge
    .rw [List.getElem?_append_left y] at k
     exact l.tm i t k
    .have z:=E2 k
     rw [List.length_append,List.length_singleton] at z
     rw [List.getElem?_append_right hge] at k
     have:=Cm k
     rw [List.mem_singleton] at this
     subst this
     have:i=j:=by omega
     subst this
     exact ⟨rfl,L⟩⟩
   left
   simp only [Ao (by omega:(j:Int)<(M:Int)),cond_true,Ch rfl hx,Ad,q,N,C9 h (by omega)]
   cases j with
   | zero=>
    rw [Fu (by decide),cond_true,Dp (by simp; omega),Ad]
    exact ⟨_,rfl,⟨1,_,rfl,by omega,by rw [List.length_append,g]; rfl,f⟩,by simp only [Int.toNat_natCast]; omega⟩
   | succ j=>
    rw [C2 (by omega),cond_false,Axo w (by omega),Ad,Dp (by simp; omega),Ad]
    exact ⟨_,rfl,⟨j+1+1,_,rfl,by omega,by rw [List.length_append,g]; rfl,f⟩,by simp only [Int.toNat_natCast]; omega⟩
  .have:j=M:=by omega
   subst this
   exact .inr ⟨o,by simp only [Av (by omega:¬(j:Int)<(j:Int)),cond_false],l⟩
 .intro o l
  obtain ⟨R,Y,D⟩:=Axr hw l
  obtain ⟨r,J,I,G,E⟩:=Axu hw D
  obtain ⟨a,a1,a2,a3⟩:=Axv hw D n (by omega)
  obtain ⟨b,b1,b2,X⟩:=Axw I G n (by omega)
  have h0:rq a-rq b=0:=by rw [a3,X,E]; grind
  simp only [Y,Ad,J,a1,b1,beq_self_eq_true,cond_true,Av0 a2 b2 (by decide) (by decide),h0]
  rfl
end Go.Ab
