/- Plain laws. -/
import Derived.Test.YtdinnpegmcadbaaGreatDoorRnPl5
open List
namespace Go.Ab
open Go
variable {m m0:A5} {res:Ay} {x:B9} {φ:Be->A5} {a:Bf} {er:Bf->Int} {atm:Bf->Option (A5×Int)} {l:Bg} {u v w:Int} {W:Int->Prop} {R p:List Aj} {ms:List Bg} {b vars vs:List Int} {k:Nat}
theorem Bc9 {ψ:Bf->A5} {A:List Bf} (r:∀a∈A,atm a=some (ψ a,er a)) (t:∀j,(jn (m0::(A.take j).map ψ)).F.length<=1000/\(jn (m0::(A.take j).map ψ)).A.length<=1000) (q:∀a∈A,(ψ a).F.length<=1000/\(ψ a).A.length<=1000) (D:A.length<=1000) (f:List (ByteArray×Int)) (c:List (ByteArray×List Au)) : ∃z,Ak (Ac0 atm A [m0] f c) (0,[m0])=some z/\((z = .inl ([],9,f,c))\/(z = .inr ((A.length:Int),[jn (m0::A.map ψ)])/\∀a∈A,er a=0)):=by
 have l:Ac (0+1)=1:=by rw[Ac,Ci] <;> omega
 obtain⟨e,x,u⟩:=Jm (step:=Ac0 atm A [m0] f c) (λs=>∃j:Nat,s=((j:Int),[jn (m0::(A.take j).map ψ)])/\j<=A.length/\∀a∈A.take j,er a=0) (λs=>A.length-s.1.toNat) (λe=>e = .inl ([],9,f,c)\/(e = .inr ((A.length:Int),[jn (m0::A.map ψ)])/\∀a∈A,er a=0)) (by
  rintro _ ⟨j,rfl,E,i⟩;rcases Cf j A.length with h|h
  .have n:A[j]? = some A[j]:=Bp h;generalize A[j]=a at n;have k:=Bv n;unfold Ac0;dsimp only;rw[Ar ω,Am,Bn rfl n,Ad,r a k,Ad];by_cases o:er a=0
   .left;obtain⟨B,y⟩:=q a k;obtain⟨F,G⟩:=t j;have g:Nw (jn (m0::(A.take j).map ψ)) (ψ a)=some (jn (m0::(A.take (j+1)).map ψ)):=(by rw[Ahh _ _ ω ω,Cs n,map_append,List.map_singleton,<-D0,Axm]);refine⟨(((j+1:Nat):Int),[jn (m0::(A.take (j+1)).map ψ)]),?_,⟨j+1,rfl,ω,λb d=>?_⟩,ζ⟩
    .rw[G0 o,Ap];refine bnd (a:=((1:Int),[jn (m0::(A.take (j+1)).map ψ)])) (Ah3 (b:=((1:Int),[jn (m0::(A.take (j+1)).map ψ)])) ?_ ?_) (by dsimp only;rw[C3 h ω])
     .dsimp only;have C:Ag [jn (m0::(A.take j).map ψ)] 0=some (jn (m0::(A.take j).map ψ)):=rfl;rw[Ar (ltl _),Am,C,Ad,g,Ad,Ad,l];rfl
     .dsimp only;rw[A3 (Ah4 _),Ap]
    .rw[Cs n]at d;rcases Ef.1 d with d|d
     .exact i b d
     .rw[D4]at d;rw[d];exact o
   .right;rw[F4 o,Am];exact⟨_,rfl,.inl rfl⟩
  .right;have:j=A.length:=ω;subst this;rw[C1]at i;exact⟨.inr ((A.length:Int),[jn (m0::A.map ψ)]),by unfold Ac0;simp only[A3 (ω:¬(A.length:Int)<(A.length:Int)),Ap];rw[C1],.inr ⟨rfl,i⟩⟩) (0,[m0]) ⟨0,by simp[jn],ω,by simp⟩;exact⟨e,x,u⟩
theorem Bda (J:CSz x) (d:Hn x) {Z:Nat} (C:k<=1000000) (X:Z<=400000) {c:Aq} (r:RB k c) (h0:rq c≠0) (i:RpO x Z W m) {k0:Nat} (V:k+3638<=k0) (U:k0<=1000000000) {ts:List Aj} (u:Col k0 (S4 x Z W) ts) (S:ts.length<=4000000000) {I:List (ByteArray×Int)} {G:List (ByteArray×List Au)} (A:Ez x.D x.V x.E I) (y:PMg x.D x.V x.E G) : ∃z,Ak (Yg x c [m0] [m]) (0,I,G,plc ts,ts)=some z/\((∃d1 d2,z = .inl ([],9,d1,d2))\/∃q j g,z = .inr ((1:Int),q,j,plc g,g)/\Ez x.D x.V x.E q/\PMg x.D x.V x.E j/\Col (k0+(3*k+3660)) (S4 x Z W) g/\g.length<=ts.length+1000000/\∀χ v,Vj x.D x.V x.E χ m.F->Qy v->Hm χ v g=Hm χ v ts+rq c*(mX χ v m:Rat)):=by
 have R:Ac (0+1)=1:=by rw[Ac,Ci] <;> omega
 obtain⟨out,er,d1,d2,E,N,M,L⟩:=Bcj J.ds d.2.1 (d.ctx J) (λv t h=>Bcz d h) (K:=k) r ω h0 i.fac i.atk i.deg A y;rcases L with⟨rfl,rfl,_⟩|⟨rfl,D⟩
 .refine⟨_,F0 ?_,.inl ⟨d1,d2,rfl⟩⟩;unfold Yg;dsimp only;rw[Ar (ltl _),Am,show Ag [m] 0=some m from rfl,Ad,E,Ad];rfl
 .have B:=D.canZ (W:=W) (λw e=>i.vr w e) i.lin i.deg i.siz X;have s:out.length<=1000000:=(by refine Nat.le_trans D.len ?_;have f0:=Lp (data:=x.D) (vars:=x.V) (res:=x.E) (l:=m.F) λf d=>(i.fac.fac f d).2.2;have F:=i.deg;have o:2 ^ Dn m.A<=10 ^ Dn m.A:=Nat.pow_le_pow_left δ _;have n:=Nat.mul_le_mul_left (10 ^ (Ct x.D x.V x.E m.F).toNat) o;rw[<-Nat.pow_add]at n;exact Nat.le_trans n (Ahz ω));obtain⟨T,t1,t2,t3,t4⟩:=Bcr (k0:=k0) (K:=k+3636) (k:=k) (P:=S4 x Z W) (λm h=>h.1.1.cmo) r h0 out ts u (λw e=>B w e) ω ω ω s ω;refine⟨_,Ah3 (b:=((1:Int),d1,d2,plc T,T)) ?_ ?_,.inr ⟨d1,d2,T,rfl,N,M,⟨t2.dst,λw e=>(t2.tb w e).mono ω,t2.mo⟩,ω,λχ v o n=>?_⟩⟩
  .unfold Yg;dsimp only;rw[Ar (ltl _),Am,show Ag [m] 0=some m from rfl,Ad,E,Ad];dsimp only;rw[G0 rfl,Ap,t1,Ad,R]
  .unfold Yg;dsimp only;rw[A3 (Ah4 _),Ap]
  .have Y:Hm χ v T=Hm χ v (ts++out):=Axl λm=>by rw[t4,Agy]
   rw[Y,Axj,D.val o n];unfold mX;rfl
structure Axp (x:B9) (Z:Nat) (W:Int->Prop) (φ:Be->A5) (ψ:Bf->A5) (er:Bf->Int) (p R:List Aj):Prop where
 ok:∀t∈p,∀a∈t.M.A,er a=0
 cp:CP R
 len:R.length<=1000
 tm:∀t∈R,S4 x Z W t.M/\RB 1000000 t.C
 vl:∀χ v,(∀t∈p,Vj x.D x.V x.E χ (rpM φ ψ t.M).F)->Qy v->Hm χ v R=rpS φ ψ χ v p
theorem Bdb (hz:CSz x) (d:Hn x) {Z:Nat} (hk:k<=1000) (hZ:Z<=400000) {fac:Be->Option (List A5)} {ψ:Bf->A5} (hp:Kf x p) (hc:∀t∈p,RB k t.C) (hl:p.length<=10) (B:∀t∈p,∀f∈t.M.F,fac f=some [φ f]) (D:∀t∈p,∀a∈t.M.A,atm a=some (ψ a,er a)) (M:∀t∈p,∀f∈t.M.F,(φ f).F.length<=1/\(φ f).A.length<=1) (Y:∀t∈p,∀a∈t.M.A,(ψ a).F.length<=1/\(ψ a).A.length<=1) (hm:∀t∈p,(∀a∈t.M.A,er a=0)->RpO x Z W (rpM φ ψ t.M)) {G:List (ByteArray×Int)} {E:List (ByteArray×List Au)} (S:Ez x.D x.V x.E G) (N:PMg x.D x.V x.E E) : ∃R e q g,Ans x fac atm p G E=some (R,e,q,g)/\(e=0->Axp x Z W φ ψ er p R):=by
 obtain⟨e,e1,e2⟩:=Jm (step:=Anr x fac atm p) (λs=>∃(j:Nat) (q:List (ByteArray×Int)) (g:List (ByteArray×List Au)) (c:List Aj),s=((j:Int),q,g,plc c,c)/\j<=p.length/\Ez x.D x.V x.E q/\PMg x.D x.V x.E g/\Col (k+3638+j*(3*k+3660)) (S4 x Z W) c/\c.length<=j*1000000/\(∀t∈p.take j,∀a∈t.M.A,er a=0)/\∀χ v,(∀t∈p,Vj x.D x.V x.E χ (rpM φ ψ t.M).F)->Qy v->Hm χ v c=rpS φ ψ χ v (p.take j)) (λs=>p.length-s.1.toNat) (λz=>(∃d1 d2,z = .inl ([],9,d1,d2))\/∃(q:List (ByteArray×Int)) (g:List (ByteArray×List Au)) (c:List Aj),z = .inr (q,g,plc c,c)/\Col (k+3638+p.length*(3*k+3660)) (S4 x Z W) c/\c.length<=p.length*1000000/\(∀t∈p,∀a∈t.M.A,er a=0)/\∀χ v,(∀t∈p,Vj x.D x.V x.E χ (rpM φ ψ t.M).F)->Qy v->Hm χ v c=rpS φ ψ χ v p) (by
   rintro _ ⟨j,q,g,c,rfl,hj,g1,g2,K,g4,H,Q⟩;unfold Anr;dsimp only;rcases Cf j p.length with h|h
   .have C:p[j]? = some p[j]:=Bp h;generalize p[j]=t at C;have b:=Bv C;have A:=(hp.mo t b).f;have lF:=Lp (data:=x.D) (vars:=x.V) (res:=x.E) (l:=t.M.F) A.fac;have lA:=A.as;have ld:=A.deg;unfold Acx at ld;have f0:=A.fsum0;have V:t.M.F.length<=20:=ω;have a8:t.M.A.length<=20:=ω;have k1:=Bc8 (B t b) (λi=>by have:=Ant (φ:=φ) (F:=t.M.F.take i) (λf d=>M t b f (mem_of_mem_take d)) (by rw[length_take];omega);omega) (λf d=>by have:=M t b f d;omega) ω;have a7:=Ant (M t b) V;obtain⟨z,k2,I⟩:=Bc9 (m0:=jn (t.M.F.map φ)) (D t b) (λi=>by
     have:=Ant (φ:=ψ) (F:=t.M.A.take i) (λf d=>Y t b f (mem_of_mem_take d)) (by rw[length_take];omega);have e:∀(m:A5) (l:List A5),jn (m::l)=⟨m.F++(jn l).F,m.A++(jn l).A⟩:=λm l=>by unfold jn;simp
     rw[e];simp only[Ep];omega) (λa ha=>by have:=Y t b a ha;omega) ω q g
    rw[Ar ω,Am,Bn rfl C,Ad,k1,Ad];dsimp only;rw[k2,Ad];rcases I with rfl|⟨rfl,I⟩
    .exact .inr ⟨_,rfl,.inl ⟨_,_,rfl⟩⟩
    have a1:(j+1)*(3*k+3660)=j*(3*k+3660)+(3*k+3660):=Nat.succ_mul _ _;have a6:j*(3*k+3660)<=10*6660:=Nat.mul_le_mul ω ω;obtain⟨z,J,zz⟩:=Bda hz d (m0:=jn (t.M.F.map φ)) ω hZ (hc t b) (hp.cp.coe t b).2 (hm t b I) ω ω K ω g1 g2;dsimp only;have J:Ak (Yg x t.C [jn (t.M.F.map φ)] [jn (jn (t.M.F.map φ)::t.M.A.map ψ)]) (0,q,g,plc c,c)=_:=J;rw[J,Ad];rcases zz with⟨d1,d2,rfl⟩|⟨d1,d2,T,rfl,x1,x2,L,x4,x5⟩
    .exact .inr ⟨_,rfl,.inl ⟨_,_,rfl⟩⟩
    left;refine⟨(((j+1:Nat):Int),d1,d2,plc T,T),?_,⟨j+1,d1,d2,T,rfl,ω,x1,x2,⟨L.dst,λw hw=>(L.tb w hw).mono ω,L.mo⟩,ω,λu n=>?_,λχ v o r=>?_⟩,ζ⟩
    .dsimp only;rw[C3 h ω]
    .rw[Cs C]at n;rcases Ef.1 n with n|n
     .exact H u n
     .rw[D4]at n;rw[n];exact I
    .rw[x5 χ v (o t b) r,Q χ v o r,Cs C,Axo];simp only[rpS];grind
   .right;have:j=p.length:=ω;subst this;rw[C1]at H;refine⟨_,by rw[A3 ω,Ap],.inr ⟨q,g,c,rfl,K,g4,H,λχ v o r=>by rw[Q χ v o r,C1]⟩⟩)
  (0,G,E,[],[]) ⟨0,G,E,[],rfl,ω,S,N,Col.nil _ _,by simp,by simp,λχ v o r=>by rw[take_zero];rfl⟩;unfold Ans Wi;rw[Ad];dsimp only;rw[e1,Ad];rcases e2 with⟨d1,d2,rfl⟩|⟨q,g,T,rfl,y1,y2,y4,y3⟩
 .exact⟨[],9,d1,d2,rfl,λh=>by cases h⟩
 have hb:p.length*(3*k+3660)<=10*6660:=Nat.mul_le_mul hl ω;obtain⟨R,r1,r2,r3,X⟩:=Bcu (P:=S4 x Z W) (λm h=>h.1.1.cmo) (plc T) T y1 ω ω;dsimp only;rw[r1];refine⟨_,_,q,g,rfl,λU=>?_⟩;by_cases y:1000<R.length
 .unfold lim at U;rw[As y]at U;cases U
 .unfold lim;rw[Ao y];exact⟨y4,r2,by show R.length<=1000;omega,λt ht=>⟨(X t ht).1,(X t ht).2.mono ω⟩,λχ v o r=>by rw[<-y3 χ v o r];exact Axl r3⟩
theorem Bdc {β:Type} (ts:List Bq) {k:List Bq->Option β} {r:β} (h:∀R,R.Perm ts->R.Pairwise (λa b=>a.v<=b.v)->k R=some r):(Tk.mk T6 N3 ts).bind k=some r:=by
 unfold Tk.bind;dsimp only;cases n:Nat.ble ts.length 12 with
 | true=>obtain⟨R,q,d,s⟩:=Bb2 ts (Nat.le_of_ble_eq_true n);rw[Am,q,Ad];exact h R d s
 | false=>
  rw[Ap];have j:(ts.mergeSort λa b=>decide (a.v<=b.v)).Pairwise λa b=>a.v<=b.v:=(by have:=pairwise_mergeSort (le:=λa b:Bq=>decide (a.v<=b.v)) (λa b c q d=>by simp only[Ds]at *;omega) (λa b=>by simp only[Bool.or_eq_true,Ds];omega) ts;exact this.imp λh=>by simpa using h);refine A2g (o:=ts.mergeSort λa b=>decide (a.v<=b.v)) ⟨_,Axd,λx _ y _=>Ang x y,mergeSort_perm _ _,j.imp λ{a b} h d=>?_⟩ λo i=>?_
  .have:=Po.1 d;omega
  .obtain⟨cf,t,f,hp,g⟩:=i;refine h o hp (g.imp_of_mem λ{a b} A n h=>?_);have e:=(f b (hp.mem_iff.1 n) a (hp.mem_iff.1 A)).symm.trans (Ang b a);rw[Fh e]at h;have:=mt Po.2 h;omega
theorem Bdd (c:Int) (ts:List Bq) (x:ts.length<=1000) (hb:LBd ts):∃L,Zu c ts=some (Anh c L)/\Nj L/\∀v,cl L v=cl ts v:=by
 have d:∀R:List Bq,R.Perm ts->R.Pairwise (λa b=>a.v<=b.v)->∃L,Ak (Ah2 R) (0,[])=some L/\Nj L/\∀v,cl L v=cl ts v:=λR n o=>by obtain⟨L,j,i,g,_⟩:=Bb6 o (by rw[n.length_eq];omega) λt r=>hb t (n.mem_iff.1 r);exact⟨L,j,i,λv=>by rw[g,Bb3 n]⟩
 have u:(ts.mergeSort λa b=>decide (a.v<=b.v)).Pairwise λa b=>a.v<=b.v:=by have:=pairwise_mergeSort (le:=λa b:Bq=>decide (a.v<=b.v)) (λa b c n o=>by simp only[Ds]at *;omega) (λa b=>by simp only[Bool.or_eq_true,Ds];omega) ts;exact this.imp λh=>by simpa using h
 obtain⟨L,_,q,l⟩:=d _ (mergeSort_perm _ _) u;refine⟨L,?_,q,l⟩;unfold Zu;have k:Up ts=some ([],ts):=by unfold Up Kn;rw[Dy ζ];rfl
 rw[k,Ad];dsimp only;refine Bdc ts λR f s=>?_;obtain⟨M,j,i,g⟩:=d R f s;have e:M=L:=i.ext q λv=>by rw[g,l]
 subst e;rw[Ku f.length_eq.symm,Ad,<-f.length_eq];refine bnd j ?_;rw[Abo,Ad];unfold Anh;cases Ek ⟨c,M⟩ <;> rfl
def lkp:List Int->List Bg->Int->Option Bg
 | v::vs,m::ms,u=>if v=u then some m else lkp vs ms u
 | _,_,_=>none
def sbT (s:Int->Option Bg):List Bq->List Bq
 | []=>[]
 | t::l=>(match s t.v with|none=>[t] | some m=>m.T.map λu=>⟨u.v,u.C*t.C⟩)++sbT s l
def sbC (s:Int->Option Bg):List Bq->Int
 | []=>0
 | t::l=>(match s t.v with|none=>0|some m=>t.C*m.Q)+sbC s l
theorem Axq (g:Int->Int) (c:Int):∀l:List Bq,ls g (l.map λu=>⟨u.v,u.C*c⟩)=c*ls g l
 | []=>by simp[ls]
 | t::l=>by simp only[map_cons,ls,Axq g c l,Int.mul_add];rw[Int.mul_comm t.C c,Int.mul_assoc]
theorem Axr (s:Int->Option Bg) (g h:Int->Int):∀l:List Bq,(∀t∈l,h t.v=match s t.v with|none=>g t.v|some m=>m.Q+ls g m.T)->sbC s l+ls g (sbT s l)=ls h l
 | [],_=>by simp[sbC,sbT,ls]
 | t::l,d=>by have ih:=Axr s g h l λu e=>d u (by simp[e]);simp only[sbC,sbT,ls,Bcg];rw[d t ψ];cases s t.v with| none=>simp only[ls];omega| some m=>simp only[Axq,Int.mul_add];omega
theorem Axs (s:Int->Option Bg):∀l m,sbT s (l++m)=sbT s l++sbT s m
 | [],m=>rfl
 | t::l,m=>by simp only[D0,sbT,Axs s l m,append_assoc]
theorem Axt (s:Int->Option Bg):∀l m,sbC s (l++m)=sbC s l+sbC s m
 | [],m=>by simp[sbC]
 | t::l,m=>by simp only[D0,sbC,Axt s l m];omega
theorem Anu {s:Int->Option Bg} {u:Bq}:∀{l:List Bq},u∈sbT s l->∃t∈l,(s t.v=none/\u=t)\/∃m,s t.v=some m/\∃w∈m.T,u=⟨w.v,w.C*t.C⟩
 | [],h=>by cases h
 | t::l,h=>by
  rw[sbT]at h;rcases Ef.1 h with h|h
  .refine⟨t,ψ,?_⟩;cases b:s t.v with| none=>rw[b]at h;exact .inl ⟨rfl,by simpa using h⟩| some m=>rw[b]at h;obtain⟨w,d,rfl⟩:=mem_map.1 h;exact .inr ⟨m,rfl,w,d,rfl⟩
  .obtain⟨t',e,g⟩:=Anu h;exact⟨t',by simp[e],g⟩
theorem Bde (l:List Int) (g:l.length<=1000):∃b,Zs l=some b:=by
 unfold Zs;have f:Rj l=some ([],l):=by unfold Rj Kn;rw[Dy ζ];rfl
 have c:=length_mergeSort (le:=λx y:Int=>decide (x<=y)) l;obtain⟨m,o,d,_⟩:=Amn (l.mergeSort λx y=>decide (x<=y)) (Amm l) (by rw[c];omega);rw[c]at d;rw[f,Ad];dsimp only;rw[Aml,Ad,Ku c.symm,Ad,d];exact⟨_,rfl⟩
theorem Axu:∀{vs:List Int} {ms:List Bg} (u:Int),vs.length=ms.length->vs.length<=1000->∃i,Wd vs u=some i/\((i<0/\lkp vs ms u=none)\/∃(j:Nat) (m:Bg),i=j/\ms[j]? = some m/\lkp vs ms u=some m):=by
 intro vs ms u k g;unfold Wd;have c:∀(j:Nat) (vs:List Int) (ms:List Bg),(∀x∈vs.take j,u≠x)->lkp vs ms u=lkp (vs.drop j) (ms.drop j) u:=by
  intro j;induction j with
  | zero=>intro vs ms _;rfl
  | succ j ih=>
   intro vs ms h
   match vs,ms with| [],ms=>rfl| v::vs,[]=>rw[drop_nil];cases drop (j+1) (v::vs) <;> rfl| v::vs,m::ms=>rw[lkp,Ao λe=>h v ψ e.symm,ih vs ms λx d=>h x (by simp[d])];rfl
 refine Er (λs=>∃j:Nat,s=j/\j<=vs.length/\∀x∈vs.take j,u≠x) (λs=>vs.length-s.toNat) (λz=>(∃(j:Nat) (m:Bg),z = .inl (j:Int)/\ms[j]? = some m/\lkp vs ms u=some m)\/(z = .inr ()/\lkp vs ms u=none)) ⟨0,rfl,ω,ψ⟩ ?_ ?_
 .rintro _ ⟨j,rfl,r,f⟩;rcases Cf j vs.length with h|h
  .have d:vs[j]? = some vs[j]:=Bp h;have o:ms[j]? = some (ms[j]' ω):=Bp ω;generalize vs[j]=v at d;generalize ms[j]=m at o;simp only[Ar (ω:(j:Int)<(vs.length:Int)),Am,Bn rfl d,Ad,C3 h ω];by_cases e:u=v
   .right;rw[Eh e];refine⟨_,rfl,.inl ⟨j,m,rfl,o,?_⟩⟩;rw[c j vs ms f,Jz d,Jz o,lkp,As e.symm]
   .left;rw[C8 e];refine⟨_,rfl,⟨j+1,rfl,ω,λx b=>?_⟩,by simp only[Int.toNat_natCast];omega⟩;rw[Cs d]at b;rcases Ef.1 b with n|n
    .exact f x n
    .rw[D4]at n;rw[n];exact e
  .right;simp only[A3 (ω:¬(j:Int)<(vs.length:Int)),Ap];have:j=vs.length:=ω;subst this;refine⟨_,rfl,.inr ⟨rfl,?_⟩⟩;rw[c vs.length vs ms f,drop_length];cases drop vs.length ms <;> rfl
 .rintro z (⟨j,m,rfl,q,n⟩|⟨rfl,h⟩)
  .exact⟨_,rfl,.inr ⟨j,m,rfl,q,n⟩⟩
  .exact⟨_,rfl,.inl ⟨δ,h⟩⟩
theorem Anv {a c:Int} (a1 : -1048576<=a) (f:a<=1048576) (d : -1048576<=c) (e:c<=1048576) : -1099511627776<=a*c/\a*c<=1099511627776:=by
 have b:(a*c).natAbs<=1048576*1048576:=by rw[Int.natAbs_mul];exact Nat.mul_le_mul ω ω
 omega
theorem Bdf (c:Int) (s : -1048576<=c) (B:c<=1048576) (ts:List Bq) (q:ts.length<=1000) (hb:∀t∈ts,-1048576<=t.C/\t.C<=1048576):Zt ts c=some (ts.map λu=>⟨u.v,u.C*c⟩):=by
 unfold Zt;have k:Up ts=some ([],ts):=by unfold Up Kn;rw[Dy ζ];rfl
 rw[k,Ad];dsimp only;obtain⟨f,r⟩:∃f:Bq->Bq,f=λu=>⟨u.v,u.C*c⟩:=⟨_,rfl⟩;rw[<-r];refine Kc ts.length (λj=>((j:Int),(ts.take j).map f++ts.drop j)) ψ ?_ ⟨ts.map f,?_,rfl⟩
 .intro j d;have o:ts[j]? = some ts[j]:=Bp d;have l:=getElem_mem d;generalize ts[j]=t at o l;have g:=hb t l;have e:(ts.take j).map f++ts.drop j=(ts.take j).map f++t::ts.drop (j+1):=(by rw[Jz o]);have b:((ts.take j).map f).length=j:=ζ;have C:Ag ((ts.take j).map f++ts.drop j) (j:Int)=some t:=(by refine Bn rfl ?_;rw[e];have:=Amp ((ts.take j).map f) (ts.drop (j+1)) t;rwa [b]at this);have D:Ac (t.C*c)=t.C*c:=(by have hp:=Anv g.1 g.2 s B;rw[Ac,Ci] <;> omega);have i:Cr ((ts.take j).map f++ts.drop j) (j:Int) (⟨t.v,t.C*c⟩:Bq)=(ts.take (j+1)).map f++ts.drop (j+1):=(by rw[Ht (n:=j) rfl,e,Cs o,map_append,append_assoc];have:∀(A R:List Bq) (x y:Bq),(A++x::R).set A.length y=A++y::R:=(by intro A R x y;induction A with| nil=>rfl| cons a A ih=>simp only[D0,D1,set_cons_succ,ih]);have h:=this ((ts.take j).map f) (ts.drop (j+1)) t ⟨t.v,t.C*c⟩;rw[b]at h;rw[h,r];rfl);simp only[Ar (ω:(j:Int)<((ts.length:Nat):Int)),Am,C,Ad,C3 d ω,D,i]
 .simp
theorem Bdg (b:List Bg) (hb:∀m∈b,Ek m=true) (f:b.length<=1000):Zr b=some false:=by unfold Zr Aex;refine bnd (a:=(-1:Int)) ?_ rfl;refine Kc b.length (λj=>(j:Int)) rfl (λj d=>?_) ⟨.inr (),by simp only[A3 (ω:¬(b.length:Int)<(b.length:Int)),Ap],rfl⟩;have e:b[j]? = some b[j]:=Bp d;have c:=hb _ (getElem_mem d);simp only[Ar (ω:(j:Int)<(b.length:Int)),Am,Bn rfl e,Ad,C3 d ω];unfold Ael;rw[Abo,c];rfl
theorem Axv (h:Ek l=true) : -1048576<=l.Q/\l.Q<=1048576:=by unfold Ek at h;rw[Cz,Ds]at h;exact⟨h.1.1,h.1.2.1⟩
theorem Bdh (E:Ek l=true) (D:∀m∈ms,Ek m=true) (N:vars.length=ms.length) (G:vars.length<=1000) : ∃r,Tw l vars ms=some r/\(r.2=0->Ek r.1=true/\r.1.Q=l.Q+sbC (lkp vars ms) l.T/\Nj r.1.T/\∀v,cl r.1.T v=cl (sbT (lkp vars ms) l.T) v):=by
 unfold Tw;rw[Abo,E,Ad];simp only[bnt,Ap];rw[Bdg ms D ω,Ad,Ad,Ap,G0 ω,Ap];obtain⟨b,Q⟩:=Bde vars G;rw[Q,Ad];cases b with
 | true=>exact⟨_,rfl,λh=>by cases h⟩
 | false=>
  rw[Ap];have M:=(X7 E).1;have B:=Ani E;have R:=Axv E;have J:∀{u m},lkp vars ms u=some m->m∈ms:=by
   intro u m;clear Q N G D;induction vars generalizing ms with
   | nil=>intro h;cases h
   | cons v vs ih=>
    cases ms with
    | nil=>intro h;cases h
    | cons k ks=>
     intro h;rw[lkp]at h;split at h
     .cases h;simp
     .exact mem_cons_of_mem _ (ih h)
  refine Er (λs=>∃j:Nat,s.2.1=j/\j<=l.T.length/\s.1=l.Q+sbC (lkp vars ms) (l.T.take j)/\s.2.2=sbT (lkp vars ms) (l.T.take j)/\s.2.2.length<=16*j/\-(1048576+1099511627776*j:Int)<=s.1/\s.1<=1048576+1099511627776*j) (λs=>l.T.length-s.2.1.toNat) (λe=>e.1=l.Q+sbC (lkp vars ms) l.T/\e.2=sbT (lkp vars ms) l.T/\e.2.length<=256) ⟨0,rfl,ω,by simp[sbC],rfl,ψ,ζ,ζ⟩ ?_ ?_
  .rintro⟨c,_,o⟩ ⟨j,rfl,hj,n,d,y,b1,b2⟩;dsimp only at n d y b1 b2 ⊢;rcases Cf j l.T.length with h|h
   .left;have C:l.T[j]? = some l.T[j]:=Bp h;have x:=getElem_mem h;generalize l.T[j]=t at C x;have f:=B t x;have S:sbT (lkp vars ms) (l.T.take (j+1))=o++sbT (lkp vars ms) [t]:=(by rw[Cs C,Axs,d]);have U:l.Q+sbC (lkp vars ms) (l.T.take (j+1))=c+sbC (lkp vars ms) [t]:=(by rw[Cs C,Axt,n];omega);obtain⟨i,i1,H⟩:=Axu (ms:=ms) t.v N G;rw[Ar ω,Am,Bn rfl C,Ad,i1,Ad,C3 h ω];rcases H with⟨H,F⟩|⟨q,m,rfl,F,K⟩
    .rw[Ar H,Am,Dy ζ,Ad];refine⟨_,rfl,⟨j+1,rfl,ω,?_,?_,?_,?_,?_⟩,by simp only[Int.toNat_natCast];omega⟩
     .rw[U];simp[sbC,F]
     .rw[S];simp[sbT,F]
     .simp;omega
     .dsimp only;omega
     .dsimp only;omega
    .have z:=D m (J K);have a1:=(X7 z).1;have g:=Ani z;have A:=Axv z;have hp:=Anv f.1 f.2 A.1 A.2;have X:Ac (t.C*m.Q)=t.C*m.Q:=ξ;have V:Ac (c+t.C*m.Q)=c+t.C*m.Q:=ξ;rw[A3 ω,Ap,Bn rfl F,Ad,Ad,Bdf t.C f.1 f.2 m.T ω g,Ad,Dy ζ,Ad,X,V];refine⟨_,rfl,⟨j+1,rfl,ω,?_,?_,?_,?_,?_⟩,by simp only[Int.toNat_natCast];omega⟩
     .rw[U];simp[sbC,K]
     .rw[S];simp[sbT,K]
     .simp;omega
     .dsimp only;omega
     .dsimp only;omega
   .right;have:j=l.T.length:=ω;subst this;rw[C1]at n d;exact⟨_,by rw[A3 ω,Ap],n,d,by dsimp only;omega⟩
  .rintro⟨c,o⟩ ⟨n,d,y⟩;dsimp only at n d y ⊢;have I:LBd o:=λu T=>by
    rw[d]at T;obtain⟨t,h1,h2⟩:=Anu T;have f:=B t h1;rcases h2 with⟨_,rfl⟩|⟨m,h3,w,h4,rfl⟩
    .omega
    .have g:=Ani (D m (J h3)) w h4;exact Anv g.1 g.2 f.1 f.2
   obtain⟨L,l1,Z,Y⟩:=Bdd c o ω I;rw[l1];refine⟨_,rfl,λP=>?_⟩;unfold Anh at P ⊢;split at P
   .rename_i hk;rw[As hk];exact⟨hk,n,Z,λv=>by rw[<-d];exact Y v⟩
   .cases P
def dgM (x:B9) (m:A5):Int:=Ct x.D x.V x.E m.F+(Dn m.A:Nat)
structure Vm (x:B9) (W:Int->Prop) (m:A5):Prop where
 one:m.F.length+m.A.length<=1
 fac:∀f∈m.F,E5 f.v/\iR f.I/\1<=D3 x.D x.V x.E f/\Bw f.I<=40
 atm:∀a∈m.A,0<=a.P/\Ek a.L=true/\Ji x.V x.E a.L=true
 vr:∀w∈Jv m,W w
theorem Ah6 (m:A5) (l:List A5):jn (m::l)=⟨m.F++(jn l).F,m.A++(jn l).A⟩:=by unfold jn;simp
theorem Axw (l k:List A5):jn (jn l::k)=jn (l++k):=by unfold jn;simp
theorem Axx (x:B9):∀l:List A5,dgM x (jn l)=(l.map (dgM x)).sum
 | []=>by unfold dgM jn Ct;simp[Dn]
 | m::l=>by have ih:=Axx x l;rw[Ah6,map_cons,sum_cons,<-ih];unfold dgM;dsimp only;rw[Qw,Sv];omega
theorem Axy (χ:Be->Nat) (v:Bg->Nat):∀l:List A5,mX χ v (jn l)=Dz (l.map (mX χ v))
 | []=>rfl
 | m::l=>by rw[Ah6,map_cons,Dz,<-Axy χ v l];unfold mX;dsimp only;rw[map_append,Acv,Acy];ac_rfl
theorem Axz:∀l:List A5,(∀m∈l,(m.F.length<=1/\∀f∈m.F,Bw f.I<=40))->((jn l).F.map λf=>Bw f.I).sum<=40*l.length
 | [],_=>by simp[jn]
 | m::l,h=>by have ih:=Axz l λk e=>h k (by simp[e]);obtain⟨d,i⟩:=h m ψ;rw[Ah6];dsimp only;rw[map_append,sum_append,D1];have:(m.F.map λf=>Bw f.I).sum<=40:=(by match b:m.F with| []=>simp| [f]=>have:=i f (by simp[b]);simpa using this| f::g::r=>rw[b]at d;simp at d);omega
theorem Ax0 {l:List A5} {f:Be} (h:f∈(jn l).F):∃m∈l,f∈m.F:=mem_flatMap.1 h
theorem Ax1 {l:List A5} (h:a∈(jn l).A):∃m∈l,a∈m.A:=mem_flatMap.1 h
theorem Ax2:∀l:List A5,(∀m∈l,m.A.length<=1)->(jn l).A.length<=l.length
 | [],_=>by simp[jn]
 | m::l,h=>by have ih:=Ax2 l λk d=>h k (by simp[d]);have:=h m ψ;rw[Ah6];dsimp only;rw[Ep,D1];omega
theorem rpO (h:Yf x m) {ψ:Bf->A5} (o:∀f∈m.F,Vm x W (φ f)/\dgM x (φ f)=D3 x.D x.V x.E f) (r:∀a∈m.A,Vm x W (ψ a)/\dgM x (ψ a)=a.P):RpO x 240 W (rpM φ ψ m):=by
 have c:rpM φ ψ m=jn (m.F.map φ ++ m.A.map ψ):=Axw _ _;have b:∀k∈m.F.map φ ++ m.A.map ψ,Vm x W k:=λk d=>by
  rcases Ef.1 d with d|d
  .obtain⟨f,n,rfl⟩:=mem_map.1 d;exact (o f n).1
  .obtain⟨a,e,rfl⟩:=mem_map.1 d;exact (r a e).1
 have C:dgM x (rpM φ ψ m)=Acx x m:=by rw[c,Axx,map_append,sum_append];unfold Acx Ct El;rw[map_map,map_map];have y:m.F.map (dgM x ∘ φ)=m.F.map (D3 x.D x.V x.E):=map_congr_left λf n=>(o f n).2;have u:m.A.map (dgM x ∘ ψ)=m.A.map (·.P):=map_congr_left λa e=>(r a e).2;rw[y,u]
 have s:=h.deg;have A:=Lp (data:=x.D) (vars:=x.V) (res:=x.E) (l:=m.F) h.fac;have B:=h.as;have D:(m.F.map φ ++ m.A.map ψ).length<=6:=by unfold Acx at s;rw[Ep,C2,C2];omega
 have q:=Axz _ λk d=>⟨by have:=(b k d).one;omega,λf n=>((b k d).fac f n).2.2.2⟩;have g:=Ax2 _ λk d=>(by have:=(b k d).one;omega:k.A.length<=1);have j:∀f∈(rpM φ ψ m).F,E5 f.v/\iR f.I/\1<=D3 x.D x.V x.E f:=λf n=>by rw[c]at n;obtain⟨k,d,n⟩:=Ax0 n;have:=(b k d).fac f n;exact⟨this.1,this.2.1,this.2.2.1⟩
 have i:∀a∈(rpM φ ψ m).A,0<=a.P/\Ek a.L=true/\Ji x.V x.E a.L=true:=λa e=>by rw[c]at e;obtain⟨k,d,e⟩:=Ax1 e;exact (b k d).atm a e
 have z:=Lp (data:=x.D) (vars:=x.V) (res:=x.E) (l:=(rpM φ ψ m).F) λf n=>(j f n).2.2;rw[<-c]at q g;unfold dgM at C;refine⟨⟨j,ω,ω⟩,⟨λa e=>(i a e).1,λa e=>(i a e).2.1,ω,ω⟩,λa e=>(i a e).2,ω,ω,λw t=>?_⟩;rw[c]at t;rcases Vl.1 t with⟨f,f1,f2⟩|⟨a,E,F⟩
 .obtain⟨k,d,n⟩:=Ax0 f1;exact (b k d).vr w (Vl.2 (.inl ⟨f,n,f2⟩))
 .obtain⟨k,d,e⟩:=Ax1 E;exact (b k d).vr w (Vl.2 (.inr ⟨a,e,F⟩))
theorem Ax3 {α:Type} {f g:α->Nat} {l:List α} (h:∀a∈l,f a=g a):Dz (l.map f)=Dz (l.map g):=by rw[map_congr_left h]
theorem Ax4 (v:Bg->Nat):∀l:List Bf,Gd v l=Dz (l.map λa=>bc (v a.L) a.P.toNat)
 | []=>rfl
 | a::l=>by rw[Gd,map_cons,Dz,Ax4 v l]
theorem Ax5 {φ:Be->A5} {ψ:Bf->A5} {χ b:Be->Nat} {g c:Bg->Nat}:∀p:List Aj,(∀t∈p,(∀f∈t.M.F,mX χ g (φ f)=b f)/\∀a∈t.M.A,mX χ g (ψ a)=bc (c a.L) a.P.toNat)->rpS φ ψ χ g p=Hm b c p
 | [],_=>rfl
 | t::p,h=>by rw[rpS,Hm,Ax5 p λu d=>h u (by simp[d])];obtain⟨e,i⟩:=h t (by simp);have:mX χ g (rpM φ ψ t.M)=Dz (t.M.F.map b)*Gd c t.M.A:=(by rw[show rpM φ ψ t.M=jn (t.M.F.map φ ++ t.M.A.map ψ) from Axw _ _,Axy,map_append,Acv,map_map,map_map,Ax4,Ax3 (g:=b) (f:=mX χ g ∘ φ) e,Ax3 (f:=mX χ g ∘ ψ) (g:=λa:Bf=>bc (c a.L) a.P.toNat) i]);rw[this]
theorem Ax6:∀(k:Nat) (i:Ay) (a:Int),Co i<=k->k<1099511627776->-1099511627776<=a->a<=1099511627776->∃r,Rn k i a=some r/\(r.1=true->r.2=a-Co i/\0<=r.2)/\r.2<=a/\-1<=r.2+1099511627776:=by
 intro k;induction k with
 | zero=>intro i a h;have:=L0 i;omega
 | succ k ih=>
  intro i a h F H K;have G:=L0 i;have I:=U5 i.K;have w:Ac (a-1)=a-1:=ξ;rw[Rn,w];by_cases t:a-1<0
  .rw[Ar t];exact⟨_,rfl,nofun,by show a-1<=a;omega,by show -1<=a-1+1099511627776;omega⟩
  .rw[A3 t,Ap];have g:∀l m:List Ay,Ed (l++m)=Ed l+Ed m:=λl m=>by induction l with| nil=>simp[Ed]| cons y l ih=>simp only[D0,Ed,ih];omega
   refine Er (λs=>∃j:Nat,s.1=j/\j<=i.K.length/\s.2=a-1-Ed (i.K.take j)/\0<=s.2) (λs=>i.K.length-s.1.toNat) (λz=>(∃c,z = .inl (false,c)/\c<=a/\-1<=c+1099511627776)\/(∃c,z = .inr c/\c=a-1-Ed i.K/\0<=c)) ⟨0,rfl,ω,by simp[Ed],by show 0<=a-1;omega⟩ ?_ ?_
   .rintro⟨_,b⟩ ⟨j,rfl,M,e,f⟩;dsimp only at e f;rcases Cf j i.K.length with n|n
    .have d:i.K[j]? = some i.K[j]:=Bp n;generalize i.K[j]=x at d;have L:=Mn (Bv d);obtain⟨⟨y,z⟩,E,D,B,A⟩:=ih x b ω ω ω ω;have J:Ed (i.K.take (j+1))=Ed (i.K.take j)+Co x:=(by rw[Cs d,g];simp[Ed]);simp only[Ar (ω:(j:Int)<(i.K.length:Int)),Am,Bn rfl d,Ad,E,C3 n ω];cases y with| false=>exact .inr ⟨_,rfl,.inl ⟨z,rfl,by dsimp only at B;omega,A⟩⟩| true=>obtain⟨u,q⟩:=D rfl;exact .inl ⟨_,rfl,⟨j+1,rfl,ω,by dsimp only at u ⊢;rw[J];omega,q⟩,by simp only[Int.toNat_natCast];omega⟩
    .have:j=i.K.length:=ω;subst this;rw[C1]at e;exact .inr ⟨.inr b,ψ,.inr ⟨b,rfl,e,f⟩⟩
   .rintro z (⟨c,rfl,C,o⟩|⟨c,rfl,C,o⟩)
    .exact⟨_,rfl,nofun,C,o⟩
    .exact⟨_,rfl,λ_=>⟨by dsimp only;omega,o⟩,by dsimp only;omega,by dsimp only;omega⟩
theorem Bdi (l:List Ay) (n:Int) (D:l.length<=1048576) (h:∀t∈l,Co t<=1048576):∃b,Za l n=some b/\(b=true->(l.length:Int)<=n/\∀t∈l,Co t<=400):=by
 unfold Za;refine Er (λs=>∃j:Nat,s.1=j/\j<=l.length/\0<=s.2/\s.2<=400/\∀t∈l.take j,Co t<=400) (λs=>l.length-s.1.toNat) (λz=>z = .inl false\/∃c,z = .inr c/\((l.length:Int)<=n->∀t∈l,Co t<=400)) ⟨0,rfl,ω,δ,δ,ψ⟩ ?_ ?_
 .rintro⟨_,w⟩ ⟨j,rfl,F,i,g,f⟩;dsimp only at i g;rcases Cf j l.length with o|o
  .have e:l[j]? = some l[j]:=Bp o;generalize l[j]=x at e;obtain⟨⟨A,B⟩,C,y,u,_⟩:=Ax6 4000000 x w (by have:=h x (Bv e);omega) ω ω ω;simp only[Ar (ω:(j:Int)<(l.length:Int)),Am,Bn rfl e,Ad,C,C3 o ω];by_cases k:(j:Int)<=n
   .rw[Ar k];cases A with
    | false=>exact .inr ⟨_,rfl,.inl rfl⟩
    | true=>
     obtain⟨q,r⟩:=y rfl;refine .inl ⟨_,rfl,⟨j+1,rfl,ω,r,by dsimp only at u ⊢;omega,λt d=>?_⟩,by simp only[Int.toNat_natCast];omega⟩;rw[Cs e]at d;rcases Ef.1 d with d|d
     .exact f t d
     .rw[D4]at d;subst d;dsimp only at q r;omega
   .rw[A3 k];exact .inr ⟨_,rfl,.inr ⟨w,rfl,λh=>ω⟩⟩
  .have:j=l.length:=ω;subst this;rw[C1]at f;simp only[A3 (ω:¬(l.length:Int)<(l.length:Int)),Ap];exact .inr ⟨_,rfl,.inr ⟨w,rfl,λ_=>f⟩⟩
 .rintro z (rfl|⟨c,rfl,E⟩)
  .exact⟨_,rfl,λh=>by cases h⟩
  .exact⟨_,rfl,λh=>by rw[Ds]at h;exact⟨h,E h⟩⟩
theorem Bdj (c:List Ay) (res:Ay) (i:c.length<=1048576) (g:∀v∈c,Co v<=1048576) (k:Co res<=1048576):∃b,Y6 c res=some b/\(b=true->(∀v∈c,Co v<=400)/\Co res<=400):=by
 unfold Y6;obtain⟨a,d,j⟩:=Bdi c 40 i g;obtain⟨r,l,f,_⟩:=Ax6 4000000 res 400 ω ω ω ω;obtain⟨n,q,_⟩:=Bae 4000000 res ω ω;have e:Zb res=some r.1:=by unfold Zb;rw[l];rfl
 rw[d,e,q];cases a with
 | false=>exact⟨_,rfl,λh=>by cases h⟩
 | true=>cases h:r.1 with| false=>exact⟨_,rfl,λh=>by cases h⟩| true=>exact⟨_,rfl,λ_=>⟨(j rfl).2,by have:=f h;omega⟩⟩
theorem Bdk (c:List Ay) (res:Ay) (v:Int):∃a b,Oq c res v=some (a,b)/\(b=true->a=Dl c res v/\(v = -1\/(0<=v/\v<c.length))):=by
 unfold Oq Dl;by_cases h:v = -1
 .rw[Eh h,Aa9 (.inl ω)];exact⟨_,_,rfl,λ_=>⟨rfl,.inl h⟩⟩
 .rw[C8 h,Ap];by_cases d:v<0
  .rw[Ar d];exact⟨_,_,rfl,λh=>by cases h⟩
  .rw[A3 d,Ap];by_cases e:v>=(c.length:Int)
   .rw[Ar e];exact⟨_,_,rfl,λh=>by cases h⟩
   .rw[A3 e];have g:Ag c v=some (c[v.toNat]' ω):=Bn (n:=v.toNat) ω (Bp _);rw[g];exact⟨_,_,rfl,λ_=>⟨rfl,.inr ⟨ω,ω⟩⟩⟩
structure Bdl (env:List Ay) (res:Ay) (v:Int) (a:Ay) (env2:List Ay) (res2:Ay):Prop where
 len:env2.length=env.length
 at_:Dl env2 res2 v=a
 off:∀u,u≠v->(u = -1\/(0<=u/\u<env.length))->Dl env2 res2 u=Dl env res u
 mem:∀N,Co a<=N->(∀w∈env,Co w<=N)->Co res<=N->(∀w∈env2,Co w<=N)/\Co res2<=N
theorem Bdm (b:List Ay) (res:Ay) (v:Int) (a:Ay) (i:b.length<=1048576) (o:v = -1\/(0<=v/\v<b.length)):∃f c,Wb b res v a=some (f,c)/\Bdl b res v a f c:=by
 unfold Wb;rw[Dy ζ,nil_append,Ad];by_cases h:v = -1
 .rw[Eh h,Am];refine⟨b,a,rfl,rfl,by unfold Dl;rw[Aa9 (.inl ω)],λu q d=>?_,λN e d r=>⟨d,e⟩⟩;rcases d with d|d
  .exact (q ω).elim
  .have j:Ag b u=some (b[u.toNat]' ω):=Bn (n:=u.toNat) ω (Bp _);unfold Dl;rw[j]
 .have o:0<=v/\v<b.length:=o.resolve_left h;obtain⟨n,rfl⟩:∃n:Nat,v=n:=⟨v.toNat,ω⟩;have j:Ag b (n:Int)=some (b[n]' ω):=Bn rfl (Bp _);rw[C8 h,Ap,j,Ad,Ht (n:=n) rfl];refine⟨b.set n a,res,rfl,ψ,?_,λu q d=>?_,λN e d r=>⟨λw s=>?_,r⟩⟩
  .unfold Dl;rw[Bn (n:=n) (x:=a) rfl (by rw[getElem?_set_self ω])]
  .unfold Dl;rcases d with d|d
   .rw[Aa9 (.inl ω),Aa9 (.inl ω)]
   .obtain⟨m,rfl⟩:∃m:Nat,u=m:=⟨u.toNat,ω⟩;have g:m<b.length:=ω;rw[Bn (n:=m) (x:=b[m]) rfl (Bp g),Bn (n:=m) (x:=b[m]) rfl (by rw[getElem?_set_ne ω,Bp g])]
  .rcases mem_or_eq_of_mem_set s with h|h
   .exact d w h
   .rw[h];exact e
theorem Bdn {t:Aj} (h:TSz t) (b:S5 t):RB 8 t.C:=⟨h.co.num,h.co.den,b.1,b.2.1⟩
theorem Ax7 (h:CSz x) (hp:∀t∈p,TSz t) {b:List Ay} (f:∀v∈b,Co v<=1048576) (c:Co res<=1048576) : ∃r,Ri x p b res=some r/\(r.2≠0\/(Hn x/\Jk x.D x.V x.E p=true/\b.length=x.V.length/\(∀v∈Hk p,I3 x b res v=true)/\∃u,r=(u,0)/\Vh x p b res u)):=by
 obtain⟨r,e,g⟩:=A98 x h p hp b res f c;refine⟨r,e,?_⟩;rcases g with⟨_,rfl⟩|⟨d,⟨_,rfl⟩|⟨i,⟨_,rfl⟩|⟨j,u,rfl,n⟩⟩⟩
 .exact .inl δ
 .exact .inl δ
 .exact .inl δ
 .exact .inr ⟨d.1,d.2,i,j,u,rfl,n⟩
theorem Bdo:w∈Hk p↔∃t∈p,w∈Jv t.M:=by unfold Hk;rw[mem_flatMap]
theorem Bdp (φ:Be->A5) (ψ:Bf->A5) (m:A5):(rpM φ ψ m).F=m.F.flatMap (λf=>(φ f).F)++m.A.flatMap (λa=>(ψ a).F):=by unfold rpM jn;simp[flatMap_map]
abbrev TT:Int->Prop:=λ_=>True
theorem Bdq {f:Be} (e:E5 f.v) (h:iR f.I) (i:1<=D3 x.D x.V x.E f) (b:Bw f.I<=40):Vm x TT ⟨[f],[]⟩/\dgM x ⟨[f],[]⟩=D3 x.D x.V x.E f:=by refine⟨⟨ψ,λg d=>?_,nofun,λ_ _=>trivial⟩,by simp[dgM,Ct,Dn]⟩;rw[D4]at d;subst d;exact⟨e,h,i,b⟩
theorem Bdr (e:0<=a.P) (h:Ek a.L=true) (i:Ji x.V x.E a.L=true):Vm x TT ⟨[],[a]⟩/\dgM x ⟨[],[a]⟩=a.P:=by refine⟨⟨ψ,nofun,λg d=>?_,λ_ _=>trivial⟩,by simp[dgM,Ct,Dn];omega⟩;rw[D4]at d;subst d;exact⟨e,h,i⟩
structure Ax8 (x:B9) (p:List Aj):Prop where
 len:p.length<=10
 sz:∀t∈p,TSz t
 sh:∀t∈p,S5 t
theorem Bds (χ:Be->Nat) (g:Bg->Nat) (f:Be):mX χ g ⟨[f],[]⟩=χ f:=by unfold mX;simp[Dz,Gd]
theorem Bdt (χ:Be->Nat) (g:Bg->Nat) (a:Bf):mX χ g ⟨[],[a]⟩=bc (g a.L) a.P.toNat:=by unfold mX;simp[Dz,Gd]
theorem Bdu (h:Ji x.V x.E l=true):∀u∈l.T,(C9 x.V x.E u.v).isSome=true:=λu e=>by have d:=Gt.1 h u e;unfold Ph at d;cases g:C9 x.V x.E u.v with| none=>rw[g]at d;cases d| some s=>rfl
noncomputable def sbR (vars:List Int) (ms:List Bg) (l:Bg):Bg×Int:=(Tw l vars ms).getD (⟨0,[]⟩,1)
noncomputable def psL (vars:List Int) (ms:List Bg) (a:Bf):A5:=⟨[],[⟨(sbR vars ms a.L).1,a.P⟩]⟩
noncomputable def erL (vars:List Int) (ms:List Bg) (a:Bf):Int:=(sbR vars ms a.L).2
theorem Ah7 (f:Ek l=true) (c:∀m∈ms,Ek m=true) (g:vars.length=ms.length) (b:vars.length<=1000) : Tw l vars ms=some (sbR vars ms l)/\((sbR vars ms l).2=0->Ek (sbR vars ms l).1=true/\(sbR vars ms l).1.Q=l.Q+sbC (lkp vars ms) l.T/\Nj (sbR vars ms l).1.T/\∀v,cl (sbR vars ms l).1.T v=cl (sbT (lkp vars ms) l.T) v):=by
 obtain⟨r,d,h⟩:=Bdh f c g b;have e:sbR vars ms l=r:=by unfold sbR;rw[d];rfl
 rw[e];exact⟨d,h⟩
theorem Bdv (f:Ek a.L=true) (c:∀m∈ms,Ek m=true) (g:vars.length=ms.length) (b:vars.length<=1000):Tv a vars ms=some (psL vars ms a,erL vars ms a):=by unfold Tv;rw[(Ah7 f c g b).1];rfl
theorem Bdw (x:Ek l=true) (s:∀m∈ms,Ek m=true) (y:vars.length=ms.length) (q:vars.length<=1000) (h0:(sbR vars ms l).2=0) {P:Int->Prop} (n:∀t∈l.T,lkp vars ms t.v=none->P t.v) (o:∀t∈l.T,∀m,lkp vars ms t.v=some m->∀u∈m.T,P u.v):∀t∈(sbR vars ms l).1.T,P t.v:=by
 obtain⟨_,_,f,r⟩:=(Ah7 x s y q).2 h0;intro t d;by_cases e:∃u∈sbT (lkp vars ms) l.T,u.v=t.v
 .obtain⟨u,k,j⟩:=e;rw[<-j];obtain⟨w,c,i⟩:=Anu k;rcases i with⟨b,rfl⟩|⟨m,b,z,g,rfl⟩
  .exact n _ c b
  .exact o w c m b z g
 .have:=S3 (l:=sbT (lkp vars ms) l.T) (v:=t.v) λu A h=>e ⟨u,A,h⟩;rw[<-r,f.cl d]at this;exact (f.nz t d this).elim
theorem Bdx (f:Ek l=true) (c:∀m∈ms,Ek m=true) (g:vars.length=ms.length) (b:vars.length<=1000) (h0:(sbR vars ms l).2=0) {val val2:Int->Ay} (d:∀t∈l.T,(val2 t.v).U=match lkp vars ms t.v with|none=>(val t.v).U|some m=>Lo val m):fv val (sbR vars ms l).1=fv val2 l:=by
 obtain⟨_,e,_,h⟩:=(Ah7 f c g b).2 h0;unfold fv;rw[Ano,Ano,e,Bcf _ _ _ _ (Nat.le_refl _) h,<-Axr (lkp vars ms) (λv=>(val v).U) (λv=>(val2 v).U) l.T λt i=>?_]
 .congr 1;omega
 .rw[d t i];cases lkp vars ms t.v with| none=>rfl| some m=>exact Ano val m
theorem Bdy:∀(n:Nat) (s t:Af) (K:Nat),Bx s<=n->2*n<=K->n<=1048576->∃b,Rl K s t=some b/\(b=true->s=t):=by
 intro n;induction n with
 | zero=>intro s t K h;have:=Jf s;omega
 | succ n ih=>
  intro s t K h u l;obtain⟨K,rfl⟩:∃k,K=k+1+1:=⟨K-2,ω⟩;have i:=Jf s;rw[Rl];by_cases e:s.G=t.G
  .rw[Eh e,Am];by_cases o:s.U=t.U
   .rw[Eh o,Am,Zj];by_cases y:s.R.length=t.R.length
    .have g:=K7 s.R;rw[G0 ω,Ap];refine Exists.imp (λb h=>⟨bnd h.1 rfl,h.2⟩) (p:=λb=>(_:OB)=some b/\(b=true->s=t)) ?_;refine Er (λz=>∃j:Nat,z=j/\j<=s.R.length/\s.R.take j=t.R.take j) (λz=>s.R.length-z.toNat) (λz=>z = .inl false\/(z = .inr ()/\s.R=t.R)) ⟨0,rfl,ω,rfl⟩ ?_ ?_
     .rintro _ ⟨j,rfl,C,f⟩;rcases Cf j s.R.length with h|h
      .have d:s.R[j]? = some s.R[j]:=Bp h;have r:t.R[j]? = some (t.R[j]' ω):=Bp ω;generalize s.R[j]=a at d;generalize t.R[j]=b at r;have q:=Jx (Bv d);obtain⟨c,A,B⟩:=ih a b K ω ω ω;rw[Ar ω,Am,Bn rfl d,Ad,Bn rfl r,Ad,A,Ad,C3 h ω];cases c with| false=>exact .inr ⟨_,rfl,.inl rfl⟩| true=>left;exact⟨_,rfl,⟨j+1,rfl,ω,by rw[Cs d,Cs r,f,B rfl]⟩,by simp only[Int.toNat_natCast];omega⟩
      .right;have:j=s.R.length:=ω;subst this;rw[C1,y,C1]at f;exact⟨_,by rw[A3 ω,Ap],.inr ⟨rfl,f⟩⟩
     .rintro z (rfl|⟨rfl,h⟩)
      .exact⟨false,rfl,λh=>by cases h⟩
      .refine⟨true,rfl,λ_=>?_⟩;cases s;cases t;simp only[Af.mk.injEq]at *;exact⟨e,o,h⟩
    .rw[F4 ω,Am];exact⟨false,rfl,λh=>by cases h⟩
   .rw[C8 o];exact⟨false,rfl,λh=>by cases h⟩
  .rw[C8 e];exact⟨false,rfl,λh=>by cases h⟩
theorem Bdz (a b:List Int) (h:a.length+b.length<=1000000):Aeb [a,b]=some (a++b) := Ag9 (B:=8) δ (gr:=Aee) (λn h=>Ace n h) a b h
def rnV:List Int->List Int->Int->Int
 | v::vs,w::b,u=>if v=u then w else rnV vs b u
 | _,_,u=>u
def phR (vs b:List Int) (f:Be):A5:=⟨[⟨rnV vs b f.v,f.I⟩],[]⟩
def lv1 (v:Int):Bg:=⟨0,[⟨v,1⟩]⟩
theorem Ac1:∀(vs b:List Int) (u:Int),(lkp vs (b.map lv1) u=none/\rnV vs b u=u)\/(lkp vs (b.map lv1) u=some (lv1 (rnV vs b u))/\rnV vs b u∈b)
 | [],b,u=>.inl ⟨by cases b <;> rfl,by cases b <;> rfl⟩
 | v::vs,[],u=>.inl ⟨rfl,rfl⟩
 | v::vs,w::b,u=>by
  simp only[map_cons,lkp,rnV];by_cases h:v=u
  .rw[As h,As h];exact .inr ⟨rfl,ψ⟩
  .rw[Ao h,Ao h];rcases Ac1 vs b u with d|⟨d,e⟩
   .exact .inl d
   .exact .inr ⟨d,by simp[e]⟩
theorem Bd0 (f:Be) (l:vs.length=b.length) (k:vs.length<=1000):Tq f vs b=some [phR vs b f]:=by
 unfold Tq Zc phR;obtain⟨i,n,o⟩:=Axu (ms:=b.map lv1) f.v (by simpa using l) k;rw[n,Ad];rcases o with⟨e,d⟩|⟨j,m,rfl,e,d⟩
 .rw[A3 ω,Ap];rcases Ac1 vs b f.v with h|h
  .rw[h.2];rfl
  .rw[h.1]at d;cases d
 .rw[Ar ω,Am];rcases Ac1 vs b f.v with h|h
  .rw[h.1]at d;cases d
  .rw[h.1]at d;cases d;rw[getElem?_map,Option.map_eq_some_iff]at e;obtain⟨w,g,c⟩:=e;have q:w=rnV vs b f.v:=(by unfold lv1 at c;simpa using c);rw[Bn rfl g,q];rfl
theorem Bd1 (x:B9) (p:List Aj) (vs b vars:List Int) (ms:List Bg) (g:List (ByteArray×Int)) (c:List (ByteArray×List Au)):Aec p vs b vars ms g c x.D x.V x.E.G x.E.U x.E.R=Ans x (λf=>Tq f vs b) (λa=>Tv a vars ms) p g c:=rfl
theorem Ax9 {α:Type}:∀(l m:List α),l.Nodup->(∀a∈l,a∈m)->m.length<=l.length->m.Perm l
 | [],m,_,_,h=>by have:m = []:=F3.1 (by simpa using h);subst this;exact .refl _
 | a::l,m,g,f,h=>by
  obtain⟨e,i,rfl⟩:=append_of_mem (f a ψ);have c:=List.nodup_cons.1 g;have ih:=Ax9 l (e++i) c.2 (λb d=>by
   have:=f b (by simp[d]);simp only[Ef,Gc]at this ⊢;rcases this with h|rfl|h
   .exact .inl h
   .exact (c.1 d).elim
   .exact .inr h) (by simp only[Ep,D1]at h ⊢;omega)
  exact perm_middle.trans (ih.cons a)
theorem Bd2 {l o:List Int} {m:Nat} (h:Asc (l.mergeSort λx y=>decide (x<=y)) (l.mergeSort λx y=>decide (x<=y)).length (o.take m)) (c:m<=o.length) (f:l.length<=m):l.Nodup:=by have d:(o.take m).Nodup:=h.up.imp λ{a b} h e=>ω;have g:=Ax9 (o.take m) l d (λa i=>by have:=(h.mem a).1 i;rw[C1]at this;exact (mergeSort_perm l _).mem_iff.1 this) (by rw[length_take];omega);exact g.nodup_iff.2 d
theorem Ac2 {x:B9}:∀{vs c:List Int},(∀(k:Nat) v w,vs[k]? = some v->c[k]? = some w->C9 x.V x.E v=C9 x.V x.E w)->∀u,C9 x.V x.E (rnV vs c u)=C9 x.V x.E u
 | [],c,_,u=>by cases c <;> rfl
 | v::vs,[],_,u=>rfl
 | v::vs,w::c,h,u=>by
  rw[rnV];by_cases e:v=u
  .rw[As e,<-e];exact (h 0 v w rfl rfl).symm
  .rw[Ao e];exact Ac2 (λk a b d g=>h (k+1) a b d g) u
theorem Bd3 {i:Ah} (h:C9 x.V x.E v=C9 x.V x.E w):D3 x.D x.V x.E ⟨v,i⟩=D3 x.D x.V x.E ⟨w,i⟩:=by unfold D3;rw[h]
theorem Aya (h : -1<=w/\w<3000):Ek (lv1 w)=true:=by unfold Ek lv1;simp[List.zipIdx,U1,Ml];omega
theorem Ah8 (e:Hn x) (h:(C9 x.V x.E v).isSome=true) : -1<=v/\v<3000:=by have d:=Abp x.V x.E v;rw[h]at d;have d:=of_decide_eq_true d.symm;have g:=e.1;omega
theorem Bd4 (c:List (ByteArray×Int)) (L:List Int) (f:L.length<=1000000) : ∃z,Ak (S:=Int) (E:=((List Aj×Int)⊕Unit)) (λd=> bif d<(L.length:Int) then ((Ag L d).bind λg=> (Px g c [] x.D x.V x.E.G x.E.U x.E.R).bind λi=> bif (!i) then (some (.inr (.inl ([],8)))) else (some (.inl (Ac (d+1))))) else (some (.inr (.inr ())))) 0=some z/\(z = .inl ([],8)\/(z = .inr ()/\∀v∈L,(C9 x.V x.E v).isSome=true)):=by
 refine Jm (S:=Int) (E:=(List Aj×Int)⊕Unit) (λs=>∃j:Nat,s=(j:Int)/\j<=L.length/\∀v∈L.take j,(C9 x.V x.E v).isSome=true) (λs=>L.length-s.toNat) (λz=>z = .inl ([],8)\/(z = .inr ()/\∀v∈L,(C9 x.V x.E v).isSome=true)) ?_ 0 ⟨0,rfl,ω,ψ⟩;rintro _ ⟨j,rfl,q,b⟩;rcases Cf j L.length with h|h
 .have n:L[j]? = some L[j]:=Bp h;generalize L[j]=v at n;simp only[Ar (ω:(j:Int)<(L.length:Int)),Am,Bn rfl n,Ad,Alo c [] x.D x.V x.E,C3 h ω];cases o:(C9 x.V x.E v).isSome with
  | false=>exact .inr ⟨_,rfl,.inl rfl⟩
  | true=>
   refine .inl ⟨_,rfl,⟨j+1,rfl,ω,λu e=>?_⟩,by simp only[Int.toNat_natCast];omega⟩;rw[Cs n]at e;rcases Ef.1 e with e|e
   .exact b u e
   .rw[D4]at e;rw[e];exact o
 .have:j=L.length:=ω;subst this;rw[C1]at b;exact .inr ⟨.inr (),by simp only[A3 (ω:¬(L.length:Int)<(L.length:Int)),Ap],.inr ⟨rfl,b⟩⟩
theorem Bd5 (L:CSz x) (T:Hn x) (y:List (ByteArray×Int)) (vs c:List Int) (N:vs.length=c.length) (M:vs.length<=1000) (G:∀v∈vs++c,(C9 x.V x.E v).isSome=true) : ∃z,Ak (S:=(Int×List Bg)) (E:=((List Aj×Int)⊕List Bg)) (λ(f,i)=> bif f<(c.length:Int) then ((Ag c f).bind λd=> (Ag vs f).bind λC=> (Ka C y [] x.D x.V x.E.G x.E.U x.E.R).bind λF=> (Ka d y [] x.D x.V x.E.G x.E.U x.E.R).bind λB=> (Rl (4000000) F B).bind λA=> bif (!A) then (some (.inr (.inl ([],6)))) else ((Wc d).bind λH=> (B8 32 i [H]).bind λD=> some (.inl ((Ac (f+1)),D)))) else (some (.inr (.inr i)))) (0,[])=some z/\(z = .inl ([],6)\/(z = .inr (c.map lv1)/\∀(k:Nat) v w,vs[k]? = some v->c[k]? = some w->C9 x.V x.E v=C9 x.V x.E w)):=by
 refine Jm (S:=Int×List Bg) (E:=(List Aj×Int)⊕List Bg) (λs=>∃j:Nat,s.1=(j:Int)/\j<=c.length/\s.2=(c.take j).map lv1/\∀(k:Nat) v w,k<j->vs[k]? = some v->c[k]? = some w->C9 x.V x.E v=C9 x.V x.E w) (λs=>c.length-s.1.toNat) (λz=>z = .inl ([],6)\/(z = .inr (c.map lv1)/\∀(k:Nat) v w,vs[k]? = some v->c[k]? = some w->C9 x.V x.E v=C9 x.V x.E w)) ?_ (0,[]) ⟨0,rfl,ω,rfl,λk _ _ h=>ω⟩;rintro⟨_,o⟩ ⟨j,rfl,hj,u,g⟩;dsimp only at u ⊢;rcases Cf j c.length with h|h
 .have e:c[j]? = some c[j]:=Bp h;have n:vs[j]? = some (vs[j]' ω):=Bp ω;generalize c[j]=w at e;generalize vs[j]=v at n;have U:=G w (by simp[Bv e]);have X:=G v (by simp[Bv n]);obtain⟨t,K⟩:=Option.isSome_iff_exists.1 X;obtain⟨s,q⟩:=Option.isSome_iff_exists.1 U;obtain⟨b,J,I⟩:=Bdy 1000 t s 4000000 (by have:=(T.ctx L).sz v t K;omega) δ δ;rw[Ar ω,Am,Bn rfl e,Ad,Bn rfl n,Ad,Xo y [] x.D x.V x.E K,Ad,Xo y [] x.D x.V x.E q,Ad,J,Ad,C3 h ω];cases b with
  | false=>exact .inr ⟨_,rfl,.inl rfl⟩
  | true=>
   left;have l:Wc w=some (lv1 w):=(by unfold Wc;rw[Atj,Ar (Ah8 T U)];rfl);rw[bnt,Ap,l,Ad,Dy (by rw[u];simp;omega),Ad];refine⟨_,rfl,⟨j+1,rfl,ω,by dsimp only;rw[u,Cs e,map_append];rfl,λk a b hk P Q=>?_⟩,by simp only[Int.toNat_natCast];omega⟩;rcases Cf k j with r|r
   .exact g k a b r P Q
   .have:k=j:=ω;subst this;rw[n]at P;rw[e]at Q;cases P;cases Q;rw[K,q,I rfl]
 .right;have:j=c.length:=ω;subst this;rw[C1]at u;exact⟨_,by rw[A3 ω,Ap],.inr ⟨by rw[u],λk v w r V=>g k v w (Ec V) r V⟩⟩
structure Ah9 (x:B9) (p:List Aj) (vs ws:List Int) (R:List Aj):Prop where
 fine:Hn x
 can:Kf x p
 len:vs.length=ws.length
 nd:vs.Nodup
 ok:∀v∈vs++ws,(C9 x.V x.E v).isSome=true
 ty:∀(k:Nat) v w,vs[k]? = some v->ws[k]? = some w->C9 x.V x.E v=C9 x.V x.E w
 res:Axp x 240 TT (phR vs ws) (psL vs (ws.map lv1)) (erL vs (ws.map lv1)) p R
theorem Bd6 {m:Bg} (h:lkp vs (b.map lv1) u=some m):m=lv1 (rnV vs b u):=by
 rcases Ac1 vs b u with d|⟨d,_⟩
 .rw[d.1]at h;cases h
 .rw[d]at h;cases h;rfl
theorem Bd7 (L:CSz x) (hp:Ax8 x p) (vs b:List Int) (I:vs.length<=1000) : ∃R e,Y7 x p vs b=some (R,e)/\(e=0->Ah9 x p vs b R):=by
 have E:∀q∈[p],∀t∈q,TSz t:=λq hq=>by rw[D4]at hq;subst hq;exact hp.sz
 unfold Y7;by_cases Q:Hn x/\∀q∈[p],Jk x.D x.V x.E q=true
 .obtain⟨Y,S,hm⟩:=Avx L E (by simp) Q;have F:=Q.1;have J:Kf x p:=⟨Q.2 p (by simp),hp.sz⟩;rw[S];simp only[Ad,bnt,Ap];by_cases i:vs.length=b.length
  .rw[G0 ω,Ap];have U:Rj vs=some ([],vs):=(by unfold Rj Kn;rw[Dy ζ];rfl);have g:=length_mergeSort (le:=λx y:Int=>decide (x<=y)) vs;obtain⟨m,o,h1,h2,h3⟩:=Amn (vs.mergeSort λx y=>decide (x<=y)) (Amm vs) (by rw[g];omega);rw[U,Ad];dsimp only;rw[Aml,Ad,Ku g.symm,Ad,<-g,h1,Ad,g];dsimp only;by_cases H:((m:Nat):Int)<(vs.length:Int)
   .rw[Ar H];exact⟨[],4,rfl,λh=>by cases h⟩
   .have N:=Bd2 h3 h2 ω;rw[A3 H,Ap,Bdz vs b ω,Ad];obtain⟨z,M,z2⟩:=Bd4 (x:=x) Y (vs++b) ζ;rcases z2 with rfl|⟨rfl,B⟩
    .exact⟨[],8,bnd M rfl,λh=>by cases h⟩
    .obtain⟨y,V,y2⟩:=Bd5 L F Y vs b i I B;rcases y2 with rfl|⟨rfl,A⟩
     .exact⟨[],6,bnd M (bnd V rfl),λh=>by cases h⟩
     .have g:∀k∈b.map lv1,Ek k=true:=λk T=>by obtain⟨w,hw,rfl⟩:=mem_map.1 T;exact Aya (Ah8 F (B w (by simp[hw])))
      have D:vs.length=(b.map lv1).length:=(by simpa using i);have G:∀u∈p,(∀a∈u.M.A,erL vs (b.map lv1) a=0)->(∀f∈u.M.F,Vm x TT (phR vs b f)/\dgM x (phR vs b f)=D3 x.D x.V x.E f)/\∀a∈u.M.A,Vm x TT (psL vs (b.map lv1) a)/\dgM x (psL vs (b.map lv1) a)=a.P:=λu hu K=>by
       have r:=(J.mo u hu).f;refine⟨λf j=>?_,λa C=>?_⟩
       .have X:=Ac2 A f.v;have hd:D3 x.D x.V x.E ⟨rnV vs b f.v,f.I⟩=D3 x.D x.V x.E f:=Bd3 (v:=rnV vs b f.v) (w:=f.v) X;obtain⟨t,d,s1,_⟩:=Acu (r.fac f j);have hb:=Ah8 F (v:=rnV vs b f.v) (by rw[X,s1];rfl);have q:=Bdq (x:=x) (f:=⟨rnV vs b f.v,f.I⟩) ⟨by dsimp only;omega,by dsimp only;omega⟩ ((hp.sz u hu).mo.fr f j).1 (by rw[hd];exact r.fac f j) ((hp.sh u hu).2.2 f j);rw[hd]at q;exact q
       .have l:=(r.atm a C).2;refine Bdr (by have:=(r.atm a C).1;dsimp only;omega) ((Ah7 l.1 g D I).2 (K a C)).1 (Gt.2 (Bdw l.1 g D I (K a C) (P:=λw=>∀t:Bq,t.v=w->Ph x.V x.E t=true) (λt n _ s B=>?_) (λt n k T c r s B=>?_) · · _ rfl))
        .have:=Gt.1 l.2.2 t n;unfold Ph at this ⊢;rw[B];exact this
        .rw[Bd6 T]at r;simp only[lv1,D4]at r;have:=Gt.1 l.2.2 t n;unfold Ph at this ⊢;rw[B,r,Ac2 A];exact this
      obtain⟨R,e,o1,o2,r1,r2⟩:=Bdb (W:=TT) (Z:=240) (k:=8) L F δ δ (fac:=λf=>Tq f vs b) (atm:=λa=>Tv a vs (b.map lv1)) (φ:=phR vs b) (ψ:=psL vs (b.map lv1)) (er:=erL vs (b.map lv1)) J (λt n=>Bdn (hp.sz t n) (hp.sh t n)) hp.len (λ_ _ f _=>Bd0 f i I) (λt n a C=>Bdv ((J.mo t n).f.atm a C).2.1 g D I) (λt n f F=>by simp[phR]) (λt n a C=>by simp[psL]) (λt n K=>rpO (J.mo t n).f (G t n K).1 (G t n K).2) hm (PMg.nil _ _ _);refine⟨R,e,bnd M (bnd V ?_),λh=>⟨F,J,i,N,B,A,r2 h⟩⟩;unfold Aed;simp only[Ad,Bd1,r1]
  .rw[F4 ω];exact⟨[],5,rfl,λh=>by cases h⟩
 .have S:=Avw L E (by simp) Q;rw[S];exact⟨[],1,rfl,λh=>by cases h⟩
def Ac3 (x:B9) (vs b:List Int) (val val2:Int->Ay):Prop:=∀u,(C9 x.V x.E u).isSome=true->val2 u=val (rnV vs b u)
theorem Bd8 {g:List Int} (h:Ah9 x p vs g R) {f c:List Ay} {b:Ay} (i:Ac3 x vs g (Dl f res) (Dl c b)) (d:I3 x c b u=true):I3 x f res (rnV vs g u)=true:=by unfold I3 at d ⊢;rw[Ac2 h.ty];cases e:C9 x.V x.E u with| none=>rw[e]at d;exact d| some t=>rw[e]at d;rw[i u (by rw[e];rfl)]at d;exact d
theorem Bd9 {l:List Int} (h:Ah9 x p vs l R) (I:vs.length<=1000) {j i:List Ay} {b:Ay} (D:Ac3 x vs l (Dl j res) (Dl i b)) (y:∀u∈Hk p,I3 x i b u=true):L5 x (Dl j res) R=L5 x (Dl i b) p:=by
 have z:∀k∈l.map lv1,Ek k=true:=λk J=>by obtain⟨w,K,rfl⟩:=mem_map.1 J;exact Aya (Ah8 h.fine (h.ok w (by simp[K])))
 have A:vs.length=(l.map lv1).length:=by simpa using h.len
 have E:=h.can;rw[Anq,Anq,h.res.vl (Lc x (Dl j res)) (fv (Dl j res)) (λt L g r=>?_) (Bcb _)]
 .refine Ax5 p λu o=>⟨λf d=>?_,λa e=>?_⟩
  .obtain⟨c,_,C,_⟩:=Acu ((E.mo u o).f.fac f d);show mX _ _ ⟨[⟨rnV vs l f.v,f.I⟩],[]⟩=_;rw[Bds];unfold Lc;dsimp only;rw[Ac2 h.ty,C,D f.v (by rw[C];rfl)]
  .have s:=(E.mo u o).f.atm a e;have M:=Bdu s.2.2.2;show mX _ _ ⟨[],[⟨(sbR vs (l.map lv1) a.L).1,a.P⟩]⟩=_;rw[Bdt];dsimp only;rw[Bdx (val2:=Dl i b) s.2.1 z A I (h.res.ok u o a e) λc N=>?_];rw[D c.v (M c N)];rcases Ac1 vs l c.v with n|⟨n,_⟩
   .rw[n.1,n.2]
   .rw[n];unfold Lo lv1;simp
 .rw[Bdp]at r;rcases Ef.1 r with d|d
  .obtain⟨G,B,d⟩:=mem_flatMap.1 d;simp only[phR,D4]at d;subst d;exact Bc1 (F:=[⟨rnV vs l G.v,G.I⟩]) (λq H=>by rw[D4]at H;subst H;exact Bd8 h D (y _ (Bdo.2 ⟨t,L,Vl.2 (.inl ⟨_,B,rfl⟩)⟩))) _ ψ
  .obtain⟨a,_,e⟩:=mem_flatMap.1 d;cases e
theorem Bea {q:List Aj} {f c:List Ay} {b:Ay} {u w:Aq} (d:Vh x p f res u) (e:Vh x q c b w) (h:L5 x (Dl f res) p=L5 x (Dl c b) q):Tn u w=some true:=by have:u=w:=Aly d.can e.can (by rw[d.val,e.val,h]);subst this;have:=d.rb;exact A8y u (by have:=this.nl;omega) (by have:=this.dl;omega)
theorem Ayb:∀{vs c:List Int} {v w:Int} (u:Int),vs.length=c.length->v ∉ vs->rnV (vs++[v]) (c++[w]) u=if v=u then w else rnV vs c u
 | [],[],v,w,u,_,_=>by simp only[nil_append,rnV]
 | a::vs,b::c,v,w,u,g,f=>by
  have ih:=Ayb (v:=v) (w:=w) u (by simpa using g:vs.length=c.length) λh=>f (by simp[h]);simp only[D0,rnV];rw[ih];by_cases h:a=u
  .rw[As h,As h,Ao λe=>f (by rw[e,<-h];simp)]
  .rw[Ao h,Ao h]
theorem Beb {b:List Ay} {N:Nat} (d:∀w∈b,Co w<=N) (e:Co res<=N) (u:Int):Co (Dl b res u)<=N:=by unfold Dl;cases h:Ag b u with| none=>exact e| some w=>exact d w (G3 h).2.2.2
theorem Bec {y:List Int} (h:Ah9 x p vs y R) (hl:vs.length<=1000) (c:List Ay) (res:Ay) (a6:c.length<=1048576) (a1:c.length=x.V.length) (U:∀v∈c,Co v<=1048576) (A:Co res<=1048576) : ∃z,Ak (S:=(List Ay×Int×Int×Int×List Ay)) (E:=(Bool⊕(List Ay×Int×Int×List Ay))) (λ(M,d,F,H,K)=> bif d<(vs.length:Int) then ((Ag y d).bind λa0=> (Oq c res a0).bind λP=> (Ag vs d).bind λY=> (Oq c res Y).bind λa2=> (show OB from bif (!P.2) then (some true) else (some (!a2.2))).bind λX=> bif X then (some (.inr (.inl false))) else ((Ag vs d).bind λa3=> (Wb M (Ay.mk F H K) a3 P.1).bind λo=> some (.inl (o.1,(Ac (d+1)),o.2.G,o.2.U,o.2.K)))) else (some (.inr (.inr (M,F,H,K))))) (c,0,res.G,res.U,res.K)=some z/\∃f k n g,z = .inr (f,k,n,g)/\Ac3 x vs y (Dl c res) (Dl f ⟨k,n,g⟩)/\(∀v∈f,Co v<=1048576)/\Co ⟨k,n,g⟩<=1048576:=by
 have q:∀r:Ay,Ay.mk r.G r.U r.K=r:=λr=>by cases r;rfl
 refine Jm (S:=(List Ay×Int×Int×Int×List Ay)) (E:=(Bool⊕(List Ay×Int×Int×List Ay))) (λs=>∃j:Nat,s.2.1=(j:Int)/\j<=vs.length/\s.1.length=c.length/\Ac3 x (vs.take j) (y.take j) (Dl c res) (Dl s.1 ⟨s.2.2.1,s.2.2.2.1,s.2.2.2.2⟩)/\(∀v∈s.1,Co v<=1048576)/\Co ⟨s.2.2.1,s.2.2.2.1,s.2.2.2.2⟩<=1048576) (λs=>vs.length-s.2.1.toNat) (λz=>∃f k n g,z = .inr (f,k,n,g)/\Ac3 x vs y (Dl c res) (Dl f ⟨k,n,g⟩)/\(∀v∈f,Co v<=1048576)/\Co ⟨k,n,g⟩<=1048576) ?_ _ ⟨0,rfl,ω,rfl,λu _=>by dsimp only;rw[q];rfl,U,by dsimp only;rw[q];exact A⟩;rintro⟨G,_,k,n,g⟩ ⟨j,rfl,hj,D,V,L,J⟩;dsimp only at D V L J ⊢;have he:=h.len;rcases Cf j vs.length with t|t
 .left;have Q:vs[j]? = some vs[j]:=Bp t;have T:y[j]? = some (y[j]' ω):=Bp ω;have B:vs[j] ∉ vs.take j:=by
   intro hm;obtain⟨i,C⟩:=Hh hm;rw[getElem?_take]at C;split at C
   .rename_i Z;exact pairwise_iff_getElem.1 h.nd i j (Ec C) t Z (List.getElem?_eq_some_iff.1 C).2
   .cases C
  generalize vs[j]=v at Q B;generalize y[j]=w at T;have hv:=h.ok v (by simp[Bv Q]);have hw:=h.ok w (by simp[Bv T]);rw[Abp,Ds]at hv hw;have hr:∀u:Int,-1<=u/\u<x.V.length->Oq c res u=some (Dl c res u,true):=λu hu=>by
   obtain⟨a,b,I,o2⟩:=Bdk c res u;have hb:b=true:=by
    unfold Oq at I;by_cases e:u = -1
    .rw[Eh e,Am]at I;cases I;rfl
    .rw[C8 e,Ap,A3 ω,Ap,A3 ω]at I;have C:Ag c u=some (c[u.toNat]' ω):=Bn (n:=u.toNat) ω (Bp _);rw[C]at I;cases I;rfl
   subst hb;rw[I,(o2 rfl).1]
  rw[Ar ω,Am,Bn rfl T,Ad,hr w hw,Ad,Bn rfl Q,Ad,hr v hv,Ad];simp only[bnt,Ap,Ad];obtain⟨e2,r2,w1,l⟩:=Bdm G ⟨k,n,g⟩ v (Dl c res w) ω ω;have N:=l.mem 1048576 (Beb U A w) L J;rw[w1,Ad,C3 t ω];refine⟨_,rfl,⟨j+1,rfl,ω,by rw[<-D];exact l.len,λu hu=>?_,N.1,by dsimp only;rw[q];exact N.2⟩,by simp only[Int.toNat_natCast];omega⟩;rw[Cs Q,Cs T,Ayb u ζ B];dsimp only;rw[q];by_cases e:v=u
  .rw[As e,<-e];exact l.at_
  .rw[Ao e,<-V u hu];rw[Abp,Ds]at hu;exact l.off u (λh=>e h.symm) ω
 .right;have:j=vs.length:=ω;subst this;rw[C1,he,C1]at V;exact⟨_,by rw[A3 ω,Ap],G,k,n,g,rfl,V,L,J⟩
theorem Bed (x:B9) (p:List Aj) (vs q:List Int) (f:List Ay) (res:Ay) (l:CSz x) (C:p.length<=1048576) (hp:∀t∈p,TSz t) (i:f.length<=1048576) (h:∀v∈f,Co v<=1048576) (g:Co res<=1048576):Aea x p vs q f res=some true:=by
 unfold Aea;obtain⟨b,F,d⟩:=Bc7 x l [p] ψ (λr M=>by rw[D4]at M;subst M;exact⟨C,hp⟩);obtain⟨c,H,T⟩:=Bdj f res i h g;rw[F,Ad];cases b with
 | false=>rfl
 | true=>
 by_cases L:(vs.length:Int)>8
 .rw[Ar L];rfl
 by_cases S:(q.length:Int)>8
 .rw[A3 L,Ar S];rfl
 rw[A3 L,A3 S,H];cases c with
 | false=>rfl
 | true=>
 have G:Ax8 x p:=⟨(d rfl p ψ).1,hp,(d rfl p ψ).2⟩;simp only[bnt,Ap,Ad];by_cases I:f.length=x.V.length
 .rw[G0 ω,Ap];obtain⟨R,e,Y,X⟩:=Bd7 l G vs q ω;rw[Y,Ad];simp only[A8v];by_cases J:e=0
  .have j:=X J;have N:=j.len;rw[G0 J,Ap,Ad,G0 ω,Ap];obtain⟨z,V,U,k,n,ks,rfl,K,E,D⟩:=Bec j ω f res i I h g;refine bnd V ?_;dsimp only;obtain⟨u1,P,y⟩:=Ax7 l (p:=R) (λt o=>⟨(j.res.tm t o).2.mono δ,(j.res.tm t o).1.1.1.2⟩) h g;obtain⟨u2,Q,u⟩:=Ax7 l hp E D;rw[P,Ad,Q,Ad];rcases y with y|⟨_,_,_,_,y1,rfl,B⟩
   .rw[F4 y];rfl
   .rcases u with u|⟨_,_,_,s,y2,rfl,A⟩
    .rw[F4 u];rfl
    .have Z:=Bea B A (Bd9 j ω K s);dsimp only;rw[Z];rfl
  .rw[F4 J];rfl
 .rw[F4 ω];rfl
end Go.Ab
