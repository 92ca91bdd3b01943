/- Abstract values. -/
import Derived.Test.YtdifpebphbblaaaGreatDoorMnAb
open List
namespace Go.Ab
def H0:Hp:=λ_=>.none
def ι0:Bq:=λ_=>.none
def Rf (P:Program) (f:FuncId):Prop:=∃fn,P.funcs[f]? = some fn/\(fn.name == "runtime.NumGoroutine")=false/\fn.body.isNone=false
def Jo (σ:Aw) (ι:Bq) (H:Hp) (args:List AV) (vs:Array Value):Prop := vs.size=args.length/\∀(i:Nat) (a:AV) (v:Value),args[i]? = some a->vs[i]? = some v->Conc σ ι H a v
def A4 (P:Program) (f:FuncId) (args:List AV) (r:AV):Prop := Rf P f/\∀(σ F:Aw) (W w:World) (d:Array Value),St σ ι0 H0 F W w->Jo σ ι0 H0 args d -> Calls P f d w λe w'=>∃v σ',e = .returned v/\σ.le σ'/\St σ' ι0 H0 F W w'/\Conc σ' ι0 H0 r v
def AV.under0 (n:Nat):AV->Bool
 | .loc h _ | .mp h | .vec h _=>Nat.blt h n
 | .arr h _ _ _ | .el h _ _ _=>Nat.blt h n
 | .val _ | .sl _ _ | .ref _ | .fb _ | .fm _=>true
 | _=>false
def AV.under1 (n:Nat):AV->Bool
 | .loc h _ | .mp h | .vec h _=>Nat.blt h n
 | .arr h _ _ _ | .el h _ _ _=>Nat.blt h n
 | .val _ | .sl _ _ | .ref _ | .fb _ | .fm _=>true
 | .fn _ cs=>cs.all (AV.under0 n)
 | _=>false
def AV.under2 (n:Nat):AV->Bool
 | .agg cs=>cs.all (AV.under1 n)
 | x=>x.under1 n
def AV.under (n:Nat):AV->Bool
 | .agg cs | .fn _ cs=>cs.all (AV.under1 n)
 | .tup cs=>cs.all (AV.under2 n)
 | x=>x.under1 n
def NC.under (n:Nat):NC->Bool
 | .own _=>true
 | .lent h _=>Nat.blt h n
def Bg.under (n:Nat):Bg->Bool
 | .cells _ cs=>cs.all (AV.under1 n)
 | .map _=>true
 | .rows _ _ _=>true
 | .none=>true
 | .dead=>true
 | .nest _ _ _ ys=>ys.all (NC.under n)
def Abk (es:Nat->Nat):AV->AV
 | .loc h d=>.loc (es h) d
 | .mp h=>.mp (es h)
 | .vec h k=>.vec (es h) k
 | .arr h k d len=>.arr (es h) k d len
 | .el h k i j=>.el (es h) k i j
 | x=>x
def L3 (es:Nat->Nat):AV->AV
 | .loc h d=>.loc (es h) d
 | .mp h=>.mp (es h)
 | .vec h k=>.vec (es h) k
 | .arr h k d len=>.arr (es h) k d len
 | .el h k i j=>.el (es h) k i j
 | .fn f cs=>.fn f (cs.map (Abk es))
 | x=>x
def Abl (es:Nat->Nat):AV->AV
 | .agg cs=>.agg (cs.map (L3 es))
 | x=>L3 es x
def ren (es:Nat->Nat):AV->AV
 | .agg cs=>.agg (cs.map (L3 es))
 | .tup cs=>.tup (cs.map (Abl es))
 | .fn f cs=>.fn f (cs.map (L3 es))
 | x=>L3 es x
def Bg.fixd:Bg->Bool
 | .nest _ _ _ ys=>ys.all λy=>match y with
  | .own _=>true
  | .lent _ _=>false
 | _=>true
def Ib (es:Nat->Nat):Bg->Bg
 | .cells E cs=>.cells E (cs.map (L3 es))
 | o=>o
def hp (b:List Bg):Hp:=λk=>b.getD k .none
def Bt (P:Program) (f:FuncId) (args:List AV) (c:List Bg) (r:AV) (b:List Bg):Prop := Rf P f/\∀(σ F:Aw) (W w:World) (ι:Bq) (d:Array Value),St σ ι (hp c) F W w->Jo σ ι (hp c) args d -> Calls P f d w λe w'=>∃v σ' ι',e = .returned v/\Le σ ι (hp c) σ' ι' (hp b)/\St σ' ι' (hp b) F W w'/\Conc σ' ι' (hp b) r v
def N4 (P:Program) (f:FuncId) (args:List AV) (c:List Bg) (R:AV->List Bg->Prop):Prop := Rf P f/\∀(σ F:Aw) (W w:World) (ι:Bq) (d:Array Value),St σ ι (hp c) F W w->Jo σ ι (hp c) args d -> Calls P f d w λe w'=>∃r b v σ' ι',R r b/\e = .returned v/\Le σ ι (hp c) σ' ι' (hp b)/\St σ' ι' (hp b) F W w'/\Conc σ' ι' (hp b) r v
variable {r:AV} {f:FuncId} {c i:List Bg} {P:Program}
theorem Bt.toR {args:List AV} (h:Bt P f args i r c):N4 P f args i λa b=>a=r/\b=c := ⟨h.1,λσ F W w ι vs s hc=>(h.2 σ F W w ι vs s hc).mono λ_ _ ⟨v,σ',ι',a⟩=>⟨r,c,v,σ',ι',⟨rfl,rfl⟩,a⟩⟩
theorem N4.one {args:List AV} {R:AV->List Bg->Prop} (h:N4 P f args i R) (h1:∀a b,R a b->a=r/\b=c):Bt P f args i r c := ⟨h.1,λσ F W w ι vs s hc=>(h.2 σ F W w ι vs s hc).mono λ_ _ ⟨a,b,v,σ',ι',j,q⟩=>⟨v,σ',ι',by obtain⟨rfl,rfl⟩:=h1 a b j;exact q⟩⟩
def C4 (n:Nat):List Nat->Nat->Nat
 | [],k=>n+k
 | h::_,0=>h
 | _::l,k+1=>C4 n l k
def M2 (n:Nat):List Nat->Bool
 | []=>true
 | h::l=>Nat.blt h n && !(l.elem h)&&M2 n l
def Eg (es:Nat->Nat):Nat->List Bg->List (Nat×Bg)
 | _,[]=>[]
 | k,o::os=>(es k,Ib es o)::Eg es (k+1) os
def Ca (es:Nat->Nat):Nat->Nat->List (Nat×Bg)
 | _,0=>[]
 | k,c+1=>(es k,.none)::Ca es (k+1) c
def L5 (H:Hp):List (Nat×Bg)->Prop
 | []=>True
 | p::l=>H p.1=p.2/\L5 H l
def Hm (n:Nat) (l:List Nat) (c:List AV) (f:List Bg) (r:AV) (b:List Bg):Bool := M2 n l&&Nat.beq f.length l.length&&Nat.ble l.length b.length&&c.all (AV.under l.length)&&f.all (Bg.under l.length)&&r.under b.length&&b.all (Bg.under b.length)&&(f.all Bg.fixd&&b.all Bg.fixd)
inductive Rg (xs:List AV) (i:Int) (K:Nat->AV->Prop):Prop where
 | mk (n:Nat) (x:AV) (hi:i=n) (hx:xs[n]? = some x) (k:K n x)
inductive Pi (len:Nat) (kk:Nat) (xs:List AV) (i:Int) (K:Nat->Prop):Prop where
 | mk (n:Nat) (hk:xs.length=kk) (hi:i=n) (hn:n<len) (k:K n)
inductive I3 (len:Nat) (i:Int) (K:Nat->Prop):Prop where
 | mk (n:Nat) (hi:i=n) (hn:n<len) (k:K n)
inductive Hy (k:IntKind) (n:Int) (K:Int->Prop):Prop where
 | mk (c:Int) (h:k.wrap n=c) (k:K c)
inductive Xo (k:IntKind) (m n:Int) (K:Int->Prop):Prop where
 | mk (c:Int) (hn:n≠0) (h:k.wrap (m.tdiv n)=c) (k:K c)
inductive Xp (m n:Int) (K:Int->Prop):Prop where
 | mk (c:Int) (hn:n≠0) (h:m.tmod n=c) (k:K c)
inductive Xq (k:IntKind) (m n:Int) (K:Int->Prop):Prop where
 | mk (c:Int) (hn:0<=n) (h:m.fdiv (2 ^ (min n.toNat k.bits))=c) (k:K c)
inductive Asb (k:IntKind) (m n:Int) (K:Int->Prop):Prop where
 | mk (c:Int) (hn:0<=n) (h:k.wrap (m*2 ^ (min n.toNat k.bits))=c) (k:K c)
inductive Xr (n:Nat) (lo hi:Int) (K:Nat->Nat->Prop):Prop where
 | mk (l h:Nat) (el:lo=l) (eh:hi=h) (h1:l<=h) (h2:h<=n) (k:K l h)
inductive Lc (xs:List AV) (lo hi:Int) (K:List AV->Prop):Prop where
 | mk (l h:Nat) (ys:List AV) (el:lo=l) (eh:hi=h) (h1:l<=h) (h2:h<=xs.length) (hy:(xs.take h).drop l=ys) (k:K ys)
inductive Ahs (kk:Nat) (xs:List AV) (n:Nat) (lo hi:Int) (K:Nat->Nat->Prop) (KE:Prop):Prop where
 | mk (l h:Nat) (hk:xs.length=kk) (el:lo=l) (eh:hi=h) (h1:l<=h) (h2:h<=n) (h3:l=0\/l<h) (k:K l h)
 | mkE (l:Nat) (hk:xs.length=kk) (el:lo=l) (eh:hi=l) (h2:l<=n) (k:KE)
inductive Xs (s:ByteArray) (i:Int) (K:UInt8->Prop):Prop where
 | mk (n:Nat) (c:UInt8) (hi:i=n) (hc:s[n]? = some c) (k:K c)
inductive Xt (n:Nat) (K:Prop):Prop where
 | mk (h:n<=9223372036854775807) (k:K)
inductive Rh (len cap:Int) (bytes:Nat) (z:AV) (K:Nat->List AV->Prop):Prop where
 | mk (l c:Nat) (zs:List AV) (el:len=l) (ec:cap=c) (h1:l<=c) (h2:bytes*c<=281474976710656) (h3:c<=140737488355328) (hz:replicate l z=zs) (k:K l zs)
 | mkN (z':AV) (hn:Gi z.cells z'.cells) (l c:Nat) (zs:List AV) (el:len=l) (ec:cap=c) (h1:l<=c) (h2:bytes*c<=281474976710656) (h3:c<=140737488355328) (hz:replicate l z'=zs) (k:K l zs)
inductive Aht (len cap:Int) (bytes:Nat) (K:Nat->List NC->Prop):Prop where
 | mk (m:Nat) (zs:List NC) (el:len=m) (ec:cap=m) (hm:m<=100000) (hb:bytes*m<=281474976710656) (hz:replicate m (.own [])=zs) (k:K m zs)
inductive Abm (ys:List NC) (i n:Nat) (K:List NC->List AV->Nat->Prop):Prop where
 | mk (xs:List AV) (zs:List NC) (m:Nat) (hx:ys[i]? = some (.own xs)) (hm:xs.length=m) (hz:ys.set i (.lent n m)=zs) (k:K zs xs m)
inductive Xu (ys:List NC) (i h k len:Nat) (K:List NC->Prop):Prop where
 | mk (zs:List NC) (hl:k=len) (hi:i<ys.length) (hz:ys.set i (.lent h len)=zs) (k:K zs)
inductive Kl (xs ys:List AV) (kk len bytes:Nat) (K:List AV->Nat->Prop) (KP:List AV->Nat->Nat->Prop):Prop where
 | mkP (zs:List AV) (k' m:Nat) (hk:xs.length=kk) (hl:len<=kk) (hb:(xs.length+ys.length)*bytes<=140737488355328) (hz:Gj xs len ys=zs) (hk':zs.length=k') (hm:len+ys.length=m) (k:KP zs k' m)
 | mk (zs:List AV) (m:Nat) (hk:xs.length=kk) (hl:len=kk) (hb:(xs.length+ys.length)*bytes<=140737488355328) (hz:xs++ys=zs) (hm:kk+ys.length=m) (k:K zs m)
inductive Asd (ys:List AV) (K:Prop):Prop where
 | mk (hy:ys = []) (k:K)
inductive Pj (ys:List AV) (bytes:Nat) (K:List AV->Nat->Prop):Prop where
 | mk (zs:List AV) (m:Nat) (hb:ys.length*bytes<=140737488355328) (hz:ys=zs) (hm:ys.length=m) (k:K zs m)
inductive Ase (xs:List AV) (kk len k2 off2 len2 bytes:Nat) (K:List AV->Nat->Nat->Prop):Prop where
 | mk (zs:List AV) (k' m:Nat) (hk:xs.length=kk) (hl:len<=kk) (hk2:xs.length=k2) (hl2:off2+len2<=kk) (hb:(xs.length+len2)*bytes<=140737488355328) (hz:Gj xs len ((xs.drop off2).take len2)=zs) (hk':zs.length=k') (hm:len+len2=m) (k:K zs k' m)
inductive Asf (xs:List AV) (kk off len:Nat) (z:AV) (K:List AV->Prop):Prop where
 | mk (zs:List AV) (hk:xs.length=kk) (hl:off+len<=kk) (hz:Gj xs off (replicate len z)=zs) (k:K zs)
inductive Ahu (a b:Nat) (K:Prop):Prop where
 | mk (h:a<=b) (k:K)
inductive Ahv (xs:List AV) (n:Nat) (K:List AV->Prop):Prop where
 | mk (ys:List AV) (hy:xs.take n=ys) (k:K ys)
inductive Ri (xs:List AV) (q:Nat) (p:AV) (K:List AV->Prop):Prop where
 | mk (zs:List AV) (hz:xs.set q p=zs) (k:K zs)
inductive Ld (xs:List AV) (K:Int->Prop):Prop where
 | mk (c:Int) (hc:(xs.length:Int)=c) (k:K c)
inductive Km (kk i:Nat) (xs:List AV) (K:AV->Prop):Prop where
 | mk (x:AV) (hk:xs.length=kk) (hx:xs[i]? = some x) (k:K x)
inductive Hg (kk:Nat) (xs:List AV) (K:Prop):Prop where
 | mk (hk:xs.length=kk) (k:K)
def Ext (P:Program) (f:FuncId) (args:List AV) (r:AV):Prop := ∀(σ F:Aw) (W w:World) (d:Array Value),St σ ι0 H0 F W w->Jo σ ι0 H0 args d->∃v,(callFunc f d).run P w = .ok (.value v) w/\Conc σ ι0 H0 r v
inductive D1 (P:Program) (n:Nat) (H:Hp) (f:FuncId) (args:List AV) (K:Eff->Nat->Prop):Prop where
 | mk (r:AV) (h:A4 P f args r) (hf:args.all AV.free=true) (k:K ⟨r,[],[]⟩ n)
 | ext (r:AV) (h:Ext P f args r) (hf:args.all AV.free=true) (k:K ⟨r,[],[]⟩ n)
 | act (l:List Nat) (largs:List AV) (hs:List Bg) (r:AV) (hs':List Bg) (h:Bt P f largs hs r hs') (ha:largs.map (ren (C4 n l))=args) (ok:Hm n l largs hs r hs'=true) (hh:L5 H (Eg (C4 n l) 0 hs))
   (k:K ⟨ren (C4 n l) r,Eg (C4 n l) 0 hs++Ca (C4 n l) l.length (hs'.length-l.length),Eg (C4 n l) 0 hs'⟩ (n+(hs'.length-l.length)))
 | rd (l:List Nat) (largs:List AV) (hs:List Bg) (r:AV) (h:Bt P f largs hs r hs) (ha:largs.map (ren (C4 n l))=args) (ok:Hm n l largs hs r hs=true) (hh:L5 H (Eg (C4 n l) 0 hs))
   (k:K ⟨ren (C4 n l) r,Eg (C4 n l) 0 hs,[]⟩ n)
inductive Abn (s:ByteArray) (es:List (AV×AV)) (K:Option (Nat×AV)->Prop):Prop where
 | mk (r:Option (Nat×AV)) (h:Il s es 0=some r) (k:K r)
inductive Xv (op:BinOp) (k:FloatKind) (a b:Nat) (K:Nat->Prop):Prop where
 | mk (c:Nat) (h:floatBits op k a b=some c) (k:K c)
inductive Xw (k:FloatKind) (a:Nat) (q:IntKind) (K:Int->Prop):Prop where
 | mk (c:Int) (h:floatToIntVal k a q=some c) (k:K c)
inductive Ahw (s:ByteArray) (v:AV) (es:List (AV×AV)) (K:List (AV×AV)->Prop):Prop where
 | mk (es':List (AV×AV)) (h:Xl s v es=some es') (k:K es')
inductive Abo (P:Program) (t:TypeId) (us vs:List Value) (K:Bool->Prop):Prop where
 | mk (b:Bool) (h:Abe P t us vs b) (k:K b)
inductive Ahx (P:Program) (t:TypeId) (f:Nat) (K:TypeId->Prop):Prop where
 | mk (ft:TypeId) (h:Abf P t f=some ft) (k:K ft)
inductive Ahy (P:Program) (f:FuncId) (args:List AV) (K:AV->Prop):Prop where
 | mk (r:AV) (h:A4 P f args r) (hf:args.all AV.free=true) (k:K r)
inductive Ann where
 | frz (j:Nat)
 | std
 | own
 | ask
 | vec (m:Nat)
 | nst
def Jd:AV->Bool
 | .val (.slice none 0 0)=>true
 | _=>false
def T0:AV->Bool
 | .val (.agg _)=>false
 | _=>true
def Abp (x:AV) (K:AV->Prop):Prop := match x with
 | .val v=>K (.val v)
 | .loc h d=>K (.loc h d)
 | .arr h k d len=>K (.arr h k d len)
 | .el h k i j=>K (.el h k i j)
 | .mp h=>K (.mp h)
 | .vec h n=>K (.vec h n)
 | .ref cs=>K (.ref cs)
 | .sl sz xs=>K (.sl sz xs)
 | .agg cs=>K (.agg cs)
 | .tup cs=>K (.tup cs)
 | .fn f cs=>K (.fn f cs)
 | .fb s=>K (.fb s)
 | .fm es=>K (.fm es)
def N5:List AV->(List AV->Prop)->Prop
 | [],K=>K []
 | x::xs,K=>Abp x λx=>N5 xs λxs=>K (x::xs)
def Rj (x:AV) (K:AV->Prop):Prop := match x with
 | .agg cs=>N5 cs λcs=>K (.agg cs)
 | .tup cs=>N5 cs λcs=>K (.tup cs)
 | .fn f cs=>N5 cs λcs=>K (.fn f cs)
 | x=>Abp x K
def Rk:List AV->(List AV->Prop)->Prop
 | [],K=>K []
 | x::xs,K=>Rj x λx=>Rk xs λxs=>K (x::xs)
def Abq (o:Bg) (K:Bg->Prop):Prop := match o with
 | .cells E cs=>N5 cs λcs=>K (.cells E cs)
 | .rows E sz xs=>K (.rows E sz xs)
 | .map es=>K (.map es)
 | .none=>K .none
 | .dead=>K .dead
 | .nest E Ei sz ys=>K (.nest E Ei sz ys)
def Xx:List (Nat×Bg)->(List (Nat×Bg)->Prop)->Prop
 | [],K=>K []
 | p::l,K=>Abq p.2 λo=>Xx l λl=>K ((p.1,o)::l)
def T1:List (Nat×Bg)->(List Nat->Prop)->Prop
 | [],K=>K []
 | p::l,K=>T1 l λl=>K (p.1::l)
theorem Ahz (x:AV) (K:AV->Prop):Abp x K=K x:=by cases x <;> rfl
theorem Xy:∀(l:List AV) (K:List AV->Prop),N5 l K=K l
 | [],_=>rfl
 | x::xs,K=>by simp only[N5,Ahz,Xy xs]
theorem Xz (x:AV) (K:AV->Prop):Rj x K=K x:=by cases x <;> simp only[Rj,Xy,Ahz]
theorem X0:∀(l:List AV) (K:List AV->Prop),Rk l K=K l
 | [],_=>rfl
 | x::xs,K=>by simp only[Rk,Xz,X0 xs]
theorem Asg (o:Bg) (K:Bg->Prop):Abq o K=K o:=by cases o <;> simp only[Abq,Xy]
theorem Ah0:∀(l:List (Nat×Bg)) (K:List (Nat×Bg)->Prop),Xx l K=K l
 | [],_=>rfl
 | p::l,K=>by simp only[Xx,Asg,Ah0 l]
theorem Ah1:∀(l:List (Nat×Bg)) (K:List Nat->Prop),T1 l K=K (l.map (·.1))
 | [],_=>rfl
 | p::l,K=>by simp only[T1,Ah1 l,map_cons]
def sop (P:Program) (T:Cw) (an:Nat->Ann) (n:Nat) (o:Oper) (ρ:Operand->AV) (H:Hp) (K:Eff->Nat->Prop):Prop :=
 match o.op with
 | .move x=>K ⟨ρ x,[],[]⟩ n
 | .assign x=>
  match o.dst with
  | none=>K ⟨ρ x,[],[]⟩ n
  | some d=>
   match an d with
   | .frz _=>K ⟨ρ x,[],[]⟩ n
   | .std=>K ⟨ρ x,[],[]⟩ n
   | .ask=>K ⟨ρ x,[],[]⟩ n
   | .vec _=>K ⟨ρ x,[],[]⟩ n
   | .nst=>K ⟨ρ x,[],[]⟩ n
   | .own=>bif Jd (ρ x) then
     match T o.type with
     | some ⟨.slice e,_,_,_⟩=>
      match T e with
      | some u=>bif Nat.blt 0 u.size then K ⟨.arr n 0 0 0,[(n,.none)],[(n,.rows e u.size [])]⟩ (n+1) else False
      | none=>False
     | _=>False
    else K ⟨ρ x,[],[]⟩ n
 | .pick c a b=>
  match ρ c with
  | .val (.bool t)=>K ⟨bif t then ρ a else ρ b,[],[]⟩ n
  | _=>False
 | .alloc t=>
  match T t with
  | some i=>K ⟨.loc n 0,[(n,.none)],[(n,.cells t (i.zero.map .val))]⟩ (n+1)
  | none=>False
 | .box t x=>K ⟨.loc n 0,[(n,.none)],[(n,.cells t (ρ x).cells)]⟩ (n+1)
 | .build t parts=>
  match T t with
  | some ⟨.struct fs,_,_,z⟩=>
   match Q8 fs (z.map .val) (parts.toList.map λp=>(p.1,ρ p.2)) with
   | some cs=>K ⟨.agg cs,[],[]⟩ n
   | none=>False
  | _=>False
 | .buildSlice t len parts=>
  match T t with
  | some ⟨.slice e,_,_,_⟩=>
   match T e with
   | some u=>
    bif Nat.blt 0 u.size&&(parts.toList.map (·.1)==range' 0 len)&&Nat.ble (len*u.size) 16777216&&parts.toList.all (λp=>Jy u.size (ρ p.2)) then
     match an (o.dst.getD 0) with
     | .frz _=>False
     | .vec _=>False
     | .nst=>False
     | .std=>Rk (parts.toList.map λp=>ρ p.2) λxs=>K ⟨.sl u.size xs,[],[]⟩ n
     | .ask=>Rk (parts.toList.map λp=>ρ p.2) λxs=>K ⟨.sl u.size xs,[],[]⟩ n
     | .own=>Rk (parts.toList.map λp=>ρ p.2) λxs=>K ⟨.arr n len 0 len,[(n,.none)],[(n,.rows e u.size xs)]⟩ (n+1)
    else False
   | none=>False
  | _=>False
 | .load t x=>
  match T t with
  | some i=>
   match ρ x with
   | .ref cs=>bif i.isAgg then (bif Nat.ble i.size cs.length then K ⟨.agg (cs.take i.size),[],[]⟩ n else False) else
     match cs with
     | c::_=>K ⟨c,[],[]⟩ n
     | []=>False
   | .loc h X=>
    match H h with
    | .cells E cs=>bif i.isAgg then (bif Nat.ble (X+i.size) cs.length then K ⟨.agg ((cs.drop X).take i.size),[(h,.cells E cs)],[]⟩ n else False) else
      match cs[X]? with
      | some c=>K ⟨c,[(h,.cells E cs)],[]⟩ n
      | none=>False
    | .nest E Ei sz ys=>bif i.isAgg then False else Abm ys X n λzs xs m=>K ⟨.arr n m 0 m,[(h,.nest E Ei sz ys),(n,.none)],[(h,.nest E Ei sz zs),(n,.rows Ei sz xs)]⟩ (n+1)
    | _=>False
   | .el h k q j=>
    match H h with
    | .rows E sz xs=>Km k q xs λy=>bif i.isAgg then (bif Nat.ble (j+i.size) y.cells.length then K ⟨.agg ((y.cells.drop j).take i.size),[(h,.rows E sz xs)],[]⟩ n else False) else
      match y.cells[j]? with
      | some c=>K ⟨c,[(h,.rows E sz xs)],[]⟩ n
      | none=>False
    | _=>False
   | _=>False
  | none=>False
 | .store t x y=>
  match T t with
  | some i=>
   match ρ x with
   | .loc h X=>
    match H h with
    | .cells E cs=>bif Nat.beq (ρ y).cells.length i.size&&Nat.ble (X+i.size) cs.length&&(ρ y).cells.all AV.one then K ⟨.val undef,[(h,.cells E cs)],[(h,.cells E (Lb cs X (ρ y).cells))]⟩ n else False
    | .nest E Ei sz ys=>
     match ρ y with
     | .arr h' k 0 len=>bif Nat.beq i.size 1 then Xu ys X h' k len λzs=>K ⟨.val undef,[(h,.nest E Ei sz ys)],[(h,.nest E Ei sz zs)]⟩ n else False
     | _=>False
    | _=>False
   | .el h k q j=>
    match H h with
    | .rows E sz xs=>Km k q xs λz=>bif Nat.beq (ρ y).cells.length i.size&&Nat.blt 0 i.size&&Nat.ble (j+i.size) z.cells.length&&(ρ y).cells.all AV.cl1&&T0 z then
      N5 (ρ y).cells λys=>Rj (Tx z j ys) λp=>Ri xs q p λzs=>K ⟨.val undef,[(h,.rows E sz xs)],[(h,.rows E sz zs)]⟩ n else False
    | _=>False
   | _=>False
  | none=>False
 | .nilCheck x=>bif (ρ x).isPtr then K ⟨ρ x,[],[]⟩ n else False
 | .binOp op t x y _=>
  match ρ x,ρ y with
  | .val (.int k a),.val (.int D b)=>
   match op with
   | .shl=>Asb k a b λc=>K ⟨.val (.int k c),[],[]⟩ n
   | .shr=>Xq k a b λc=>K ⟨.val (.int k c),[],[]⟩ n
   | op=>bif decide (k=D) then
     match op with
     | .add=>Hy k (a+b) λc=>K ⟨.val (.int k c),[],[]⟩ n
     | .sub=>Hy k (a-b) λc=>K ⟨.val (.int k c),[],[]⟩ n
     | .mul=>Hy k (a*b) λc=>K ⟨.val (.int k c),[],[]⟩ n
     | .quo=>Xo k a b λc=>K ⟨.val (.int k c),[],[]⟩ n
     | .rem=>Xp a b λc=>K ⟨.val (.int k c),[],[]⟩ n
     | op=>
      match Aaw op a b with
      | some t=>K ⟨.val (.bool t),[],[]⟩ n
      | none=>
       match Aa3 op k a b with
       | some c=>K ⟨.val (.int k c),[],[]⟩ n
       | none=>False
    else False
  | .val (.bool a),.val (.bool b)=>
   match T t with
   | some ⟨.bool,_,_,_⟩=>
    match Aa4 op a b with
    | some t=>K ⟨.val (.bool t),[],[]⟩ n
    | none=>False
   | _=>False
  | .agg xs,.agg ys=>
   match M1 xs with
   | some us=>
    match M1 ys with
    | some vs=>
     match op with
     | .eql=>Abo P t us vs λb=>K ⟨.val (.bool b),[],[]⟩ n
     | .neq=>Abo P t us vs λb=>K ⟨.val (.bool !b),[],[]⟩ n
     | _=>False
    | none=>False
   | none=>False
  | .val (.float k a),.val (.float D b)=>bif decide (k=D) then Xv op k a b λc=>K ⟨.val (.float k c),[],[]⟩ n else False
  | .val (.string a),.val (.string b)=>
   match op with
   | .add=>Xt (a.size+b.size) (K ⟨.val (.string (a++b)),[],[]⟩ n)
   | op=>
    match Aa5 op a b with
    | some t=>K ⟨.val (.bool t),[],[]⟩ n
    | none=>False
  | .val (.slice p _ _),.val (.slice none _ _)=>
   match op with
   | .eql=>
    match T t with
    | some ⟨.slice _,_,_,_⟩=>K ⟨.val (.bool p.isNone),[],[]⟩ n
    | _=>False
   | _=>False
  | _,_=>False
 | .unOp op _ x=>
  match op,ρ x with
  | .not,.val (.bool b)=>K ⟨.val (.bool !b),[],[]⟩ n
  | .neg,.val (.int k m)=>Hy k (0-m) λc=>K ⟨.val (.int k c),[],[]⟩ n
  | _,_=>False
 | .convert s d x=>
  match T s,T d,ρ x with
  | some _,some ⟨.int k,_,_,_⟩,.val (.int _ m)=>Hy k m λc=>K ⟨.val (.int k c),[],[]⟩ n
  | some _,some ⟨.float k,_,_,_⟩,.val (.int _ m)=>K ⟨.val (.float k (floatOfInt k m)),[],[]⟩ n
  | some _,some ⟨.int k,_,_,_⟩,.val (.float q m)=>Xw q m k λc=>K ⟨.val (.int k c),[],[]⟩ n
  | _,_,_=>False
 | .makeFunc (.func f) first caps=>bif first.isEmpty then K ⟨.fn f (caps.toList.map ρ),[],[]⟩ n else False
 | .makeSlice t x y=>
  match T t with
  | some ⟨.slice e,_,_,_⟩=>
   match T e with
   | some u=>
    match ρ x,ρ y with
    | .val (.int _ l),.val (.int _ c)=>
     match an (o.dst.getD 0) with
     | .vec m=>
      match u.zero with
      | [v]=>
       bif Nat.beq u.size 1&&Nat.ble m 16&&Nat.ble (u.bytes*m) 281474976710656&&decide (l=(m:Int))&&decide (c=(m:Int)) then
        K ⟨.vec n m,[(n,.none)],[(n,.cells e (replicate m (.val v)))]⟩ (n+1)
       else False
      | _=>False
     | .nst=>
      match u.d with
      | .slice O=>
       match u.zero with
       | [v]=>
        match T O with
        | some B=>bif Nat.beq u.size 1&&Jd (.val v)&&Nat.blt 0 B.size then Aht l c u.bytes λm zs=>K ⟨.vec n m,[(n,.none)],[(n,.nest e O B.size zs)]⟩ (n+1) else False
        | none=>False
       | _=>False
      | _=>False
     | _=>
     bif Nat.blt 0 u.size&&Jy u.size (Fd u)&&Nat.beq (Fd u).cells.length u.zero.length&&T0 (Fd u) then
      Rh l c u.bytes (Fd u) λl zs=>K ⟨.arr n l 0 l,[(n,.none)],[(n,.rows e u.size zs)]⟩ (n+1)
     else False
    | _,_=>False
   | none=>False
  | _=>False
 | .slice t x lo hi none=>
  match T t with
  | some ⟨.slice e,_,_,_⟩=>
   match T e with
   | some u=>
    match ρ x with
    | .sl sz xs=>
     match Hx ρ 0 lo,Hx ρ xs.length hi with
     | some l,some h=>bif Nat.beq sz u.size then Lc xs l h λys=>K ⟨.sl sz ys,[],[]⟩ n else False
     | _,_=>False
    | .arr hd k X len=>
     match H hd with
     | .rows E sz xs=>
      match Hx ρ 0 lo,Hx ρ len hi with
      | some l,some h=>bif Nat.beq sz u.size then Ahs k xs len l h (λl h=>K ⟨.arr hd k (X+l) (h-l),[(hd,.rows E sz xs)],[]⟩ n) (K ⟨.sl u.size [],[(hd,.rows E sz xs)],[]⟩ n) else False
      | _,_=>False
     | _=>False
    | _=>False
   | none=>False
  | some ⟨.string,_,_,_⟩=>
   match ρ x with
   | .val (.string s)=>
    match Hx ρ 0 lo,Hx ρ s.size hi with
    | some l,some h=>Xr s.size l h λl h=>K ⟨.val (.string (s.extract l h)),[],[]⟩ n
    | _,_=>False
   | _=>False
  | _=>False
 | .fieldAddr s x f=>
  match T s with
  | some ⟨.struct fs,_,_,_⟩=>
   match fs[f]? with
   | some q=>
    match ρ x with
    | .loc h X=>K ⟨.loc h (X+q.1),[],[]⟩ n
    | .ref cs=>K ⟨.ref (cs.drop q.1),[],[]⟩ n
    | .el h k m j=>
     match H h with
     | .rows E sz xs=>Hg k xs (K ⟨.el h k m (j+q.1),[(h,.rows E sz xs)],[]⟩ n)
     | _=>False
    | _=>False
   | none=>False
  | _=>False
 | .indexAddr t x y=>
  match T t with
  | some ⟨.slice e,_,_,_⟩=>
   match T e with
   | some u=>
    match ρ x,ρ y with
    | .vec h m,.val (.int _ i)=>bif Nat.beq u.size 1 then I3 m i λq=>K ⟨.loc h q,[],[]⟩ n else False
    | .sl sz xs,.val (.int _ i)=>bif Nat.beq sz u.size then Rg xs i λ_ z=>K ⟨.ref z.cells,[],[]⟩ n else False
    | .arr h k X len,.val (.int _ i)=>
     match H h with
     | .rows E sz xs=>bif Nat.beq sz u.size then Pi len k xs i λm=>K ⟨.el h k (X+m) 0,[(h,.rows E sz xs)],[]⟩ n else False
     | _=>False
    | _,_=>False
   | none=>False
  | _=>False
 | .index t x y=>
  match T t with
  | some ⟨.string,_,_,_⟩=>
   match ρ x,ρ y with
   | .val (.string s),.val (.int _ i)=>Xs s i λc=>K ⟨.val (.int .u8 c.toNat),[],[]⟩ n
   | _,_=>False
  | _=>False
 | .field s x f=>
  match T s with
  | some ⟨.struct fs,_,_,_⟩=>
   match fs[f]? with
   | some q=>
    match ρ x with
    | .agg cs=>Ahx P s f λU=>
     match T U with
     | some B=>bif B.isAgg then (bif Nat.ble (q.1+B.size) cs.length then K ⟨.agg ((cs.drop q.1).take B.size),[],[]⟩ n else False) else
       match cs[q.1]? with
       | some c=>K ⟨c,[],[]⟩ n
       | none=>False
     | none=>False
    | _=>False
   | none=>False
  | _=>False
 | .makeMap _ none=>K ⟨.mp n,[(n,.none)],[(n,.map [])]⟩ (n+1)
 | .lookup t x y ok=>
  match T t with
  | some ⟨.map M V,_,_,_⟩=>
   match T M with
   | some ⟨.string,_,_,_⟩=>
    match T V with
    | some B=>
     match ρ x with
     | .mp h=>
      match ρ y with
      | .val (.string s)=>
       match H h with
       | .map es=>Abn s es λr=>K ⟨Rb ok B r,[(h,.map es)],[]⟩ n
       | _=>False
      | _=>False
     | .fm es=>
      match ρ y with
      | .val (.string s)=>Abn s es λr=>K ⟨Rb ok B r,[],[]⟩ n
      | _=>False
     | _=>False
    | none=>False
   | _=>False
  | _=>False
 | .mapUpdate t x y z=>
  match T t with
  | some ⟨.map M _,_,_,_⟩=>
   match T M with
   | some ⟨.string,_,_,_⟩=>
    match ρ x with
    | .mp h=>
     match ρ y with
     | .val (.string s)=>
      match H h with
      | .map es=>bif (ρ z).free1 then Rj (ρ z) λv=>Ahw s v es λN=>K ⟨.val undef,[(h,.map es)],[(h,.map N)]⟩ n else False
      | _=>False
     | _=>False
    | _=>False
   | _=>False
  | _=>False
 | .extract x i=>
  match ρ x with
  | .tup cs=>
   match cs[i]? with
   | some c=>K ⟨c,[],[]⟩ n
   | none=>False
  | _=>False
 | .call c=>
  match c.callee with
  | .value x=>
   match ρ x with
   | .fn f caps=>
    match an (o.dst.getD 0) with
    | .frz j=>
     (match (c.args.toList.map ρ ++ caps)[j]? with
     | some (.arr h k 0 len)=>
      (match H h with
      | .rows E sz xs=>Hg k xs (Hg len xs (Ahy P f ((c.args.toList.map ρ ++ caps).set j (.sl sz xs)) λr=>K ⟨r,[(h,.rows E sz xs)],[(h,.dead)]⟩ n))
      | _=>False)
     | _=>False)
    | _=>D1 P n H f (c.args.toList.map ρ ++ caps) K
   | _=>False
  | .invoke _ _=>False
  | .builtin .len=>
   match c.args.toList,c.argTypes.toList with
   | [x],[t]=>
    match T t with
    | some ⟨.slice _,_,_,_⟩=>
     match ρ x with
     | .sl _ xs=>
      match an (o.dst.getD 0) with
      | .ask=>Ld xs λc=>K ⟨.val (.int .i64 c),[],[]⟩ n
      | _=>K ⟨.val (.int .i64 xs.length),[],[]⟩ n
     | .val (.slice _ m _)=>K ⟨.val (.int .i64 m),[],[]⟩ n
     | .vec _ m=>K ⟨.val (.int .i64 m),[],[]⟩ n
     | .arr h k _ len=>
      match H h with
      | .rows E sz xs=>Hg k xs (K ⟨.val (.int .i64 len),[(h,.rows E sz xs)],[]⟩ n)
      | _=>False
     | _=>False
    | some ⟨.string,_,_,_⟩=>
     match ρ x with
     | .val (.string s)=>K ⟨.val (.int .i64 s.size),[],[]⟩ n
     | _=>False
    | _=>False
   | _,_=>False
  | .builtin .cap=>
   match c.args.toList,c.argTypes.toList with
   | [x],[t]=>
    match T t with
    | some ⟨.slice _,_,_,_⟩=>
     match ρ x with
     | .val (.slice _ _ m)=>K ⟨.val (.int .i64 m),[],[]⟩ n
     | _=>False
    | _=>False
   | _,_=>False
  | .builtin .clear=>
   match c.args.toList,c.argTypes.toList with
   | [x],[t]=>
    match T t with
    | some ⟨.slice e,_,_,_⟩=>
     match T e with
     | some u=>
      match ρ x with
      | .arr h k X len=>
       match H h with
       | .rows E sz xs=>bif Nat.beq E e&&Nat.beq sz u.size&&Nat.blt 0 u.size&&Jy u.size (Fd u)&&Nat.beq (Fd u).cells.length u.zero.length&&T0 (Fd u) then
         Asf xs k X len (Fd u) (λzs=>K ⟨.tup [],[(h,.rows e u.size xs)],[(h,.rows e u.size zs)]⟩ n) else False
       | _=>False
      | .sl _ []=>K ⟨.tup [],[],[]⟩ n
      | _=>False
     | none=>False
    | _=>False
   | _,_=>False
  | .builtin .append=>
   match c.args.toList,c.argTypes.toList with
   | [x,y],[t,R]=>
    match T t,T R with
    | some ⟨.slice e,_,_,_⟩,some ⟨.slice _,_,_,_⟩=>
     match T e with
     | some u=>
      bif Nat.blt 0 u.size&&Nat.beq u.zero.length u.size&&Nat.ble 1 u.bytes then
       match ρ y with
       | .sl sz ys=>
        bif Nat.beq sz u.size then
         match ρ x with
         | .arr h k 0 len=>
          match H h with
          | .rows E A xs=>bif Nat.beq E e&&Nat.beq A u.size then
            match an (o.dst.getD 0) with
            | .frz _=>Kl xs ys k len u.bytes (λzs _=>K ⟨.sl u.size zs,[(h,.rows e u.size xs)],[(h,.dead)]⟩ n) (λ_ _ _=>False)
            | _=>Kl xs ys k len u.bytes (λzs m=>K ⟨.arr h m 0 m,[(h,.rows e u.size xs)],[(h,.rows e u.size zs)]⟩ n) (λzs D m=>K ⟨.arr h D 0 m,[(h,.rows e u.size xs)],[(h,.rows e u.size zs)]⟩ n) else False
          | _=>False
         | .val (.slice none 0 0)=>Pj ys u.bytes λzs m=>K ⟨.arr n m 0 m,[(n,.none)],[(n,.rows e u.size zs)]⟩ (n+1)
         | .sl L J=>Asd ys (K ⟨.sl L J,[],[]⟩ n)
         | _=>False
        else False
       | .arr h2 S G I=>
        match ρ x with
        | .arr h k 0 len=>
         match H h with
         | .rows E A xs=>bif Nat.beq E e&&Nat.beq A u.size&&Nat.beq h h2 then
           Ase xs k len S G I u.bytes (λzs D m=>K ⟨.arr h D 0 m,[(h,.rows e u.size xs)],[(h,.rows e u.size zs)]⟩ n) else False
         | _=>False
        | _=>False
       | _=>False
      else False
     | none=>False
    | some ⟨.slice e,_,_,_⟩,some ⟨.string,_,_,_⟩=>
     match T e with
     | some u=>
      bif Nat.beq u.size 1&&Nat.beq u.zero.length u.size&&Nat.ble 1 u.bytes then
       match ρ y with
       | .val (.string s)=>
        match ρ x with
        | .arr h k 0 len=>
         match H h with
         | .rows E A xs=>bif Nat.beq E e&&Nat.beq A u.size then
           Kl xs (Iu s) k len u.bytes (λzs m=>K ⟨.arr h m 0 m,[(h,.rows e u.size xs)],[(h,.rows e u.size zs)]⟩ n) (λ_ _ _=>False) else False
         | _=>False
        | _=>False
       | _=>False
      else False
     | none=>False
    | _,_=>False
   | _,_=>False
  | .builtin .max=>
   match c.args.toList,c.argTypes.toList with
   | [x,y],[_,_]=>
    match ρ x,ρ y with
    | .val (.int k a),.val (.int _ b)=>K ⟨.val (.int k (if b>a then b else a)),[],[]⟩ n
    | _,_=>False
   | _,_=>False
  | .builtin .min=>
   match c.args.toList,c.argTypes.toList with
   | [x,y],[_,_]=>
    match ρ x,ρ y with
    | .val (.int k a),.val (.int _ b)=>K ⟨.val (.int k (if b<a then b else a)),[],[]⟩ n
    | _,_=>False
   | _,_=>False
  | _=>False
 | _=>False
section
variable {P:Program} {o:Oper} {ρ:Operand->AV} {a:Act} {w w':World} {next:Act->World->Prop} {Q:Exit->Act->World->Prop}
variable {r:AV} {F σ:Aw} {ι:Bq} {c:Call} {f:FuncId} {H:Hp} {caps:List AV} {x:Operand} {v:Value} {W:World}
def Pk (σ:Aw) (w:World):Aw:=λb=>match σ b with|none=>w.heap[b]? | some _=>none
theorem St.lend (s:St σ ι H F W w):St σ ι0 H0 (Pk σ w) W w:=by refine⟨s.sto,λb o hb=>?_,λh=>rfl,(λh h' b c=>by cases c),s.os,s.tape,s.output,s.glo,s.drw⟩;unfold Pk at hb;cases e:σ b with| none=>rw[e]at hb;exact⟨hb,rfl⟩| some _=>rw[e]at hb;cases hb
theorem St.unlend {σ':Aw} (s:St σ ι H F W w) (u:σ.le σ') (s':St σ' ι0 H0 (Pk σ w) W w'):St σ' ι H F W w':=by
 have key:∀b,σ b=none->∀o,w.heap[b]? = some o->w'.heap[b]? = some o/\σ' b=none:=by intro b hb o f;exact s'.fra b o (by unfold Pk;rw[hb];exact f)
 have le:Le σ ι H σ' ι H:=⟨u,λ_=>HLe.refl _ _⟩;refine⟨s'.sto,λb o hb=>?_,λh=>?_,s.inj,s'.os,s'.tape,s'.output,s'.glo,s'.drw⟩
 .obtain⟨h1,h2⟩:=s.fra b o hb;exact key b h2 o h1
 .have f:=s.obj h;unfold Bw at f ⊢;cases A:H h with
  | none=>rw[A]at f;exact f
  | dead=>trivial
  | cells E cs=>rw[A]at f;obtain⟨b,C,z,h1,h2,h3,B,D⟩:=f;obtain⟨k,j⟩:=key b h1 _ h3;exact⟨b,C,z,j,h2,k,B,λi c v x y=>(D i c v x y).mono le⟩
  | rows E sz xs=>
   rw[A]at f;obtain⟨G,d,⟨z,O⟩|⟨b,A8,C,z,h1,h2,h3,B,D,N⟩⟩:=f
   .exact⟨G,d,.inl ⟨z,O⟩⟩
   .obtain⟨k,j⟩:=key b h1 _ h3;exact⟨G,d,.inr ⟨b,A8,C,z,j,h2,k,B,D,N.mono u⟩⟩
  | map es=>rw[A]at f;obtain⟨b,M,q,z,h1,h2,h3,B⟩:=f;obtain⟨k,j⟩:=key b h1 _ h3;exact⟨b,M,q,z,j,h2,k,B.mono u⟩
  | nest E Ei sz ys=>rw[A]at f;refine Gc.keep le (λb hb=>?_) f;obtain⟨L,J,R⟩:=Gc.block f hb;have I:w.heap[b]? = some w.heap[b]:=Array.getElem?_eq_getElem L;obtain⟨k,j⟩:=key b J _ I;exact⟨λ_=>j,λq=>q,by rw[k,I]⟩
theorem Conc.of0 {x:AV} (h:Conc σ ι0 H0 x v):Conc σ ι H x v:=by induction h with| cc h=>exact .cc h| loc h off b hb=>cases hb| mp h b hb=>cases hb| vec h n b hb=>cases hb| arr h k off len v s y c=>exact (s rfl).elim| el h k i j v s y c=>exact (s rfl).elim| ref cs b off C E fr g u hc h1 z=>exact .ref cs b off C E fr g u hc h1 z| agg cs vs q _ ih=>exact .agg cs vs q ih| tup cs vs q _ ih=>exact .tup cs vs q ih| fn f caps vs q _ ih=>exact .fn f caps vs q ih
theorem Ash {x:AV} (h:x.free1=true) (d:∀cs,x≠.agg cs):x.cl1=true:=by cases x <;> first|exact h|exact (d _ rfl).elim
theorem Conc.to0 {x:AV} (hx:x.free=true) (h:Conc σ ι H x v):Conc σ ι0 H0 x v:=by
 have key:∀(cs:List AV),cs.all AV.cl1=true->∀(i:Nat) (c:AV) (u:Value),cs[i]? = some c->Conc σ ι H c u->Conc σ ι0 H0 c u:=by intro cs s i c u hc h;exact .cc (h.cc_of (Dh.1 s c (Dz hc))).1
 cases h with
 | cc h=>exact .cc h
 | loc=>cases hx
 | mp=>cases hx
 | vec=>cases hx
 | arr=>cases hx
 | el=>cases hx
 | ref cs b off C E fr g y hc h1 A=>exact .ref cs b off C E fr g y hc h1 A
 | agg cs vs k h=>exact .agg cs vs k λi c u h1 h2=>key cs hx i c u h1 (h i c u h1 h2)
 | tup cs vs k h=>refine .tup cs vs k λi c u h1 h2=>?_;have hf:=Dh.1 hx c (Dz h1);have hc:=h i c u h1 h2;cases c with| agg ds=>obtain⟨us,rfl,q,z⟩:=hc.agg_inv;exact .agg ds us q λj d v B D=>key ds hf j d v B (z j d v B D)| _=>exact .cc (hc.cc_of (Ash hf (by intro cs e;cases e))).1
 | fn f caps vs k h=>exact .fn f caps vs k λi c u h1 h2=>key caps hx i c u h1 (h i c u h1 h2)
theorem Conc.fn_inv (h:Conc σ ι H (.fn f caps) v) : ∃vs:Array Value,v = .func (.func f) #[] vs/\vs.size=caps.length/\∀(i:Nat) (c:AV) (u:Value),caps[i]? = some c->vs[i]? = some u->Conc σ ι H c u:=by cases h with| cc h=>cases h| fn _ _ vs b h=>exact⟨vs,rfl,b,h⟩
theorem X1 {xs:Array Operand} {vs:Array Value} (B:∀x∈xs.toList,Conc σ ι H (ρ x) (a.eval x)) (j:vs.size=caps.length) (f:∀(i:Nat) (c:AV) (u:Value),caps[i]? = some c->vs[i]? = some u->Conc σ ι H c u):Jo σ ι H (xs.toList.map ρ ++ caps) (xs.map a.eval++vs):=by
 refine⟨by simp[j],λi c u h1 d=>?_⟩;by_cases b:i<xs.size
 .rw[getElem?_append_left (by simpa using b),getElem?_map,Ft]at h1;rw[Array.getElem?_append_left (by simpa using b),Array.getElem?_map]at d;simp[b]at h1 d;subst h1;subst d;exact B _ ψ
 .rw[getElem?_append_right ζ]at h1;rw[Array.getElem?_append_right ζ]at d;simp at h1 d;exact f _ c u h1 d
theorem Asi (J:o.op = .call c) (j:c.callee = .value x) (U:ρ x = .fn f caps) (hp:A4 P f (c.args.toList.map ρ ++ caps) r) (z:(c.args.toList.map ρ ++ caps).all AV.free=true):B2 P o ρ ⟨r,[],[]⟩:=by
 intro σ ι H F W w a next Q s E _ V
 obtain⟨⟨fn,X,q,A⟩,hp⟩:=hp;have B:=E x (by simp[J,Op.operands,Call.operands,j]);rw[U]at B;obtain⟨d,M,N,I⟩:=B.fn_inv;have k:Jo σ ι H (c.args.toList.map ρ ++ caps) (c.args.map a.eval++d) :=
  X1 (λy R=>E y (by simp only[J,Op.operands,Call.operands,j];simp at R ⊢;exact .inr R)) N I
 have D:(execOp a.eval o).run P w = .ok (.enter f (c.args.map a.eval++d)) w:=by have L:(callFunc f (c.args.map a.eval++d)).run P w = .ok (.enter f (c.args.map a.eval++d)) w:=(by unfold callFunc;simp only[Sem.run_bind,program,Sem.run,Result.andThen_ok,X,q,A,Bool.false_eq_true,if_false,Sem.run_pure]);simp only[execOp,J,resolve,j,M,Deferred.ofValue,invoke,Sem.run_bind,Sem.run_pure,Result.andThen_ok,Array.empty_append,L]
 unfold Oper.wp;rw[D];simp only[Oper.upon];refine (hp σ (Pk σ w) W w (c.args.map a.eval++d) s.lend ⟨k.1,λi b u h1 h2=>(k.2 i b u h1 h2).to0 (Dh.1 z b (Dz h1))⟩).mono ?_;rintro e w' ⟨v,σ',rfl,G,s',hc⟩;exact V σ' ι v w' ⟨G,λ_=>HLe.refl _ _⟩ (s.unlend G s') hc.of0
theorem Asj (E:o.op = .call c) (j:c.callee = .value x) (R:ρ x = .fn f caps) (hp:Ext P f (c.args.toList.map ρ ++ caps) r) (q:(c.args.toList.map ρ ++ caps).all AV.free=true):B2 P o ρ ⟨r,[],[]⟩:=by
 intro σ ι H F W w a next Q s B _ U
 have z:=B x (by simp[E,Op.operands,Call.operands,j]);rw[R]at z;obtain⟨d,I,J,D⟩:=z.fn_inv;have k:Jo σ ι H (c.args.toList.map ρ ++ caps) (c.args.map a.eval++d) :=
  X1 (λy M=>B y (by simp only[E,Op.operands,Call.operands,j];simp at M ⊢;exact .inr M)) J D
 obtain⟨v,G,V⟩:=hp σ (Pk σ w) W w (c.args.map a.eval++d) s.lend ⟨k.1,λi b u h1 X=>(k.2 i b u h1 X).to0 (Dh.1 q b (Dz h1))⟩;have A:(execOp a.eval o).run P w = .ok (.value v) w:=by simp only[execOp,E,resolve,j,I,Deferred.ofValue,invoke,Sem.run_bind,Sem.run_pure,Result.andThen_ok,Array.empty_append,G]
 exact Fc A (U σ ι v w (Le.refl _ _ _) s V.of0)
theorem Ask {j h sz:Nat} {E:TypeId} {xs:List AV} (S:o.op = .call c) (k:c.callee = .value x) (hx:ρ x = .fn f caps) (hj:(c.args.toList.map ρ ++ caps)[j]? = some (.arr h xs.length 0 xs.length)) (hp:A4 P f ((c.args.toList.map ρ ++ caps).set j (.sl sz xs)) r) (B:((c.args.toList.map ρ ++ caps).set j (.sl sz xs)).all AV.free=true):B2 P o ρ ⟨r,[(h,.rows E sz xs)],[(h,.dead)]⟩:=by
 intro σ ι H F W w a next Q s L R hk
 have Z:H h = .rows E sz xs:=R (h,.rows E sz xs) ψ;obtain⟨⟨fn,hf,A,D⟩,hp⟩:=hp;have I:=L x (by simp[S,Op.operands,Call.operands,k]);rw[hx]at I;obtain⟨d,hv,hl,N⟩:=I.fn_inv;have z:Jo σ ι H (c.args.toList.map ρ ++ caps) (c.args.map a.eval++d) :=
  X1 (λy hy=>L y (by simp only[S,Op.operands,Call.operands,k];simp at hy ⊢;exact .inr hy)) hl N
 obtain⟨O,G,Y,V⟩:=s.freeze Z;have q:Jo O ι (Aj H h .dead) ((c.args.toList.map ρ ++ caps).set j (.sl sz xs)) (c.args.map a.eval++d):=by
  refine⟨by rw[length_set];exact z.1,λi b u h1 h2=>?_⟩;rw[getElem?_set]at h1;split at h1
  .rename_i U;split at h1
   .cases h1;subst U;have hc:=z.2 j _ u hj h2;have:=V 0 xs.length _ ω (hc.arr_inv Z rfl);rw[drop_zero,take_of_length_le ω]at this;exact .cc this
   .cases h1
  .exact (z.2 i b u h1 h2).mono G
 have J:(execOp a.eval o).run P w = .ok (.enter f (c.args.map a.eval++d)) w:=by have X:(callFunc f (c.args.map a.eval++d)).run P w = .ok (.enter f (c.args.map a.eval++d)) w:=(by unfold callFunc;simp only[Sem.run_bind,program,Sem.run,Result.andThen_ok,hf,A,D,Bool.false_eq_true,if_false,Sem.run_pure]);simp only[execOp,S,resolve,k,hv,Deferred.ofValue,invoke,Sem.run_bind,Sem.run_pure,Result.andThen_ok,Array.empty_append,X]
 unfold Oper.wp;rw[J];simp only[Oper.upon];refine (hp O (Pk O w) W w (c.args.map a.eval++d) Y.lend ⟨q.1,λi b u h1 h2=>(q.2 i b u h1 h2).to0 (Dh.1 B b (Dz h1))⟩).mono ?_;rintro e w' ⟨v,σ',rfl,M,s',hc⟩;exact hk σ' ι v w' (G.trans ⟨M,λ_=>HLe.refl _ _⟩) (Y.unlend M s') hc.of0
end
variable {o:Bg} {es:Nat->Nat}
theorem Gt {a b:Nat} (h:Nat.blt a b=true):a<b:=Fu h
theorem Abr:Ib es o = .none↔o = .none:=by cases o <;> simp[Ib]
theorem X2:(Ib es o).live=o.live:=by cases o <;> rfl
theorem Abs {E:TypeId} {sz:Nat} {xs:List AV}:Ib es o = .rows E sz xs↔o = .rows E sz xs:=by cases o <;> simp[Ib]
section
variable {es:Nat->Nat} {m:Nat} {σ:Aw} {ι ιl:Bq} {H I:Hp}
variable {x:AV} {n:Nat} {v:Value}
theorem Lf (f:∀k,k<m->ιl k=ι (es k)) (D:∀k,k<m->H (es k)=Ib es (I k)) (R:x.under0 m=true):Conc σ ι H (Abk es x) v↔Conc σ ιl I x v:=by
 have rows:∀k,k<m->∀E sz xs,H (es k) = .rows E sz xs↔I k = .rows E sz xs:=λk d E sz xs=>by rw[D k d];exact Abs
 have some:∀k,k<m->(H (es k)≠.none↔I k≠.none):=λk d=>by rw[D k d];exact not_congr Abr
 constructor
 .intro h;cases x with
  | val u=>cases h with|cc h=>exact .cc h
  | sl sz xs=>cases h with|cc h=>exact .cc h
  | fb s=>cases h with|cc h=>exact .cc h
  | fm s=>cases h with|cc h=>exact .cc h
  | ref cs=>cases h with| cc h=>exact .cc h| ref cs b M C E V g A X h1 B=>exact .ref cs b M C E V g A X h1 B
  | loc k M=>have d:=Gt R;cases h with| cc h=>cases h| loc _ _ b U=>exact .loc k M b (by rw[f k d];exact U)
  | mp k=>have d:=Gt R;cases h with| cc h=>cases h| mp _ b U=>exact .mp k b (by rw[f k d];exact U)
  | vec k n=>have d:=Gt R;cases h with| cc h=>cases h| vec _ _ b U=>exact .vec k n b (by rw[f k d];exact U)
  | arr k q M len=>have d:=Gt R;cases h with| cc h=>cases h| arr _ _ _ _ _ z y c=>exact .arr k q M len v ((some k d).1 z) (λE sz xs e=>by rw[f k d];exact y E sz xs ((rows k d E sz xs).2 e)) c
  | el k q i j=>have d:=Gt R;cases h with| cc h=>cases h| el _ _ _ _ _ z y c=>exact .el k q i j v ((some k d).1 z) (λE sz xs e=>by rw[f k d];exact y E sz xs ((rows k d E sz xs).2 e)) c
  | agg=>cases R
  | tup=>cases R
  | fn=>cases R
 .intro h;cases x with
  | val u=>cases h with|cc h=>exact .cc h
  | sl sz xs=>cases h with|cc h=>exact .cc h
  | fb s=>cases h with|cc h=>exact .cc h
  | fm s=>cases h with|cc h=>exact .cc h
  | ref cs=>cases h with| cc h=>exact .cc h| ref cs b M C E V g A X h1 B=>exact .ref cs b M C E V g A X h1 B
  | loc k M=>have d:=Gt R;cases h with| cc h=>cases h| loc _ _ b U=>exact .loc (es k) M b (by rw[<-f k d];exact U)
  | mp k=>have d:=Gt R;cases h with| cc h=>cases h| mp _ b U=>exact .mp (es k) b (by rw[<-f k d];exact U)
  | vec k n=>have d:=Gt R;cases h with| cc h=>cases h| vec _ _ b U=>exact .vec (es k) n b (by rw[<-f k d];exact U)
  | arr k q M len=>have d:=Gt R;cases h with| cc h=>cases h| arr _ _ _ _ _ z y c=>exact .arr (es k) q M len v ((some k d).2 z) (λE sz xs e=>by rw[<-f k d];exact y E sz xs ((rows k d E sz xs).1 e)) c
  | el k q i j=>have d:=Gt R;cases h with| cc h=>cases h| el _ _ _ _ _ z y c=>exact .el (es k) q i j v ((some k d).2 z) (λE sz xs e=>by rw[<-f k d];exact y E sz xs ((rows k d E sz xs).1 e)) c
  | agg=>cases R
  | tup=>cases R
  | fn=>cases R
theorem G9 (b:∀k,k<m->ιl k=ι (es k)) (q:∀k,k<m->H (es k)=Ib es (I k)) (d:x.under1 m=true):Conc σ ι H (L3 es x) v↔Conc σ ιl I x v:=by
 have cells:∀{cs:List AV},cs.all (AV.under0 m)=true->∀(i:Nat) (c:AV),cs[i]? = some c->∀u,(Conc σ ι H (Abk es c) u↔Conc σ ιl I c u) :=
  λz i c D u=>Lf b q (Dh.1 z c (Dz D));cases x with
 | fn f cs=>
  constructor
  .intro h;obtain⟨M,rfl,y,h⟩:=h.fn_inv;exact .fn f cs M (by simpa using y) λi c u h1 R=>(cells d i c h1 u).1 (h i _ u (by simp[h1]) R)
  .intro h;obtain⟨M,rfl,y,h⟩:=h.fn_inv;refine .fn f _ M (by simpa using y) λi c u h1 R=>?_;rw[getElem?_map]at h1;cases D:cs[i]? with| none=>rw[D]at h1;cases h1| some A=>rw[D]at h1;cases h1;exact (cells d i A D u).2 (h i A u D R)
 | agg cs=>cases d
 | tup cs=>cases d
 | val u=>exact Lf (x:=(.val u)) b q d
 | loc h B=>exact Lf (x:=(.loc h B)) b q d
 | arr h k B len=>exact Lf (x:=(.arr h k B len)) b q d
 | el h k i j=>exact Lf (x:=(.el h k i j)) b q d
 | mp h=>exact Lf (x:=(.mp h)) b q d
 | vec h n=>exact Lf (x:=(.vec h n)) b q d
 | ref cs=>exact Lf (x:=(.ref cs)) b q d
 | sl sz xs=>exact Lf (x:=(.sl sz xs)) b q d
 | fb s=>exact Lf (x:=(.fb s)) b q d
 | fm s=>exact Lf (x:=(.fm s)) b q d
theorem Asl (h:x.under0 n=true):x.under1 n=true:=by cases x <;> first|exact h|cases h
theorem Abt (h:x.under1 n=true):x.under n=true:=by cases x with| fn f cs=>exact Dh.2 λc d=>Asl (Dh.1 h c d)| agg cs=>cases h| tup cs=>cases h| _=>exact h
theorem Asm (b:∀k,k<m->ιl k=ι (es k)) (q:∀k,k<m->H (es k)=Ib es (I k)) (d:x.under2 m=true):Conc σ ι H (Abl es x) v↔Conc σ ιl I x v:=by
 have cells:∀{cs:List AV},cs.all (AV.under1 m)=true->∀(i:Nat) (c:AV),cs[i]? = some c->∀u,(Conc σ ι H (L3 es c) u↔Conc σ ιl I c u) :=
  λz i c D u=>G9 b q (Dh.1 z c (Dz D));cases x with
 | agg cs=>
  constructor
  .intro h;obtain⟨M,rfl,y,h⟩:=h.agg_inv;exact .agg cs M (by simpa using y) λi c u h1 R=>(cells d i c h1 u).1 (h i _ u (by simp[h1]) R)
  .intro h;obtain⟨M,rfl,y,h⟩:=h.agg_inv;refine .agg _ M (by simpa using y) λi c u h1 R=>?_;rw[getElem?_map]at h1;cases D:cs[i]? with| none=>rw[D]at h1;cases h1| some A=>rw[D]at h1;cases h1;exact (cells d i A D u).2 (h i A u D R)
 | tup cs=>cases d
 | fn f cs=>exact G9 (x:=(.fn f cs)) b q d
 | val u=>exact G9 (x:=(.val u)) b q d
 | loc h B=>exact G9 (x:=(.loc h B)) b q d
 | arr h k B len=>exact G9 (x:=(.arr h k B len)) b q d
 | el h k i j=>exact G9 (x:=(.el h k i j)) b q d
 | mp h=>exact G9 (x:=(.mp h)) b q d
 | vec h n=>exact G9 (x:=(.vec h n)) b q d
 | ref cs=>exact G9 (x:=(.ref cs)) b q d
 | sl sz xs=>exact G9 (x:=(.sl sz xs)) b q d
 | fb s=>exact G9 (x:=(.fb s)) b q d
 | fm s=>exact G9 (x:=(.fm s)) b q d
theorem Ah2 (q:∀k,k<m->ιl k=ι (es k)) (y:∀k,k<m->H (es k)=Ib es (I k)) (D:x.under m=true):Conc σ ι H (ren es x) v↔Conc σ ιl I x v:=by
 have cells:∀{cs:List AV},cs.all (AV.under1 m)=true->∀(i:Nat) (c:AV),cs[i]? = some c->∀u,(Conc σ ι H (L3 es c) u↔Conc σ ιl I c u) :=
  λB i c d u=>G9 q y (Dh.1 B c (Dz d));have b:∀{cs:List AV},cs.all (AV.under2 m)=true->∀(i:Nat) (c:AV),cs[i]? = some c->∀u,(Conc σ ι H (Abl es c) u↔Conc σ ιl I c u) :=
  λB i c d u=>Asm q y (Dh.1 B c (Dz d));cases x with
 | agg cs=>
  constructor
  .intro h;obtain⟨M,rfl,z,h⟩:=h.agg_inv;exact .agg cs M (by simpa using z) λi c u h1 R=>(cells D i c h1 u).1 (h i _ u (by simp[h1]) R)
  .intro h;obtain⟨M,rfl,z,h⟩:=h.agg_inv;refine .agg _ M (by simpa using z) λi c u h1 R=>?_;rw[getElem?_map]at h1;cases d:cs[i]? with| none=>rw[d]at h1;cases h1| some A=>rw[d]at h1;cases h1;exact (cells D i A d u).2 (h i A u d R)
 | tup cs=>
  constructor
  .intro h;obtain⟨M,rfl,z,h⟩:=h.tup_inv;exact .tup cs M (by simpa using z) λi c u h1 R=>(b D i c h1 u).1 (h i _ u (by simp[h1]) R)
  .intro h;obtain⟨M,rfl,z,h⟩:=h.tup_inv;refine .tup _ M (by simpa using z) λi c u h1 R=>?_;rw[getElem?_map]at h1;cases d:cs[i]? with| none=>rw[d]at h1;cases h1| some A=>rw[d]at h1;cases h1;exact (b D i A d u).2 (h i A u d R)
 | fn f cs=>
  constructor
  .intro h;obtain⟨M,rfl,z,h⟩:=h.fn_inv;exact .fn f cs M (by simpa using z) λi c u h1 R=>(cells D i c h1 u).1 (h i _ u (by simp[h1]) R)
  .intro h;obtain⟨M,rfl,z,h⟩:=h.fn_inv;refine .fn f _ M (by simpa using z) λi c u h1 R=>?_;rw[getElem?_map]at h1;cases d:cs[i]? with| none=>rw[d]at h1;cases h1| some A=>rw[d]at h1;cases h1;exact (cells D i A d u).2 (h i A u d R)
 | val u=>exact G9 (x:=(.val u)) q y D
 | loc h U=>exact G9 (x:=(.loc h U)) q y D
 | arr h k U len=>exact G9 (x:=(.arr h k U len)) q y D
 | el h k i j=>exact G9 (x:=(.el h k i j)) q y D
 | mp h=>exact G9 (x:=(.mp h)) q y D
 | vec h n=>exact G9 (x:=(.vec h n)) q y D
 | ref cs=>exact G9 (x:=(.ref cs)) q y D
 | sl sz xs=>exact G9 (x:=(.sl sz xs)) q y D
 | fb s=>exact G9 (x:=(.fb s)) q y D
 | fm s=>exact G9 (x:=(.fm s)) q y D
theorem Ah3 (G:∀k,k<m->ιl k=ι (es k)) (d:∀k,k<m->H (es k)=Ib es (I k)) {F L:Aw} {w:World} {k:Nat} (hk:k<m) (hu:(I k).under m=true) (x:(I k).fixd=true) (j:∀b,(I k).live=true->(ιl k).has b->(F b=none↔L b=none)):Bw σ ι H F w (es k)↔Bw σ ιl I L w k:=by
 have cells:∀{cs:List AV},cs.all (AV.under1 m)=true->∀(i:Nat) (c:AV),cs[i]? = some c->∀u,(Conc σ ι H (L3 es c) u↔Conc σ ιl I c u) :=
  λA i c V u=>G9 G d (Dh.1 A c (Dz V));unfold Bw;rw[d k hk,<-G k hk];cases hx:I k with
 | none=>exact Iff.rfl
 | dead=>exact Iff.rfl
 | map l=>
  simp only[Ib];rw[hx]at j;constructor
  .rintro⟨b,M,q,f,h1,R,U⟩;exact⟨b,M,q,f,h1,(j b rfl (by rw[f];rfl)).1 R,U⟩
  .rintro⟨b,M,q,f,h1,R,U⟩;exact⟨b,M,q,f,h1,(j b rfl (by rw[f];rfl)).2 R,U⟩
 | rows E sz xs=>
  simp only[Ib];rw[hx]at j;refine and_congr Iff.rfl (and_congr Iff.rfl (or_congr Iff.rfl ?_));constructor
  .rintro⟨b,A8,C,f,h1,R,U⟩;exact⟨b,A8,C,f,h1,(j b rfl (by rw[f];rfl)).1 R,U⟩
  .rintro⟨b,A8,C,f,h1,R,U⟩;exact⟨b,A8,C,f,h1,(j b rfl (by rw[f];rfl)).2 R,U⟩
 | cells E cs=>
  simp only[Ib];rw[hx]at j hu;constructor
  .rintro⟨b,C,f,h1,R,U,D,B⟩;refine⟨b,C,f,h1,(j b rfl (by rw[f];rfl)).1 R,U,by simpa using D,λi c v V z=>(cells hu i c V v).1 (B i _ v (by simp[V]) z)⟩
  .rintro⟨b,C,f,h1,R,U,D,B⟩;refine⟨b,C,f,h1,(j b rfl (by rw[f];rfl)).2 R,U,by simpa using D,λi c v V z=>?_⟩;rw[getElem?_map]at V;cases s:cs[i]? with| none=>rw[s]at V;cases V| some J=>rw[s]at V;cases V;exact (cells hu i J s v).2 (B i J v s z)
 | nest E Ei sz ys=>
  simp only[Ib];rw[hx]at j x;have own:∀(i:Nat) (y:NC),ys[i]? = some y->∃xs,y = .own xs:=λi y X=>by have:=Dh.1 x y (Dz X);cases y with| own xs=>exact⟨xs,rfl⟩| lent h' N=>cases this
  constructor
  .refine Gc.of rfl (λb hb=>(j b rfl hb).1) λi y X=>?_;obtain⟨xs,rfl⟩:=own i y X;exact X
  .refine Gc.of rfl (λb hb=>(j b rfl hb).2) λi y X=>?_;obtain⟨xs,rfl⟩:=own i y X;exact X
end
variable {b:List Bg} {k:Nat}
theorem Ah4 {n:Nat}:∀{l:List Nat} {k:Nat},M2 n l=true->k<l.length->C4 n l k<n
 | [],k,_,h=>by simp at h
 | h::l,0,b,_=>by simp only[M2,Ec]at b;exact Gt b.1.1
 | h::l,k+1,b,d=>by simp only[M2,Ec]at b;exact Ah4 (l:=l) b.2 (by simpa using d)
theorem T2 {n:Nat}:∀{l:List Nat} {k:Nat},l.length<=k->C4 n l k=n+(k-l.length)
 | [],k,_=>by simp[C4]
 | h::l,0,d=>by simp at d
 | h::l,k+1,d=>by simp only[C4,length_cons];rw[T2 (l:=l) (by simpa using d)];omega
theorem Abu {n:Nat}:∀{l:List Nat} {k:Nat},k<l.length->C4 n l k∈l
 | [],k,h=>by simp at h
 | h::l,0,_=>by simp[C4]
 | h::l,k+1,d=>by simp only[C4];exact mem_cons_of_mem _ (Abu (by simpa using d))
theorem Ah5 {n:Nat}:∀{l:List Nat} {j k:Nat},M2 n l=true->C4 n l j=C4 n l k->j=k
 | [],j,k,_,h=>by simp only[C4]at h;omega
 | h::l,0,0,_,_=>rfl
 | h::l,j+1,k+1,b,e=>by simp only[M2,Ec]at b;simp only[C4]at e;rw[Ah5 (l:=l) b.2 e]
 | h::l,0,k+1,b,e=>by
  simp only[M2,Ec]at b;simp only[C4]at e;rcases Nat.lt_or_ge k l.length with d|d
  .have:=Abu (n:=n) d;rw[<-e]at this;simp[this]at b
  .have h1:=T2 (n:=n) d;have u:=Gt b.1.1;omega
 | h::l,j+1,0,b,e=>by
  simp only[M2,Ec]at b;simp only[C4]at e;rcases Nat.lt_or_ge j l.length with d|d
  .have:=Abu (n:=n) d;rw[e]at this;simp[this]at b
  .have h1:=T2 (n:=n) d;have u:=Gt b.1.1;omega
theorem Ah6 {es:Nat->Nat}:∀{os:List Bg} {k i:Nat} {o:Bg},os[i]? = some o->(es (k+i),Ib es o)∈Eg es k os
 | [],k,i,o,h=>by simp at h
 | p::os,k,0,o,h=>by simp at h;subst h;simp[Eg]
 | p::os,k,i+1,o,h=>by simp only[Eg];refine mem_cons_of_mem _ ?_;have:=Ah6 (es:=es) (k:=k+1) (i:=i) (by simpa using h);rwa [show k+(i+1)=k+1+i by omega]
theorem X3 {es:Nat->Nat}:∀{os:List Bg} {k x:Nat} {H:Hp},(∀i,i<os.length->es (k+i)≠x)->Bz H (Eg es k os) x=H x
 | [],k,x,H,h=>rfl
 | q::os,k,x,H,h=>by simp only[Eg,Bz];rw[X3 (λi hi=>by rw[show k+1+i=k+(i+1) by omega];exact h (i+1) (by simpa using hi)),Be _ _ (Ne.symm (by simpa using h 0 ψ))]
theorem Ah7 {es:Nat->Nat} (b:∀i j,es i=es j->i=j):∀{os:List Bg} {k i:Nat} {o:Bg} {H:Hp},os[i]? = some o->Bz H (Eg es k os) (es (k+i))=Ib es o
 | [],k,i,o,H,h=>by simp at h
 | q::os,k,0,o,H,h=>by simp at h;subst h;simp only[Eg,Bz];rw[X3 (λi hi e=>by have:=b _ _ e;omega)];exact Ba _ _ _
 | q::os,k,i+1,o,H,h=>by simp only[Eg,Bz];rw[show k+(i+1)=k+1+i by omega];exact Ah7 b (by simpa using h)
theorem Ah8 {es:Nat->Nat}:∀{c k i:Nat},i<c->(es (k+i),Bg.none)∈Ca es k c
 | 0,k,i,h=>ω
 | c+1,k,0,h=>by simp[Ca]
 | c+1,k,i+1,h=>by simp only[Ca];refine mem_cons_of_mem _ ?_;have:=Ah8 (es:=es) (c:=c) (k:=k+1) (i:=i) ω;rwa [show k+(i+1)=k+1+i by omega]
theorem Ah9 {es:Nat->Nat}:∀{c k:Nat} {p:Nat×Bg},p∈Ca es k c->∃i,i<c/\p=(es (k+i),Bg.none)
 | 0,k,p,h=>by simp[Ca]at h
 | c+1,k,p,h=>by
  simp only[Ca,mem_cons]at h;rcases h with rfl|h
  .exact⟨0,ω,rfl⟩
  .obtain⟨i,h1,d⟩:=Ah9 h;exact⟨i+1,ω,by rw[d,show k+(i+1)=k+1+i by omega]⟩
theorem L5.spec {H:Hp}:∀{l:List (Nat×Bg)},L5 H l->∀p∈l,H p.1=p.2
 | [],_,p,hp=>by cases hp
 | q::l,h,p,hp=>by
  rcases mem_cons.1 hp with rfl|hp
  .exact h.1
  .exact L5.spec h.2 p hp
theorem Pl (h:k<b.length):b[k]? = some (hp b k):=by simp[hp,h]
theorem N6 (h:b.length<=k):hp b k = .none:=by simp[hp,getElem?_eq_none h]
section
variable {P:Program} {o:Oper} {ρ:Operand->AV} {a:Act} {w w':World}
open Classical in
theorem Asn {n m:Nat} {c:Call} {x:Operand} {f:FuncId} {caps:List AV} {l:List Nat} {a2:List AV} {U:List Bg} {R:AV->List Bg->Prop} (ho:o.op = .call c) (b0:c.callee = .value x) (hx:ρ x = .fn f caps) (e8:N4 P f a2 U R) (ha:a2.map (ren (C4 n l))=c.args.toList.map ρ ++ caps) {r0:AV} {e9:List Bg} (h0:R r0 e9) (ok:∀r d,R r d->Hm n l a2 U r d=true/\d.length=m) {σ:Aw} {ι:Bq} {H:Hp} {F:Aw} {W w:World} {a:Act} {next:Act->World->Prop} {Q:Exit->Act->World->Prop} (s:St σ ι H F W w) (c6:∀x∈o.op.operands.toList,Conc σ ι H (ρ x) (a.eval x)) (c7:∀p∈Eg (C4 n l) 0 U++Ca (C4 n l) l.length (m-l.length),H p.1=p.2) (hk:∀r d,R r d->∀σ' ι' v w',Le σ ι H σ' ι' (Bz H (Eg (C4 n l) 0 d))->St σ' ι' (Bz H (Eg (C4 n l) 0 d)) F W w'->Conc σ' ι' (Bz H (Eg (C4 n l) 0 d)) (ren (C4 n l) r) v->next (a.put o.dst v) w'):o.wp P a w next Q:=by
 have c8:=(ok _ _ h0).1;simp only[Hm,Ec]at c8;obtain⟨⟨⟨⟨⟨⟨⟨o1,o2⟩,o3⟩,o4⟩,o5⟩,-⟩,-⟩,o8,-⟩:=c8;have o2:=Fj o2;generalize g0:C4 n l=es at *;have c1:∀i j,es i=es j->i=j:=λi j e=>by rw[<-g0]at e;exact Ah5 o1 e
 obtain⟨⟨fn,hf,c2,c3⟩,g5⟩:=e8;have c9:=c6 x (by simp[ho,Op.operands,Call.operands,b0]);rw[hx]at c9;obtain⟨vs,hv,hl,e3⟩:=c9.fn_inv;have b1:Jo σ ι H (c.args.toList.map ρ ++ caps) (c.args.map a.eval++vs) :=
  X1 (λy hy=>c6 y (by simp only[ho,Op.operands,Call.operands,b0];simp at hy ⊢;exact .inr hy)) hl e3
 have e4:(execOp a.eval o).run P w = .ok (.enter f (c.args.map a.eval++vs)) w:=by have g6:(callFunc f (c.args.map a.eval++vs)).run P w = .ok (.enter f (c.args.map a.eval++vs)) w:=(by unfold callFunc;simp only[Sem.run_bind,program,Sem.run,Result.andThen_ok,hf,c2,c3,Bool.false_eq_true,if_false,Sem.run_pure]);simp only[execOp,ho,resolve,b0,hv,Deferred.ofValue,invoke,Sem.run_bind,Sem.run_pure,Result.andThen_ok,Array.empty_append,g6]
 unfold Oper.wp;rw[e4];simp only[Oper.upon];have X:∀k,k<U.length->H (es k)=Ib es (hp U k):=by intro k D;have:=c7 _ (mem_append_left _ (Ah6 (es:=es) (k:=0) (Pl D)));simpa using this
 have e5:∀k,U.length<=k->k<m->H (es k) = .none:=by intro k h1 B;have:=c7 _ (mem_append_right _ (Ah8 (es:=es) (k:=l.length) (c:=m-l.length) (i:=k-l.length) ω));rwa [show l.length+(k-l.length)=k by omega]at this
 let ιl:Bq:=λk=>if k<U.length then ι (es k) else .none
 let a3:Nat->Prop:=λb=>∃k,k<U.length/\(hp U k).live=true/\(ι (es k)).has b
 let Fl:Aw:=λb=>if σ b=none/\¬a3 b then w.heap[b]? else none
 have a7:∀k,k<U.length->ιl k=ι (es k):=λk h=>if_pos h;have a0:∀k,k<U.length->(H (es k)).live=(hp U k).live:=λk h=>by rw[X k h,X2]
 have b6:∀k,k<U.length->(hp U k).under U.length=true:=by intro k h;have:=Dh.1 o5 _ (Dz (Pl h));rw[o2];exact this
 have b7:∀k,k<U.length->∀b,(hp U k).live=true->(ιl k).has b->F b=none/\Fl b=none:=by intro k h b h1 B;rw[a7 k h]at B;exact⟨(s.block (by rw[a0 k h];exact h1) B).2.2,if_neg λhn=>hn.2 ⟨k,h,h1,B⟩⟩
 have sl:St σ ιl (hp U) Fl W w:=by
  refine⟨s.sto,λb ob hb=>?_,λk=>?_,λk k' b h1 B h3 h4=>?_,s.os,s.tape,s.output,s.glo,s.drw⟩
  .by_cases hc:σ b=none/\¬a3 b
   .simp only[Fl,if_pos hc]at hb;exact⟨hb,hc.1⟩
   .simp only[Fl,if_neg hc]at hb;cases hb
  .by_cases D:k<U.length
   .refine (Ah3 (es:=es) a7 X D (b6 k D) (Dh.1 o8 _ (Dz (Pl D))) λb h1 B=>?_).1 (s.obj (es k));obtain⟨h3,h4⟩:=b7 k D b h1 B;rw[h3,h4]
   .unfold Bw;rw[N6 ω];exact if_neg D
  .have lt:∀k,(hp U k).live=true->k<U.length:=by
    intro k h;rcases Nat.lt_or_ge k U.length with h'|h'
    .exact h'
    .rw[N6 h']at h;cases h
   have k1:=lt k h1;have k2:=lt k' B;rw[a7 k k1]at h3;rw[a7 k' k2]at h4;exact c1 _ _ (s.inj _ _ b (by rw[a0 k k1];exact h1) (by rw[a0 k' k2];exact B) h3 h4)
 have c4:Jo σ ιl (hp U) a2 (c.args.map a.eval++vs):=by rw[<-ha]at b1;refine⟨by simpa using b1.1,λi b u h1 B=>?_⟩;have:=b1.2 i (ren es b) u (by simp[h1]) B;refine (Ah2 (es:=es) a7 X ?_).1 this;rw[o2];exact Dh.1 o4 b (Dz h1)
 refine (g5 σ Fl W w ιl (c.args.map a.eval++vs) sl c4).mono ?_;rintro e w' ⟨r,d,v,σ',ι'l,hR,rfl,b8,s',g7⟩;obtain⟨e6,rfl⟩:=ok _ _ hR;simp only[Hm,Ec]at e6;obtain⟨⟨⟨⟨⟨⟨⟨-,-⟩,o3⟩,-⟩,-⟩,o6⟩,o7⟩,-,o9⟩:=e6;have o3:=Fu o3;let ι':Bq:=λh=>if hh:∃k,k<d.length/\es k=h then ι'l hh.choose else ι h
 have a8:∀k,k<d.length->ι'l k=ι' (es k):=by intro k h;have hh:∃k',k' < d.length/\es k'=es k:=⟨k,h,rfl⟩;have:hh.choose=k:=c1 _ _ hh.choose_spec.2;simp only[ι',dif_pos hh,this]
 have b2:∀h,(∀k,k<d.length->es k≠h)->ι' h=ι h:=by intro h I;exact dif_neg (λ⟨k,k1,k2⟩=>I k k1 k2)
 have a9:∀k,k<d.length->Bz H (Eg es 0 d) (es k)=Ib es (hp d k):=by intro k h;have:=Ah7 (es:=es) c1 (k:=0) (H:=H) (Pl h);simpa using this
 have b3:∀h,(∀k,k<d.length->es k≠h)->Bz H (Eg es 0 d) h=H h:=by intro h I;exact X3 (λi hi=>by simpa using I i hi)
 have h8:U.length<=d.length:=ω;have c5:Le σ ι H σ' ι' (Bz H (Eg es 0 d)):=by
  refine⟨b8.sto,λh=>?_⟩;by_cases hh:∃k,k<d.length/\es k=h
  .obtain⟨k,D,rfl⟩:=hh;rw[<-a8 k D,a9 k D];by_cases a6:k<U.length
   .have q:=b8.obj k;rw[a7 k a6]at q;rw[X k a6];refine⟨q.box,λh=>?_,λh1 E sz xs B=>?_⟩
    .rw[Ne,Abr]at h ⊢;exact q.some h
    .rw[Ne,Abr]at h1;rw[Abs]at B;obtain⟨E0,g8,g9,e0,r0⟩:=q.rows h1 E sz xs B;exact⟨E0,g8,g9,Abs.2 e0,r0⟩
   .have h0:=e5 k ω D;have:ι (es k) = .none:=(by have:=s.obj (es k);unfold Bw at this;rw[h0]at this;exact this);rw[h0,this];exact HLe.of_none
  .have I:∀k,k<d.length->es k≠h:=λk h1 B=>hh ⟨k,h1,B⟩;rw[b2 h I,b3 h I];exact HLe.refl _ _
 have keep:∀b,σ b=none->¬a3 b->∀ob,w.heap[b]? = some ob->w'.heap[b]? = some ob/\σ' b=none/\Fl b=some ob:=by intro b h1 B ob h3;have:Fl b=some ob:=(by simp only[Fl];rw[if_pos ⟨h1,B⟩];exact h3);exact⟨(s'.fra b ob this).1,(s'.fra b ob this).2,this⟩
 have a4:∀h b,(∀k,k<d.length->es k≠h)->(H h).live=true->(ι h).has b->¬a3 b:=by rintro h b I h1 B ⟨k,k1,k2,k3⟩;exact I k ω (s.inj _ _ b (by rw[a0 k k1];exact k2) h1 k3 B)
 have a1:∀b ob,F b=some ob->¬a3 b:=by rintro b ob hb ⟨k,k1,k2,k3⟩;have:=(s.block (by rw[a0 k k1];exact k2) k3).2.2;rw[this]at hb;cases hb
 have b4:∀k,k<d.length->(hp d k).under d.length=true:=λk h=>Dh.1 o7 _ (Dz (Pl h));have h7:St σ' ι' (Bz H (Eg es 0 d)) F W w':=by
  refine⟨s'.sto,λb ob hb=>?_,λh=>?_,λh h' b h1 B h3 h4=>?_,s'.os,s'.tape,s'.output,s'.glo,s'.drw⟩
  .obtain⟨h1,B⟩:=s.fra b ob hb;obtain⟨k1,k2,_⟩:=keep b B (a1 b ob hb) ob h1;exact⟨k1,k2⟩
  .by_cases hh:∃k,k<d.length/\es k=h
   .obtain⟨k,D,rfl⟩:=hh;refine (Ah3 (es:=es) a8 a9 D (b4 k D) (Dh.1 o9 _ (Dz (Pl D))) λb h1 B=>?_).2 (s'.obj k);have b9:=(s'.block h1 B).2.2;refine⟨λ_=>b9,λ_=>?_⟩;cases b7:F b with| none=>rfl| some ob=>obtain⟨h3,h4⟩:=s.fra b ob b7;have:=(keep b h4 (a1 b ob b7) ob h3).2.2;rw[b9]at this;cases this
   .have I:∀k,k<d.length->es k≠h:=λk h1 B=>hh ⟨k,h1,B⟩;have V:=s.obj h;have a5:=λb h1 B=>a4 h b I h1 B;unfold Bw at V ⊢;rw[b3 h I,b2 h I];cases hx:H h with
    | none=>rw[hx]at V;exact V
    | dead=>trivial
    | cells E cs=>rw[hx]at V a5;obtain⟨b,C,e1,h1,B,h3,h4,h5⟩:=V;obtain⟨k1,k2,_⟩:=keep b h1 (a5 b rfl (by rw[e1];rfl)) _ h3;exact⟨b,C,e1,k2,B,k1,h4,λi c v x y=>(h5 i c v x y).mono c5⟩
    | rows E sz xs=>
     rw[hx]at V a5;obtain⟨z1,z2,⟨e1,e2⟩|⟨b,A8,C,e1,h1,B,h3,h4,h5,h6⟩⟩:=V
     .exact⟨z1,z2,.inl ⟨e1,e2⟩⟩
     .obtain⟨k1,k2,_⟩:=keep b h1 (a5 b rfl (by rw[e1];rfl)) _ h3;exact⟨z1,z2,.inr ⟨b,A8,C,e1,k2,B,k1,h4,h5,h6.mono b8.sto⟩⟩
    | map l=>rw[hx]at V a5;obtain⟨b,M,q,e1,h1,B,h3,h4⟩:=V;obtain⟨k1,k2,_⟩:=keep b h1 (a5 b rfl (by rw[e1];rfl)) _ h3;exact⟨b,M,q,e1,k2,B,k1,h4.mono b8.sto⟩
    | nest E Ei sz ys=>rw[hx]at V a5;refine Gc.keep c5 (λb hb=>?_) V;obtain⟨q1,q2,q3⟩:=Gc.block V hb;have hg:w.heap[b]? = some w.heap[b]:=Array.getElem?_eq_getElem q1;obtain⟨k1,k2,_⟩:=keep b q2 (a5 b rfl hb) _ hg;exact⟨λ_=>k2,λq=>q,by rw[k1,hg]⟩
  .have T3:∀k,k<d.length->∀h,(∀k,k<d.length->es k≠h)->(Bz H (Eg es 0 d) (es k)).live=true->(Bz H (Eg es 0 d) h).live=true->(ι' (es k)).has b->(ι' h).has b->False:=(by intro k D h I g1 g2 g3 g4;rw[a9 k D,X2]at g1;rw[b3 h I]at g2;rw[<-a8 k D]at g3;rw[b2 h I]at g4;have b9:=(s'.block g1 g3).2.2;have hb:=s.block g2 g4;have e7:w.heap[b]? = some w.heap[b]:=(by simp[hb.1]);have:=(keep b hb.2.1 (a4 h b I g2 g4) _ e7).2.2;rw[b9]at this;cases this);by_cases hh:∃k,k<d.length/\es k=h
   .obtain⟨k,D,rfl⟩:=hh;by_cases b5:∃k,k<d.length/\es k=h'
    .obtain⟨k',a6,rfl⟩:=b5;rw[a9 k D,X2]at h1;rw[a9 k' a6,X2]at B;rw[<-a8 k D]at h3;rw[<-a8 k' a6]at h4;rw[s'.inj k k' b h1 B h3 h4]
    .exact (T3 k D h' (λk h1 B=>b5 ⟨k,h1,B⟩) h1 B h3 h4).elim
   .have I:∀k,k<d.length->es k≠h:=λk h1 B=>hh ⟨k,h1,B⟩;by_cases b5:∃k,k<d.length/\es k=h'
    .obtain⟨k',a6,rfl⟩:=b5;exact (T3 k' a6 h I B h1 h4 h3).elim
    .have c0:∀k,k<d.length->es k≠h':=λk h1 B=>b5 ⟨k,h1,B⟩;rw[b3 h I]at h1;rw[b3 h' c0]at B;rw[b2 h I]at h3;rw[b2 h' c0]at h4;exact s.inj h h' b h1 B h3 h4
 exact hk r d hR σ' ι' v w' c5 h7 ((Ah2 (es:=es) a8 a9 o6).2 g7)
theorem Aia {n:Nat} {c:Call} {x:Operand} {f:FuncId} {caps:List AV} {l:List Nat} {b:List AV} {k:List Bg} {r:AV} {i:List Bg} (A:o.op = .call c) (j:c.callee = .value x) (d:ρ x = .fn f caps) (u:Bt P f b k r i) (B:b.map (ren (C4 n l))=c.args.toList.map ρ ++ caps) (z:Hm n l b k r i=true) : B2 P o ρ ⟨ren (C4 n l) r,Eg (C4 n l) 0 k++Ca (C4 n l) l.length (i.length-l.length),Eg (C4 n l) 0 i⟩ := λ_ _ _ _ _ _ _ _ _ s y q D=>Asn A j d u.toR B ⟨rfl,rfl⟩ (λ_ _ e=>⟨by rw[e.1,e.2];exact z,by rw[e.2]⟩) s y q λ_ _ e=>by rw[e.1,e.2];exact D
end
section
variable {P:Program} {T:Cw} {an:Nat->Ann} {n:Nat} {o:Oper} {ρ:Operand->AV} {H:Hp} {K:Eff->Nat->Prop}
variable {r:AV} {b:Bg} {c:Call} {l:List Nat} {x y:Operand} {α:Type} {t:TypeId}
theorem Fk {b:Bool} {X:Prop} (h:bif b then X else False):b=true/\X:=by cases b with| false=>exact h.elim| true=>exact⟨rfl,h⟩
theorem Rl {x:AV} (h:Jd x=true):x = .val (.slice none 0 0):=by
 unfold Jd at h;split at h
 .rfl
 .cases h
theorem Aso {x:AV} (h:T0 x=true):∀d,x≠.val (.agg d):=by intro d e;subst e;cases h
theorem Abv {i:TI} (h1:Nat.beq (Fd i).cells.length i.zero.length=true) (d:T0 (Fd i)=true) (u:Jy i.size (Fd i)=true):(Fd i).cells=i.zero.map .val:=by
 have _:=h1;have _:=u
 unfold Fd at d ⊢;cases B:i.d with
 | struct D=>rfl
 | _=>
  rw[B]at d;cases b:i.zero with
  | nil=>rfl
  | cons v l=>
   cases l with
   | cons _ _=>rfl
   | nil=>rw[b]at d;cases v <;> first|rfl|cases d
theorem Rm {c:Array α} {x y:α} (h:c.toList = [x,y]):c = #[x,y]:=by apply Array.ext';simpa using h
theorem Rn {c:Array α} {x:α} (h:c.toList = [x]):c = #[x]:=by apply Array.ext';simpa using h
theorem Ro {b:Builtin} {xs:Array Operand} {f:Array TypeId} (h1:c.callee = .builtin b) (d:c.args=xs) (u:c.argTypes=f):c = {callee:=.builtin b,args:=xs,argTypes:=f}:=by cases c;simp_all
def Fm (H:Hp) (n:Nat):Prop:=∀m,n<=m->H m = .none
def Kn (P:Program) (o:Oper) (ρ:Operand->AV) (H:Hp) (n:Nat) (K:Eff->Nat->Prop):Prop := ∃b m,B2 P o ρ b/\(∀p∈b.rd,H p.1=p.2)/\K b m/\n<=m/\Fm (Bz H b.wr) m
theorem Df (b:Fm H n) (h:B2 P o ρ ⟨r,[],[]⟩) (k:K ⟨r,[],[]⟩ n):Kn P o ρ H n K:=⟨_,n,h,ψ,k,Nat.le_refl _,b⟩
theorem L6 (c:Fm H n) {x:Nat} (h:B2 P o ρ ⟨r,[(x,b)],[]⟩) (d:H x=b) (k:K ⟨r,[(x,b)],[]⟩ n):Kn P o ρ H n K := ⟨_,n,h,by simpa using d,k,Nat.le_refl _,c⟩
theorem Asp (j:Fm H n) {x:Nat} {f c:Bg} (h:B2 P o ρ ⟨r,[(x,f),(n,.none)],[(x,c),(n,b)]⟩) (d:H x=f) (k:K ⟨r,[(x,f),(n,.none)],[(x,c),(n,b)]⟩ (n+1)) (i:f≠.none:=by intro e;cases e):Kn P o ρ H n K:=by
 refine⟨_,n+1,h,by simpa[d] using j n (Nat.le_refl _),k,Nat.le_succ _,λm u=>?_⟩;have q:x<n:=by
  rcases Nat.lt_or_ge x n with h|h
  .exact h
  .exact (i (d ▸ j x h)).elim
 show Aj (Aj H x c) n b m=_;rw[Be _ _ ω,Be _ _ ω];exact j m ω
theorem Lg (i:Fm H n) {x:Nat} {c:Bg} (h:B2 P o ρ ⟨r,[(x,c)],[(x,b)]⟩) (d:H x=c) (f:c≠.none) (k:K ⟨r,[(x,c)],[(x,b)]⟩ n):Kn P o ρ H n K:=by
 refine⟨_,n,h,by simpa using d,k,Nat.le_refl _,λm u=>?_⟩;have j:x<n:=by
  rcases Nat.lt_or_ge x n with h|h
  .exact h
  .exact (f (d ▸ i x h)).elim
 show Aj H x b m=_;rw[Be _ _ ω];exact i m u
theorem L7 (c:Fm H n) (h:B2 P o ρ ⟨r,[(n,.none)],[(n,b)]⟩) (k:K ⟨r,[(n,.none)],[(n,b)]⟩ (n+1)):Kn P o ρ H n K:=by refine⟨_,n+1,h,by simpa using c n (Nat.le_refl _),k,ω,λm d=>?_⟩;show Aj H n b m=_;rw[Be _ _ ω];exact c m ω
theorem Aib {H:Hp}:∀{l:List (Nat×Bg)},(∀p∈l,H p.1=p.2)->Bz H l=H
 | [],_=>rfl
 | p::l,h=>by
  have e:Aj H p.1 p.2=H:=by
   funext q;by_cases d:q=p.1
   .subst d;rw[Ba];exact (h p ψ).symm
   .exact Be _ _ d
  show Bz (Aj H p.1 p.2) l=H;rw[e];exact Aib λq d=>h q (by simp[d])
theorem Asq {f:FuncId} {caps:List AV} {b:List AV} {i:List Bg} (A:o.op = .call c) (k:c.callee = .value x) (I:ρ x = .fn f caps) (y:Bt P f b i r i) (M:b.map (ren (C4 n l))=c.args.toList.map ρ ++ caps) (q:Hm n l b i r i=true):B2 P o ρ ⟨ren (C4 n l) r,Eg (C4 n l) 0 i,[]⟩:=by
 intro σ ι H F W w a next Q s z j R
 have E:i.length=l.length:=by simp only[Hm,Ec]at q;exact Fj q.1.1.1.1.1.1.2
 have D:i.length-l.length=0:=ω;refine Aia A k I y M q σ ι H F W w a next Q s z (λp hp=>?_) (λσ' ι' v w' le d u=>?_)
 .rw[D]at hp;rcases mem_append.1 hp with hp|hp
  .exact j p hp
  .simp[Ca]at hp
 .have B:Bz H (Eg (C4 n l) 0 i)=H:=Aib j;dsimp only at le d u;rw[B]at le d u;exact R σ' ι' v w' le d u
theorem Asr (s:Fm H n) {c:List AV} {f b:List Bg} (j:Hm n l c f r b=true) (x:L5 H (Eg (C4 n l) 0 f)) (h:B2 P o ρ ⟨ren (C4 n l) r,Eg (C4 n l) 0 f++Ca (C4 n l) l.length (b.length-l.length),Eg (C4 n l) 0 b⟩) (k:K ⟨ren (C4 n l) r,Eg (C4 n l) 0 f++Ca (C4 n l) l.length (b.length-l.length),Eg (C4 n l) 0 b⟩ (n+(b.length-l.length))):Kn P o ρ H n K:=by
 simp only[Hm,Ec]at j;have u:=j.1.1.1.1.1.1.1;have y:=Fu j.1.1.1.1.1.2;refine⟨_,n+(b.length-l.length),h,λp hp=>?_,k,ω,λq d=>?_⟩
 .rcases mem_append.1 hp with hp|hp
  .exact x.spec p hp
  .obtain⟨i,hi,rfl⟩:=Ah9 hp;refine s _ ?_;show n<=C4 n l (l.length+i);rw[T2 ω];omega
 .show Bz H (Eg (C4 n l) 0 b) q = .none;rw[X3 λi hi e=>?_]
  .exact s q ω
  .rcases Nat.lt_or_ge (0+i) l.length with h1|h1
   .have:=Ah4 u h1;omega
   .have:=T2 (n:=n) h1;omega
theorem Ass (z:C3 P T) (s:Fm H n) (f:o.op = .load t x) (h:sop P T an n o ρ H K):Kn P o ρ H n K:=by
 unfold sop at h;rw[f]at h;dsimp only at h;split at h
 .rename_i i B;split at h
  .rename_i cs d;cases b:i.isAgg with
   | true=>rw[b]at h;simp only[cond_true]at h;obtain⟨h1,D⟩:=Fk h;exact Df s (Ap3 z f B b d (Fu h1)) D
   | false=>
    rw[b]at h;simp only[cond_false]at h;split at h
    .exact Df s (Ap2 z f B b d) h
    .exact h.elim
  .rename_i U V d;split at h
   .rename_i E cs u;cases b:i.isAgg with
    | true=>rw[b]at h;simp only[cond_true]at h;obtain⟨h1,D⟩:=Fk h;exact L6 s (Ap4 z f B b d (Fu h1)) u D
    | false=>
     rw[b]at h;simp only[cond_false]at h;split at h
     .rename_i c I;exact L6 s (Ag0 z f B b d I) u h
     .exact h.elim
   .rename_i E Ei sz ys u;cases b:i.isAgg with| true=>rw[b]at h;exact h.elim| false=>rw[b]at h;simp only[cond_false]at h;obtain⟨xs,zs,m,X,g2,g3,h⟩:=h;subst g2;subst g3;exact Asp s (Ar1 z f B b d X) u h
   .exact h.elim
  .rename_i U k q j d;split at h
   .rename_i E sz xs u;obtain⟨y,M,R,h⟩:=h;cases b:i.isAgg with
    | true=>rw[b]at h;simp only[cond_true]at h;obtain⟨h1,D⟩:=Fk h;exact L6 s (Ap6 z f B b d M R (Fu h1)) u D
    | false=>
     rw[b]at h;simp only[cond_false]at h;split at h
     .rename_i c I;exact L6 s (Ap5 z f B b d M R I) u h
     .exact h.elim
   .exact h.elim
  .exact h.elim
 .exact h.elim
theorem Ast (u:C3 P T) (s:Fm H n) (c:o.op = .store t x y) (h:sop P T an n o ρ H K):Kn P o ρ H n K:=by
 unfold sop at h;rw[c]at h;dsimp only at h;split at h
 .rename_i i D;split at h
  .rename_i U V B;split at h
   .rename_i E cs b;obtain⟨h1,d⟩:=Fk h;simp only[Ec]at h1;exact Lg s (Ag1 u c D B (Fj h1.1.1) (Fu h1.1.2) h1.2) b (by intro e;cases e) d
   .rename_i E Ei sz ys b;split at h
    .rename_i h' k len X;obtain⟨h1,d⟩:=Fk h;obtain⟨zs,I,M,R,d⟩:=d;subst I;subst R;exact Lg s (Ar2 u c D (Fj h1) B X M) b (by intro e;cases e) d
    .exact h.elim
   .exact h.elim
  .rename_i U k q j B;split at h
   .rename_i E sz xs b;obtain⟨z,hk,A,h⟩:=h;obtain⟨h1,d⟩:=Fk h;simp only[Ec]at h1;obtain⟨⟨⟨⟨I,M⟩,R⟩,g4⟩,g5⟩:=h1;rw[Xy,Xz]at d;obtain⟨zs,f,d⟩:=d;subst f;exact Lg s (Ap9 u c D B hk A (Fj I) (Fu M) (Fu R) g4 (Aso g5)) b (by intro e;cases e) d
   .exact h.elim
  .exact h.elim
 .exact h.elim
theorem Asu (u:C3 P T) (i:Fm H n) {op:BinOp} {z:TypeId} (f:o.op = .binOp op t x y z) (h:sop P T an n o ρ H K):Kn P o ρ H n K:=by
 unfold sop at h;rw[f]at h;dsimp only at h;split at h
 .rename_i k a q b d R;split at h
  .obtain⟨c,h1,U,V⟩:=h;exact Df i (Aqj f d R h1 U) V
  .obtain⟨c,h1,U,V⟩:=h;exact Df i (Aqi f d R h1 U) V
  .replace h:=Fk h;obtain⟨X,h⟩:=h;have X:k=q:=(by simpa using X);subst X;split at h
   .obtain⟨c,h1,U⟩:=h;exact Df i (Aqb f d R h1) U
   .obtain⟨c,h1,U⟩:=h;exact Df i (Aqc f d R h1) U
   .obtain⟨c,h1,U⟩:=h;exact Df i (Aqd f d R h1) U
   .obtain⟨c,h1,U,V⟩:=h;exact Df i (Aqe f d R h1 U) V
   .obtain⟨c,h1,U,V⟩:=h;exact Df i (Aqf f d R h1 U) V
   .split at h
    .rename_i s j;exact Df i (Aqg f d R j) h
    .split at h
     .rename_i c hc;exact Df i (Aqh f d R hc) h
     .exact h.elim
 .rename_i a b d R;split at h
  .rename_i D B A ht;split at h
   .rename_i s j;exact Df i (Aqm u f ht rfl d R j) h
   .exact h.elim
  .exact h.elim
 .rename_i xs ys d R;split at h
  .rename_i us h1;split at h
   .rename_i vs U;split at h
    .obtain⟨b,hb,h⟩:=h;exact Df i (Ahg f d R h1 U hb (.inl ⟨rfl,rfl⟩)) h
    .obtain⟨b,hb,h⟩:=h;exact Df i (Ahg f d R h1 U hb (.inr ⟨rfl,rfl⟩)) h
    .exact h.elim
   .exact h.elim
  .exact h.elim
 .rename_i k a q b d R;replace h:=Fk h;obtain⟨X,h⟩:=h;have X:k=q:=(by simpa using X);subst X;obtain⟨c,h1,U⟩:=h;exact Df i (Aqt f d R h1) U
 .rename_i a b d R;split at h
  .obtain⟨h1,U⟩:=h;exact Df i (Aqp f d R h1) U
  .split at h
   .rename_i s j;exact Df i (Aqo f d R j) h
   .exact h.elim
 .rename_i p J I G E d R;split at h
  .split at h
   .rename_i O N M L ht;exact Df i (Aqn u f ht rfl d R) h
   .exact h.elim
  .exact h.elim
 .exact h.elim
theorem Asv (y:C3 P T) (u:Fm H n) {lo hi:Option Operand} (j:o.op = .slice t x lo hi none) (h:sop P T an n o ρ H K):Kn P o ρ H n K:=by
 unfold sop at h;rw[j]at h;dsimp only at h;split at h
 .rename_i e G D B R;split at h
  .rename_i I z;split at h
   .rename_i sz xs M;split at h
    .rename_i A h0 c f;replace h:=Fk h;obtain⟨U,h⟩:=h;obtain⟨l,q,ys,el,b,h1,d,X,k⟩:=h;subst el;subst b;subst X;exact Df u (Ara y j R rfl z (Fj U) M c f h1 d) k
    .exact h.elim
   .rename_i hd k a0 len M;split at h
    .rename_i E sz xs i;split at h
     .rename_i A h0 c f;replace h:=Fk h;obtain⟨U,h⟩:=h;cases h with| mk l q V el b h1 d h3 k=>subst el;subst b;exact L6 u (Arc y j R rfl z (Fj U) M V c f h1 d h3) i k| mkE l V el b d k=>subst el;subst b;exact L6 u (Arx y j R rfl z M V c f d) i k
     .exact h.elim
    .exact h.elim
   .exact h.elim
  .exact h.elim
 .rename_i G D B R;split at h
  .rename_i s M;split at h
   .rename_i A h0 c f;obtain⟨l,q,el,b,h1,d,k⟩:=h;subst el;subst b;exact Df u (Arb y j R rfl M c f h1 d) k
   .exact h.elim
  .exact h.elim
 .exact h.elim
theorem Asw (G:C3 P T) (A:Fm H n) (u:o.op = .call c) (h:sop P T an n o ρ H K):Kn P o ρ H n K:=by
 unfold sop at h;rw[u]at h;dsimp only at h;split at h
 .rename_i x i;split at h
  .rename_i f caps d;split at h
   .rename_i j ah;split at h
    .rename_i hd k len hj;split at h
     .rename_i E sz xs D;obtain⟨hk,J,r,hp,hf,h⟩:=h;subst hk;rw[<-J]at hj;exact Lg A (Ask u i d hj hp hf) D (by intro e;cases e) h
     .exact h.elim
    .exact h.elim
   .cases h with| mk r hp hf k=>exact Df A (Asi u i d hp hf) k| ext r hp hf k=>exact Df A (Asj u i d hp hf) k| act l N hs r ag hp ha ok D k=>exact Asr A ok D (Aia u i d hp ha ok) k| rd l N hs r hp ha ok D k=>exact⟨_,n,Asq u i d hp ha ok,λp hp=>D.spec p hp,k,Nat.le_refl _,A⟩
  .exact h.elim
 .exact h.elim
 .rename_i i;split at h
  .rename_i x t ha z;rw[Ro i (Rn ha) (Rn z)]at u;split at h
   .rename_i e X V U ht;split at h
    .rename_i sz xs d;split at h
     .obtain⟨c,hc,h⟩:=h;subst hc;exact Df A (Ag2 G u ht rfl d) h
     .exact Df A (Ag2 G u ht rfl d) h
    .rename_i p m a0 d;exact Df A (Aq0 G u ht rfl d) h
    .rename_i hd m d;exact Df A (Aq6 G u ht rfl d) h
    .rename_i hd k a2 len d;split at h
     .rename_i E sz xs D;obtain⟨hk,h⟩:=h;exact L6 A (Aq3 G u ht rfl d hk) D h
     .exact h.elim
    .exact h.elim
   .rename_i X V U ht;split at h
    .rename_i s d;exact Df A (Aq2 G u ht rfl d) h
    .exact h.elim
   .exact h.elim
  .exact h.elim
 .rename_i i;split at h
  .rename_i x t ha z;rw[Ro i (Rn ha) (Rn z)]at u;split at h
   .rename_i e X V U ht;split at h
    .rename_i p m a0 d;exact Df A (Aq1 G u ht rfl d) h
    .exact h.elim
   .exact h.elim
  .exact h.elim
 .rename_i i;split at h
  .rename_i x t ha z;rw[Ro i (Rn ha) (Rn z)]at u;split at h
   .rename_i e X V U ht;split at h
    .rename_i Z L;split at h
     .rename_i hd k a2 len d;split at h
      .rename_i E sz xs D;replace h:=Fk h;obtain⟨g5,h⟩:=h;simp only[Ec]at g5;have R:=Fj g5.1.1.1.1.1;have O:=Fj g5.1.1.1.1.2;have e3:0<Z.size:=Fu g5.1.1.1.2;subst R;subst O;obtain⟨zs,hk,J,I,k⟩:=h;subst I;exact Lg A (Ary G u ht rfl L e3 g5.1.1.2 (Abv g5.1.2 g5.2 g5.1.1.2) d hk J) D (by intro e;cases e) k
      .exact h.elim
     .rename_i q d;exact Df A (Arz G u ht rfl d) h
     .exact h.elim
    .exact h.elim
   .exact h.elim
  .exact h.elim
 .rename_i i;split at h
  .rename_i x y t t' ha z;rw[Ro i (Rm ha) (Rm z)]at u;split at h
   .rename_i e X V U e' a7 a6 a1 ht B;split at h
    .rename_i Z L;replace h:=Fk h;obtain⟨g,h⟩:=h;simp only[Ec]at g;obtain⟨⟨g1,g2⟩,g3⟩:=g;have g1:0<Z.size:=Fu g1;have g2:=Fj g2;have g3:=Fu g3;split at h
     .rename_i sz ys hy;replace h:=Fk h;obtain⟨g4,h⟩:=h;have g4:=Fj g4;subst g4;split at h
      .rename_i hd k len d;split at h
       .rename_i E S xs D;replace h:=Fk h;obtain⟨g5,h⟩:=h;simp only[Ec]at g5;have R:=Fj g5.1;have O:=Fj g5.2;subst R;subst O;split at h
        .cases h with| mk zs m hk J hb I hm k=>subst J;subst I;exact Lg A (Aru (Ag9 G u ht rfl B rfl L g1 g2 g3 d hk hy hb) (by simp[hk])) D (by intro e;cases e) k| mkP zs Y m hk J hb I M hm k=>exact k.elim
        cases h with| mk zs m hk J hb I hm k=>subst J;subst I;subst hm;exact Lg A (Ag9 G u ht rfl B rfl L g1 g2 g3 d hk hy hb) D (by intro e;cases e) k| mkP zs Y m hk J hb I M hm k=>subst I;subst hm;subst M;exact Lg A (Ars G u ht rfl B rfl L g1 g2 g3 d hk J hy hb) D (by intro e;cases e) k
       .exact h.elim
      .rename_i d;obtain⟨zs,m,hb,I,hm,k⟩:=h;subst I;subst hm;exact L7 A (Arn G n u ht rfl B rfl L g1 g2 g3 d hy hb) k
      .rename_i af ae d;obtain⟨a8,k⟩:=h;subst a8;exact Df A (Arv G u ht rfl B rfl L g1 d hy) k
      .exact h.elim
     .rename_i h2 k2 ac ad hy;split at h
      .rename_i hd k len d;split at h
       .rename_i E S xs D;replace h:=Fk h;obtain⟨g5,h⟩:=h;simp only[Ec]at g5;have R:=Fj g5.1.1;have O:=Fj g5.1.2;have e3:=Fj g5.2;subst R;subst O;subst e3;obtain⟨zs,Y,m,hk,J,ab,aa,hb,I,M,hm,k⟩:=h;subst I;subst hm;subst M;exact Lg A (Arw G u ht rfl B rfl L g1 g2 g3 d hk J hy ab aa hb) D (by intro e;cases e) k
       .exact h.elim
      .exact h.elim
     .exact h.elim
    .exact h.elim
   .rename_i e X V U a7 a6 a1 ht B;split at h
    .rename_i Z L;replace h:=Fk h;obtain⟨g,h⟩:=h;simp only[Ec]at g;obtain⟨⟨g1,g2⟩,g3⟩:=g;have g1:=Fj g1;have g2:=Fj g2;have g3:=Fu g3;split at h
     .rename_i s hy;split at h
      .rename_i hd k len d;split at h
       .rename_i E S xs D;replace h:=Fk h;obtain⟨g5,h⟩:=h;simp only[Ec]at g5;have R:=Fj g5.1;have O:=Fj g5.2;subst R;subst O;obtain⟨_,_,_,_,_,_,_,_,_,k⟩|⟨zs,m,hk,J,hb,I,hm,k⟩:=h
        .exact k.elim
        subst J;subst I;subst hm;exact Lg A (Arm G u ht rfl B rfl L g1 g2 g3 d hk hy hb) D (by intro e;cases e) k
       .exact h.elim
      .exact h.elim
     .exact h.elim
    .exact h.elim
   .exact h.elim
  .exact h.elim
 .rename_i i;split at h
  .rename_i x y t t' ha z;rw[Ro i (Rm ha) (Rm z)]at u;split at h
   .rename_i k a Y b d hy;exact Df A (Arp u d hy) h
   .exact h.elim
  .exact h.elim
 .rename_i i;split at h
  .rename_i x y t t' ha z;rw[Ro i (Rm ha) (Rm z)]at u;split at h
   .rename_i k a Y b d hy;exact Df A (Arq u d hy) h
   .exact h.elim
  .exact h.elim
 .exact h.elim
theorem Asx (B:C3 P T) (A:Fm H n) (h:sop P T an n o ρ H K):Kn P o ρ H n K:=by
 cases u:o.op with
 | load t x=>exact Ass B A u h
 | store t x y=>exact Ast B A u h
 | binOp op t x y yt=>exact Asu B A u h
 | call c=>exact Asw B A u h
 | slice t x lo hi mx=>cases mx with| none=>exact Asv B A u h| some m=>unfold sop at h;rw[u]at h;exact h.elim
 | move x=>unfold sop at h;rw[u]at h;exact Df A (Apz u) h
 | assign x=>
  unfold sop at h;rw[u]at h;dsimp only at h;split at h
  .exact Df A (Pe u) h
  .split at h
   .exact Df A (Pe u) h
   .exact Df A (Pe u) h
   .exact Df A (Pe u) h
   .exact Df A (Pe u) h
   .exact Df A (Pe u) h
   .cases hb:Jd (ρ x) with
    | false=>rw[hb]at h;exact Df A (Pe u) h
    | true=>
     rw[hb]at h;simp only[cond_true]at h;split at h
     .rename_i e I G J ht;split at h
      .rename_i V D;replace h:=Fk h;obtain⟨g1,h⟩:=h;exact L7 A (Aro B n u (Rl hb) ht rfl D (Fu g1)) h
      .exact h.elim
     .exact h.elim
 | pick c a b=>
  unfold sop at h;rw[u]at h;dsimp only at h;split at h
  .rename_i t hc;exact Df A (Ap0 u hc) h
  .exact h.elim
 | alloc t=>
  unfold sop at h;rw[u]at h;dsimp only at h;split at h
  .rename_i i ht;exact L7 A (Agz B n u ht) h
  .exact h.elim
 | box t x=>unfold sop at h;rw[u]at h;exact L7 A (Ap1 n u) h
 | build t parts=>
  unfold sop at h;rw[u]at h;dsimp only at h;split at h
  .rename_i fs I G z ht;split at h
   .rename_i cs hc;exact Df A (Ard B u ht rfl hc) h
   .exact h.elim
  .exact h.elim
 | buildSlice t len parts=>
  unfold sop at h;rw[u]at h;dsimp only at h;split at h
  .rename_i e I G J ht;split at h
   .rename_i V D;replace h:=Fk h;obtain⟨g,h⟩:=h;simp only[Ec]at g;obtain⟨⟨⟨g1,g2⟩,g3⟩,g4⟩:=g;have g2:parts.toList.map (·.1)=range' 0 len:=(by simpa using g2);have g4:∀p∈parts.toList,Jy V.size (ρ p.2)=true:=Dh.1 g4;split at h
    .exact h.elim
    .exact h.elim
    .exact h.elim
    .rw[X0]at h;exact Df A (Ag6 B u ht rfl D (Fu g1) g2 (Fu g3) g4) h
    .rw[X0]at h;exact Df A (Ag6 B u ht rfl D (Fu g1) g2 (Fu g3) g4) h
    .rw[X0]at h;exact L7 A (Arf B n u ht rfl D (Fu g1) g2 (Fu g3) g4) h
   .exact h.elim
  .exact h.elim
 | nilCheck x=>unfold sop at h;rw[u]at h;dsimp only at h;replace h:=Fk h;obtain⟨g1,h⟩:=h;exact Df A (Aqa u g1) h
 | unOp op t x=>
  unfold sop at h;rw[u]at h;dsimp only at h;split at h
  .rename_i b hx;exact Df A (Aqq u hx) h
  .rename_i k m hx;obtain⟨c,h1,h2⟩:=h;exact Df A (Aqr u hx h1) h2
  .exact h.elim
 | convert s d x=>
  unfold sop at h;rw[u]at h;dsimp only at h;split at h
  .rename_i i k I G J L m hs hd hx;obtain⟨c,h1,h2⟩:=h;exact Df A (Aqs B u hs hd rfl hx h1) h2
  .rename_i v0 k0 I G J k1 m h1 h2 hx;exact Df A (Aqu B u h1 h2 rfl hx) h
  .rename_i v0 k0 I G J q m h1 h2 hx;obtain⟨c,g1,g2⟩:=h;exact Df A (Aqv B u h1 h2 rfl hx g1) g2
  .exact h.elim
 | makeFunc fn first caps=>
  cases fn with
  | func f=>
   unfold sop at h;rw[u]at h;dsimp only at h;replace h:=Fk h;obtain⟨g1,h⟩:=h;have:first = #[]:=by simpa using g1
   subst this;exact Df A (Aq9 u) h
  | _=>unfold sop at h;rw[u]at h;exact h.elim
 | makeSlice t x y=>
  unfold sop at h;rw[u]at h;dsimp only at h;split at h
  .rename_i e I G J ht;split at h
   .rename_i V D;split at h
    .rename_i k l L c hx hy;split at h
     .rename_i m hm;split at h
      .rename_i v Y;replace h:=Fk h;obtain⟨g,h⟩:=h;simp only[Ec]at g;obtain⟨⟨⟨⟨g1,g2⟩,g3⟩,g4⟩,g5⟩:=g;have g4:=of_decide_eq_true g4;have g5:=of_decide_eq_true g5;subst g4;subst g5;exact L7 A (Arg B n u ht rfl D (Fj g1) Y hx hy (Fu g3) (Fu g2)) h
      .exact h.elim
     .rename_i hm;split at h
      .rename_i ei a6;split at h
       .rename_i v Y;split at h
        .rename_i X a1;replace h:=Fk h;obtain⟨g,h⟩:=h;simp only[Ec]at g;obtain⟨m,zs,el,U,g3,g4,g5,k⟩:=h;subst el;subst U;subst g5;have R:=Rl g.1.2;simp only[AV.val.injEq]at R;subst R;exact L7 A (Ar0 B n u ht rfl D (Fj g.1.1) Y hx hy g4 g3 (Fu g.2)) k
        .exact h.elim
       .exact h.elim
      .exact h.elim
     replace h:=Fk h;obtain⟨g,h⟩:=h;simp only[Ec]at g;obtain⟨⟨⟨g1,g2⟩,g3⟩,g4⟩:=g;rcases h with⟨l',c',zs,el,U,h1,h2,h3,O,k⟩|⟨z',Z,l',c',zs,el,U,h1,h2,h3,O,k⟩
     .subst el;subst U;subst O;exact L7 A (Arh B n u ht rfl D (Fu g1) hx hy h1 h2 h3 g2 (Abv g3 g4 g2)) k
     .subst el;subst U;subst O;exact L7 A (Ari B z' n u ht rfl D (Fu g1) hx hy h1 h2 h3 g2 (Abv g3 g4 g2) Z) k
    .exact h.elim
   .exact h.elim
  .exact h.elim
 | fieldAddr s x f=>
  unfold sop at h;rw[u]at h;dsimp only at h;split at h
  .rename_i fs I G J ht;split at h
   .rename_i q hf;split at h
    .rename_i hd a0 hx;exact Df A (Aqx B u ht rfl hf hx) h
    .rename_i cs hx;exact Df A (Aqy B u ht rfl hf hx) h
    .rename_i hd k m j hx;split at h
     .rename_i E sz xs N;obtain⟨hk,h⟩:=h;exact L6 A (Aqz B u ht rfl hf hx hk) N h
     .exact h.elim
    .exact h.elim
   .exact h.elim
  .exact h.elim
 | indexAddr t x y=>
  unfold sop at h;rw[u]at h;dsimp only at h;split at h
  .rename_i e I G J ht;split at h
   .rename_i V D;split at h
    .rename_i hd m k i hx hy;replace h:=Fk h;obtain⟨g1,h⟩:=h;obtain⟨q,hi,hq,L⟩:=h;subst hi;exact Df A (Aq5 B u ht rfl D (Fj g1) hx hy hq) L
    .rename_i sz xs k i hx hy;replace h:=Fk h;obtain⟨g1,h⟩:=h;obtain⟨m,z,hi,O,L⟩:=h;subst hi;exact Df A (Aq4 B u ht rfl D (Fj g1) hx hy O) L
    .rename_i hd k a0 len kk i hx hy;split at h
     .rename_i E sz xs N;replace h:=Fk h;obtain⟨g1,h⟩:=h;obtain⟨m,hk,hi,hm,L⟩:=h;subst hi;exact L6 A (Aq7 B u ht rfl D hx hk hy hm (Fj g1)) N L
     .exact h.elim
    .exact h.elim
   .exact h.elim
  .exact h.elim
 | index t x y=>
  unfold sop at h;rw[u]at h;dsimp only at h;split at h
  .rename_i I G J ht;split at h
   .rename_i s k i hx hy;obtain⟨m,c,hi,hc,L⟩:=h;subst hi;exact Df A (Aq8 B u ht rfl hx hy hc) L
   .exact h.elim
  .exact h.elim
 | field t x f=>
  unfold sop at h;rw[u]at h;dsimp only at h;split at h
  .rename_i fs I G J ht;split at h
   .rename_i q hq;split at h
    .rename_i cs hx;obtain⟨ft,hf,h⟩:=h;split at h
     .rename_i X D;cases M:X.isAgg with
      | true=>rw[M]at h;simp only[cond_true]at h;obtain⟨h1,h2⟩:=Fk h;exact Df A (Ahh B u ht rfl hq hf D hx (.inl ⟨M,Fu h1,rfl⟩)) h2
      | false=>
       rw[M]at h;simp only[cond_false]at h;split at h
       .rename_i c hc;exact Df A (Ahh B u ht rfl hq hf D hx (.inr ⟨M,hc⟩)) h
       .exact h.elim
     .exact h.elim
    .exact h.elim
   .exact h.elim
  .exact h.elim
 | makeMap t r=>cases r with| none=>unfold sop at h;rw[u]at h;exact L7 A (Ar3 n u) h| some q=>unfold sop at h;rw[u]at h;exact h.elim
 | lookup t x y ok=>
  unfold sop at h;rw[u]at h;dsimp only at h;split at h
  .rename_i kt et I G J ht;split at h
   .rename_i q1 q2 q3 hk;split at h
    .rename_i X D;split at h
     .rename_i hd hx;split at h
      .rename_i s hy;split at h
       .rename_i es N;obtain⟨r,S,h⟩:=h;exact L6 A (Ar4 B u ht rfl hk rfl D hx hy S) N h
       .exact h.elim
      .exact h.elim
     .rename_i es hx;split at h
      .rename_i s hy;obtain⟨r,S,h⟩:=h;exact Df A (Ar5 B u ht rfl hk rfl D hx hy S) h
      .exact h.elim
     .exact h.elim
    .exact h.elim
   .exact h.elim
  .exact h.elim
 | mapUpdate t x y z=>
  unfold sop at h;rw[u]at h;dsimp only at h;split at h
  .rename_i kt et I G J ht;split at h
   .rename_i q1 q2 q3 hk;split at h
    .rename_i hd hx;split at h
     .rename_i s hy;split at h
      .rename_i es N;obtain⟨g1,h⟩:=Fk h;rw[Xz]at h;obtain⟨a7,S,h⟩:=h;exact Lg A (Ar6 B u ht rfl hk rfl hx hy g1 S) N (by intro e;cases e) h
      .exact h.elim
     .exact h.elim
    .exact h.elim
   .exact h.elim
  .exact h.elim
 | extract x i=>
  unfold sop at h;rw[u]at h;dsimp only at h;split at h
  .rename_i cs hx;split at h
   .rename_i c hc;exact Df A (Aqw u hx hc) h
   .exact h.elim
  .exact h.elim
 | _=>unfold sop at h;rw[u]at h;exact h.elim
end
variable {x:AV} {σ:Aw} {t:Bool} {ι:Bq} {H:Hp} {l:List (Nat×Nat)} {sz:Nat} {A:Prop} {v:Value}
theorem F0 {B:Prop} (h:t=true) (k:A):bif t then A else B:=by rw[h];exact k
theorem Abw {B:Prop} (h:t=false) (k:B):bif t then A else B:=by rw[h];exact k
abbrev Je:=List (List Nat×List Nat)
def Ko (l:List (Nat×Nat)):Nat->List AV->List AV
 | _,[]=>[]
 | i,x::xs=>(bif Jd x then (match l.lookup i with|some sz=>.sl sz [] | none=>x) else x)::Ko l (i+1) xs
def elN (l:List (Nat×Nat)) (x:AV):AV := match x with
 | .val (.agg d)=>.agg (Ko l 1000 (d.toList.map .val))
 | .agg cs=>.agg (Ko l 1000 cs)
 | x=>bif Jd x then (match l.lookup 1998 with|some sz=>.sl sz [] | none=>x) else x
def T5 (l:List (Nat×Nat)) (x:AV):AV := match l with
 | []=>x
 | p::l=> match x with
  | .sl sz xs=>bif Nat.ble 1000 p.1 then .sl sz (xs.map (elN (p::l))) else .sl sz xs
  | .agg cs=>.agg (Ko (p::l) 0 cs)
  | x=>bif Jd x then .sl p.2 [] else x
def Abx (nl:Nat->List (Nat×Nat)):Option Nat->List (Nat×Nat)
 | none=>[]
 | some d=>nl d
theorem X4 (d:Jd x=true) (h:Conc σ ι H x v):Conc σ ι H (.sl sz []) v:=by rw[Rl d]at h;rw[h.val_inv];exact .cc (.nil sz none 0)
theorem Aby {l:List (Nat×Nat)}:∀{cs:List AV} {i k:Nat} {c:AV},(Ko l k cs)[i]? = some c->∃d,cs[i]? = some d/\(c=d\/(Jd d=true/\∃sz,c = .sl sz []))
 | [],i,k,c,h=>by simp[Ko]at h
 | x::xs,0,k,c,h=>by
  simp only[Ko,getElem?_cons_zero,Option.some.injEq]at h;refine⟨x,rfl,?_⟩;cases u:Jd x with
  | false=>rw[u]at h;exact .inl h.symm
  | true=>
   rw[u]at h;simp only[cond_true]at h;split at h
   .rename_i sz _;exact .inr ⟨rfl,sz,h.symm⟩
   .exact .inl h.symm
 | x::xs,i+1,k,c,h=>by simp only[Ko,getElem?_cons_succ]at h;obtain⟨d,h1,B⟩:=Aby h;exact⟨d,by simpa using h1,B⟩
theorem Abz {l:List (Nat×Nat)}:∀{cs:List AV} {k:Nat},(Ko l k cs).length=cs.length
 | [],_=>rfl
 | x::xs,k=>by simp only[Ko,length_cons,Abz]
theorem Asy:(elN l x).cells.length=x.cells.length/\∀(j:Nat) (c b:AV) (u:Value),x.cells[j]? = some c->(elN l x).cells[j]? = some b->CC σ c u->CC σ b u:=by
 have D:∀cs:List AV,(Ko l 1000 cs).length=cs.length/\∀(j:Nat) (c b:AV) (u:Value),cs[j]? = some c->(Ko l 1000 cs)[j]? = some b->CC σ c u->CC σ b u:=by
  intro cs;refine⟨Abz,λj c b u h1 B d=>?_⟩;obtain⟨U,I,rfl|⟨M,sz,rfl⟩⟩:=Aby B
  .rw[h1]at I;cases I;exact d
  .rw[h1]at I;cases I;rw[Rl M]at d;cases d;exact .nil sz none 0
 unfold elN;split
 .exact D _
 .exact D _
 .have same:x.cells.length=x.cells.length/\∀(j:Nat) (c b:AV) (u:Value),x.cells[j]? = some c->x.cells[j]? = some b->CC σ c u->CC σ b u:=⟨rfl,λj c b u h1 B d=>by rw[h1]at B;cases B;exact d⟩;cases R:Jd x with
  | false=>exact same
  | true=>
   cases l.lookup 1998 with
   | none=>exact same
   | some sz=>rw[Rl R];refine⟨rfl,λj c b u h1 B d=>?_⟩;cases j with| zero=>cases h1;cases B;cases d;exact .nil sz none 0| succ j=>simp[AV.cells]at h1
theorem CC.mapEl {xs:List AV} (f:AV->AV) (hf:∀x,(f x).cells.length=x.cells.length/\∀(j:Nat) (c k:AV) (u:Value),x.cells[j]? = some c->(f x).cells[j]? = some k->CC σ c u->CC σ k u) (h:CC σ (.sl sz xs) v):CC σ (.sl sz (xs.map f)) v:=by
 cases h with
 | nil sz a cap=>exact .nil sz a cap
 | sl _ b off cap _ C E fr g D G hc h1 J I z=>
  have s:(xs.map f).length=xs.length:=ψ;have q:∀(i:Nat) (y:AV) (j:Nat) (k:AV),(xs.map f)[i]? = some y->y.cells[j]? = some k->∃x c,xs[i]? = some x/\x.cells[j]? = some c/\y=f x:=(by intro i y j k d M;rw[getElem?_map]at d;cases hx:xs[i]? with| none=>rw[hx]at d;cases d| some x=>rw[hx]at d;cases d;have R:j<x.cells.length:=(by rw[<-(hf x).1];exact (Eo.1 M).1);exact⟨x,x.cells[j],rfl,getElem?_eq_getElem R,rfl⟩);rw[<-s];refine .sl (xs.map f) b off cap sz C E fr g D ?_ ?_ ?_ (λi j hi R=>J i j (by simpa using hi) R) (by simpa using I) (by simpa using z)
  .intro i y hy;rw[getElem?_map]at hy;cases hx:xs[i]? with| none=>rw[hx]at hy;cases hy| some x=>rw[hx]at hy;cases hy;rw[(hf x).1];exact G i x hx
  .intro i y j k d M;obtain⟨x,c,B,A,rfl⟩:=q i y j k d M;exact (hf x).2 j c k _ A M (hc i x j c B A)
  .intro i y j k d M;obtain⟨x,c,B,A,rfl⟩:=q i y j k d M;exact h1 i x j c B A
theorem Asz (h:Conc σ ι H x v):Conc σ ι H (T5 l x) v:=by
 unfold T5;split
 .exact h
 .split
  .rename_i _ p l _ sz xs;cases M:Nat.ble 1000 p.1 with| false=>exact h| true=>exact .cc (h.sl_inv.mapEl _ λx=>Asy)
  .rename_i cs;obtain⟨D,rfl,f,b⟩:=h.agg_inv;refine .agg _ D (by rw[Abz];exact f) λi c u h1 d=>?_;obtain⟨R,B,rfl|⟨j,sz,rfl⟩⟩:=Aby h1
   .exact b i _ u B d
   .exact X4 j (b i _ u B d)
  .cases I:Jd x with| false=>exact h| true=>exact X4 I h
theorem B2.nils {P:Program} {o:Oper} {ρ:Operand->AV} {b:Eff} (l:List (Nat×Nat)) (h:B2 P o ρ b):B2 P o ρ ⟨T5 l b.r,b.rd,b.wr⟩ := λσ ι H F W w a next Q s hx c hk=>h σ ι H F W w a next Q s hx c λσ' ι' v w' le d hc=>hk σ' ι' v w' le d (Asz hc)
def Ab0 (e:Bs) (d:Option Nat) (r:AV) (H:Hp) (b:List (Nat×Bg)) (K:Bs->Hp->Prop):Prop :=
 match d with
 | none=>
  (match b with
  | []=>K e H
  | [p]=>K e (Aj H p.1 p.2)
  | p::q::l=>K e (Bz H (p::q::l)))
 | some t=>
  (match b with
  | []=>K (Aj e t r) H
  | [p]=>K (Aj e t r) (Aj H p.1 p.2)
  | p::q::l=>K (Aj e t r) (Bz H (p::q::l)))
theorem Aic (e:Bs) (d:Option Nat) (r:AV) (H:Hp) (b:List (Nat×Bg)) (K:Bs->Hp->Prop):Ab0 e d r H b K=K (put e d r) (Bz H b):=by cases d <;> cases b with| nil=>rfl| cons p l=>cases l <;> rfl
inductive L8 (ops:List Oper) (acc:Je) (K:Prop):Prop where
 | mk (h:Abi ops acc=true) (k:K)
inductive Ex where
 | normal
 | exit (id:Nat)
 | ret
def Fo (e:Bs):List (Nat×AV)->Prop
 | []=>True
 | p::l=>e p.1=p.2/\Fo e l
def Fv (H H':Hp):Nat->Nat->Prop
 | 0,_=>True
 | k+1,n=>(H k=H' k/\(H' k).under n=true)/\Fv H H' k n
def Ic (b:List Nat) (e:Bs) (u:Nat->Value) (l:List (Nat×AV)):Bs:=l.foldr (λp e=>Aj e p.1 p.2) (b.foldr (λs e=>Aj e s (.val (u s))) e)
def Im (n:Nat) (b:List (Nat×AV)) (c:List (Nat×Bg)):Bool:=(b.all λp=>p.2.under n)&&c.all λp=>Nat.blt p.1 n
def F1:Code->List Nat
 | .region _ ops _=>ops.toList.filterMap (·.dst)
 | .seq a b=>F1 a++F1 b
 | .cond _ a b=>F1 a++F1 b
 | .block _ b=>F1 b
 | .loop b=>F1 b
 | .scope b=>F1 b
 | _=>[]
structure Cfg where
 T:Cw
 an:Nat->Ann:=λ_=>.std
 gh:Nat->List Nat:=λ_=>[]
 nl:Nat->List (Nat×Nat):=λ_=>[]
def Aid (N:Nat) (x:Operand):Bool := match x with
 | .tmp t=>Nat.blt t N
 | _=>true
def Kp (N:Nat):Code->Bool
 | .region _ ops _=>ops.toList.all λo=>(J1 ops o).all λs=>Nat.blt s N
 | .seq a b=>Kp N a&&Kp N b
 | .cond c a b=>Aid N c&&Kp N a&&Kp N b
 | .block _ b=>Kp N b
 | .loop b=>Kp N b
 | .scope b=>Kp N b
 | _=>true
def Ex.out:Ex->Exit
 | .normal=>.normal
 | .exit id=>.exit id
 | .ret=>.ret
section
variable {P:Program} {T:Cw} {an:Nat->Ann} {nl:Nat->List (Nat×Nat)} {ops:Array Oper} {F:Aw} {W:World} {Q:Exit->Act->World->Prop}
theorem Aie {α:Type} {e:Nat->α} {s:Nat} {v:α} (h:e s=v):Aj e s v=e:=by subst h;exact Hk e s
end
section
variable {P:Program} {C:Cfg} {F:Aw} {W:World}
variable {x:AV} {n:Nat}
theorem Aif {c:Code} {Q:Exit->Act->World->Prop} {a:Act} {w:World} (J:Nat->Act->World->Prop) (E:Nat) (h0:J E a w) (i:∀k a w,J k a w->c.wp P (Exit.then (λu w'=>∃y,y<k/\J y u w') Q) a w):(Code.loop c).wp P Q a w:=by
 intro b z cs;have R:∀k a w,J k a w->∃e u w',Q e u w'/\Arrives P (lone (b.at a (.code c :: .inLoop c::z)) cs w) b z cs e u w':=by
  intro k;induction k using Nat.strongRecOn with
  | _ k ih=>intro a w I;obtain⟨e,s,q,d,f⟩:=i k a w I b (.inLoop c::z) cs;cases e with| normal=>obtain⟨y,B,D⟩:=d;obtain⟨L,M,G,A,j⟩:=ih y B s q D;exact⟨L,M,G,A,.of_steps (Steps.trans f (.one step_inLoop)) j⟩| exit id=>exact⟨_,s,q,d,.pass (x:=.inLoop c) rfl (λ_ _=>.inl ψ) f⟩| goto l=>exact⟨_,s,q,d,.pass (x:=.inLoop c) rfl (λ_ _=>.inl ψ) f⟩| ret=>exact⟨_,s,q,d,.pass (x:=.inLoop c) rfl (λ_ _=>.inl ψ) f⟩| panic N=>exact⟨_,s,q,d,.pass (x:=.inLoop c) rfl (λ_ _=>.inl ψ) f⟩| outgrown=>exact⟨_,s,q,d,.pass (x:=.inLoop c) rfl (λ_ _=>.inl ψ) f⟩
 obtain⟨e,u,w',d,f⟩:=R E a w h0;exact⟨e,u,w',d,.of_steps (.one step_loop) f⟩
theorem As0 (h:x.under2 n=true) (d:∀cs,x≠.agg cs):x.under1 n=true:=by cases x <;> first|exact h|exact (d _ rfl).elim
theorem Conc.restrict {σ:Aw} {ι ι':Bq} {H H':Hp} (D:∀h,h<n->ι' h=ι h) (I:∀h,h<n->H' h=H h) {v:Value} (hx:x.under n=true) (h:Conc σ ι H x v):Conc σ ι' H' x v:=by
 have y:∀{x:AV} {v:Value},x.under0 n=true->Conc σ ι H x v->Conc σ ι' H' x v:=by intro x v hx h;cases h with| cc h=>exact .cc h| loc h off b hb=>exact .loc h off b (by rw[D h (Gt hx)];exact hb)| mp h b hb=>exact .mp h b (by rw[D h (Gt hx)];exact hb)| vec h n b hb=>exact .vec h n b (by rw[D h (Gt hx)];exact hb)| arr h k off len v J G A=>have z:=Gt hx;exact .arr h k off len v (by rw[I h z];exact J) (by rw[D h z,I h z];exact G) A| el h k i j v J G A=>have z:=Gt hx;exact .el h k i j v (by rw[I h z];exact J) (by rw[D h z,I h z];exact G) A| ref cs b off C E fr g N hc h1 O=>exact .ref cs b off C E fr g N hc h1 O| agg=>cases hx| tup=>cases hx| fn=>cases hx
 have key:∀{x:AV} {v:Value},x.under1 n=true->Conc σ ι H x v->Conc σ ι' H' x v:=by intro x v hx h;cases x with| fn f cs=>obtain⟨vs,rfl,B,h⟩:=h.fn_inv;exact .fn f cs vs B λi c u h1 h2=>y (Dh.1 hx c (Dz h1)) (h i c u h1 h2)| agg cs=>cases hx| tup cs=>cases hx| val u=>exact y (x:=(.val u)) hx h| loc q off=>exact y (x:=(.loc q off)) hx h| arr q k off len=>exact y (x:=(.arr q k off len)) hx h| el q k i j=>exact y (x:=(.el q k i j)) hx h| mp q=>exact y (x:=(.mp q)) hx h| vec q m=>exact y (x:=(.vec q m)) hx h| ref cs=>exact y (x:=(.ref cs)) hx h| sl sz xs=>exact y (x:=(.sl sz xs)) hx h| fb s=>exact y (x:=(.fb s)) hx h| fm s=>exact y (x:=(.fm s)) hx h
 have cells:∀{cs:List AV},cs.all (AV.under1 n)=true->∀(i:Nat) (c:AV) (u:Value),cs[i]? = some c->Conc σ ι H c u->Conc σ ι' H' c u :=
  λM i c u hc h=>key (Dh.1 M c (Dz hc)) h
 cases x with
 | agg cs=>cases h with| cc h=>exact .cc h| agg _ vs B h=>exact .agg cs vs B λi c u h1 h2=>cells hx i c u h1 (h i c u h1 h2)
 | tup cs=>
  cases h with
  | cc h=>exact .cc h
  | tup _ vs B h=>refine .tup cs vs B λi c u h1 h2=>?_;have hf:=Dh.1 hx c (Dz h1);have hc:=h i c u h1 h2;cases c with| agg ds=>obtain⟨us,rfl,L,G⟩:=hc.agg_inv;exact .agg ds us L λj d v R U=>cells hf j d v R (G j d v R U)| _=>exact key (As0 hf (by intro cs e;cases e)) hc
 | fn f cs=>cases h with| cc h=>exact .cc h| fn _ _ vs B h=>exact .fn f cs vs B λi c u h1 h2=>cells hx i c u h1 (h i c u h1 h2)
 | val v=>exact key rfl h
 | loc h off=>exact key hx h
 | arr h k off len=>exact key hx h
 | el h k i j=>exact key hx h
 | mp h=>exact key hx h
 | vec h n=>exact key hx h
 | ref cs=>exact key rfl h
 | sl sz xs=>exact key rfl h
 | fb s=>exact key rfl h
 | fm s=>exact key rfl h
theorem Fv.spec {H H':Hp} {n:Nat}:∀{k:Nat},Fv H H' k n->∀h,h<k->H h=H' h/\(H' h).under n=true
 | 0,_,h,b=>ω
 | k+1,c,h,b=>by
  by_cases e:h=k
  .subst e;exact c.1
  .exact Fv.spec c.2 h ω
theorem Fo.spec {e:Bs}:∀{l:List (Nat×AV)},Fo e l->∀p∈l,e p.1=p.2
 | [],_,p,hp=>by cases hp
 | q::l,h,p,hp=>by
  rcases mem_cons.1 hp with rfl|hp
  .exact h.1
  .exact Fo.spec h.2 p hp
theorem Ab1 (c:List Nat) (e:Bs) (u:Nat->Value) (l:List (Nat×AV)) (s:Nat):(∃p∈l,p.1=s/\Ic c e u l s=p.2)\/(s∈c/\Ic c e u l s = .val (u s))\/(s ∉ c/\Ic c e u l s=e s):=by
 have d:(s∈c/\(c.foldr (λs e=>Aj e s (.val (u s))) e) s = .val (u s))\/(s ∉ c/\(c.foldr (λs e=>Aj e s (.val (u s))) e) s=e s):=by
  induction c with
  | nil=>exact .inr ⟨ψ,rfl⟩
  | cons t c ih=>
   simp only[foldr_cons];by_cases b:s=t
   .subst b;exact .inl ⟨ψ,Ba _ _ _⟩
   .rw[Be _ _ b];rcases ih with⟨h1,B⟩|⟨h1,B⟩
    .exact .inl ⟨by simp[h1],B⟩
    .exact .inr ⟨by simp[h1,b],B⟩
 unfold Ic;induction l with
 | nil=>exact .inr d
 | cons p l ih=>
  simp only[foldr_cons];by_cases b:s=p.1
  .exact .inl ⟨p,ψ,b.symm,by rw[b];exact Ba _ _ _⟩
  .rw[Be _ _ b];rcases ih with⟨q,D,h1,B⟩|h|h
   .exact .inl ⟨q,by simp[D],h1,B⟩
   .exact .inr (.inl h)
   .exact .inr (.inr h)
theorem Aig {N:Nat} {ops:Array Oper} (h:(ops.toList.all λo=>(J1 ops o).all λs=>Nat.blt s N)=true):Ty ops N:=by intro i o c s b;rw[Dh]at h;have:=h o (by simpa using Array.mem_of_getElem? c);rw[Dh]at this;exact Gt (this s b)
end
def X5 (T:Cw) (e:Bs) (H:Hp):ResultVar->Option AV
 | .tmp t=>some (e t)
 | .cell a t=> match e a with
  | .loc h d=> match H h with
   | .cells _ cs=> match T t with
    | some i=>bif i.isAgg then (bif Nat.ble (d+i.size) cs.length then some (.agg ((cs.drop d).take i.size)) else none) else cs[d]?
    | none=>none
   | _=>none
  | _=>none
def X6 (x:AV) (H:Hp) (K:AV->Hp->Prop):Prop := match x with
 | .arr h k 0 len=> match H h with
  | .rows _ sz xs=>Hg k xs (Hg len xs (K (.sl sz xs) (Aj H h .dead)))
  | _=>False
 | x=>K x H
def X7:List AV->Hp->(List AV->Hp->Prop)->Prop
 | [],H,K=>K [] H
 | x::xs,H,K=>X6 x H λy H=>X7 xs H λys H=>K (y::ys) H
def fin (x:AV) (H:Hp) (K:AV->Hp->Prop):Prop := match x with
 | .agg cs=>X7 cs H λcs H=>K (.agg cs) H
 | x=>X6 x H K
def X8:List AV->Hp->(List AV->Prop)->Prop
 | [],_,K=>K []
 | x::xs,H,K=>fin x H λy H=>X8 xs H λys=>K (y::ys)
def Rp (T:Cw) (e:Bs) (H:Hp):List ResultVar->Option (List AV)
 | []=>some []
 | r::d=> match X5 T e H r with
  | none=>none
  | some x=> match Rp T e H d with
   | none=>none
   | some xs=>some (x::xs)
def T6:List AV->AV
 | [x]=>x
 | xs=>.tup xs
def Pm (T:Cw) (b:List ResultVar) (K:AV->Prop) (e:Bs) (H:Hp):Prop := match Rp T e H b with
 | none=>False
 | some xs=>X8 xs H λys=>K (T6 ys)
def Rq (args:List AV):Bs:=λn=>args.getD n (.val undef)
def Pn:ResultVar->Nat
 | .tmp t=>t
 | .cell a _=>a
def Rr (fn:Func) (c:Code) (k:Nat):Bool:=Kp fn.ntmps c&&(fn.results.toList.all λr=>Nat.blt (Pn r) fn.ntmps)&&Nat.ble k fn.ntmps
section
variable {P:Program} {T:Cw} {F:Aw} {W w:World}
variable {x:AV} {K:AV->Hp->Prop} {a:Act} {σ:Aw} {ι:Bq} {e:Bs} {H:Hp} {v:Value}
theorem Aih (h:X6 x H K) (s:St σ ι H F W w) (u:Conc σ ι H x v) : ∃σ' y d,K y d/\Le σ ι H σ' ι d/\St σ' ι d F W w/\Conc σ' ι d y v:=by
 unfold X6 at h;split at h
 .rename_i B k len;split at h
  .rename_i E sz xs f;obtain⟨D,q,h⟩:=h;obtain⟨i,b,j,c⟩:=s.freeze f;refine⟨i,.sl sz xs,Aj H B .dead,h,b,j,.cc ?_⟩;have:=c 0 len _ ω (u.arr_inv f D);rwa [drop_zero,take_of_length_le ω]at this
  .exact h.elim
 .exact⟨σ,_,H,h,Le.refl _ _ _,s,u⟩
theorem Aii:∀{cs:List AV} {vs:List Value} {H:Hp} {K:List AV->Hp->Prop} {σ:Aw} {ι:Bq},X7 cs H K->St σ ι H F W w->vs.length=cs.length->(∀(i:Nat) (c:AV) (v:Value),cs[i]? = some c->vs[i]? = some v->Conc σ ι H c v) -> ∃σ' ys M,K ys M/\Le σ ι H σ' ι M/\St σ' ι M F W w/\vs.length=ys.length/\∀(i:Nat) (c:AV) (v:Value),ys[i]? = some c->vs[i]? = some v->Conc σ' ι M c v
 | [],vs,H,K,σ,ι,h,s,j,d=>⟨σ,[],H,h,Le.refl _ _ _,s,j,d⟩
 | x::cs,[],H,K,σ,ι,h,s,j,d=>by simp at j
 | x::cs,v::vs,H,K,σ,ι,h,s,j,d=>by simp only[X7]at h;obtain⟨D,y,E,h1,f,A,R⟩:=Aih h s (d 0 x v ψ ψ);obtain⟨q,ys,B,U,b,z,k,V⟩:=Aii (vs:=vs) h1 A (by simpa using j) λi c u hi I=>(d (i+1) c u (by simpa using hi) (by simpa using I)).mono f;refine⟨q,y::ys,B,U,f.trans b,z,by simp[k],λi c u hi I=>?_⟩;cases i with| zero=>simp at hi I;subst hi;subst I;exact R.mono b| succ i=>exact V i c u (by simpa using hi) (by simpa using I)
theorem Aij (h:fin x H K) (s:St σ ι H F W w) (D:Conc σ ι H x v) : ∃σ' y d,K y d/\Le σ ι H σ' ι d/\St σ' ι d F W w/\Conc σ' ι d y v:=by
 unfold fin at h;split at h
 .rename_i cs;obtain⟨vs,rfl,z,q⟩:=D.agg_inv;obtain⟨j,ys,A,h1,b,k,f,I⟩:=Aii (vs:=vs.toList) h s (by simpa using z) λi c u hi B=>q i c u hi (by simpa using B);exact⟨j,.agg ys,A,h1,b,k,.agg ys vs (by simpa using f) λi c u hi B=>I i c u hi (by simpa using B)⟩
 .exact Aih h s D
theorem Aik:∀{xs:List AV} {vs:List Value} {H:Hp} {K:List AV->Prop} {σ:Aw} {ι:Bq},X8 xs H K->St σ ι H F W w->vs.length=xs.length->(∀(i:Nat) (c:AV) (v:Value),xs[i]? = some c->vs[i]? = some v->Conc σ ι H c v) -> ∃σ' ys M,K ys/\Le σ ι H σ' ι M/\St σ' ι M F W w/\vs.length=ys.length/\∀(i:Nat) (c:AV) (v:Value),ys[i]? = some c->vs[i]? = some v->Conc σ' ι M c v
 | [],vs,H,K,σ,ι,h,s,j,d=>⟨σ,[],H,h,Le.refl _ _ _,s,j,d⟩
 | x::cs,[],H,K,σ,ι,h,s,j,d=>by simp at j
 | x::cs,v::vs,H,K,σ,ι,h,s,j,d=>by simp only[X8]at h;obtain⟨D,y,E,h1,f,A,R⟩:=Aij h s (d 0 x v ψ ψ);obtain⟨q,ys,B,U,b,z,k,V⟩:=Aik (vs:=vs) h1 A (by simpa using j) λi c u hi I=>(d (i+1) c u (by simpa using hi) (by simpa using I)).mono f;refine⟨q,y::ys,B,U,f.trans b,z,by simp[k],λi c u hi I=>?_⟩;cases i with| zero=>simp at hi I;subst hi;subst I;exact R.mono b| succ i=>exact V i c u (by simpa using hi) (by simpa using I)
def Po (b:Array Value):ResultVar->Sem Value
 | .tmp t=>pure (b.getD t undef)
 | .cell a t=>do loadVar t (<-asAddr (b.getD a undef))
theorem As1 (I:C3 P T) (s:St σ ι H F W w) (G:Ee σ ι H e a) {r:ResultVar} (D:Pn r<a.tmps.size) (h:X5 T e H r=some x) : ∃v,(Po a.tmps r).run P w = .ok v w/\Conc σ ι H x v:=by
 cases r with
 | tmp t=>simp only[X5]at h;cases h;exact⟨_,rfl,G t D⟩
 | cell p t=>
  simp only[X5]at h;split at h
  .rename_i hd d hx;split at h
   .rename_i E cs N;split at h
    .rename_i i ht;have hc:=G p D;rw[hx]at hc;obtain⟨b,U,B⟩:=hc.loc_inv;have q:=s.obj hd;unfold Bw at q;rw[N]at q;obtain⟨R,C,M,_,_,h3,O,L⟩:=q;rw[M]at U;cases U;have U:=M
     have h1:=W8 (I t i ht) w;cases A:i.isAgg with
     | true=>rw[A]at h h1;simp only[cond_true]at h;cases k:Nat.ble (d+i.size) cs.length with| false=>rw[k]at h;cases h| true=>rw[k]at h;cases h;have k:=Fu k;have h2:=M0 (I t i ht) w;have J:=run_loadCells_list (P:=P) w ⟨b,d,none⟩ ((C.toList.drop d).take i.size) (by intro j v V;have f:j<i.size:=(by have:=(Eo.1 V).1;simp at this;omega);rw[Gz f,getElem?_drop,Ft]at V;rw[Jn,I1 h3];exact V);have z:((C.toList.drop d).take i.size).length=i.size:=ζ;rw[z]at J;refine⟨_,by simp only[Po,B,asAddr,Sem.run_bind,Sem.run_pure,Result.andThen_ok,loadVar,h1,if_true,h2,J];rfl,?_⟩;refine .agg _ _ ζ λj c u X g2=>?_;have f:j<i.size:=(by have:=(Eo.1 X).1;simp at this;omega);rw[Gz f,getElem?_drop]at X;rw[getElem?_toArray,Gz f,getElem?_drop,Ft]at g2;exact L _ c u X g2
     | false=>rw[A]at h h1;simp only[cond_false]at h;have f:d<C.size:=(by rw[O];exact (Eo.1 h).1);have y:w.cell? ⟨b,d,none⟩=some C[d]:=(by rw[I1 h3];simp[f]);exact⟨C[d],by simp[Po,B,asAddr,loadVar,h1,y],L d x _ h (by simp[f])⟩
    .cases h
   .cases h
  .cases h
theorem Ab2 (q:C3 P T) {e:Bs} {H:Hp} {σ:Aw} {ι:Bq} {a:Act} (s:St σ ι H F W w) (k:Ee σ ι H e a):∀{b:List ResultVar} {xs:List AV},(∀r∈b,Pn r<a.tmps.size)->Rp T e H b=some xs -> ∃d:List Value,(b.mapM (Po a.tmps)).run P w = .ok d w/\d.length=xs.length/\∀(i:Nat) (c:AV) (v:Value),xs[i]? = some c->d[i]? = some v->Conc σ ι H c v
 | [],xs,_,h=>by simp only[Rp]at h;cases h;exact⟨[],ψ,rfl,ψ⟩
 | r::b,xs,j,h=>by
  simp only[Rp]at h;split at h
  .cases h
  .rename_i x D;split at h
   .cases h
   .rename_i ys I;cases h;obtain⟨v,h1,M⟩:=As1 q s k (j r ψ) D;obtain⟨d,R,z,U⟩:=Ab2 q s k (λy f=>j y (by simp[f])) I;refine⟨v::d,by simp[mapM_cons,h1,R],by simp[z],λi c u hi B=>?_⟩;cases i with| zero=>simp at hi B;subst hi;subst B;exact M| succ i=>exact U i c u (by simpa using hi) (by simpa using B)
theorem Ail (fn:Func) (b:Array Value):results fn b=(fn.results.mapM (Po b) >>= λd=>pure (if h:d.size=1 then d[0] else .tuple d)):=by unfold results;congr 1
theorem As2 (B:C3 P T) {fn:Func} {K:AV->Prop} (s:St σ ι H F W w) (A:Ee σ ι H e a) (x:∀r∈fn.results.toList,Pn r<a.tmps.size) (h:Pm T fn.results.toList K e H) : ∃v σ' I r,(results fn a.tmps).run P w = .ok v w/\K r/\Le σ ι H σ' ι I/\St σ' ι I F W w/\Conc σ' ι I r v:=by
 unfold Pm at h;split at h
 .exact h.elim
 .rename_i xs M;obtain⟨d,h1,z,R⟩:=Ab2 B s A x M;obtain⟨σ',ys,I,k,le,U,b,j⟩:=Aik h s z R;have f:(fn.results.mapM (Po a.tmps)).run P w = .ok d.toArray w:=(by rw[Array.mapM_eq_mapM_toList];simp[h1]);refine⟨if h:d.toArray.size=1 then d.toArray[0] else .tuple d.toArray,σ',I,T6 ys,?_,k,le,U,?_⟩
  .rw[Ail,Sem.run_bind,f];rfl
  .match ys,d,b,j with| [y],[v],_,j=>exact j 0 y v rfl rfl| [],[],_,_=>exact .tup [] #[] rfl ψ| y::D::ys,v::q::d,b,j=>have:¬(v::q::d).toArray.size=1:=ψ;rw[dif_neg this];exact .tup _ _ (by simpa using b) (λi c u hi V=>j i c u hi (by simpa using V))| [],_::_,b,_=>simp at b| _::_,[],b,_=>simp at b| [_],_::_::_,b,_=>simp at b| _::_::_,[_],b,_=>simp at b
theorem St.forget (s:St σ ι H F W w):St σ ι0 H0 F W w := ⟨s.sto,s.fra,λ_=>rfl,(λ_ _ _ b=>by cases b),s.os,s.tape,s.output,s.glo,s.drw⟩
theorem Aim {args:List AV} {vs:Array Value} {N:Nat} (h:Jo σ ι H args vs):Ee σ ι H (Rq args) ⟨vs++Array.replicate (N-vs.size) undef,[]⟩:=by
 intro q B;simp only[Rq,Array.getD_eq_getD_getElem?];by_cases b:q<args.length
 .have d:q<vs.size:=(by rw[h.1];exact b);rw[Array.getElem?_append_left d];have h1:args[q]? = some args[q]:=getElem?_eq_getElem b;have u:vs[q]? = some vs[q]:=Array.getElem?_eq_getElem d;have:=h.2 q _ _ h1 u;simpa[getD,h1,u] using this
 .rw[Array.getElem?_append_right (by rw[h.1];omega)];have h1:args[q]? = none:=getElem?_eq_none ω;have d:q-vs.size<N-vs.size:=(by simp at B;have:=h.1;omega);simp only[getD,h1,Option.getD_none];simp[d];exact .of_val undef
end
inductive Tr where
 | leaf
 | node (l:Tr) (k:Nat) (v:TI) (r:Tr)
def Tr.find:Tr->Nat->Option TI
 | .leaf,_=>none
 | .node l k v r,t=>bif Nat.beq t k then some v else bif Nat.blt t k then l.find t else r.find t
def Tr.toList:Tr->List (Nat×TI)
 | .leaf=>[]
 | .node l k v r=>l.toList++(k,v)::r.toList
theorem Tr.find_mem:∀(t:Tr) (k:Nat) (v:TI),t.find k=some v->(k,v)∈t.toList
 | .leaf,k,v,h=>by cases h
 | .node l b f r,k,v,h=>by
  simp only[Tr.find]at h;simp only[Tr.toList,mem_append,mem_cons];cases hb:Nat.beq k b with
  | true=>rw[hb]at h;simp only[cond_true]at h;cases h;rw[Fj hb];exact .inr (.inl rfl)
  | false=>rw[hb]at h;simp only[cond_false]at h;cases c:Nat.blt k b with| true=>rw[c]at h;exact .inl (Tr.find_mem l k v h)| false=>rw[c]at h;exact .inr (.inr (Tr.find_mem r k v h))
theorem Tr.ok {P:Program} {t:Tr} (h:t.toList.map (λp=>Hw P p.1)=t.toList.map λp=>some p.2):C3 P t.find:=by intro k v hk;have hm:=t.find_mem k v hk;obtain⟨i,hi⟩:=getElem?_of_mem hm;have:=congrArg (λl=>l[i]?) h;simpa[hi] using this
def X9:List AV->Hp->(List AV->Hp->Prop)->Prop
 | [],H,K=>K [] H
 | x::xs,H,K=>fin x H λy H=>X9 xs H λys H=>K (y::ys) H
def N7 (H:Hp):Nat->List Bg->Prop
 | _,[]=>True
 | k,o::os=>H k=o/\N7 H (k+1) os
def Pp (T:Cw) (d:Bool) (c:List ResultVar) (r:AV) (b:List Bg) (e:Bs) (H:Hp):Prop := match Rp T e H c with
 | none=>False
 | some xs=>bif d then X9 xs H λys H=>T6 ys=r/\N7 H 0 b else T6 xs=r/\N7 H 0 b
section
variable {P:Program} {T:Cw} {F:Aw} {W w:World}
variable {r:AV} {σ:Aw} {ι:Bq} {f:FuncId} {H:Hp} {b:List AV}
theorem N7.spec {H:Hp}:∀{os:List Bg} {k:Nat},N7 H k os->∀i,i<os.length->H (k+i)=hp os i
 | [],k,_,i,hi=>by simp at hi
 | o::os,k,h,0,_=>by simpa[hp] using h.1
 | o::os,k,h,i+1,hi=>by have:=N7.spec h.2 i (by simpa using hi);rw[show k+(i+1)=k+1+i by omega,this];simp[hp]
theorem Ain:∀{xs:List AV} {vs:List Value} {H:Hp} {K:List AV->Hp->Prop} {σ:Aw} {ι:Bq},X9 xs H K->St σ ι H F W w->vs.length=xs.length->(∀(i:Nat) (c:AV) (v:Value),xs[i]? = some c->vs[i]? = some v->Conc σ ι H c v) -> ∃σ' ys M,K ys M/\Le σ ι H σ' ι M/\St σ' ι M F W w/\vs.length=ys.length/\∀(i:Nat) (c:AV) (v:Value),ys[i]? = some c->vs[i]? = some v->Conc σ' ι M c v
 | [],vs,H,K,σ,ι,h,s,j,d=>⟨σ,[],H,h,Le.refl _ _ _,s,j,d⟩
 | x::cs,[],H,K,σ,ι,h,s,j,d=>by simp at j
 | x::cs,v::vs,H,K,σ,ι,h,s,j,d=>by simp only[X9]at h;obtain⟨D,y,E,h1,f,A,R⟩:=Aij h s (d 0 x v ψ ψ);obtain⟨q,ys,B,U,b,z,k,V⟩:=Ain (vs:=vs) h1 A (by simpa using j) λi c u hi I=>(d (i+1) c u (by simpa using hi) (by simpa using I)).mono f;refine⟨q,y::ys,B,U,f.trans b,z,by simp[k],λi c u hi I=>?_⟩;cases i with| zero=>simp at hi I;subst hi;subst I;exact R.mono b| succ i=>exact V i c u (by simpa using hi) (by simpa using I)
theorem As3 (D:C3 P T) {fn:Func} {R:Bool} {x:List Bg} {e:Bs} {a:Act} (s:St σ ι H F W w) (B:Ee σ ι H e a) (q:∀r∈fn.results.toList,Pn r<a.tmps.size) (h:Pp T R fn.results.toList r x e H):∃v σ' d,(results fn a.tmps).run P w = .ok v w/\N7 d 0 x/\Le σ ι H σ' ι d/\St σ' ι d F W w/\Conc σ' ι d r v:=by
 unfold Pp at h;split at h
 .exact h.elim
 .rename_i xs V;obtain⟨I,h1,z,U⟩:=Ab2 D s B q V;have M:∃σ' ys d,(T6 ys=r/\N7 d 0 x)/\Le σ ι H σ' ι d/\St σ' ι d F W w/\I.length=ys.length/\∀(i:Nat) (c:AV) (v:Value),ys[i]? = some c->I[i]? = some v->Conc σ' ι d c v:=(by cases R with| true=>exact Ain h s z U| false=>exact⟨σ,xs,H,h,Le.refl _ _ _,s,z,U⟩);obtain⟨σ',ys,d,⟨rfl,k⟩,le,X,b,j⟩:=M;have f:(fn.results.mapM (Po a.tmps)).run P w = .ok I.toArray w:=(by rw[Array.mapM_eq_mapM_toList];simp[h1]);refine⟨if h:I.toArray.size=1 then I.toArray[0] else .tuple I.toArray,σ',d,?_,k,le,X,?_⟩
  .rw[Ail,Sem.run_bind,f];rfl
  .match ys,I,b,j with| [y],[v],_,j=>exact j 0 y v rfl rfl| [],[],_,_=>exact .tup [] #[] rfl ψ| y::E::ys,v::A::I,b,j=>have:¬(v::A::I).toArray.size=1:=ψ;rw[dif_neg this];exact .tup _ _ (by simpa using b) (λi c u hi hu=>j i c u hi (by simpa using hu))| [],_::_,b,_=>simp at b| _::_,[],b,_=>simp at b| [_],_::_::_,b,_=>simp at b| _::_::_,[_],b,_=>simp at b
theorem St.first (s:St σ ι H F W w) (f:List Bg) (hk:∀i,i<f.length->H i=hp f i) (R:f.all (Bg.under f.length)=true) : St σ (λk=>if k<f.length then ι k else .none) (hp f) F W w:=by
 have I:∀h,h<f.length->(λk=>if k<f.length then ι k else Loc.none) h=ι h:=λh z=>if_pos z;have d:∀h,h<f.length->hp f h=H h:=λh z=>(hk h z).symm;have lt:∀k,(hp f k).live=true->k<f.length:=by
  intro k h;rcases Nat.lt_or_ge k f.length with h'|h'
  .exact h'
  .rw[N6 h']at h;cases h
 refine⟨s.sto,s.fra,λk=>?_,λk B b h1 h2 h3 A=>?_,s.os,s.tape,s.output,s.glo,s.drw⟩
 .by_cases z:k<f.length
  .have j:=s.obj k;have u:=Dh.1 R _ (Dz (Pl z));unfold Bw at j ⊢;rw[hk k z]at j;dsimp only;rw[if_pos z];cases hx:hp f k with
   | none=>rw[hx]at j;exact j
   | dead=>trivial
   | rows E sz xs=>rw[hx]at j;exact j
   | map es=>rw[hx]at j;exact j
   | nest E Ei sz ys=>rw[hx]at j u;refine Gc.of rfl (λ_ _ q=>q) (λi y hy=>?_) j;cases y with| own xs=>exact hy| lent h' M=>exact⟨h',hy,λv hc=>hc.restrict I d (Dh.1 u _ (Dz hy))⟩
   | cells E cs=>rw[hx]at j u;obtain⟨b,C,L,h1,h2,h3,A,J⟩:=j;refine⟨b,C,L,h1,h2,h3,A,λi c v x y=>?_⟩;have hc:=Dh.1 u c (Dz x);refine (J i c v x y).restrict (n:=f.length) I d ?_;exact Abt hc
  .unfold Bw;rw[N6 ω];exact if_neg z
 .have G:=lt k h1;have D:=lt B h2;rw[if_pos G]at h3;rw[if_pos D]at A;rw[d k G]at h1;rw[d B D]at h2;exact s.inj k B b h1 h2 h3 A
def Ya (c:List Bg) (r:AV) (b:List Bg):Bool:=Nat.ble c.length b.length&&r.under b.length&&b.all (Bg.under b.length)
def Sub (x y:AV):Prop:=∀(σ:Aw) (ι:Bq) (H:Hp) (v:Value),Conc σ ι H x v->Conc σ ι H y v
theorem Sub.refl (x:AV):Sub x x:=λ_ _ _ _ h=>h
theorem Sub.of_eq {x y:AV} (h:x=y):Sub x y:=by subst h;exact Sub.refl x
theorem Sub.nil (sz:Nat):Sub (.val (.slice none 0 0)) (.sl sz []):=λ_ _ _ _ h=>X4 rfl h
def N8:List AV->List AV->Prop
 | [],[]=>True
 | x::xs,y::ys=>Sub x y/\N8 xs ys
 | _,_=>False
theorem N8.spec:∀{xs ys:List AV},N8 xs ys->xs.length=ys.length/\∀(i:Nat) (y:AV),ys[i]? = some y->∃x,xs[i]? = some x/\Sub x y
 | [],[],_=>⟨rfl,ψ⟩
 | [],_::_,h=>h.elim
 | _::_,[],h=>h.elim
 | x::xs,y::ys,h=>by obtain⟨h1,h2⟩:=N8.spec h.2;refine⟨by simp[h1],λi z b=>?_⟩;cases i with| zero=>simp at b;subst b;exact⟨x,rfl,h.1⟩| succ i=>simpa using h2 i z (by simpa using b)
theorem Sub.agg {xs ys:List AV} (h:N8 xs ys):Sub (.agg xs) (.agg ys):=by intro σ ι H v hc;obtain⟨vs,rfl,f,b⟩:=hc.agg_inv;obtain⟨h1,h2⟩:=h.spec;refine .agg _ vs (by rw[<-h1];exact f) λi c u h3 q=>?_;obtain⟨x,k,j⟩:=h2 i c h3;exact j _ _ _ _ (b i x u k q)
theorem A4.sub {args:List AV} {q:AV} (h:A4 P f b r) (ha:N8 args b) (u:Sub r q):A4 P f args q:=by
 refine⟨h.1,λσ F W w vs s hc=>?_⟩;obtain⟨h1,h2⟩:=ha.spec;refine (h.2 σ F W w vs s ⟨by rw[<-h1];exact hc.1,λi a v h3 k=>?_⟩).mono ?_
 .obtain⟨x,j,c⟩:=h2 i a h3;exact c _ _ _ _ (hc.2 i x v j k)
 .rintro e w' ⟨v,σ',h3,k,j,c⟩;exact⟨v,σ',h3,k,j,u _ _ _ _ c⟩
theorem Bt.sub {args:List AV} {j c:List Bg} (h:Bt P f b j r c) (ha:N8 args b):Bt P f args j r c:=by refine⟨h.1,λσ F W w ι vs s hc=>?_⟩;obtain⟨h1,h2⟩:=ha.spec;refine h.2 σ F W w ι vs s ⟨by rw[<-h1];exact hc.1,λi a v h3 u=>?_⟩;obtain⟨x,q,k⟩:=h2 i a h3;exact k _ _ _ _ (hc.2 i x v q u)
end
inductive Dp (K:Prop):Prop where
 | mk (k:K)
def opK (P:Program) (T:Cw) (an:Nat->Ann) (nl:Nat->List (Nat×Nat)) (o:Oper) (n:Nat) (e:Bs) (H:Hp) (acc:Je) (K:Nat->Bs->Hp->Je->Prop):Prop := sop P T an n o (ev e) H λb m=>Rj (T5 (Abx nl o.dst) b.r) λr=>Xx b.wr λwr=>T1 b.rd λf=>T1 wr λc=>Ab0 e o.dst r H wr λe H=>Dp (K m e H (acc++[(f,c)]))
def T7 (o:Oper) (n:Nat) (e:Bs) (H:Hp) (acc:Je) (K:Nat->Bs->Hp->Je->Prop):Prop := Ab0 e o.dst (.val undef) H [] λe H=>Dp (K n e H (acc++[([],[])]))
def Ey (P:Program) (T:Cw) (an:Nat->Ann) (nl:Nat->List (Nat×Nat)) (ops:Array Oper):List Oper->Nat->Bs->Hp->Je->(Nat->Bs->Hp->Je->Prop)->Prop
 | [],n,e,H,acc,K=>K n e H acc
 | o::os,n,e,H,acc,K=> match o.guard with
  | none=>opK P T an nl o n e H acc λn e H acc=>Ey P T an nl ops os n e H acc K
  | some p=> match (ops[p.1]?).bind (·.dst) with
   | none=>False
   | some s=> match e s with
    | .val v=>bif Ph v==some p.2 then opK P T an nl o n e H acc λn e H acc=>Ey P T an nl ops os n e H acc K else T7 o n e H acc λn e H acc=>Ey P T an nl ops os n e H acc K
    | _=>False
section
variable {P:Program} {T:Cw} {an:Nat->Ann} {nl:Nat->List (Nat×Nat)} {ops:Array Oper}
theorem Ab3 (I:C3 P T):∀(os:List Oper) (i n:Nat) (e:Bs) (H:Hp) (acc:Je) (K:Nat->Bs->Hp->Je->Prop),ops.toList.drop i=os->acc.length=i->Fm H n->Ey P T an nl ops os n e H acc K -> ∃b V U d,K b V U d/\d.take i=acc/\d.length=i+os.length/\n<=b/\Fm U b/\Run P ops (λk=>d.getD k ([],[])) (range' i os.length) e H V U
 | [],i,n,e,H,acc,K,hd,q,z,h=>⟨n,e,H,acc,h,by rw[<-q];simp,by simpa using q,Nat.le_refl _,z,.nil e H⟩
 | o::os,i,n,e,H,acc,K,hd,q,z,h=>by
  have L:ops[i]? = some o:=(by have:=congrArg (λl=>l[0]?) hd;simpa using this);have x:ops.toList.drop (i+1)=os:=(by have:=congrArg (drop 1) hd;simpa[drop_drop] using this);have X:Jc ops o e true->(opK P T an nl o n e H acc λn e H acc=>Ey P T an nl ops os n e H acc K) ->
    ∃b V U d,K b V U d/\d.take i=acc/\d.length=i+(o::os).length/\n<=b/\Fm U b/\Run P ops (λk=>d.getD k ([],[])) (range' i (o::os).length) e H V U:=by
   intro E j;obtain⟨c,m,h1,h2,h3,S,O⟩:=Asx I z j;simp only[Xz,Ah0,Ah1,Aic]at h3;obtain⟨b,V,U,d,D,y,N,M,B,A⟩:=Ab3 I os (i+1) m _ _ _ K x (by simp[q]) O h3.1;have G:d[i]? = some (c.rd.map (·.1),c.wr.map (·.1)):=(by have R:(d.take (i+1))[i]? = d[i]?:=Gz ω;rw[<-R,y,getElem?_append_right ω];simp[q]);have u:d.getD i ([],[])=(c.rd.map (·.1),c.wr.map (·.1)):=(by simp[getD,G]);refine⟨b,V,U,d,D,?_,by simp only[length_cons];omega,ω,B,?_⟩
   .have:=congrArg (take i) y;rw[take_take]at this;simpa[q] using this
   .rw[length_cons,range'_succ];refine .cons o (T5 (Abx nl o.dst) c.r) c.wr ⟨L,.inl ⟨E,_,h1.nils (Abx nl o.dst),h2,?_,?_,rfl,rfl⟩⟩ A
    .intro p hp;show p.1∈(d.getD i ([],[])).1;rw[u];exact mem_map_of_mem hp
    .intro p hp;show p.1∈(d.getD i ([],[])).2;rw[u];exact mem_map_of_mem hp
  have skip:Jc ops o e false->(T7 o n e H acc λn e H acc=>Ey P T an nl ops os n e H acc K) ->
    ∃b V U d,K b V U d/\d.take i=acc/\d.length=i+(o::os).length/\n<=b/\Fm U b/\Run P ops (λk=>d.getD k ([],[])) (range' i (o::os).length) e H V U:=by
   intro E j;unfold T7 at j;rw[Aic]at j;obtain⟨b,V,U,d,D,y,N,M,B,A⟩:=Ab3 I os (i+1) n _ _ _ K x (by simp[q]) z j.1;refine⟨b,V,U,d,D,?_,by simp only[length_cons];omega,ω,B,?_⟩
   .have:=congrArg (take i) y;rw[take_take]at this;simpa[q] using this
   .rw[length_cons,range'_succ];exact .cons o (.val undef) [] ⟨L,.inr ⟨E,rfl,rfl⟩⟩ A
  simp only[Ey]at h;cases f:o.guard with
  | none=>rw[f]at h;exact X (by unfold Jc;rw[f]) h
  | some p=>
   rw[f]at h;simp only[]at h;cases j:(ops[p.1]?).bind (·.dst) with
   | none=>rw[j]at h;exact h.elim
   | some s=>
    rw[j]at h;simp only[]at h;split at h
    .rename_i v J;cases hb:Ph v==some p.2 with| true=>rw[hb]at h;exact X (by unfold Jc;rw[f];exact⟨s,v,j,J,hb.symm⟩) h| false=>rw[hb]at h;exact skip (by unfold Jc;rw[f];exact⟨s,v,j,J,hb.symm⟩) h
    .exact h.elim
variable {o:Oper} {os:List Oper} {n:Nat} {e:Bs} {H:Hp} {acc:Je} {K:Nat->Bs->Hp->Je->Prop} {β:Type} {r:β}
variable {s:Nat} {p:Nat×Bool}
theorem nx (k:opK P T an nl o n e H acc λn e H acc=>Ey P T an nl ops os n e H acc K) (b:o.guard=none:=by exact rfl):Dp (Ey P T an nl ops (o::os) n e H acc K):=.mk (by simp only[Ey,b];exact k)
theorem J3 (k:K n e H acc):Dp (Ey P T an nl ops [] n e H acc K):=.mk k
theorem As4 (p:Nat×Bool) (s:Nat) (k:opK P T an nl o n e H acc λn e H acc=>Ey P T an nl ops os n e H acc K) (c:o.guard=some p:=by exact rfl) (b:(ops[p.1]?).bind (·.dst)=some s:=by exact rfl) (hb:e s = .val (.bool p.2):=by exact rfl):Dp (Ey P T an nl ops (o::os) n e H acc K) :=
 .mk (by simp only[Ey,c,b,hb,Ph,BEq.rfl,cond_true];exact k)
theorem As5 (p:Nat×Bool) (s:Nat) (v:Value) (k:T7 o n e H acc λn e H acc=>Ey P T an nl ops os n e H acc K) (f:o.guard=some p:=by exact rfl) (c:(ops[p.1]?).bind (·.dst)=some s:=by exact rfl) (hb:e s = .val v:=by exact rfl) (b:(Ph v==some p.2)=false:=by exact rfl):Dp (Ey P T an nl ops (o::os) n e H acc K) :=
 .mk (by simp only[Ey,f,c,hb,b,cond_false];exact k)
theorem N9 (k:opK P T an nl o n e H acc λn e H acc=>Ey P T an nl ops os n e H acc K) (c:o.guard=some p:=by exact rfl) (b:(ops[p.1]?).bind (·.dst)=some s:=by exact rfl) (hb:e s = .val (.bool p.2):=by exact rfl):Dp (Ey P T an nl ops (o::os) n e H acc K):=As4 p s k c b hb
theorem Oa {v:Value} (k:T7 o n e H acc λn e H acc=>Ey P T an nl ops os n e H acc K) (f:o.guard=some p:=by exact rfl) (c:(ops[p.1]?).bind (·.dst)=some s:=by exact rfl) (hb:e s = .val v:=by exact rfl) (b:(Ph v==some p.2)=false:=by exact rfl):Dp (Ey P T an nl ops (o::os) n e H acc K):=As5 p s v k f c hb b
theorem As6 {b:Bool} {m c:Option β} {X:List Oper} (h:(bif b then m else c)=some r) (h1:b=true->m=some r->Dp (Ey P T an nl ops X n (Aj e s (.val (.bool true))) H acc K)) (d:b=false->c=some r->Dp (Ey P T an nl ops X n (Aj e s (.val (.bool false))) H acc K)) (hb:e s = .val (.bool b):=by exact rfl):Dp (Ey P T an nl ops X n e H acc K):=by cases b with| true=>have:=h1 rfl h;rwa [Aie hb]at this| false=>have:=d rfl h;rwa [Aie hb]at this
end
variable {F σ:Aw} {ι:Bq} {H:Hp} {W w:World}
theorem St.recell (s:St σ ι H F W w) (h:Nat) (E:TypeId) (cs f:List AV) (k:H h = .cells E cs) (z:f.length=cs.length) (hc:∀(i:Nat) (c q:AV) (v:Value),cs[i]? = some c->f[i]? = some q->Conc σ ι H c v->Conc σ ι H q v) : St σ ι (Aj H h (.cells E f)) F W w/\Le σ ι H σ ι (Aj H h (.cells E f)):=by
 have u:=s.obj h;unfold Bw at u;rw[k]at u;obtain⟨b,C,hb,h1,h2,h3,G,D⟩:=u;have le:Le σ ι H σ ι (Aj H h (.cells E f)):=by have:=Le.upd (ι:=ι) (H:=H) (Aw.le_refl σ) h (ι h) (.cells E f) (by rw[k];exact⟨λ_ e=>e,(λ_ e=>by cases e),(λ_ _ _ _ e=>by cases e)⟩);rwa [Hk]at this
 refine⟨s.touch h b (λ_ _=>rfl) (λx e=>Be _ _ e) le (λx e=>rfl) (λ_ _=>rfl) (λo e=>by rw[h1]at e;cases e) ?_ h2 ?_ ?_ rfl rfl rfl,le⟩
 .intro x e z A;exact e (s.inj x h b z (by rw[k];rfl) A (by rw[hb];rfl))
 .intro I _ B;exact .inr ⟨by rw[k];rfl,B⟩
 .unfold Bw;rw[Ba];refine⟨b,C,hb,h1,h2,h3,ω,λi q v x y=>?_⟩;have hi:i<cs.length:=(by rw[<-z];exact (Eo.1 x).1);have j:cs[i]? = some cs[i]:=getElem?_eq_getElem hi;exact (hc i _ q v j x (D i _ v j y)).mono le
def Yb:AV->Option Nat
 | .loc h _=>some h
 | .vec h _=>some h
 | _=>none
inductive Gh where
 | fz (s:Nat)
 | own (s j:Nat) (e:TypeId) (sz:Nat)
 | nil (s j sz:Nat)
 | fzc (s j:Nat)
 | fzp (s:Nat)
 | fzcp (s j:Nat)
 | fzv (s:Nat)
 | fzn (s:Nat)
 | bkn (s t:Nat)
 | drops (hs:List Nat)
def T8 (H:Hp):List Nat->Hp
 | []=>H
 | h::b=>T8 (Aj H h .dead) b
theorem St.drop (s:St σ ι H F W w) (h:Nat):St σ ι (Aj H h .dead) F W w/\Le σ ι H σ ι (Aj H h .dead):=by
 have le:Le σ ι H σ ι (Aj H h .dead):=by have:=Le.upd (ι:=ι) (H:=H) (Aw.le_refl σ) h (ι h) .dead ⟨λ_ e=>e,(λ_ e=>by cases e),(λ_ _ _ _ e=>by cases e)⟩;rwa [Hk]at this
 have live:∀x,(Aj H h .dead x).live=true->(H x).live=true:=by
  intro x hx;by_cases e:x=h
  .subst e;rw[Ba]at hx;cases hx
  .rwa [Be _ _ e]at hx
 refine⟨⟨s.sto,s.fra,λx=>?_,λx y b i f j c=>s.inj x y b (live x i) (live y f) j c,s.os,s.tape,s.output,s.glo,s.drw⟩,le⟩;by_cases e:x=h
 .subst e;unfold Bw;rw[Ba];trivial
 .exact Bw.keep le rfl (Be _ _ e) (λ_ _ _=>⟨λq=>q,λq=>q,rfl⟩) (s.obj x)
theorem St.dropAll {σ:Aw} {ι:Bq} {F:Aw} {W w:World}:∀{H:Hp} (b:List Nat),St σ ι H F W w->St σ ι (T8 H b) F W w/\Le σ ι H σ ι (T8 H b)
 | H,[],s=>⟨s,Le.refl _ _ _⟩
 | H,h::b,s=>by obtain⟨j,f⟩:=s.drop h;obtain⟨i,c⟩:=St.dropAll b j;exact⟨i,f.trans c⟩
theorem Aio {n m:Nat} (d:n<=m):∀{H:Hp} (b:List Nat),b.all (λh=>Nat.blt h n)=true->T8 H b m=H m
 | H,[],_=>rfl
 | H,h::b,c=>by rw[all_cons,Ec]at c;have:=Gt c.1;show T8 (Aj H h .dead) b m=_;rw[Aio d b c.2,Be _ _ ω]
inductive Aip (ys:List NC) (m sz:Nat) (K:List AV->Prop):Prop where
 | mk (xss:List (List AV)) (cs:List AV) (h:ys=xss.map .own) (hm:xss.length=m) (hc:xss.map (.sl sz)=cs) (k:K cs)
inductive Ab4 (ys:List NC) (h n:Nat) (xs:List AV) (K:List NC->Prop):Prop where
 | mk (i:Nat) (xs':List AV) (zs:List NC) (hr:L0 xs xs') (hn:xs.length=n) (hi:ys[i]? = some (.lent h n)) (hz:ys.set i (.own xs')=zs) (k:K zs)
def gxs:List Gh->Nat->Bs->Hp->(Nat->Bs->Hp->Prop)->Prop
 | [],n,e,H,K=>K n e H
 | .fz s::d,n,e,H,K=> match e s with
  | .arr h k 0 len=> match H h with
   | .rows _ sz xs=>Hg k xs (Hg len xs (gxs d n (Aj e s (.sl sz xs)) (Aj H h .dead) K))
   | _=>False
  | _=>False
 | .fzp s::d,n,e,H,K=> match e s with
  | .arr h k 0 len=> match H h with
   | .rows _ sz xs=>Hg k xs (Ahu len k (Ahv xs len λys=>gxs d n (Aj e s (.sl sz ys)) (Aj H h .dead) K))
   | _=>False
  | _=>False
 | .own s j E sz::d,n,e,H,K=> match Yb (e s) with
  | some h=> match H h with
   | .cells T cs=> match cs[j]? with
    | some x=>bif Jd x&&Nat.blt 0 sz then gxs d (n+1) e (Aj (Aj H n (.rows E sz [])) h (.cells T (cs.set j (.arr n 0 0 0)))) K else False
    | none=>False
   | _=>False
  | _=>False
 | .nil s j sz::d,n,e,H,K=> match Yb (e s) with
  | some h=> match H h with
   | .cells T cs=> match cs[j]? with
    | some x=>bif Jd x then gxs d n e (Aj H h (.cells T (cs.set j (.sl sz [])))) K else False
    | none=>False
   | _=>False
  | _=>False
 | .fzc s j::d,n,e,H,K=> match Yb (e s) with
  | some h=> match H h with
   | .cells T cs=> match cs[j]? with
    | some (.arr h' k 0 len)=> match H h' with
     | .rows _ sz xs=>Hg k xs (Hg len xs (gxs d n e (Aj (Aj H h' .dead) h (.cells T (cs.set j (.sl sz xs)))) K))
     | _=>False
    | _=>False
   | _=>False
  | _=>False
 | .fzcp s j::d,n,e,H,K=> match Yb (e s) with
  | some h=> match H h with
   | .cells T cs=> match cs[j]? with
    | some (.arr h' k 0 len)=> match H h' with
     | .rows _ sz xs=>Hg k xs (Ahu len k (Ahv xs len λys=>gxs d n e (Aj (Aj H h' .dead) h (.cells T (cs.set j (.sl sz ys)))) K))
     | _=>False
    | _=>False
   | _=>False
  | _=>False
 | .fzv s::d,n,e,H,K=> match e s with
  | .vec h m=> match H h with
   | .cells _ cs=>bif cs.all AV.cl1&&Nat.beq cs.length m&&Nat.ble m 16 then gxs d n (Aj e s (.sl 1 cs)) (Aj H h .dead) K else False
   | _=>False
  | _=>False
 | .fzn s::d,n,e,H,K=> match e s with
  | .vec h m=> match H h with
   | .nest _ _ sz ys=>Aip ys m sz λcs=>gxs d n (Aj e s (.sl 1 cs)) (Aj H h .dead) K
   | _=>False
  | _=>False
 | .drops c::d,n,e,H,K=>bif c.all (λh=>Nat.blt h n) then gxs d n e (T8 H c) K else False
 | .bkn s t::d,n,e,H,K=> match e s with
  | .vec h _=> match H h with
   | .nest E Ei sz ys=> match e t with
    | .arr h' k _ _=> match H h' with
     | .rows f b xs=>bif Nat.beq f Ei&&Nat.beq b sz then Ab4 ys h' k xs λzs=>gxs d n e (Aj (Aj H h (.nest E Ei sz zs)) h' .dead) K else False
     | _=>False
    | _=>False
   | _=>False
  | _=>False
section
variable {F:Aw} {W:World}
variable {σ:Aw} {ι:Bq} {H:Hp} {cs:List AV} {h j:Nat} {E:TypeId} {w:World}
theorem Aiq {i:Nat} {y c b:AV} {P:AV->AV->Prop} (h1:cs[i]? = some c) (d:(cs.set j y)[i]? = some b) (f:P c c) (u:i=j->P c y):P c b:=by
 rw[getElem?_set]at d;split at d
 .rename_i e;split at d
  .cases d;exact u e.symm
  .cases d
 .rw[h1]at d;cases d;exact f
theorem St.freezeVec (s:St σ ι H F W w) (M:H h = .cells E cs) (q:∀c∈cs,c.cl1=true) : ∃σ',Le σ ι H σ' ι (Aj H h .dead)/\St σ' ι (Aj H h .dead) F W w/\∀v,cs.length<=140737488355328->Conc σ ι H (.vec h cs.length) v->CC σ' (.sl 1 cs) v:=by
 have y:=s.obj h;unfold Bw at y;rw[M]at y;obtain⟨b,C,N,p1,Z,Y,X,V⟩:=y;have D:σ.le (Aj σ b (some (.cells C E))):=by intro b' o' d;rw[Be _ _ (by intro e;subst e;rw[p1]at d;cases d)];exact d
 have k:Le σ ι H (Aj σ b (some (.cells C E))) ι (Aj H h .dead):=by have:=Le.upd (ι:=ι) (H:=H) D h (ι h) .dead ⟨λ_ e=>e,(λ_ e=>by cases e),(λ_ E1 U O e=>by cases e)⟩;rwa [Hk]at this
 refine⟨Aj σ b (some (.cells C E)),k,?_,?_⟩
 .exact s.touch h b (λ_ _=>rfl) (λx e=>Be _ _ e) k (λ_ _=>rfl) (λx e=>Be _ _ e) (λo L=>by rw[Ba]at L;cases L;exact Y)
   (λx e z hb=>e (s.inj x h b z (by rw[M];rfl) hb (by rw[N];rfl))) Z (λb' z hb=>by rw[Ba]at z;cases z) (by unfold Bw;rw[Ba];trivial) rfl rfl rfl
 .intro v z hc;obtain⟨b2,G,rfl⟩:=hc.vec_inv;rw[N]at G;cases G;have f:∀c:AV,c.cl1=true->c.cells = [c]:=by
   intro c hc;cases c with
   | val v=>cases v <;> first|rfl|cases hc
   | sl=>rfl
   | _=>cases hc
  have J:∀(i:Nat) (c:AV),cs[i]? = some c->∃u,C[i]? = some u/\CC σ c u/\Dy u=true:=(by intro i c hi;have B:i<C.size:=(by rw[X];exact (Eo.1 hi).1);refine⟨C[i],by simp[B],?_⟩;exact (V i c C[i] hi (by simp[B])).cc_of (q c (Dz hi)));have:=CC.sl (σ:=Aj σ b (some (.cells C E))) cs b 0 cs.length 1 C E (0,0) (λn _=>(C[n]?).getD undef) (Ba _ _ _)
   (λi x hx=>by rw[f x (q x (Dz hx))];rfl) (λi x j c hx hj=>by rw[f x (q x (Dz hx))]at hj;obtain⟨rfl,rfl⟩:=Aax hj;obtain⟨u,A,S,_⟩:=J i _ hx;rw[A];exact S.mono D) (λi x j c hx hj=>by rw[f x (q x (Dz hx))]at hj;obtain⟨rfl,rfl⟩:=Aax hj;obtain⟨u,A,_,R⟩:=J i _ hx;rw[A];exact R) (λi j hi hj=>by have I:j=0:=ω;subst I;rw[Nat.zero_add,Nat.mul_one,Nat.add_zero];obtain⟨u,A,_⟩:=J i cs[i] (getElem?_eq_getElem hi);rw[A];rfl) z (Nat.le_refl _);exact this
theorem Kq {n:Nat} {o:Bg} (b:Fm H n) (c:H h≠.none):Fm (Aj H h o) n:=by intro m d;rw[Be _ _ λe=>c (by rw[<-e];exact b m d)];exact b m d
theorem Air {d h' k len:Nat} {T:TypeId} {sz:Nat} {xs ys:List AV} (s:St σ ι H F W w) (R:H d = .cells T cs) (hj:cs[j]? = some (.arr h' k 0 len)) (q:H h' = .rows E sz xs) (hk:xs.length=k) (Z:len<=xs.length) (hy:xs.take len=ys) : ∃c,Le σ ι H c ι (Aj (Aj H h' .dead) d (.cells T (cs.set j (.sl sz ys))))/\St c ι (Aj (Aj H h' .dead) d (.cells T (cs.set j (.sl sz ys)))) F W w:=by
 obtain⟨c,L,J,S⟩:=s.freeze q;have N:d≠h':=by intro I;subst I;rw[R]at q;cases q
 have f:Aj H h' .dead d = .cells T cs:=by rw[Be _ _ N];exact R
 have u:=s.obj d;unfold Bw at u;rw[R]at u;obtain⟨b,C,I,g1,g2,g3,g4,g5⟩:=u;have z:∀v,C[j]? = some v->Conc c ι (Aj H h' .dead) (.sl sz ys) v:=by intro v hv;have hc:=g5 j _ v hj hv;have:=S 0 len _ ω (hc.arr_inv q hk);rw[drop_zero,hy]at this;exact .cc this
 have Y:St c ι (Aj (Aj H h' .dead) d (.cells T (cs.set j (.sl sz ys)))) F W w/\Le c ι (Aj H h' .dead) c ι (Aj (Aj H h' .dead) d (.cells T (cs.set j (.sl sz ys)))):=by
  have M:=J.obj d;unfold Bw at M;rw[f]at M;obtain⟨b',C',G,D,B,A,a1,X⟩:=M;rw[I]at G;cases G;rw[g3]at A;cases A;have le:Le c ι (Aj H h' .dead) c ι (Aj (Aj H h' .dead) d (.cells T (cs.set j (.sl sz ys)))):=(by have:=Le.upd (ι:=ι) (H:=Aj H h' .dead) (Aw.le_refl c) d (ι d) (.cells T (cs.set j (.sl sz ys))) (by rw[f];exact⟨λ_ e=>e,(λ_ e=>by cases e),(λ_ _ _ _ e=>by cases e)⟩);rwa [Hk]at this);refine⟨J.touch d b (λ_ _=>rfl) (λx e=>Be _ _ e) le (λx e=>rfl) (λ_ _=>rfl) (λo e=>by rw[D]at e;cases e) ?_ B ?_ ?_ rfl rfl rfl,le⟩
  .intro x e Z U;exact e (J.inj x d b Z (by rw[f];rfl) U (by rw[I];rfl))
  .intro b0 _ V;exact .inr ⟨by rw[f];rfl,V⟩
  .unfold Bw;rw[Ba];refine⟨b,C,I,D,B,g3,by simpa using g4,λi c' v x y=>?_⟩;rw[getElem?_set]at x;split at x
   .rename_i O;split at x
    .cases x;subst O;exact (z v y).mono le
    .cases x
   .exact (X i c' v x y).mono le
 exact⟨c,L.trans Y.2,Y.1⟩
theorem Lh:∀(G:List Gh) {n:Nat} {e:Bs} {H:Hp} {K:Nat->Bs->Hp->Prop} {σ:Aw} {ι:Bq} {a:Act} {w:World},gxs G n e H K->St σ ι H F W w->Ee σ ι H e a->Fm H n -> ∃σ' ι' n' e' H',K n' e' H'/\Le σ ι H σ' ι' H'/\St σ' ι' H' F W w/\Ee σ' ι' H' e' a/\Fm H' n'/\n<=n'
 | [],n,e,H,K,σ,ι,a,w,h,s,A,B=>⟨σ,ι,n,e,H,h,Le.refl _ _ _,s,A,B,Nat.le_refl _⟩
 | .fz t::G,n,e,H,K,σ,ι,a,w,h,s,A,B=>by
  simp only[gxs]at h;split at h
  .rename_i d k len hx;split at h
   .rename_i E sz xs y;obtain⟨hk,hl,h⟩:=h;obtain⟨σ1,f,J,a1⟩:=s.freeze y;have a6:Ee σ1 ι (Aj H d .dead) (Aj e t (.sl sz xs)) a:=by
     intro q hq;by_cases I:q=t
     .subst I;rw[Ba];have hc:=A q hq;rw[hx]at hc;have:=a1 0 len _ ω (hc.arr_inv y hk);rw[drop_zero,take_of_length_le ω]at this;exact .cc this
     .rw[Be _ _ I];exact (A q hq).mono f
    obtain⟨L,M,N,D,X,V,U,S,R,O,Y⟩:=Lh G h J a6 (Kq B (by rw[y];intro e;cases e));exact⟨L,M,N,D,X,V,f.trans U,S,R,O,Y⟩
   .exact h.elim
  .exact h.elim
 | .fzp t::G,n,e,H,K,σ,ι,a,w,h,s,A,B=>by
  simp only[gxs]at h;split at h
  .rename_i d k len hx;split at h
   .rename_i E sz xs y;obtain⟨hk,hl,ys,hy,h⟩:=h;obtain⟨σ1,f,J,a1⟩:=s.freeze y;have a6:Ee σ1 ι (Aj H d .dead) (Aj e t (.sl sz ys)) a:=by
     intro q hq;by_cases I:q=t
     .subst I;rw[Ba];have hc:=A q hq;rw[hx]at hc;have:=a1 0 len _ ω (hc.arr_inv y hk);rw[drop_zero,hy]at this;exact .cc this
     .rw[Be _ _ I];exact (A q hq).mono f
    obtain⟨L,M,N,D,X,V,U,S,R,O,Y⟩:=Lh G h J a6 (Kq B (by rw[y];intro e;cases e));exact⟨L,M,N,D,X,V,f.trans U,S,R,O,Y⟩
   .exact h.elim
  .exact h.elim
 | .own t j E sz::G,n,e,H,K,σ,ι,a,w,h,s,A,B=>by
  simp only[gxs]at h;split at h
  .rename_i d hx;split at h
   .rename_i T cs y;split at h
    .rename_i x hj;obtain⟨hb,h⟩:=Fk h;rw[Ec]at hb;have aa:d≠n:=(by intro I;subst I;have:=B d (Nat.le_refl _);rw[y]at this;cases this);obtain⟨s0,a8⟩:=s.newNil n (B n (Nat.le_refl _)) E sz (Gt hb.2);have ab:Aj H n (.rows E sz []) d = .cells T cs:=(by rw[Be _ _ aa];exact y);obtain⟨J,f⟩:=s0.recell d T cs (cs.set j (.arr n 0 0 0)) ab ψ (by intro i c c' v h1 h2 h3;refine Aiq (P:=λa b=>Conc σ _ _ a v->Conc σ _ _ b v) h1 h2 (λh=>h) (λad h=>?_) h3;subst ad;rw[hj]at h1;cases h1;rw[Rl hb.1]at h;rw[h.val_inv];refine .arr _ _ _ _ _ (by rw[Ba];intro e;cases e) (λE' Z a7 e'=>?_) rfl;rw[Ba]at e';cases e';exact⟨ψ,λ_=>by rw[Ba];exact⟨rfl,rfl,rfl⟩⟩);have ah:Fm (Aj (Aj H n (.rows E sz [])) d (.cells T (cs.set j (.arr n 0 0 0)))) (n+1):=(by refine Kq ?_ (by rw[ab];intro e;cases e);intro m hm;rw[Be _ _ ω];exact B m ω);obtain⟨L,M,N,D,X,V,U,S,R,O,Y⟩:=Lh G h J (A.mono (a8.trans f)) ah;exact⟨L,M,N,D,X,V,(a8.trans f).trans U,S,R,O,ω⟩
    .exact h.elim
   .exact h.elim
  .exact h.elim
 | .nil t j sz::G,n,e,H,K,σ,ι,a,w,h,s,A,B=>by
  simp only[gxs]at h;split at h
  .rename_i d hx;split at h
   .rename_i T cs y;split at h
    .rename_i x hj;obtain⟨hb,h⟩:=Fk h;obtain⟨J,f⟩:=s.recell d T cs (cs.set j (.sl sz [])) y ψ (by intro i c c' v h1 h2 h3;refine Aiq (P:=λa b=>Conc σ _ _ a v->Conc σ _ _ b v) h1 h2 (λh=>h) (λad h=>?_) h3;subst ad;rw[hj]at h1;cases h1;exact X4 hb h);obtain⟨L,M,N,D,X,V,U,S,R,O,Y⟩:=Lh G h J (A.mono f) (Kq B (by rw[y];intro e;cases e));exact⟨L,M,N,D,X,V,f.trans U,S,R,O,Y⟩
    .exact h.elim
   .exact h.elim
  .exact h.elim
 | .fzc t j::G,n,e,H,K,σ,ι,a,w,h,s,A,B=>by
  simp only[gxs]at h;split at h
  .rename_i d hx;split at h
   .rename_i T cs y;split at h
    .rename_i h' k len hj;split at h
     .rename_i E sz xs z;obtain⟨hk,hl,h⟩:=h;obtain⟨σ1,f,J⟩:=Air s y hj z hk ω (take_of_length_le ω);obtain⟨L,M,N,D,X,V,U,S,R,O,Y⟩:=Lh G h J (A.mono f) (Kq (Kq B (by rw[z];intro e;cases e)) (by rw[Be _ _ (by intro I;subst I;rw[y]at z;cases z)];rw[y];intro e;cases e));exact⟨L,M,N,D,X,V,f.trans U,S,R,O,Y⟩
     .exact h.elim
    .exact h.elim
   .exact h.elim
  .exact h.elim
 | .fzcp t j::G,n,e,H,K,σ,ι,a,w,h,s,A,B=>by
  simp only[gxs]at h;split at h
  .rename_i d hx;split at h
   .rename_i T cs y;split at h
    .rename_i h' k len hj;split at h
     .rename_i E sz xs z;obtain⟨hk,hl,ys,hy,h⟩:=h;obtain⟨σ1,f,J⟩:=Air s y hj z hk ω (hy);obtain⟨L,M,N,D,X,V,U,S,R,O,Y⟩:=Lh G h J (A.mono f) (Kq (Kq B (by rw[z];intro e;cases e)) (by rw[Be _ _ (by intro I;subst I;rw[y]at z;cases z)];rw[y];intro e;cases e));exact⟨L,M,N,D,X,V,f.trans U,S,R,O,Y⟩
     .exact h.elim
    .exact h.elim
   .exact h.elim
  .exact h.elim
 | .fzv t::G,n,e,H,K,σ,ι,a,w,h,s,A,B=>by
  simp only[gxs]at h;split at h
  .rename_i d m hx;split at h
   .rename_i E cs y;obtain⟨g,h⟩:=Fk h;simp only[Ec]at g;obtain⟨⟨g1,g2⟩,g3⟩:=g;have g2:=Fj g2;have g3:=Fu g3;obtain⟨σ1,f,J,a1⟩:=s.freezeVec y λc hc=>Dh.1 g1 c hc;have a6:Ee σ1 ι (Aj H d .dead) (Aj e t (.sl 1 cs)) a:=by
     intro q hq;by_cases I:q=t
     .subst I;rw[Ba];have hc:=A q hq;rw[hx,<-g2]at hc;exact .cc (a1 _ ω hc)
     .rw[Be _ _ I];exact (A q hq).mono f
    obtain⟨L,M,N,D,X,V,U,S,R,O,Y⟩:=Lh G h J a6 (Kq B (by rw[y];intro e;cases e));exact⟨L,M,N,D,X,V,f.trans U,S,R,O,Y⟩
   .exact h.elim
  .exact h.elim
 | .fzn t::G,n,e,H,K,σ,ι,a,w,h,s,A,B=>by
  simp only[gxs]at h;split at h
  .rename_i d m hx;split at h
   .rename_i E Ei sz ys y;obtain⟨ag,cs,g1,g2,g3,h⟩:=h;subst g3;obtain⟨σ1,f,J,a1⟩:=s.freezeN y g1;have a6:Ee σ1 ι (Aj H d .dead) (Aj e t (.sl 1 (ag.map (.sl sz)))) a:=by
     intro q hq;by_cases I:q=t
     .subst I;rw[Ba];have hc:=A q hq;rw[hx,<-g2]at hc;exact .cc (a1 _ hc)
     .rw[Be _ _ I];exact (A q hq).mono f
    obtain⟨L,M,N,D,X,V,U,S,R,O,Y⟩:=Lh G h J a6 (Kq B (by rw[y];intro e;cases e));exact⟨L,M,N,D,X,V,f.trans U,S,R,O,Y⟩
   .exact h.elim
  .exact h.elim
 | .bkn t u::G,n,e,H,K,σ,ι,a,w,h,s,A,B=>by
  simp only[gxs]at h;split at h
  .rename_i d m hx;split at h
   .rename_i E Ei sz ys y;split at h
    .rename_i h' k a2 len hu;split at h
     .rename_i E' Z xs z;obtain⟨g,h⟩:=Fk h;rw[Ec]at g;have q1:=Fj g.1;have q2:=Fj g.2;subst q1;subst q2;obtain⟨i,a7,zs,ae,g1,g2,g3,h⟩:=h;subst g1;subst g3;have aa:d≠h':=(by intro I;subst I;rw[y]at z;cases z);obtain⟨s0,a8⟩:=s.rerow z ae;have ab:Aj H h' (.rows E' Z a7) d = .nest E E' Z ys:=(by rw[Be _ _ aa];exact y);have ac:=s.obj d;unfold Bw at ac;rw[y]at ac;obtain⟨h0,b,ls,C,I,h1,h2,h3,h4,h5,h6,h7⟩:=ac;have hi:i<ys.length:=(Eo.1 g2).1;have af:C[i]? = some (C[i]' ω):=Array.getElem?_eq_getElem _;have ai:=(h7 i _ _ g2 af).2;have aj:Gg (ι h') Z 0 xs.length (C[i]' ω):=(by cases ai with| cc h=>cases h| arr _ _ _ _ _ r1 r2 r3=>exact (r2 E' Z xs z).2 rfl);obtain⟨J,f⟩:=s0.putN (i:=i) ab I (Ba _ _ _) hi (by rw[ae.1];exact aj) h3 w C rfl af (λ_ _=>rfl) h3 (λ_ _=>rfl) rfl rfl rfl (Nat.le_refl _);have a0:Aj (Aj (Aj H h' (.rows E' Z a7)) d (.nest E E' Z (ys.set i (.own a7)))) h' .dead=Aj (Aj H d (.nest E E' Z (ys.set i (.own a7)))) h' .dead:=by
       funext x;by_cases e:x=h'
       .subst e;rw[Ba,Ba]
       .rw[Be _ _ e,Be _ _ e];by_cases D:x=d
        .subst D;rw[Ba,Ba]
        .rw[Be _ _ D,Be _ _ D,Be _ _ e]
      have f:=a8.trans f;rw[a0]at J f;obtain⟨L,M,N,D,X,V,U,S,R,O,Y⟩:=Lh G h J (A.mono f) (Kq (Kq B (by rw[y];intro e;cases e)) (by rw[Be _ _ (Ne.symm aa),z];intro e;cases e));exact⟨L,M,N,D,X,V,f.trans U,S,R,O,Y⟩
     .exact h.elim
    .exact h.elim
   .exact h.elim
  .exact h.elim
 | .drops hs::G,n,e,H,K,σ,ι,a,w,h,s,A,B=>by simp only[gxs]at h;obtain⟨hb,h⟩:=Fk h;obtain⟨J,f⟩:=s.dropAll hs;obtain⟨L,M,N,D,X,V,U,S,R,O,Y⟩:=Lh G h J (A.mono f) (λm hm=>by rw[Aio hm hs hb];exact B m hm);exact⟨L,M,N,D,X,V,f.trans U,S,R,O,Y⟩
end
variable {i:Int} {n:Nat} {E S α:Type} {e:E} {l:List α} {s:S}
def Hn {S E:Type} (step:S->Option (S⊕E)):Nat->S->Option E
 | 0,_=>none
 | n+1,s=> match step s with
  | none=>none
  | some (.inl d)=>Hn step n d
  | some (.inr e)=>some e
theorem Ab5 {S E:Type} {step:S->Option (S⊕E)}:∀{n:Nat} {s:S} {e:E},Hn step n s=some e->∀m,n<=m->Hn step m s=some e
 | 0,s,e,h,_,_=>by cases h
 | n+1,s,e,h,0,d=>ω
 | n+1,s,e,h,m+1,d=>by
  simp only[Hn]at h ⊢;cases b:step s with
  | none=>rw[b]at h;cases h
  | some o=>rw[b]at h;cases o with| inl u=>exact Ab5 (n:=n) h m ω| inr B=>exact h
theorem Ais {step:S->Option (S⊕E)} {m:Nat} {e':E} (h:Hn step n s=some e) (h':Hn step m s=some e'):e=e':=by have h1:=Ab5 h (max n m) ω;have d:=Ab5 h' (max n m) ω;rw[h1]at d;exact Option.some.inj d
open Classical in
noncomputable def Ak {S E:Type} (step:S->Option (S⊕E)) (s:S):Option E := match Hn step 4096 s with
 | some e=>some e
 | none=>if h:∃n e,Hn step n s=some e then some (Classical.choose (Classical.choose_spec h)) else none
theorem Yc {step:S->Option (S⊕E)} (h:Ak step s=some e):∃n,Hn step n s=some e:=by
 unfold Ak at h;split at h
 .rename_i u b;cases h;exact⟨_,b⟩
 .split at h
  .rename_i d;cases h;exact⟨_,Classical.choose_spec (Classical.choose_spec d)⟩
  .cases h
theorem Ab6 {step:S->Option (S⊕E)} (h:Hn step n s=some e):Ak step s=some e:=by
 have d:∃n e,Hn step n s=some e:=⟨n,e,h⟩;unfold Ak;split
 .rename_i u b;exact congrArg some (Ais b h)
 rw[dif_pos d];exact congrArg some (Ais (Classical.choose_spec (Classical.choose_spec d)) h)
theorem F5 {step:S->Option (S⊕E)} (h:step s=some (.inr e)):Ak step s=some e := Ab6 (n:=1) (by simp only[Hn,h])
theorem Kr {step:S->Option (S⊕E)} {s':S} (h:step s=some (.inl s')):Ak step s=Ak step s':=by
 cases h':Ak step s' with
 | some e=>obtain⟨n,b⟩:=Yc h';exact Ab6 (n:=n+1) (by simp only[Hn,h];exact b)
 | none=>
  cases c:Ak step s with
  | none=>rfl
  | some e=>obtain⟨n,b⟩:=Yc c;cases n with| zero=>cases b| succ n=>simp only[Hn,h]at b;rw[Ab6 b]at h';cases h'
theorem Rs {step:S->Option (S⊕E)} (c:S->Prop) (m:S->Nat) (b:E->Prop) (f:∀s,c s->(∃d,step s=some (.inl d)/\c d/\m d < m s)\/(∃e,step s=some (.inr e)/\b e)) (s:S) (h0:c s):∃e,Ak step s=some e/\b e:=by
 generalize B:m s=k;induction k using Nat.strongRecOn generalizing s with
 | _ k ih=>
  rcases f s h0 with⟨d,h1,u,D⟩|⟨e,h1,u⟩
  .obtain⟨e,j,i⟩:=ih (m d) ω d u rfl;exact⟨e,by rw[Kr h1];exact j,i⟩
  .exact⟨e,F5 h1,u⟩
def Af (l:List α) (i:Int):Option α:=if 0<=i then l[i.toNat]? else none
def Gk (l:List α) (lo hi:Int):Option (List α):=if 0<=lo/\lo<=hi/\hi<=l.length then some ((l.take hi.toNat).drop lo.toNat) else none
def Bl (b:Nat) (xs ys:List α):Option (List α):=if (xs.length+ys.length)*b<=140737488355328 then some (xs++ys) else none
def F2 (c:Nat) (len b:Int) (z:α):Option (List α):=if 0<=len/\len<=b/\c*b.toNat<=281474976710656/\b<=140737488355328 then some (replicate len.toNat z) else none
def Jf (l:List α) (off n:Nat) (i:Int):Option α:=if 0<=i/\i<n then l[off+i.toNat]? else none
def T9 (n:Nat) (lo hi:Int):Option (Nat×Nat):=if 0<=lo/\lo<=hi/\hi<=n/\(lo=0\/lo<hi) then some (lo.toNat,hi.toNat) else none
def G5 (n:Nat) (l:List α):Option Unit:=if n=l.length then some () else none
theorem Ip {u:Unit} (h:G5 n l=some u):n=l.length:=by
 unfold G5 at h;split at h
 .assumption
 .cases h
theorem As7 (off:Nat) (h:i=n):((off:Nat):Int)+i=((off+n:Nat):Int):=by omega
def Ob (n:Int):Option ByteArray:=if -9223372036854775808<=n/\n<=9223372036854775807 then some ⟨(Lib.itoa n).toArray⟩ else none
def Ab7 (a b:Int):Option ByteArray:=bif b==10 then Ob a else none
def Fw (l:List Int):List UInt8:=l.map λn=>UInt8.ofNat n.toNat
def Ua (l:List Int):Option ByteArray:=if (∀x∈l,0<=x/\x<256) then some ⟨(Fw l).toArray⟩ else none
def M3 (s:ByteArray):List Int:=s.data.toList.map λb=>(b.toNat:Int)
def Bk (l:List α) (i:Int) (x:α):List α:=l.set i.toNat x
def G0 (k:IntKind) (a b:Int):Option Int:=if b=0 then none else some (k.wrap (a.tdiv b))
def Ho (a b:Int):Option Int:=if b=0 then none else some (a.tmod b)
def Ub (k:IntKind) (a b:Int):Option Int:=if 0<=b then some (a.fdiv (2 ^ (min b.toNat k.bits))) else none
def Fg (s:ByteArray) (i:Int):Option UInt8:=if 0<=i then s[i.toNat]? else none
def Gu (a b:ByteArray):Option ByteArray:=if a.size+b.size<=9223372036854775807 then some (a++b) else none
def Eh (s:ByteArray) (lo hi:Int):Option ByteArray:=if 0<=lo/\lo<=hi/\hi<=s.size then some (s.extract lo.toNat hi.toNat) else none
abbrev Ac (n:Int):Int:=IntKind.i64.wrap n
abbrev Bh (n:Int):Int:=IntKind.u64.wrap n
abbrev C6 (n:Int):Int:=IntKind.u32.wrap n
abbrev wu8 (n:Int):Int:=IntKind.u8.wrap n
theorem Ab8 {x:α} (h:Af l i=some x):∃n:Nat,i=n/\l[n]? = some x:=by
 unfold Af at h;split at h
 .exact⟨i.toNat,ω,h⟩
 .cases h
section
variable {β:Type} {r:β}
variable {p:AV} {q:FloatKind} {c hi i j lo:Int} {xs ys zs:List AV} {K:List AV->Nat->Prop} {a b kk n:Nat} {G:Prop} {α:Type} {l:List α} {g:List α->List AV} {m:List α->Option β} {o:Option α} {x z:α} {f:α->AV}
theorem C7 {m:α->Option β} (h:o.bind m=some r) (k:∀x,o=some x->m x=some r->G):G:=by cases o with| none=>cases h| some x=>exact k x rfl h
theorem Ait {m:α->Option β} (h:o.bind m=some r) (k:∀x,o=some x->(∀y,y=x->m y=some r)->G):G:=by cases o with| none=>cases h| some x=>exact k x rfl (λy d=>by subst d;exact h)
theorem Ab9 (j:ys=l.map f) {m:α->Option β} {K:Nat->AV->Prop} (h:(Af l i).bind m=some r) (k:∀(n:Nat) (x:α),i=n->l[n]? = some x->m x=some r->K n (f x)):Rg ys i K:=by subst j;refine C7 h λx d h=>?_;obtain⟨n,b,c⟩:=Ab8 d;exact .mk n (f x) b (by simp[c]) (k n x b c h)
theorem As8 (q:ys=l.map f) {m:α->Option β} {K:Nat->Prop} {len:Nat} (j:len=l.length) (d:kk=l.length) (h:(Af l i).bind m=some r) (k:∀(n:Nat) (x:α),i=n->l[n]? = some x->m x=some r->K n):Pi len kk ys i K:=by subst q;refine C7 h λx u h=>?_;obtain⟨n,b,c⟩:=Ab8 u;exact .mk n (by rw[d];simp) b (by rw[j];exact (Eo.1 c).1) (k n x b c h)
theorem As9 (b:ys=l.map f) {m:α->Option β} {K:Nat->Prop} {off len:Nat} (u:kk=l.length) (h:(Jf l off len i).bind m=some r) (k:∀(n:Nat) (x:α),i=n->l[off+n]? = some x->m x=some r->K n):Pi len kk ys i K:=by
 subst b;refine C7 h λx d h=>?_;unfold Jf at d;split at d
 .rename_i B;exact .mk i.toNat (by rw[u];simp) ω ω (k _ x ω d h)
 .cases d
theorem Ata (b:ys=l.map f) (u:kk=l.length) {m:Nat×Nat->Option β} {K:Nat->Nat->Prop} {c:Prop} (h:(T9 n lo hi).bind m=some r) (k:∀v:Nat×Nat,m v=some r->K v.1 v.2):Ahs kk ys n lo hi K c:=by
 subst b;refine C7 h λx d h=>?_;unfold T9 at d;split at d
 .rename_i B;cases d;exact .mk lo.toNat hi.toNat (by rw[u];simp) ω ω ω ω ω (k _ h)
 .cases d
theorem Aiu {op:BinOp} {m:Nat->Option β} {K:Nat->Prop} (h:(floatBits op q a b).bind m=some r) (k:∀c,m c=some r->K c):Xv op q a b K := C7 h λx d h=>.mk x d (k x h)
theorem Aiv {z:IntKind} {m:Int->Option β} {K:Int->Prop} (h:(floatToIntVal q a z).bind m=some r) (k:∀c,m c=some r->K c):Xw q a z K := C7 h λx d h=>.mk x d (k x h)
theorem Atb (b:ys=l.map f) {i:Nat} {K:AV->Prop} (d:kk=l.length) (hi:i=n) (u:l[n]? = some x) (k:K (f x)):Km kk i ys K:=by subst b;subst hi;exact .mk (f x) (by rw[d];simp) (by simp[u]) k
theorem M4 (b:ys=l.map f) {i:Nat} {K:List AV->Prop} (hp:p=f x) (hi:i=n) (d:j=(n:Int)) (k:K ((Bk l j x).map f)):Ri ys i p K:=by subst b;subst hi;subst hp;subst d;exact .mk _ (by simp[Bk,map_set]) k
theorem Jp (b:∀l,g l=l.map f) (c:ys=l.map f) {i:Nat} {K:List AV->Prop} (hp:p=f x) (hi:i=n) (d:j=(n:Int)) (k:K (g (Bk l j x))):Ri ys i p K := M4 c hp hi d (by rw[<-b];exact k)
theorem E2 {k:Nat} (h:k=l.length) (j:Int) (x:α):k=(Bk l j x).length:=by simp[Bk,h]
theorem Aca (c:ys=l.map f) {K:List AV->Prop} (h:(Gk l lo hi).bind m=some r) (k:∀b:List α,m b=some r->K (b.map f)):Lc ys lo hi K:=by
 subst c;refine C7 h λx d h=>?_;unfold Gk at d;split at d
 .rename_i u;cases d;exact .mk lo.toNat hi.toNat _ ω ω ω ζ (by rw[<-map_take,<-map_drop]) (k _ h)
 .cases d
theorem Aiw (c:ys=l.map f) {K:List AV->Prop} (h:(Gk l lo l.length).bind m=some r) (k:∀b:List α,m b=some r->K (b.map f)):Lc ys lo ys.length K:=by
 have e:((ys.length:Nat):Int)=(l.length:Int):=by rw[c];simp
 rw[e];exact Aca c h k
theorem Atc (c:∀l,g l=l.map f) (i:ys=l.map f) {K:List AV->Prop} (h:(Gk l lo hi).bind m=some r) (k:∀b:List α,m b=some r->K (g b)):Lc ys lo hi K := Aca i h λb h=>by rw[<-c];exact k b h
theorem Atd (c:∀l,g l=l.map f) (i:ys=l.map f) {K:List AV->Prop} (h:(Gk l lo l.length).bind m=some r) (k:∀b:List α,m b=some r->K (g b)):Lc ys lo ys.length K := Aiw i h λb h=>by rw[<-c];exact k b h
theorem Acb {ys:List α} (j:xs=l.map f) (c:zs=ys.map f) {len:Nat} {q:List AV->Nat->Nat->Prop} (u:kk=l.length) (i:len=l.length) (h:(Bl b l ys).bind m=some r) (k:∀o:List α,m o=some r->K (o.map f) o.length):Kl xs zs kk len b K q:=by
 subst j;subst c;subst u;subst i;refine C7 h λx d h=>?_;unfold Bl at d;split at d
 .rename_i B;cases d;exact .mk _ _ ψ rfl (by simpa using B) ψ ψ (k _ h)
 .cases d
theorem Ate {l:List Int} {s:ByteArray} (i:xs=l.map λn=>.val (.int .u8 n)) {len:Nat} {m:List Int->Option β} {j:List AV->Nat->Nat->Prop} (d:kk=l.length) (c:len=l.length) (h:(Bl b l (M3 s)).bind m=some r) (k:∀o:List Int,m o=some r->K (o.map λn=>.val (.int .u8 n)) o.length):Kl xs (Iu s) kk len b K j:=by refine Acb (f:=λn=>.val (.int .u8 n)) i ?_ d c h k;simp[Iu,M3]
theorem Aix {ys:List α} (c:zs=ys.map f) (h:(Bl b [] ys).bind m=some r) (k:∀o:List α,m o=some r->K (o.map f) o.length):Pj zs b K:=by
 subst c;refine C7 h λx d h=>?_;unfold Bl at d;split at d
 .rename_i u;cases d;exact .mk _ _ (by simpa using u) ψ ψ (k _ h)
 .cases d
theorem Li (j:∀l,g l=l.map f) {ys:List α} (q:xs=l.map f) (c:zs=ys.map f) {len:Nat} {s:List AV->Nat->Nat->Prop} (d:kk=l.length) (i:len=l.length) (h:(Bl b l ys).bind m=some r) (k:∀o:List α,m o=some r->K (g o) o.length):Kl xs zs kk len b K s := Acb q c d i h λo h=>by rw[<-j];exact k o h
theorem Atf (i:∀l,g l=l.map f) {ys:List α} (c:zs=ys.map f) (h:(Bl b [] ys).bind m=some r) (k:∀o:List α,m o=some r->K (g o) o.length):Pj zs b K := Aix c h λo h=>by rw[<-i];exact k o h
theorem Atg {i:AV} (j:i=f z) {len:Int} {K:Nat->List AV->Prop} (h:(F2 b len c z).bind m=some r) (k:∀o:List α,m o=some r->K o.length (o.map f)):Rh len c b i K:=by
 subst j;refine C7 h λx d h=>?_;unfold F2 at d;split at d
 .rename_i u;cases d;exact .mk _ c.toNat _ ζ ω ζ u.2.2.1 ω ψ (k _ h)
 .cases d
theorem Rt {i:AV} (j:Gi i.cells (f z).cells) {len:Int} {K:Nat->List AV->Prop} (h:(F2 b len c z).bind m=some r) (k:∀o:List α,m o=some r->K o.length (o.map f)):Rh len c b i K:=by
 refine C7 h λx d h=>?_;unfold F2 at d;split at d
 .rename_i u;cases d;exact .mkN (f z) j _ c.toNat _ ζ ω ζ u.2.2.1 ω ψ (k _ h)
 .cases d
theorem Aiy (b:ys=l.map f) {K:Int->Prop} (k:K (l.length:Int)):Ld ys K:=by subst b;exact .mk _ ψ k
theorem Ath (b:ys=l.map f) (d:kk=l.length) {K:Prop} (k:K):Hg kk ys K:=by subst b;exact .mk (by rw[d];simp) k
def Ep (l:List (ByteArray×α)) (s:ByteArray):Bool:=l.any λp=>s==p.1
def I4 (l:List (ByteArray×α)) (s:ByteArray) (z:α):α:=((l.find? λp=>s==p.1).map (·.2)).getD z
def F6 {α:Type}:List (ByteArray×α)->ByteArray->α->List (ByteArray×α)
 | [],s,v=>[(s,v)]
 | p::l,s,v=>bif s==p.1 then (s,v)::l else p::F6 l s v
def Br (f:α->AV) (l:List (ByteArray×α)):List (AV×AV):=l.map λp=>(.val (.string p.1),f p.2)
theorem Acd {α:Type} (f:α->AV) (s:ByteArray) (z:α):∀(l:List (ByteArray×α)) (i:Nat), (Ep l s=false/\Il s (Br f l) i=some none)\/(Ep l s=true/\∃j,Il s (Br f l) i=some (some (i+j,f (I4 l s z)))/\∀v,Br f (F6 l s v)=(Br f l).set j (.val (.string s),f v))
 | [],i=>.inl ⟨rfl,rfl⟩
 | p::l,i=>by
  cases hp:s==p.1 with
  | true=>
   refine .inr ⟨by simp[Ep,hp],0,?_,λv=>?_⟩
   .simp[Br,Il,I4,hp]
   .simp[Br,F6,hp]
  | false=>
   rcases Acd f s z l (i+1) with⟨h1,d⟩|⟨h1,j,d,u⟩
   .refine .inl ⟨by simp only[Ep,any_cons,hp,Bool.false_or];exact h1,?_⟩;have:Il s (Br f (p::l)) i=Il s (Br f l) (i+1):=(by simp[Br,Il,hp]);rw[this,d]
   .refine .inr ⟨by simp only[Ep,any_cons,hp,Bool.false_or];exact h1,j+1,?_,λv=>?_⟩
    .have:Il s (Br f (p::l)) i=Il s (Br f l) (i+1):=(by simp[Br,Il,hp]);have b:I4 (p::l) s z=I4 l s z:=(by simp[I4,hp]);rw[this,d,b];congr 3;omega
    .have c:Br f (F6 (p::l) s v)=(.val (.string p.1),f p.2)::Br f (F6 l s v):=(by simp[Br,F6,hp]);rw[c,u v];rfl
variable {s:ByteArray} {a b:Int} {m:Int->Option β} {K:Int->Prop} {k:IntKind} {es:List (AV×AV)} {α:Type} {l:List (ByteArray×α)} {f:α->AV}
theorem Aiz {α:Type} (f:α->AV) {s:ByteArray} {v:α}:∀{l:List (ByteArray×α)},Ep l s=false->Br f (F6 l s v)=Br f l++[(.val (.string s),f v)]
 | [],_=>rfl
 | p::l,h=>by simp only[Ep,any_cons,Bool.or_eq_false_iff]at h;have:=Aiz f (v:=v) (l:=l) h.2;simp only[F6,h.1,cond_false];simp only[Br,map_cons,cons_append]at this ⊢;rw[this]
theorem Uc (k:es=Br f l) (z:α) {m b:Option β} {K:Option (Nat×AV)->Prop} (h:(bif Ep l s then m else b)=some r) (i:∀j,Ep l s=true->m=some r->K (some (j,f (I4 l s z)))) (c:Ep l s=false->b=some r->K none):Abn s es K:=by
 subst k;rcases Acd f s z l 0 with⟨h1,d⟩|⟨h1,j,d,_⟩
 .rw[h1]at h;exact .mk _ d (c h1 h)
 .rw[h1]at h;exact .mk _ d (i _ h1 h)
theorem Ud (c:es=Br f l) {x:α} {v:AV} (b:v=f x) {K:List (AV×AV)->Prop} (k:K (Br f (F6 l s x))):Ahw s v es K:=by
 subst c;subst b;refine .mk _ ?_ k;unfold Xl;rcases Acd f s x l 0 with⟨h1,d⟩|⟨h1,j,d,u⟩
 .rw[d,Aiz f h1]
 .rw[d,u x];simp
theorem Ue (h:(G0 k a b).bind m=some r) (f:∀c:Int,m c=some r->K c):Xo k a b K:=by
 refine C7 h λx d h=>?_;unfold G0 at d;split at d
 .cases d
 .rename_i u;cases d;exact .mk _ u rfl (f _ h)
theorem Yd (h:(Ho a b).bind m=some r) (f:∀c:Int,m c=some r->K c):Xp a b K:=by
 refine C7 h λx d h=>?_;unfold Ho at d;split at d
 .cases d
 .rename_i u;cases d;exact .mk _ u rfl (f _ h)
theorem Ai0 (h:(Ub k a b).bind m=some r) (f:∀c:Int,m c=some r->K c):Xq k a b K:=by
 refine C7 h λx d h=>?_;unfold Ub at d;split at d
 .rename_i u;cases d;exact .mk _ u rfl (f _ h)
 .cases d
theorem Lj {i:Int} {m:UInt8->Option β} {K:UInt8->Prop} (h:(Fg s i).bind m=some r) (b:∀c:UInt8,m c=some r->K c):Xs s i K:=by
 refine C7 h λx d h=>?_;unfold Fg at d;split at d
 .exact .mk i.toNat x ω d (b _ h)
 .cases d
theorem Hh {a b:ByteArray} {m:ByteArray->Option β} {K:Prop} (h:(Gu a b).bind m=some r) (k:m (a++b)=some r->K):Xt (a.size+b.size) K:=by
 refine C7 h λx d h=>?_;unfold Gu at d;split at d
 .rename_i u;cases d;exact .mk u (k h)
 .cases d
theorem Ace {lo hi:Int} {m:ByteArray->Option β} {K:Nat->Nat->Prop} (h:(Eh s lo hi).bind m=some r) (k:∀l h',lo=((l:Nat):Int)->hi=((h':Nat):Int)->m (s.extract l h')=some r->K l h'):Xr s.size lo hi K:=by
 refine C7 h λx d h=>?_;unfold Eh at d;split at d
 .rename_i u;cases d;exact .mk lo.toNat hi.toNat ω ω ω ω (k _ _ ω ω h)
 .cases d
end
def Acf (X:Nat->Bs->Hp->Prop) (V:Nat->Nat->Bs->Hp->Prop) (U:Nat->Bs->Hp->Prop) (x:Ex) (n:Nat) (e:Bs) (H:Hp):Prop := match x with
 | .normal=>X n e H
 | .exit i=>V i n e H
 | .ret=>U n e H
def wc (P:Program) (C:Cfg) (c:Code) (X:Nat->Bs->Hp->Prop) (V:Nat->Nat->Bs->Hp->Prop) (U:Nat->Bs->Hp->Prop) (n:Nat) (e:Bs) (H:Hp):Prop := C3 P C.T->P.follows .mixedOrders=true->∀(F:Aw) (W:World) (σ:Aw) (ι:Bq) (a:Act) (w:World) (Q:Exit->Act->World->Prop), Kp a.tmps.size c=true->St σ ι H F W w->Ee σ ι H e a->Fm H n -> (∀x f u d σ' ι' b w',Acf X V U x f u d->Le σ ι H σ' ι' d->St σ' ι' d F W w'->Ee σ' ι' d u b->Fm d f->n<=f->b.tmps.size=a.tmps.size->b.defers=a.defers->Ez (F1 c) a b->Q x.out b w')->c.wp P Q a w
section
variable {P:Program} {C:Cfg} {X:Nat->Bs->Hp->Prop} {V:Nat->Nat->Bs->Hp->Prop} {U:Nat->Bs->Hp->Prop} {n:Nat} {e:Bs} {H:Hp} {β:Type} {r:β}
variable {a:Act} {σ:Aw} {t:Bool} {ι:Bq} {L b c z:Code} {fn:Func} {f:FuncId} {os:List Oper} {id:Nat} {x:Operand} {S:Type}
theorem Iv (k:X n e H):wc P C .skip X V U n e H:=λ_ _ _ _ σ ι a w _ _ s c b d=>wp_skip (d .normal n e H σ ι a w k (Le.refl _ _ _) s c b (Nat.le_refl _) rfl rfl (Ez.refl _ _))
theorem Acg (k:U n e H):wc P C .ret X V U n e H:=λ_ _ _ _ σ ι a w _ _ s c b d=>wp_ret (d .ret n e H σ ι a w k (Le.refl _ _ _) s c b (Nat.le_refl _) rfl rfl (Ez.refl _ _))
theorem F3 (k:V id n e H):wc P C (.exit id) X V U n e H:=λ_ _ _ _ σ ι a w _ _ s c b d=>wp_exit (d (.exit id) n e H σ ι a w k (Le.refl _ _ _) s c b (Nat.le_refl _) rfl rfl (Ez.refl _ _))
theorem Ai1 {ops:Array Oper} {b:Bool} (h:Dp (Ey P C.T C.an C.nl ops ops.toList n e H [] λn e H acc=>bif b then L8 ops.toList acc (X n e H) else X n e H)):wc P C (.region id ops b) X V U n e H:=by
 intro d hm F W σ ι a w Q E s R M hk;have x:=Le.refl σ ι H;have s0:=s;have B:=R;have N:=M;obtain⟨L,e',H',accs,u,_,S,z,hf,c⟩:=Ab3 d ops.toList 0 n e H [] _ ψ rfl M h.1;have y:=Aig E;cases b with
 | false=>simp only[cond_false]at u;refine wp_region ?_;have:range ops.size=range' 0 ops.toList.length:=(by rw[range_eq_range'];simp);rw[this];refine c.wpOps s0 B y ?_;intro σ' ι' J w' le s' j f q hu;exact hk .normal L e' H' σ' ι' J w' u (x.trans le) s' j hf z f q hu
 | true=>
  simp only[cond_true]at u;obtain⟨G,u⟩:=u;refine wp_region_any hm ?_;have D:ops=ops.toList.toArray:=ψ;rw[D];simp only[size_toArray];refine Ahr (accs:=accs) (e':=e') (H':=H') G ops.toList.length _ (range' 0 ops.toList.length) e H σ ι a _ (by rw[<-D];exact c) (pairwise_lt_range' ..) ?_ ψ ?_ ψ (s0.drew _) B (by rw[<-D];exact y) ?_
  .intro i;simp only[mem_range'_1,Array.getD_eq_getD_getElem?];constructor
   .rintro⟨_,h2⟩;refine⟨ω,?_⟩;have:i<ops.size:=(by simpa using h2);simp[this]
   .rintro⟨h1,_⟩;omega
  .intro k o O I;exfalso;simp only[Array.getD_eq_getD_getElem?]at I;by_cases A:k<ops.size
   .simp[A]at I
   .simp[A]at I
  .intro σ' ι' J w' le s' j f q hu;exact hk .normal L e' H' σ' ι' J w' u (x.trans le) s' j hf z f q (by rw[<-D]at hu;exact hu)
theorem Ai2 (k:Dp (Ey P C.T C.an C.nl os.toArray os n e H [] λn e H acc=>L8 os acc (X n e H))):wc P C (.region id os.toArray true) X V U n e H:=Ai1 k
theorem F7 (k:Dp (Ey P C.T C.an C.nl os.toArray os n e H [] λn e H _=>X n e H)):wc P C (.region id os.toArray false) X V U n e H:=Ai1 k
theorem Bx (D:List Gh) (k:gxs D n e H λn e H=>Dp (wc P C c X V U n e H)):wc P C c X V U n e H:=by intro R hm F W σ ι a w Q j s O M hk;obtain⟨E,G,n1,a0,d,L,b,I,y,q,N⟩:=Lh D k s O M;exact L.1 R hm F W E G a w Q j I y q λx J e' H' σ' ι' S w' hq f s' z u B i A hu=> hk x J e' H' σ' ι' S w' hq (b.trans f) s' z u ω i A hu
theorem Ay {a3 S:Code} (k:wc P C a3 (λn e H=>wc P C S X V U n e H) V U n e H):wc P C (.seq a3 S) X V U n e H:=by intro O hm F W σ ι a w Q f s he hn hk;simp only[Kp,Ec]at f;refine wp_seq (k O hm F W σ ι a w _ f.1 s he hn ?_);intro x n1 R a0 A B a1 D hq c E j i y b q hu;cases x with| normal=>refine hq O hm F W A B a1 D Q (by rw[b];exact f.2) E j i ?_;intro x n2 e2 H2 d Y a2 Z J G s2 M L N u z I;exact hk x n2 e2 H2 d Y a2 Z J (c.trans G) s2 M L ω (u.trans b) (z.trans q) ((hu.mono (by simp[F1];exact λs h=>.inl h)).trans (I.mono (by simp[F1];exact λs h=>.inr h)))| exit id=>exact hk (.exit id) n1 R a0 A B a1 D hq c E j i y b q (hu.mono (by simp[F1];exact λs h=>.inl h))| ret=>exact hk .ret n1 R a0 A B a1 D hq c E j i y b q (hu.mono (by simp[F1];exact λs h=>.inl h))
theorem Ach {l:Nat} (k:X n e H):wc P C (.label l) X V U n e H:=by intro i u F W σ ι a w Q b s f c d;exact wp_label (d .normal n e H σ ι a w k (Le.refl _ _ _) s f c (Nat.le_refl _) rfl rfl (Ez.refl _ _))
theorem Aci (k:wc P C c X V U n e H):wc P C (.scope c) X V U n e H:=by intro I d F W σ ι a w Q i s G E M;refine wp_scope_straight (k I d F W σ ι a w _ i s G E ?_);intro x n1 J L z A R B hq b D u j q f y hu;have:=M x n1 J L z A R B hq b D u j q f y hu;cases x <;> exact this
theorem J4 (k:wc P C c X (λi n e H=>bif Nat.beq i id then X n e H else V i n e H) U n e H):wc P C (.block id c) X V U n e H:=by
 intro M hm F W σ ι a w Q I s L J R;refine wp_block (k M hm F W σ ι a w _ I s L J ?_);intro x n1 E G z A a1 B d b D u j q f y hu;cases x with
 | normal=>exact R .normal n1 E G z A a1 B d b D u j q f y hu
 | exit i=>
  simp only[Ex.out,Exit.inBlock];by_cases hi:i=id
  .subst hi;rw[if_pos rfl];have:Nat.beq i i=true:=Nat.beq_refl i;simp only[Acf,this,cond_true]at d;exact R .normal n1 E G z A a1 B d b D u j q f y hu
  .rw[if_neg hi];have:Nat.beq i id=false:=by
    cases hb:Nat.beq i id
    .rfl
    .exact (hi (Fj hb)).elim
   simp only[Acf,this,cond_false]at d;exact R (.exit i) n1 E G z A a1 B d b D u j q f y hu
 | ret=>exact R .ret n1 E G z A a1 B d b D u j q f y hu
theorem Ai3 (b:Aid a.tmps.size x=true) (c:Ee σ ι H e a) (B:ev e x = .val (.bool t)):a.eval x = .bool t:=by
 have d:=c.eval (x:=x) (λt u=>by cases x with| tmp q=>cases u;exact Gt b| _=>cases u)
 rw[B]at d;exact d.val_inv
theorem Ye (k:wc P C z X V U n e H) (d:ev e x = .val (.bool true):=by exact rfl):wc P C (.cond x z L) X V U n e H:=by intro I R F W σ ι a w Q b s y G hk;simp only[Kp,Ec]at b;refine wp_cond_true (Ai3 b.1.1 y d) (k I R F W σ ι a w Q b.1.2 s y G ?_);intro x n1 J M A B a1 D hq c E q i j f u hu;exact hk x n1 J M A B a1 D hq c E q i j f u (hu.mono (by simp[F1];exact λs h=>.inl h))
theorem Ru (k:wc P C z X V U n e H) (d:ev e x = .val (.bool false):=by exact rfl):wc P C (.cond x L z) X V U n e H:=by intro I R F W σ ι a w Q b s y G hk;simp only[Kp,Ec]at b;refine wp_cond_false (Ai3 b.1.1 y d) (k I R F W σ ι a w Q b.2 s y G ?_);intro x n1 J M A B a1 D hq c E q i j f u hu;exact hk x n1 J M A B a1 D hq c E q i j f u (hu.mono (by simp[F1];exact λs h=>.inr h))
theorem C8 {c:Operand} {a:Code} {m f:Option β} (h:(bif t then m else f)=some r) (h1:t=true->m=some r->wc P C a X V U n e H) (u:t=false->f=some r->wc P C b X V U n e H) (d:ev e c = .val (.bool t):=by exact rfl):wc P C (.cond c a b) X V U n e H:=by cases t with| true=>exact Ye (h1 rfl h) d| false=>exact Ru (u rfl h) d
theorem Ai4 {Y:List Nat} {l:List (Nat×AV)} {h:List (Nat×Bg)} {F D:Aw} {W w Z:World} {L:Bq} {a1:Act} {J:Hp} {e1:Bs} (hb:Im n l h=true) (hn:Fm H n) (s:St σ ι H F W w) (he:Ee σ ι H e a) (O:Fo e1 l) (S:Fv J (Bz H h) n n) (N:Le σ ι H D L J) (A:St D L J F W Z) (aa:Ee D L J e1 a1) (ab:a1.tmps.size=a.tmps.size) (a8:Ez Y a a1) : ∃G,Le σ ι H D G (Bz H h)/\St D G (Bz H h) F W Z/\Ee D G (Bz H h) (Ic Y e (λs=>a1.tmps.getD s undef) l) a1/\Fm (Bz H h) n:=by
 have a6:∀x,n<=x->ι x = .none:=by intro x d;have:=s.obj x;unfold Bw at this;rw[hn x d]at this;exact this
 have I:∀p∈h,p.1<n:=by intro p hp;unfold Im at hb;rw[Ec,Dh,Dh]at hb;exact Gt (hb.2 p hp)
 have R:∀p∈l,p.2.under n=true:=by intro p hp;unfold Im at hb;rw[Ec,Dh,Dh]at hb;exact hb.1 p hp
 have B:Fm (Bz H h) n:=by intro x d;rw[Re (λp hp e=>by have:=I p hp;omega)];exact hn x d
 let G:Bq:=λx=>if x<n then L x else .none
 have c:∀x,x<n->G x=L x:=λx d=>if_pos d;have f:∀x,x<n->Bz H h x=J x:=λx d=>((S.spec) x d).1.symm;have M:Le σ ι H D G (Bz H h):=by
  refine⟨N.sto,λx=>?_⟩;by_cases d:x<n
  .rw[c x d,f x d];exact N.obj x
  .rw[a6 x ω,hn x ω];exact HLe.of_none
 have s2:St D G (Bz H h) F W Z:=by
  refine⟨A.sto,A.fra,λx=>?_,?_,A.os,A.tape,A.output,A.glo,A.drw⟩
  .by_cases d:x<n
   .have u:=A.obj x;have j:=((S.spec) x d).2;unfold Bw at u ⊢;rw[f x d]at j ⊢;rw[c x d];cases k:J x with
    | none=>rw[k]at u;exact u
    | dead=>trivial
    | cells E cs=>rw[k]at u j;obtain⟨b,Cc,g1,g2,g3,g4,g5,g6⟩:=u;refine⟨b,Cc,g1,g2,g3,g4,g5,λq cq v hq a7=>(g6 q cq v hq a7).restrict c f ?_⟩;have:=Dh.1 j cq (Dz hq);exact Abt this
    | rows E sz xs=>rw[k]at u;exact u
    | map es=>rw[k]at u;exact u
    | nest E Ei sz ys=>rw[k]at u j;refine Gc.of rfl (λ_ _ q=>q) (λi y hy=>?_) u;cases y with| own xs=>exact hy| lent h' m'=>exact⟨h',hy,λv hc=>hc.restrict c f (Dh.1 j _ (Dz hy))⟩
   .unfold Bw;rw[B x ω];exact if_neg d
  .intro x y b X V bx U;have d:x<n:=by
    rcases Nat.lt_or_ge x n with d|d
    .exact d
    .rw[B x d]at X;cases X
   have hy:y<n:=by
    rcases Nat.lt_or_ge y n with hy|hy
    .exact hy
    .rw[B y hy]at V;cases V
   rw[f x d]at X;rw[f y hy]at V;rw[c x d]at bx;rw[c y hy]at U;exact A.inj x y b X V bx U
 refine⟨G,M,s2,?_,B⟩;intro q hq;rcases Ab1 Y e (λs=>a1.tmps.getD s undef) l q with⟨p,hp,rfl,z⟩|⟨hw,z⟩|⟨hw,z⟩
 .rw[z,<-O.spec p hp];refine (aa p.1 hq).restrict c f ?_;rw[O.spec p hp];exact R p hp
 .rw[z];exact .of_val _
 .rw[z,a8 q hw];exact (he q ω).mono M
theorem Ai5 {E:Type} {step:S->Option (S⊕E)} {s0:S} {J:E->Option β} (h:(Ak step s0).bind J=some r) (O:S->List (Nat×AV)) (G:S->List (Nat×Bg)) (q:S->Prop) (hb:∀s,Im n (O s) (G s)=true) (hs:Fo e (O s0)) (hh:Fv H (Bz H (G s0)) n n) (h0:q s0) (a8:∀(s:S) (u:Nat->Value) (K:Nat->Bs->Hp->Prop) (o:S⊕E),step s=some o->(∀x,.inr x=o->J x=some r)->(∀s' n' e' H',.inl s'=o->Fo e' (O s')->Fv H' (Bz H (G s')) n n->q s'->K n' e' H')->q s -> wc P C b K V U n (Ic (F1 b) e u (O s)) (Bz H (G s))):wc P C (.loop b) X V U n e H:=by
 intro hT hm F W σ ι a w Q aa s he hn hk;refine C7 h λx hx h=>?_;obtain⟨N,hN⟩:=Yc hx;let J':Nat->Act->World->Prop:=λk a' w'=>∃i σ' ι',(Hn step k i=some x/\q i)/\Le σ ι H σ' ι' (Bz H (G i))/\St σ' ι' (Bz H (G i)) F W w' /\
   Ee σ' ι' (Bz H (G i)) (Ic (F1 b) e (λs=>a'.tmps.getD s undef) (O i)) a'/\a'.tmps.size=a.tmps.size/\a'.defers=a.defers/\Ez (F1 b) a a'
 have j:∀(k:Nat) (i:S) (L:Aw) (Z:Bq) (H1:Hp) (e1:Bs) (a1:Act) (w1:World),(Hn step k i=some x/\q i)->Fo e1 (O i)->Fv H1 (Bz H (G i)) n n->Le σ ι H L Z H1->St L Z H1 F W w1->Ee L Z H1 e1 a1->a1.tmps.size=a.tmps.size ->
    a1.defers=a.defers->Ez (F1 b) a a1->J' k a1 w1:=by intro k i L Z H1 e1 a1 w1 hi ab ad A s1 d c f z;obtain⟨ι2,g1,g2,g3,_⟩:=Ai4 (hb i) hn s he ab ad A s1 d c z;exact⟨i,L,ι2,hi,g1,g2,g3,c,f,z⟩
 refine Aif J' N (j N s0 σ ι H e a w ⟨hN,h0⟩ hs hh (Le.refl _ _ _) s he rfl rfl (Ez.refl _ _)) ?_;rintro k a1 w1 ⟨i,L,Z,⟨hi,a7⟩,A,s1,d,c,f,z⟩;have af:Fm (Bz H (G i)) n:=by intro y hy;have Y:=hb i;unfold Im at Y;rw[Ec,Dh,Dh]at Y;rw[Re (λp hp e=>by have:=Gt (Y.2 p hp);omega)];exact hn y hy
 cases k with
 | zero=>cases hi
 | succ k=>
  simp only[Hn]at hi;cases ho:step i with
  | none=>rw[ho]at hi;cases hi
  | some o=>
   rw[ho]at hi;refine a8 i (λs=>a1.tmps.getD s undef) (λ_ e' H'=>∃s',(Hn step k s'=some x/\q s')/\Fo e' (O s')/\Fv H' (Bz H (G s')) n n) o ho ?_ ?_ a7 hT hm F W L Z a1 w1 _ (by rw[c];exact aa) s1 d af ?_
   .intro y hy;subst hy;simp only[Option.some.injEq]at hi;rw[hi];exact h
   .intro s' n' e' H' a3 h1 h2 h3;subst a3;exact⟨s',⟨hi,h3⟩,h1,h2⟩
   .intro x n2 e2 H2 σ2 ι2 a2 w2 hq M s2 a0 a6 I B D R;cases x with| normal=>obtain⟨i',ac,a3,ae⟩:=hq;exact⟨k,ω,j k i' σ2 ι2 H2 e2 a2 w2 ac a3 ae (A.trans M) s2 a0 (B.trans c) (D.trans f) (z.trans R)⟩| exit id=>exact hk (.exit id) n2 e2 H2 σ2 ι2 a2 w2 hq (A.trans M) s2 a0 a6 I (B.trans c) (D.trans f) (z.trans R)| ret=>exact hk .ret n2 e2 H2 σ2 ι2 a2 w2 hq (A.trans M) s2 a0 a6 I (B.trans c) (D.trans f) (z.trans R)
theorem Pq (J:S->Prop) (z:S->List (Nat×AV)) (A:S->List (Nat×Bg)) (hb:∀s,Im n (z s) (A s)=true) (Z:∀(K:Nat->Bs->Hp->Prop),(∀s d e' H',J s->Fo e' (z s)->Fv H' (Bz H (A s)) n n->K d e' H')->wc P C c K V U n e H) (Y:∀(s:S) (u:Nat->Value),J s->X n (Ic (F1 c) e u (z s)) (Bz H (A s))):wc P C c X V U n e H:=by intro hT hm F W σ ι a w Q G s O N hk;refine Z (λ_ e' H'=>∃s,J s/\Fo e' (z s)/\Fv H' (Bz H (A s)) n n) (λs _ _ _ h1 h2 h3=>⟨s,h1,h2,h3⟩) hT hm F W σ ι a w _ G s O N ?_;intro x n1 R a2 B M a1 D hq f E j q y b k hu;cases x with| normal=>obtain⟨i,hi,I,L⟩:=hq;obtain⟨a0,g1,g2,g3,g4⟩:=Ai4 (hb i) N s O I L f E j b hu;exact hk .normal n _ _ B a0 a1 D (Y i (λs=>a1.tmps.getD s undef) hi) g1 g2 g3 g4 (Nat.le_refl _) b k hu| exit id=>exact hk (.exit id) n1 R a2 B M a1 D hq f E j q y b k hu| ret=>exact hk .ret n1 R a2 B M a1 D hq f E j q y b k hu
theorem Ati (I:C3 P C.T) (hm:P.follows .mixedOrders=true) {args:List AV} {r:AV} (X:P.funcs[f]? = some fn) (hb:fn.body=some c) (i:(fn.name == "runtime.NumGoroutine")=false) (b:Rr fn c args.length=true) (j:r.free=true) (M:wc P C c (λ_ e H=>Pm C.T fn.results.toList (· = r) e H) (λ_ _ _ _=>False) (λ_ e H=>Pm C.T fn.results.toList (· = r) e H) 0 (Rq args) H0):A4 P f args r:=by
 unfold Rr at b;simp only[Ec]at b;obtain⟨⟨A,B⟩,J⟩:=b;have J:=Fu J;refine⟨⟨fn,X,i,by rw[hb];rfl⟩,λσ F W w vs s hc=>?_⟩;have u:(vs++Array.replicate (fn.ntmps-vs.size) undef).size=fn.ntmps:=by have:=hc.1;simp;omega
 refine calls_of_wp X hb (M I hm F W σ ι0 _ w _ (by rw[u];exact A) s (Aim hc) (λ_ _=>rfl) ?_);intro x S e' H' σ' ι' G w' d le s' D _ _ k E _;have y:∀q∈fn.results.toList,Pn q<G.tmps.size:=by intro q V;rw[k];have:=Gt (Dh.1 B q V);rw[u];exact this
 have fin:Pm C.T fn.results.toList (· = r) e' H'->G.defers = []/\∃v,(results fn G.tmps).run P w' = .ok v w'/\∃v0 z,Ending.returned v = .returned v0/\σ.le z/\St z ι0 H0 F W w'/\Conc z ι0 H0 r v0:=by intro d;obtain⟨v,L,U,R,h1,h2,h3,O,N⟩:=As2 I s' D y d;subst h2;exact⟨E,v,h1,v,L,rfl,Aw.le_trans le.sto h3.sto,O.forget,N.to0 j⟩
 cases x with| normal=>exact fin d| ret=>exact fin d| exit id=>exact d.elim
theorem Atj (fz:Bool) (X:C3 P C.T) (hm:P.follows .mixedOrders=true) {args:List AV} {r:AV} {E b:List Bg} (hf:P.funcs[f]? = some fn) (hb:fn.body=some c) (y:(fn.name == "runtime.NumGoroutine")=false) (u:Rr fn c args.length=true) (j:Ya E r b=true) (hv:wc P C c (λ_ e H=>Pp C.T fz fn.results.toList r b e H) (λ_ _ _ _=>False) (λ_ e H=>Pp C.T fz fn.results.toList r b e H) E.length (Rq args) (hp E)):Bt P f args E r b:=by
 unfold Rr at u;unfold Ya at j;simp only[Ec]at u j;obtain⟨⟨L,N⟩,Y⟩:=u;obtain⟨⟨I,M⟩,R⟩:=j;have I:=Fu I;have Y:=Fu Y;refine⟨⟨fn,hf,y,by rw[hb];rfl⟩,λσ F W w ι vs s hc=>?_⟩;have D:(vs++Array.replicate (fn.ntmps-vs.size) undef).size=fn.ntmps:=by have:=hc.1;simp;omega
 refine calls_of_wp hf hb (hv X hm F W σ ι _ w _ (by rw[D];exact L) s (Aim hc) (λ_ h=>N6 h) ?_);intro x n' e' H' σ' ι' V w' d le s' S _ _ B U _;have G:∀q∈fn.results.toList,Pn q<V.tmps.size:=by intro q a0;rw[B];have:=Gt (Dh.1 N q a0);rw[D];exact this
 have fin:Pp C.T fz fn.results.toList r b e' H'->V.defers = []/\∃v,(results fn V.tmps).run P w' = .ok v w'/\∃v0 J ι0,Ending.returned v = .returned v0/\Le σ ι (hp E) J ι0 (hp b)/\St J ι0 (hp b) F W w'/\Conc J ι0 (hp b) r v0:=by
  intro d;obtain⟨v,Z,H2,h1,h2,h3,h4,h5⟩:=As3 X s' S G d;have z:∀i,i<b.length->H2 i=hp b i:=λi hi=>by simpa using h2.spec i hi
  refine⟨U,v,h1,v,Z,λk=>if k<b.length then ι' k else .none,rfl,?_,h4.first b z R,?_⟩
  .have A:=le.trans h3;refine⟨A.sto,λk=>?_⟩;by_cases hk:k<b.length
   .rw[if_pos hk,<-z k hk];exact A.obj k
   .rw[if_neg hk,N6 ω,N6 ω];have:ι k = .none:=(by have:=s.obj k;unfold Bw at this;rw[N6 ω]at this;exact this);rw[this];exact HLe.refl _ _
  .exact h5.restrict (n:=b.length) (λh O=>if_pos O) (λh O=>(z h O).symm) M
 cases x with| normal=>exact fin d| ret=>exact fin d| exit id=>exact d.elim
end
def NL {α:Type} (g:List α->List AV) (l:List (List α)):List NC:=l.map λxs=>.own (g xs)
section
variable {α β:Type} {r:β} {g:List α->List AV} {l:List (List α)} {xs zs:List α} {n h m kk sz:Nat}
variable {i:Int} {K:List NC->Prop} {b h0 k:Nat} {γ:Type} {a:List γ}
theorem Cu {x:γ} (d:a[n]? = some x):n<a.length:=(Eo.1 d).1
theorem Ai6 (d:l[n]? = some xs):(NL g l)[n]? = some (.own (g xs)):=by unfold NL;rw[getElem?_map,d];rfl
theorem Ai7:(NL g l).set n (.own (g zs))=NL g (l.set n zs):=by unfold NL;rw[map_set]
theorem Uf:(NL g l).length=l.length:=length_map _
def mkN (α:Type) (b:Nat) (l c:Int):Option (List (List α)) := bif decide (l=c)&&decide (0<=l)&&decide (l<=100000)&&decide (b*l.toNat<=281474976710656) then some (replicate l.toNat []) else none
theorem Ks {c:Int} {f:List (List α)->Option β} {K:Nat->List NC->Prop} (s:g [] = []) (j:(mkN α b i c).bind f=some r) (k:∀o:List (List α),f o=some r->K o.length (NL g o)):Aht i c b K:=by unfold mkN at j;cases d:(decide (i=c)&&decide (0<=i)&&decide (i<=100000)&&decide (b*i.toNat<=281474976710656)) with| false=>rw[d]at j;cases j| true=>rw[d]at j;simp only[Ec,decide_eq_true_eq]at d;obtain⟨⟨⟨h1,B⟩,D⟩,u⟩:=d;have q:=k _ j;rw[length_replicate]at q;refine .mk i.toNat _ ω ω ω u rfl ?_;have e:(replicate i.toNat (NC.own []):List NC)=NL g (replicate i.toNat []):=(by unfold NL;rw[map_replicate,s]);rw[e];exact q
theorem Fp {f:List α->Option β} {K:Nat->Prop} (d:kk=l.length) (c:(Af l i).bind f=some r) (k:∀(n:Nat) (x:List α),i=n->l[n]? = some x->f x=some r->K n):I3 kk i K:=by refine C7 c λx u B=>?_;obtain⟨n,hi,b⟩:=Ab8 u;exact .mk n hi (by rw[d];exact (Eo.1 b).1) (k n x hi b B)
theorem Ie {K:List NC->List AV->Nat->Prop} (b:(g xs).length=xs.length) (d:l[n]? = some xs) (k:K ((NL g l).set n (.lent h xs.length)) (g xs) xs.length):Abm (NL g l) n h K :=
 .mk (g xs) _ xs.length (Ai6 d) b rfl k
theorem Ai8 {n:Nat} {z:γ} (hi:i=n):Bk a i z=a.set n z:=by subst hi;rfl
theorem Kt {h:Nat} (b:k=m) (hi:n<l.length) (kk:K ((NL g l).set n (.lent h m))):Xu (NL g l) n h k m K :=
 .mk _ b (by rw[Uf];exact hi) rfl kk
theorem Lk {h:Nat} (c:k=m) (hi:n<l.length) (kk:K ((NL g l).set n (.lent h m))):Xu ((NL g l).set n (.lent h0 b)) n h k m K :=
 .mk _ c (by rw[length_set,Uf];exact hi) (List.set_set ..) kk
theorem Acj {h n1:Nat} {x:NC} (c:k=m) (hi:n<l.length) (kk:K (((NL g l).set n1 x).set n (.lent h m))):Xu (((NL g l).set n1 x).set n (.lent h0 b)) n h k m K :=
 .mk _ c (by rw[length_set,length_set,Uf];exact hi) (List.set_set ..) kk
theorem Jq {K:List AV->Prop} {f:List α->AV} (d:∀xs,f xs = .sl sz (g xs)) (u:kk=l.length) (k:K (l.map f)):Aip (NL g l) kk sz K:=by
 refine .mk (l.map g) _ (by unfold NL;rw[map_map];rfl) (by rw[length_map];exact u.symm) rfl ?_;have e:(l.map g).map (AV.sl sz)=l.map f:=by rw[map_map];exact map_congr_left λx _=>(d x).symm
 rw[e];exact k
theorem F8 {as:List AV} (b:L0 as (g xs)) (f:(g xs).length=xs.length) (d:m=xs.length) (hi:i=n) (c:n<l.length) (k:K (NL g (Bk l i xs))):Ab4 ((NL g l).set n (.lent h m)) h m as K :=
 .mk n (g xs) _ b (b.1.symm.trans (f.trans d.symm)) (getElem?_set_self (by rw[Uf];exact c)) (by rw[List.set_set,Ai7,Ai8 hi]) k
def neG (a b:Int):Option Unit:=bif a != b then some () else none
theorem Ack {a b:Int} {f:Unit->Option β} {G:Prop} (c:(neG a b).bind f=some r) (k:a≠b->f ()=some r->G):G:=by unfold neG at c;cases d:a != b with| false=>rw[d]at c;cases c| true=>rw[d]at c;exact k (by simpa using d) c
variable {n1 h1 u:Nat}
variable {as:List AV} {N:Nat} {E Ei:TypeId}
theorem neN {a b:Int} (h:a≠b) (f:a=n1) (c:b=n):n1≠n:=by omega
theorem Acl {K:List NC->List AV->Nat->Prop} (b:n1≠n) (c:(g xs).length=xs.length) (d:l[n]? = some xs) (k:K (((NL g l).set n1 (.lent h1 u)).set n (.lent h xs.length)) (g xs) xs.length) : Abm ((NL g l).set n1 (.lent h1 u)) n h K :=
 .mk (g xs) _ xs.length (by rw[getElem?_set_ne b];exact Ai6 d) c rfl k
theorem Acm {K:List NC->Prop} {i:Int} (c:n1≠n) (b:L0 as (g xs)) (j:(g xs).length=xs.length) (d:m=xs.length) (hi:i=n) (f:n<l.length) (k:K ((NL g (Bk l i xs)).set n1 (.lent h1 u))) : Ab4 (((NL g l).set n1 (.lent h1 u)).set n (.lent h m)) h m as K :=
 .mk n (g xs) _ b (b.1.symm.trans (j.trans d.symm)) (getElem?_set_self (by rw[length_set,Uf];exact f)) (by rw[List.set_set,List.set_comm _ _ c,Ai7,Ai8 hi]) k
theorem Gl:(Bg.nest E Ei sz (NL g l)).under N=true:=by unfold NL;simp only[Bg.under,all_map];exact Dh.2 λ_ _=>rfl
theorem M5:(Bg.nest E Ei sz (NL g l)).fixd=true:=by unfold NL;simp only[Bg.fixd,all_map];exact Dh.2 λ_ _=>rfl
theorem Ug (hb:Nat.blt h N=true):(Bg.nest E Ei sz ((NL g l).set n (.lent h m))).under N=true:=by
 refine Dh.2 λy d=>?_;rcases mem_or_eq_of_mem_set d with q|q
 .exact Dh.1 (Gl (E:=E) (Ei:=Ei) (sz:=sz) (N:=N) (g:=g) (l:=l)) y q
 .subst q;exact hb
theorem Acn {f:α->AV} (q:∀l,g l=l.map f) {l:List α} {z y:α} {c:List α} {bs:List AV} {b len:Nat} {K:List AV->Nat->Prop} {u:List AV->Nat->Nat->Prop} (h1:Bl b l [z]=some c) (s:as=l.map f) (i:bs = [f y]) (d:kk=l.length) (j:len=l.length) (k:K (g (Bk c ((l.length:Nat):Int) y)) (Bk c ((l.length:Nat):Int) y).length):Kl as bs kk len b K u:=by
 unfold Bl at h1;split at h1
 .rename_i B;cases h1;have e:Bk (l++[z]) ((l.length:Nat):Int) y=l++[y]:=(by unfold Bk;simp);rw[e]at k;subst s;subst i;subst d;subst j;refine .mk (g (l++[y])) (l++[y]).length ψ rfl (by simpa using B) (by rw[q];simp) ψ k
 .cases h1
end
section
variable {P:Program} {C:Cfg} {X:Nat->Bs->Hp->Prop} {V:Nat->Nat->Bs->Hp->Prop} {U:Nat->Bs->Hp->Prop} {n:Nat} {e:Bs} {H:Hp}
variable {id:Nat} {tb:TypeId}
def Aco (p:Prop):Prop:=p
theorem Acp {b y:Nat} {j i f c:TypeId} {x u s q:String} {a0 a1 a2 z:Array Edge} (k:Aco (wc P C (.region id [⟨some b,.alloc tb,j,x,a0,none⟩,⟨none,.store tb (.tmp b) (.const (.bool true)),i,u,a1,none⟩,⟨none,.store tb (.tmp b) (.const (.bool false)),f,s,a2,none⟩,⟨some y,.load tb (.tmp b),c,q,z,none⟩].toArray true) X V U n e H)) : wc P C (.region id [⟨some b,.alloc tb,j,x,a0,none⟩,⟨none,.store tb (.tmp b) (.const (.bool true)),i,u,a1,none⟩,⟨none,.store tb (.tmp b) (.const (.bool false)),f,s,a2,none⟩,⟨some y,.load tb (.tmp b),c,q,z,none⟩].toArray true) X V U n e H:=k
theorem J2.wpOp {ops:Array Oper} {acc:Acc} {F:Aw} {W:World} {Q:Exit->Act->World->Prop} {i:Nat} {o:Oper} {r:AV} {c:List (Nat×Bg)} (h:J2 P ops acc i o e H r c) {σ:Aw} {ι:Bq} {a:Act} {w:World} (s:St σ ι H F W w) (q:Ee σ ι H e a) (j:Ty ops a.tmps.size) {K:Act->World->Prop} (hk:∀σ' ι' b w',Le σ ι H σ' ι' (Bz H c)->St σ' ι' (Bz H c) F W w'->Ee σ' ι' (Bz H c) (put e o.dst r) b->b.tmps.size=a.tmps.size->b.defers=a.defers->Ez (N2 ops) a b->K b w') : Go.wpOp P ops Q i K a w := (Run.cons o r c h (.nil _ _)).wpOp s q j λ_ _ k σ' ι' b w' le d f h1 h2 h3=>by cases k;exact hk σ' ι' b w' le d f h1 h2 h3
def Acq (T:Cw) (j f c b:Oper) (tb:TypeId):Bool := (match T tb with
   | some i=>!i.isAgg&&Nat.beq i.size 1&&(match i.zero with|[.bool false]=>true|_=>false)
   | none=>false) && Region.ready .any #[j,f,c,b] #[false,false,false,false]==[0]&&Region.ready .any #[j,f,c,b] #[true,false,false,false]==[1,2] && Region.ready .any #[j,f,c,b] #[true,true,false,false]==[2]&&Region.ready .any #[j,f,c,b] #[true,false,true,false]==[1] && Region.ready .any #[j,f,c,b] #[true,true,true,false]==[3]&&Region.ready .any #[j,f,c,b] #[true,true,true,true]==[]
theorem Atk {L J I G:Oper} {M d3:Nat} (hc:Acq C.T L J I G tb=true) (h0:L.op = .alloc tb/\L.dst=some M/\L.guard=none) (h1:J.op = .store tb (.tmp M) (.const (.bool true))/\J.dst=none/\J.guard=none) (h2:I.op = .store tb (.tmp M) (.const (.bool false))/\I.dst=none/\I.guard=none) (h3:G.op = .load tb (.tmp M)/\G.dst=some d3/\G.guard=none) (k:∀b:Bool,X (n+1) (Aj (Aj e M (.loc n 0)) d3 (.val (.bool b))) (Aj H n (.cells tb [.val (.bool b)]))) : wc P C (.region id [L,J,I,G].toArray true) X V U n e H:=by
 intro hT hm F W σ ι a w Q af s he hn hk;unfold Acq at hc;simp only[Ec,beq_iff_eq]at hc;obtain⟨⟨⟨⟨⟨⟨ht,r0⟩,r1⟩,r2⟩,r3⟩,r4⟩,r5⟩:=hc;cases B:C.T tb with
 | none=>rw[B]at ht;cases ht
 | some ib=>
  rw[B]at ht;simp only[Ec,Bool.not_eq_true']at ht;obtain⟨⟨ae,ad⟩,a7⟩:=ht;have a8:=Fj ad;have hz:ib.zero = [.bool false]:=by
   split at a7
   .assumption
   .cases a7
  let ops:Array Oper:=#[L,J,I,G]
  let acc:Acc:=λ_=>([n],[n])
  have ai:=hn n (Nat.le_refl _);let d:Bs:=put e (some M) (.loc n 0)
  let j:Bool->Hp:=λb=>Aj H n (.cells tb [.val (.bool b)])
  have D:∀b c,Aj (j b) n (.cells tb [.val (.bool c)])=j c:=λb c=>by
   funext x;by_cases q:x=n
   .subst q;show Aj (j b) x _ x=Aj H x _ x;rw[Ba,Ba]
   .show Aj (Aj H n _) n _ x=Aj H n _ x;rw[Be _ _ q,Be _ _ q,Be _ _ q]
  have ab:∀b,j b n = .cells tb [.val (.bool b)]:=λb=>Ba _ _ _;have ac:ev d (.tmp M) = .loc n 0:=Ba _ _ _;have guard:∀o:Oper,o.guard=none->∀e',Jc ops o e' true:=λo h e'=>by unfold Jc;rw[h]
  have D0:J2 P ops acc 0 L e H (.loc n 0) [(n,.cells tb [.val (.bool false)])]:=by
   refine⟨rfl,.inl ⟨guard L h0.2.2 e,_,Agz hT n h0.1 B,?_,?_,?_,rfl,by rw[hz];rfl⟩⟩
   .intro p hp;simp at hp;subst hp;exact ai
   .intro p hp;simp at hp;subst hp;simp[acc]
   .intro p hp;simp at hp;subst hp;simp[acc]
  have DS:∀(i:Nat) (o:Oper) (b c:Bool),ops[i]? = some o->o.op = .store tb (.tmp M) (.const (.bool c))->o.guard=none->J2 P ops acc i o d (j b) (.val undef) [(n,.cells tb [.val (.bool c)])]:=by
   intro i o b c ho ag hg;refine⟨ho,.inl ⟨guard o hg d,_,Ag1 (cs:=[.val (.bool b)]) (E:=tb) hT ag B ac (by rw[a8];rfl) (by rw[a8];exact Nat.le_refl _) rfl,?_,?_,?_,rfl,rfl⟩⟩
   .intro p hp;simp at hp;subst hp;exact ab b
   .intro p hp;simp at hp;subst hp;simp[acc]
   .intro p hp;simp at hp;subst hp;simp[acc]
  have DL:∀b:Bool,J2 P ops acc 3 G d (j b) (.val (.bool b)) []:=by
   intro b;refine⟨rfl,.inl ⟨guard G h3.2.2 d,_,Ag0 (E:=tb) (cs:=[.val (.bool b)]) hT h3.1 B ae ac rfl,?_,?_,?_,rfl,rfl⟩⟩
   .intro p hp;simp at hp;subst hp;exact ab b
   .intro p hp;simp at hp;subst hp;simp[acc]
   .intro p hp;simp at hp
  let ef:Bool->Bs:=λb=>put d (some d3) (.val (.bool b))
  have aa:∀(b:Bool) (σ':Aw) (ι':Bq) (Y:Act) (w':World),Le σ ι H σ' ι' (j b)->St σ' ι' (j b) F W w'->Ee σ' ι' (j b) (ef b) Y->Y.tmps.size=a.tmps.size->Y.defers=a.defers->Ez (N2 ops) a Y->Q .normal Y w':=(by intro b σ' ι' Y w' le s' ah g1 g2 g3;exact hk .normal (n+1) (ef b) (j b) σ' ι' Y w' (k b) le s' ah (λm hm=>by show Aj H n _ m=_;rw[Be _ _ ω];exact hn m ω) (Nat.le_succ _) g1 g2 g3);have A:=Aig af;refine wp_region_any hm ?_;show wpAny P .any ops Q 4 #[false,false,false,false] a _;have aj:(#[false,false,false,false]:Array Bool).setIfInBounds 0 true = #[true,false,false,false]:=rfl;refine⟨λq=>by rw[r0]at q;exact (List.cons_ne_nil _ _ q).elim,λi hi=>?_⟩;rw[r0]at hi;simp only[mem_singleton]at hi;subst hi;refine D0.wpOp (s.drew _) he A ?_;intro σ1 ι1 a1 w1 a6 s1 a0 z1 y1 u1;rw[h0.2.1]at a0;have a5:∀(b:Bool) (Z:Aw) (ι2:Bq) (a2:Act) (N:World),Le σ ι H Z ι2 (j b)->St Z ι2 (j b) F W N->Ee Z ι2 (j b) d a2->a2.tmps.size=a.tmps.size->a2.defers=a.defers->Ez (N2 ops) a a2 ->
    wpAny P .any ops Q 1 #[true,true,true,false] a2 N:=by intro b Z ι2 a2 N z R u z2 y2 u2;refine⟨λq=>by rw[r4]at q;exact (List.cons_ne_nil _ _ q).elim,λi hi=>?_⟩;rw[r4]at hi;simp only[mem_singleton]at hi;subst hi;refine (DL b).wpOp R u (by rw[z2];exact A) ?_;intro σ3 ι3 a3 w3 y O f z3 y3 u3;rw[h3.2.1]at f;exact⟨r5,aa b σ3 ι3 a3 w3 (z.trans y) O f (z3.trans z2) (y3.trans y2) (u2.trans u3)⟩
  show wpAny P .any ops Q 3 #[true,false,false,false] a1 w1;refine⟨λq=>by rw[r1]at q;exact (List.cons_ne_nil _ _ q).elim,λi hi=>?_⟩;rw[r1]at hi;simp only[mem_cons,not_mem_nil,or_false]at hi;rcases hi with rfl|rfl
  .refine (DS 1 J false true rfl h1.1 h1.2.2).wpOp s1 a0 (by rw[z1];exact A) ?_;intro Z ι2 a2 N z R u z2 y2 u2;rw[h1.2.1]at u;have a4:Bz (j false) [(n,.cells tb [.val (.bool true)])]=j true:=D false true;rw[a4]at z R u;show wpAny P .any ops Q 2 #[true,true,false,false] a2 N;refine⟨λq=>by rw[r2]at q;exact (List.cons_ne_nil _ _ q).elim,λi hi=>?_⟩;rw[r2]at hi;simp only[mem_singleton]at hi;subst hi;refine (DS 2 I true false rfl h2.1 h2.2.2).wpOp R u (by rw[z2,z1];exact A) ?_;intro σ3 ι3 a3 w3 y O f z3 y3 u3;rw[h2.2.1]at f;have S:Bz (j true) [(n,.cells tb [.val (.bool false)])]=j false:=D true false;rw[S]at y O f;exact a5 false σ3 ι3 a3 w3 ((a6.trans z).trans y) O f (z3.trans (z2.trans z1)) (y3.trans (y2.trans y1)) ((u1.trans u2).trans u3)
  .refine (DS 2 I false false rfl h2.1 h2.2.2).wpOp s1 a0 (by rw[z1];exact A) ?_;intro Z ι2 a2 N z R u z2 y2 u2;rw[h2.2.1]at u;have a4:Bz (j false) [(n,.cells tb [.val (.bool false)])]=j false:=D false false;rw[a4]at z R u;show wpAny P .any ops Q 2 #[true,false,true,false] a2 N;refine⟨λq=>by rw[r3]at q;exact (List.cons_ne_nil _ _ q).elim,λi hi=>?_⟩;rw[r3]at hi;simp only[mem_singleton]at hi;subst hi;refine (DS 1 J false true rfl h1.1 h1.2.2).wpOp R u (by rw[z2,z1];exact A) ?_;intro σ3 ι3 a3 w3 y O f z3 y3 u3;rw[h1.2.1]at f;have S:Bz (j false) [(n,.cells tb [.val (.bool true)])]=j true:=D false true;rw[S]at y O f;exact a5 true σ3 ι3 a3 w3 ((a6.trans z).trans y) O f (z3.trans (z2.trans z1)) (y3.trans (y2.trans y1)) ((u1.trans u2).trans u3)
theorem Acr {k j i f:Oper} {c q:Nat} (d:Acq C.T k j i f tb=true) (h0:k.op = .alloc tb/\k.dst=some c/\k.guard=none) (h1:j.op = .store tb (.tmp c) (.const (.bool true))/\j.dst=none/\j.guard=none) (B:i.op = .store tb (.tmp c) (.const (.bool false))/\i.dst=none/\i.guard=none) (D:f.op = .load tb (.tmp c)/\f.dst=some q/\f.guard=none) (s:X (n+1) (Aj (Aj e c (.loc n 0)) q (.val (.bool true))) (Aj H n (.cells tb [.val (.bool true)]))) (u:X (n+1) (Aj (Aj e c (.loc n 0)) q (.val (.bool false))) (Aj H n (.cells tb [.val (.bool false)]))) : Aco (wc P C (.region id [k,j,i,f].toArray true) X V U n e H):=Atk d h0 h1 B D λb=>by cases b;exact u;exact s
end
variable {a:Act} {P:Program} {w:World}
theorem Ai9 {id:Nat}:∀{k b:List Item},exitTo id k=some b->b.length<k.length
 | [],b,h=>by cases h
 | x::k,b,h=>by
  have ih:exitTo id k=some b->b.length<(x::k).length:=λh=>Nat.lt_succ_of_lt (Ai9 h);unfold exitTo at h;split at h
  .rename_i f c d;cases d;split at h
   .cases h;simp
   .exact ih h
  .rename_i i c _ d;cases d;exact ih h
  .rename_i d;cases d
theorem Acs {m u c:Machine} (h:step P m = .next u) (h':Steps P m c):c=m\/Steps P u c:=by obtain⟨n,b⟩:=h';cases n with| zero=>left;simp only[runN,Stepped.next.injEq]at b;exact b.symm| succ n=>right;simp only[runN,h]at b;exact⟨n,b⟩
theorem Aja {b:Frame} {f:Act} {k c:List Item} {cs:List Frame} {w':World} (h:lone (b.at a k) cs w=lone (b.at f c) cs w'):k=c:=by simp only[lone,Machine.mk.injEq,Array.mk.injEq,List.cons.injEq,Goroutine.mk.injEq,Frame.at,Frame.mk.injEq]at h;exact h.2.1.1.1.2.2.1
def Atl:Exit->Bool
 | .normal | .exit _ | .ret=>true
 | _=>false
theorem Atm {Q:Exit->Act->World->Prop} {c:Code} (h:c.wp P (Exit.then (λE w'=>(Code.loop c).wp P (λe a w=>Atl e=true/\Q e a w) E w') Q) a w):(Code.loop c).wp P Q a w:=by
 intro b k cs;obtain⟨e,d,j,I,f⟩:=h b (.inLoop c::k) cs;have first:Steps P (lone (b.at a (.code (.loop c)::k)) cs w) (lone (b.at a (.code c :: .inLoop c::k)) cs w):=.one step_loop
 cases e with
 | normal=>
  obtain⟨y,U,z,⟨u,s⟩,i⟩:=I b k cs;have q:Steps P (lone (b.at a (.code (.loop c)::k)) cs w) (lone (b.at d (.code c :: .inLoop c::k)) cs j):=first.trans (Steps.trans f (.one step_inLoop));refine⟨y,U,z,s,.of_steps q ?_⟩;cases y with
  | normal=>
   rcases Acs step_loop i with e|e
   .have:=congrArg length (Aja e);simp at this
   .exact e
  | exit id=>
   intro A R;rcases Acs step_loop (i A R) with e|e
   .have h1:=Ai9 R;have V:=congrArg length (Aja e);simp at V;omega
   .exact e
  | ret=>
   obtain⟨M,B⟩:=i;rcases Acs step_loop B with e|e
   .simp only[lone,Machine.mk.injEq,Array.mk.injEq,List.cons.injEq,Goroutine.mk.injEq,Frame.at,Frame.mk.injEq]at e;simp at e
   .exact⟨M,e⟩
  | goto l=>cases u
  | panic D=>cases u
  | outgrown=>cases u
 | exit id=>exact⟨_,d,j,I,.of_steps first (.pass (x:=.inLoop c) rfl (λ_ _=>.inl ψ) f)⟩
 | goto l=>exact⟨_,d,j,I,.of_steps first (.pass (x:=.inLoop c) rfl (λ_ _=>.inl ψ) f)⟩
 | ret=>exact⟨_,d,j,I,.of_steps first (.pass (x:=.inLoop c) rfl (λ_ _=>.inl ψ) f)⟩
 | panic D=>exact⟨_,d,j,I,.of_steps first (.pass (x:=.inLoop c) rfl (λ_ _=>.inl ψ) f)⟩
 | outgrown=>exact⟨_,d,j,I,.of_steps (b:=b) (k:=k) (cs:=cs) (e:=.outgrown) first (.pass (x:=.inLoop c) rfl (λ_ _=>.inl ψ) f)⟩
section
variable {P:Program} {C:Cfg} {X:Nat->Bs->Hp->Prop} {V:Nat->Nat->Bs->Hp->Prop} {U:Nat->Bs->Hp->Prop} {n:Nat} {e:Bs} {H:Hp}
theorem Uh {c:Code} (k:wc P C c (λn e H=>wc P C (.loop c) X V U n e H) V U n e H):wc P C (.loop c) X V U n e H:=by intro R hm F W σ ι a w Q y s he hn hk;refine Atm (k R hm F W σ ι a w _ y s he hn ?_);intro x n1 S a3 B D a1 E hq f G j i z b q hu;cases x with| normal=>refine hq R hm F W B D a1 E _ (by rw[b];exact y) G j i ?_;intro x n2 e2 H2 a0 d a2 Y L I Z N M O u A J;exact⟨by cases x <;> rfl,hk x n2 e2 H2 a0 d a2 Y L (f.trans I) Z N M ω (u.trans b) (A.trans q) (hu.trans J)⟩| exit id=>exact hk (.exit id) n1 S a3 B D a1 E hq f G j i z b q hu| ret=>exact hk .ret n1 S a3 B D a1 E hq f G j i z b q hu
def Vw (x:AV) (v:Value):Prop:=∀sz xs,x = .sl sz xs->∃p c,v = .slice p xs.length c/\(p=none->xs = [])
theorem Ui {c:Code} (s:Nat) (k:∀v,Vw (e s) v->wc P C c X V U n (Aj e s (.val v)) H):wc P C c X V U n e H:=by
 intro A I F W σ ι a w Q f y x z M;by_cases B:s<a.tmps.size
 .have R:=x s B;refine k (a.tmps.getD s undef) ?_ A I F W σ ι a w Q f y ?_ z M
  .intro sz xs hx;rw[hx]at R;rcases R.sl_inv.sl_inv with⟨rfl,p,d,e⟩|⟨b,a0,d,C,E,fr,g,e,_⟩
   .exact⟨p,d,e,λ_=>rfl⟩
   .exact⟨_,d,e,λh=>by cases h⟩
  .intro q D;by_cases h:q=s
   .subst h;rw[Ba];exact .of_val _
   .rw[Be _ _ h];exact x q D
 .have u:∃v,Vw (e s) v:=(by cases hx:e s with| sl sz xs=>exact⟨.slice (some ⟨0,0,none⟩) xs.length 0,λj i h=>by cases h;exact⟨_,_,rfl,λh=>by cases h⟩⟩| _=>exact⟨undef,λj i h=>by cases h⟩);obtain⟨v,u⟩:=u;refine k v u A I F W σ ι a w Q f y ?_ z M;intro q D;rw[Be _ _ ω];exact x q D
end
variable {F σ:Aw} {O o:Bg} {ι:Bq} {H:Hp} {h h' k n:Nat} {W:World}
def mvO:Bg->Prop
 | .rows _ _ _=>True
 | .nest _ _ _ ys=>∀(i h m:Nat),ys[i]?≠some (.lent h m)
 | _=>False
def mvV:Bg->Nat->Nat->AV
 | .nest _ _ _ _,h,k=>.vec h k
 | _,h,k=>.arr h k 0 k
theorem mvO.live (h:mvO o):o.live=true:=by cases o <;> first|rfl|exact h.elim
theorem mvO.ne (h:mvO o):o≠.none:=by intro e;subst e;exact h
theorem St.move {w:World} (s:St σ ι H F W w) (I:mvO O) (G:Fm H n) (B:H h=O) : St σ (Aj ι n (ι h)) (Aj (Aj H h .dead) n O) F W w/\Le σ ι H σ (Aj ι n (ι h)) (Aj (Aj H h .dead) n O):=by
 have S:h≠n:=λe=>by rw[e,G n (Nat.le_refl _)]at B;exact I.ne B.symm
 have D:ι n = .none:=by have:=s.obj n;unfold Bw at this;rw[G n (Nat.le_refl _)]at this;exact this
 have le:Le σ ι H σ (Aj ι n (ι h)) (Aj (Aj H h .dead) n O):=by
  refine⟨Aw.le_refl σ,λx=>?_⟩;by_cases e:x=n
  .subst e;rw[D,G x (Nat.le_refl _)];exact HLe.of_none
  .rw[Be _ _ e,Be _ _ e];by_cases j:x=h
   .subst j;rw[Ba,B];exact⟨λ_ q=>q,λ_ q=>(by cases q),λ_ _ _ _ q=>(by cases q)⟩
   .rw[Be _ _ j];exact HLe.refl _ _
 refine⟨⟨s.sto,s.fra,λx=>?_,λx y b u R A J=>?_,s.os,s.tape,s.output,s.glo,s.drw⟩,le⟩
 .by_cases e:x=n
  .subst e;have f:=s.obj h;unfold Bw at f ⊢;rw[B]at f;rw[Ba,Ba];cases O with| rows E sz xs=>exact f| nest E Ei sz ys=>exact Gc.keep le (λ_ _=>⟨λq=>q,λq=>q,rfl⟩) f| _=>exact I.elim
  .by_cases j:x=h
   .subst j;unfold Bw;rw[Be _ _ e,Ba];trivial
   .have f:=s.obj x;unfold Bw at f ⊢;rw[Be _ _ e,Be _ _ j,Be _ _ e];cases hx:H x with| cells T cs=>rw[hx]at f;obtain⟨b,C,d,V,X,g4,g5,g6⟩:=f;exact⟨b,C,d,V,X,g4,g5,λi c v q N=>(g6 i c v q N).mono le⟩| none=>rw[hx]at f;exact f| dead=>trivial| rows T z ys=>rw[hx]at f;exact f| map es=>rw[hx]at f;exact f| nest T Ei z ys=>rw[hx]at f;exact Gc.keep le (λ_ _=>⟨λq=>q,λq=>q,rfl⟩) f
 .have k:∀x b,((Aj (Aj H h .dead) n O) x).live=true->((Aj ι n (ι h)) x).has b->∃y,(H y).live=true/\(ι y).has b/\((x=n/\y=h)\/(x≠n/\x≠h/\y=x)):=by
   intro x b u A;by_cases e:x=n
   .subst e;rw[Ba]at A;exact⟨h,by rw[B];exact I.live,A,.inl ⟨rfl,rfl⟩⟩
   .rw[Be _ _ e]at u A;by_cases j:x=h
    .subst j;rw[Ba]at u;cases u
    .rw[Be _ _ j]at u;exact⟨x,u,A,.inr ⟨e,j,rfl⟩⟩
  obtain⟨M,a1,a2,a3⟩:=k x b u A;obtain⟨L,b1,b2,U⟩:=k y b R J;have:=s.inj M L b a1 b1 a2 b2;rcases a3 with⟨rfl,rfl⟩|⟨c1,c2,rfl⟩ <;> rcases U with⟨d0,d1⟩|⟨d1,d2,d3⟩ <;> omega
theorem Conc.mv {ι':Bq} {H':Hp} {v:Value} (f:ι' h'=ι h) (i:H' h'=H h) (hc:Conc σ ι H (mvV O h k) v):Conc σ ι' H' (mvV O h' k) v:=by
 have key:Conc σ ι H (.arr h k 0 k) v->Conc σ ι' H' (.arr h' k 0 k) v:=by intro hc;cases hc with| cc h=>cases h| arr _ _ _ _ _ q j c=>exact .arr h' k 0 k v (by rw[i];exact q) (λE sz xs e=>by rw[f];exact j E sz xs (by rw[<-i];exact e)) c
 cases O with
 | nest E Ei sz ys=>cases hc with| cc h=>cases h| vec _ _ b hb=>exact .vec h' k b (by rw[f];exact hb)
 | _=>exact key hc
theorem Atn {ws:List Nat} {l:List (Nat×AV)} {g:List (Nat×Bg)} {N:Aw} {w1:World} {R:Bq} {a a1:Act} {G M:Hp} {e e1:Bs} {sl:Nat} (hO:mvO O) (hb:Im n l g=true) (af:Fm G n) (aa:∀x,n<=x->ι x = .none) (ae:Fm H n) (he:Ee σ ι H e a) (ai:n<=h') (a6:Fo e1 l) (ad:e1 sl=mvV O h' k) (hr:M h'=O) (V:Fv M G n n) (Z:Le σ ι H N R M) (L:St N R M F W w1) (a8:Ee N R M e1 a1) (ah:a1.tmps.size=a.tmps.size) (ac:Ez ws a a1) : ∃J,Le σ ι H N J (Aj G n O)/\St N J (Aj G n O) F W w1/\Ee N J (Aj G n O) (Aj (Ic ws e (λs=>a1.tmps.getD s undef) l) sl (mvV O n k)) a1/\Fm (Aj G n O) (n+1):=by
 have a7:∀p∈l,p.2.under n=true:=by intro p hp;unfold Im at hb;rw[Ec,Dh,Dh]at hb;exact hb.1 p hp
 let J:Bq:=λx=>if x<n then R x else if x=n then R h' else .none
 have j:∀x,x<n->J x=R x:=λx d=>if_pos d;have z:J n=R h':=by show (if n<n then _ else if n=n then _ else _)=_;rw[if_neg ω,if_pos rfl]
 have u:∀x,x<n->(Aj G n O) x=M x:=λx d=>by rw[Be _ _ ω];exact ((V.spec) x d).1.symm
 have I:(Aj G n O) n=M h':=by rw[Ba,hr]
 have f:∀x,n<x->(Aj G n O) x = .none:=λx d=>by rw[Be _ _ ω];exact af x ω
 have Y:Le σ ι H N J (Aj G n O):=by
  refine⟨Z.sto,λx=>?_⟩;by_cases d:x<n
  .rw[j x d,u x d];exact Z.obj x
  .rw[aa x ω,ae x ω];exact HLe.of_none
 have s2:St N J (Aj G n O) F W w1:=by
  refine⟨L.sto,L.fra,λx=>?_,?_,L.os,L.tape,L.output,L.glo,L.drw⟩
  .rcases Nat.lt_trichotomy x n with d|d|d
   .have c:=L.obj x;have A:=((V.spec) x d).2;unfold Bw at c ⊢;rw[u x d,j x d];rw[<-((V.spec) x d).1]at A;cases B:M x with
    | none=>rw[B]at c;exact c
    | dead=>trivial
    | cells E cs=>rw[B]at c A;obtain⟨b,Cc,g1,g2,g3,g4,g5,g6⟩:=c;refine⟨b,Cc,g1,g2,g3,g4,g5,λq cq v hq ab=>(g6 q cq v hq ab).restrict j u ?_⟩;have:=Dh.1 A cq (Dz hq);exact Abt this
    | rows E sz xs=>rw[B]at c;exact c
    | map es=>rw[B]at c;exact c
    | nest E Ei sz ys=>rw[B]at c A;refine Gc.of rfl (λ_ _ q=>q) (λi y hy=>?_) c;cases y with| own xs=>exact hy| lent h' m'=>exact⟨h',hy,λv hc=>hc.restrict j u (Dh.1 A _ (Dz hy))⟩
   .subst d;have c:=L.obj h';unfold Bw at c ⊢;rw[I,z];rw[hr]at c ⊢;cases O with
    | rows E sz xs=>exact c
    | nest E Ei sz ys=>refine Gc.of rfl (λ_ _ q=>q) (λi y hy=>?_) c;cases y with| own xs=>exact hy| lent h' m'=>exact (hO i h' m' hy).elim
    | _=>exact hO.elim
   .unfold Bw;rw[f x d];show (if x<n then _ else if x=n then _ else _)=_;rw[if_neg ω,if_neg ω]
  .have U:∀x b,((Aj G n O) x).live=true->(J x).has b->∃y,(M y).live=true/\(R y).has b/\((x=n/\y=h')\/(x<n/\y=x)):=by
    intro x b S X;rcases Nat.lt_trichotomy x n with d|d|d
    .rw[u x d]at S;rw[j x d]at X;exact⟨x,S,X,.inr ⟨d,rfl⟩⟩
    .subst d;rw[I]at S;rw[z]at X;exact⟨h',S,X,.inl ⟨rfl,rfl⟩⟩
    .rw[f x d]at S;cases S
   intro x y b S ly X ag;obtain⟨x',a1,a2,a3⟩:=U x b S X;obtain⟨y',b1,b2,b3⟩:=U y b ly ag;have:=L.inj x' y' b a1 b1 a2 b2;rcases a3 with⟨c1,c2⟩|⟨c1,c2⟩ <;> rcases b3 with⟨d1,d2⟩|⟨d1,d2⟩ <;> omega
 refine⟨J,Y,s2,?_,λx d=>f x ω⟩;intro q hq;by_cases e0:q=sl
 .subst e0;rw[Ba];have:=a8 q hq;rw[ad]at this;exact this.mv z I
 .rw[Be _ _ e0];rcases Ab1 ws e (λs=>a1.tmps.getD s undef) l q with⟨p,hp,rfl,D⟩|⟨hw,D⟩|⟨hw,D⟩
  .rw[D,<-a6.spec p hp];refine (a8 p.1 hq).restrict j u ?_;rw[a6.spec p hp];exact a7 p hp
  .rw[D];exact .of_val _
  .rw[D,ac q hw];exact (he q ω).mono Y
section
variable {P:Program} {C:Cfg} {X:Nat->Bs->Hp->Prop} {V:Nat->Nat->Bs->Hp->Prop} {U:Nat->Bs->Hp->Prop} {n:Nat} {e:Bs} {H:Hp} {β:Type} {r:β}
variable {b:Code} {E S α:Type} {J:E->Option β} {s0:S}
theorem Ajb {step:S->Option (S⊕E)} (h:(Ak step s0).bind J=some r) (sl h0:Nat) (f:S->Bg) (hO:∀s,mvO (f s)) (len:S->Nat) (M:S->List (Nat×AV)) (B:S->List (Nat×Bg)) (hb:∀s,Im n (M s) (B s)=true) (ap:e sl=mvV (f s0) h0 (len s0)) (O:H h0=f s0) (hs:Fo e (M s0)) (hh:Fv (Aj H h0 .dead) (Bz (Aj H h0 .dead) (B s0)) n n) (ad:∀(s:S) (u:Nat->Value) (K:Nat->Bs->Hp->Prop) (o:S⊕E),step s=some o->(∀x,.inr x=o->J x=some r) -> (∀s' d n' e' H',.inl s'=o->Fo e' (M s')->e' sl=mvV (f s') (n+d) (len s')->H' (n+d)=f s'->Fv H' (Bz (Aj H h0 .dead) (B s')) n n->K n' e' H') -> wc P C b K V U (n+1) (Aj (Ic (F1 b) e u (M s)) sl (mvV (f s) n (len s))) (Aj (Bz (Aj H h0 .dead) (B s)) n (f s))):wc P C (.loop b) X V U n e H:=by
 intro hT hm F W σ ι a w Q af s he hn hk;refine C7 h λx hx h=>?_;obtain⟨N,hN⟩:=Yc hx;have ae:∀x,n<=x->ι x = .none:=by intro x hx;have:=s.obj x;unfold Bw at this;rw[hn x hx]at this;exact this
 have au:h0<n:=by
  rcases Nat.lt_or_ge h0 n with q|q
  .exact q
  .rw[hn h0 q]at O;exact ((hO s0).ne O.symm).elim
 have a8:∀i,Fm (Bz (Aj H h0 .dead) (B i)) n:=λi y hy=>by have a7:=hb i;unfold Im at a7;rw[Ec,Dh,Dh]at a7;rw[Re (λp hp e=>by have:=Gt (a7.2 p hp);omega),Be _ _ ω];exact hn y hy
 let Hd:S->Hp:=λi=>Aj (Bz (Aj H h0 .dead) (B i)) n (f i)
 let J':Nat->Act->World->Prop:=λk a' w'=>∃i σ' ι',Hn step k i=some x/\Le σ ι H σ' ι' (Hd i)/\St σ' ι' (Hd i) F W w' /\
   Ee σ' ι' (Hd i) (Aj (Ic (F1 b) e (λs=>a'.tmps.getD s undef) (M i)) sl (mvV (f i) n (len i))) a'/\a'.tmps.size=a.tmps.size/\a'.defers=a.defers/\Ez (F1 b) a a'
 have R:∀(k d:Nat) (i:S) (a4:Aw) (ι1:Bq) (H1:Hp) (e1:Bs) (a1:Act) (w1:World),Hn step k i=some x->Fo e1 (M i)->e1 sl=mvV (f i) (n+d) (len i)->H1 (n+d)=f i->Fv H1 (Bz (Aj H h0 .dead) (B i)) n n->Le σ ι H a4 ι1 H1->St a4 ι1 H1 F W w1->Ee a4 ι1 H1 e1 a1->a1.tmps.size=a.tmps.size ->
    a1.defers=a.defers->Ez (F1 b) a a1->J' k a1 w1:=by intro k d i a4 ι1 H1 e1 a1 w1 hi ah ag hr ak A s1 a6 c j z;obtain⟨ι2,g1,g2,g3,_⟩:=Atn (hO i) (hb i) (a8 i) ae hn he (Nat.le_add_right n d) ah ag hr ak A s1 a6 c z;exact⟨i,a4,ι2,hi,g1,g2,g3,c,j,z⟩
 obtain⟨sm,lm⟩:=s.move (hO s0) hn O;have ac:Ee σ (Aj ι n (ι h0)) (Aj (Aj H h0 .dead) n (f s0)) (Aj e sl (mvV (f s0) n (len s0))) a:=λq hq=>by
  by_cases e0:q=sl
  .subst e0;rw[Ba];have:=he q hq;rw[ap]at this;exact this.mv (Ba _ _ _) (by rw[Ba,O])
  .rw[Be _ _ e0];exact (he q hq).mono lm
 have av:Fo (Aj e sl (mvV (f s0) n (len s0))) (M s0)\/True:=.inr trivial;have Acu:J' N a w:=by
  have aq:∀y,y<n->(Bz (Aj H h0 .dead) (B s0)) y=(Aj H h0 .dead) y:=λy hy=>((hh.spec) y hy).1.symm;have L:∀y,Hd s0 y=(Aj (Aj H h0 .dead) n (f s0)) y:=λy=>by
   show (Aj (Bz (Aj H h0 .dead) (B s0)) n (f s0)) y=_;by_cases ey:y=n
   .subst ey;rw[Ba,Ba]
   .rw[Be _ _ ey,Be _ _ ey];rcases Nat.lt_or_ge y n with hy|hy
    .exact aq y hy
    .rw[a8 s0 y hy,Be _ _ ω,hn y hy]
  have L:Hd s0=Aj (Aj H h0 .dead) n (f s0):=funext L;refine⟨s0,σ,Aj ι n (ι h0),hN,by rw[L];exact lm,by rw[L];exact sm,?_,rfl,rfl,Ez.refl _ _⟩;rw[L];intro q hq;by_cases e0:q=sl
  .have:=ac q hq;subst e0;rw[Ba]at this ⊢;exact this
  .have h1:=ac q hq;rw[Be _ _ e0]at h1 ⊢;rcases Ab1 (F1 b) e (λs=>a.tmps.getD s undef) (M s0) q with⟨p,hp,rfl,G⟩|⟨hw,G⟩|⟨hw,G⟩
   .rw[G,<-hs.spec p hp];exact h1
   .rw[G];exact .of_val _
   .rw[G];exact h1
 refine Aif J' N Acu ?_;rintro k a1 w1 ⟨i,a4,ι1,hi,A,s1,a6,c,j,z⟩;have ao:Fm (Hd i) (n+1):=λy hy=>by show (Aj (Bz (Aj H h0 .dead) (B i)) n (f i)) y=_;rw[Be _ _ ω];exact a8 i y ω
 cases k with
 | zero=>cases hi
 | succ k=>
  simp only[Hn]at hi;cases ho:step i with
  | none=>rw[ho]at hi;cases hi
  | some o=>
   rw[ho]at hi;refine ad i (λs=>a1.tmps.getD s undef) (λ_ e' H'=>∃s' d,Hn step k s'=some x/\Fo e' (M s')/\e' sl=mvV (f s') (n+d) (len s')/\H' (n+d)=f s'/\Fv H' (Bz (Aj H h0 .dead) (B s')) n n) o ho ?_ ?_ hT hm F W a4 ι1 a1 w1 _ (by rw[c];exact af) s1 a6 ao ?_
   .intro y hy;subst hy;simp only[Option.some.injEq]at hi;rw[hi];exact h
   .intro s' d n' e' H' Y h1 h2 h3 h4;subst Y;exact⟨s',d,hi,h1,h2,h3,h4⟩
   .intro x n2 e2 H2 σ2 ι2 a2 w2 hq a3 s2 Z ab ar D I a0;cases x with| normal=>obtain⟨i',d,aj,Y,aa,ai,am⟩:=hq;exact⟨k,ω,R k d i' σ2 ι2 H2 e2 a2 w2 aj Y aa ai am (A.trans a3) s2 Z (D.trans c) (I.trans j) (z.trans a0)⟩| exit id=>exact hk (.exit id) n2 e2 H2 σ2 ι2 a2 w2 hq (A.trans a3) s2 Z ab ω (D.trans c) (I.trans j) (z.trans a0)| ret=>exact hk .ret n2 e2 H2 σ2 ι2 a2 w2 hq (A.trans a3) s2 Z ab ω (D.trans c) (I.trans j) (z.trans a0)
theorem Ajc {step:S->Option (S⊕E)} (h:(Ak step s0).bind J=some r) (sl h0:Nat) (T:TypeId) (sz:Nat) (xs:S->List AV) (len:S->Nat) (c:S->List (Nat×AV)) (f:S->List (Nat×Bg)) (hb:∀s,Im n (c s) (f s)=true) (k:e sl = .arr h0 (len s0) 0 (len s0)) (j:H h0 = .rows T sz (xs s0)) (y:Fo e (c s0)) (z:Fv (Aj H h0 .dead) (Bz (Aj H h0 .dead) (f s0)) n n) (i:∀(s:S) (u:Nat->Value) (K:Nat->Bs->Hp->Prop) (o:S⊕E),step s=some o->(∀x,.inr x=o->J x=some r) -> (∀B d q D I,.inl B=o->Fo D (c B)->D sl = .arr (n+d) (len B) 0 (len B)->I (n+d) = .rows T sz (xs B)->Fv I (Bz (Aj H h0 .dead) (f B)) n n->K q D I) -> wc P C b K V U (n+1) (Aj (Ic (F1 b) e u (c s)) sl (.arr n (len s) 0 (len s))) (Aj (Bz (Aj H h0 .dead) (f s)) n (.rows T sz (xs s)))):wc P C (.loop b) X V U n e H := Ajb h sl h0 (λs=>.rows T sz (xs s)) (λ_=>trivial) len c f hb k j y z i
theorem Ato {g:List α->List AV} {l:List (List α)} (i h m:Nat):(NL g l)[i]?≠some (.lent h m):=by unfold NL;rw[getElem?_map];cases l[i]? with| none=>intro e;cases e| some x=>intro e;cases e
theorem Ajd {step:S->Option (S⊕E)} (h:(Ak step s0).bind J=some r) (sl h0:Nat) (T j:TypeId) (sz:Nat) (g:List α->List AV) (xs:S->List (List α)) (len:S->Nat) (c:S->List (Nat×AV)) (f:S->List (Nat×Bg)) (hb:∀s,Im n (c s) (f s)=true) (q:e sl = .vec h0 (len s0)) (k:H h0 = .nest T j sz (NL g (xs s0))) (z:Fo e (c s0)) (A:Fv (Aj H h0 .dead) (Bz (Aj H h0 .dead) (f s0)) n n) (i:∀(s:S) (u:Nat->Value) (K:Nat->Bs->Hp->Prop) (o:S⊕E),step s=some o->(∀x,.inr x=o->J x=some r) -> (∀B d y D I,.inl B=o->Fo D (c B)->D sl = .vec (n+d) (len B)->I (n+d) = .nest T j sz (NL g (xs B))->Fv I (Bz (Aj H h0 .dead) (f B)) n n->K y D I) -> wc P C b K V U (n+1) (Aj (Ic (F1 b) e u (c s)) sl (.vec n (len s))) (Aj (Bz (Aj H h0 .dead) (f s)) n (.nest T j sz (NL g (xs s))))):wc P C (.loop b) X V U n e H := Ajb h sl h0 (λs=>.nest T j sz (NL g (xs s))) (λ_=>Ato) len c f hb q k z A i
end
variable {α:Type} {l r:List α} {cmp:α->α->Option Int}
structure Rv {α:Type} (cf:α->α->Int):Prop where
 irr:∀x,¬cf x x<0
 trs:∀x y z,cf x y<0->cf y z<0->cf x z<0
 ntr:∀x y z,¬cf x y<0->¬cf y z<0->¬cf x z<0
def M6 (cmp:α->α->Option Int) (l r:List α):Prop := ∃cf:α->α->Int,Rv cf/\(∀x∈l,∀y∈l,cmp x y=some (cf x y))/\r.Perm l/\r.Pairwise (λx y=>cf x y<0)
open Classical in
noncomputable def L9 {α:Type} (cmp:α->α->Option Int) (l:List α):Option (List α) := if h:∃r,M6 cmp l r then some (Classical.choose h) else none
theorem Rw (h:L9 cmp l=some r):M6 cmp l r:=by
 unfold L9 at h;split at h
 .rename_i k;cases h;exact Classical.choose_spec k
 .cases h
theorem Aje (h:M6 cmp l r):∃b,L9 cmp l=some b/\M6 cmp l b:=by unfold L9;rw[dif_pos ⟨r,h⟩];exact⟨_,rfl,Classical.choose_spec (⟨r,h⟩:∃r,M6 cmp l r)⟩
def Ma (n:Nat) (a:List α):Option (List α×List α):=(Bl n [] a).bind λo=>some ([],o)
def Mb (n:Int):Option (List α):=bif decide (0<=n)&&decide (n<=1000000) then some [] else none
def Ku (cmp:α->α->Option Int) (l r:List α):Prop := ∃cf:α->α->Int,Rv cf/\(∀x∈l,∀y∈l,cmp x y=some (cf x y))/\r.Perm l/\r.Pairwise (λx y=>¬cf y x<0)
open Classical in
noncomputable def Atp {α β:Type} (cmp:α->α->Option Int) (l:List α) (k:List α->Option β):Option β := if h:∃r,(∃o,Ku cmp l o)/\∀o,Ku cmp l o->k o=some r then some (Classical.choose h) else none
structure Ajf (α:Type) where
 f:List α->Option (List α)
 cmp:α->α->Option Int
 l:List α
noncomputable def Ajf.bind {β:Type} (s:Ajf α) (k:List α->Option β):Option β:=bif Nat.ble s.l.length 12 then (s.f s.l).bind k else Atp s.cmp s.l k
section
variable {P:Program} {C:Cfg} {X:Nat->Bs->Hp->Prop} {V:Nat->Nat->Bs->Hp->Prop} {U:Nat->Bs->Hp->Prop} {n:Nat} {e:Bs} {H:Hp}
end
end Go.Ab
