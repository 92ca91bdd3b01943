/- Abstract values. -/
import Derived.Test.YtdinnpegmcadbaaGreatDoorRnAb
open List
namespace Go.Ab
def H0:Hp:=λ_=>.none
def ι0:Cb:=λ_=>.none
def Yn (P:Program) (f:FuncId):Prop:=∃fn,P.funcs[f]? = some fn/\(fn.name == "runtime.NumGoroutine")=false/\fn.body.isNone=false
def Lt (σ:A7) (ι:Cb) (H:Hp) (args:List AV) (vs:Array Value):Prop := vs.size=args.length/\∀(i:Nat) (a:AV) (v:Value),args[i]? = some a->vs[i]? = some v->Conc σ ι H a v
def A8 (P:Program) (f:FuncId) (args:List AV) (r:AV):Prop := Yn P f/\∀(σ F:A7) (W w:World) (d:Array Value),St σ ι0 H0 F W w->Lt σ ι0 H0 args d -> Calls P f d w λe w'=>∃v b,e = .returned v/\σ.le b/\St b ι0 H0 F W w'/\Conc b ι0 H0 r v
def AV.under0 (n:Nat):AV->Bool
 | .loc h _ | .mp h | .vec h _=>Nat.blt h n
 | .arr h _ _ _ | .el h _ _ _=>Nat.blt h n
 | .val _ | .sl _ _ | .ref _ | .fb _=>true
 | _=>false
def AV.under1 (n:Nat):AV->Bool
 | .loc h _ | .mp h | .vec h _=>Nat.blt h n
 | .arr h _ _ _ | .el h _ _ _=>Nat.blt h n
 | .val _ | .sl _ _ | .ref _ | .fb _=>true
 | .fn _ cs=>cs.all (AV.under0 n)
 | _=>false
def AV.under2 (n:Nat):AV->Bool
 | .agg cs=>cs.all (AV.under1 n)
 | x=>x.under1 n
def AV.under (n:Nat):AV->Bool
 | .agg cs | .fn _ cs=>cs.all (AV.under1 n)
 | .tup cs=>cs.all (AV.under2 n)
 | x=>x.under1 n
def Bm.under (n:Nat):Bm->Bool
 | .cells _ cs=>cs.all (AV.under1 n)
 | .map _=>true
 | .rows _ _ _=>true
 | .none=>true
 | .dead=>true
def Ai3 (es:Nat->Nat):AV->AV
 | .loc h off=>.loc (es h) off
 | .mp h=>.mp (es h)
 | .vec h k=>.vec (es h) k
 | .arr h k off len=>.arr (es h) k off len
 | .el h k i j=>.el (es h) k i j
 | x=>x
def Oi (es:Nat->Nat):AV->AV
 | .loc h off=>.loc (es h) off
 | .mp h=>.mp (es h)
 | .vec h k=>.vec (es h) k
 | .arr h k off len=>.arr (es h) k off len
 | .el h k i j=>.el (es h) k i j
 | .fn f cs=>.fn f (cs.map (Ai3 es))
 | x=>x
variable {r:AV} {g:List Bm} {P:Program}
def Ai4 (es:Nat->Nat):AV->AV
 | .agg cs=>.agg (cs.map (Oi es))
 | x=>Oi es x
def ren (es:Nat->Nat):AV->AV
 | .agg cs=>.agg (cs.map (Oi es))
 | .tup cs=>.tup (cs.map (Ai4 es))
 | .fn f cs=>.fn f (cs.map (Oi es))
 | x=>Oi es x
def J9 (es:Nat->Nat):Bm->Bm
 | .cells E cs=>.cells E (cs.map (Oi es))
 | o=>o
def hp (b:List Bm):Hp:=λk=>b.getD k .none
def Bk (P:Program) (f:FuncId) (args:List AV) (h:List Bm) (r:AV) (b:List Bm):Prop := Yn P f/\∀(σ F:A7) (W w:World) (ι:Cb) (d:Array Value),St σ ι (hp h) F W w->Lt σ ι (hp h) args d -> Calls P f d w λe w'=>∃v c g,e = .returned v/\Le σ ι (hp h) c g (hp b)/\St c g (hp b) F W w'/\Conc c g (hp b) r v
def Nl (P:Program) (f:FuncId) (args:List AV) (h:List Bm) (R:AV->List Bm->Prop):Prop := Yn P f/\∀(σ F:A7) (W w:World) (ι:Cb) (d:Array Value),St σ ι (hp h) F W w->Lt σ ι (hp h) args d -> Calls P f d w λe w'=>∃r b v c g,R r b/\e = .returned v/\Le σ ι (hp h) c g (hp b)/\St c g (hp b) F W w'/\Conc c g (hp b) r v
theorem Bk.toR {f:FuncId} {args:List AV} {c:List Bm} (h:Bk P f args g r c):Nl P f args g λa b=>a=r/\b=c := ⟨h.1,λσ F W w ι vs s hc=>(h.2 σ F W w ι vs s hc).mono λ_ _ ⟨v,i,j,a⟩=>⟨r,c,v,i,j,⟨rfl,rfl⟩,a⟩⟩
theorem Nl.one {f:FuncId} {args:List AV} {R:AV->List Bm->Prop} {c:List Bm} (h:Nl P f args g R) (h1:∀a b,R a b->a=r/\b=c):Bk P f args g r c := ⟨h.1,λσ F W w ι vs s hc=>(h.2 σ F W w ι vs s hc).mono λ_ _ ⟨a,b,v,i,j,k,q⟩=>⟨v,i,j,by obtain⟨rfl,rfl⟩:=h1 a b k;exact q⟩⟩
def Df (n:Nat):List Nat->Nat->Nat
 | [],k=>n+k
 | h::_,0=>h
 | _::l,k+1=>Df n l k
def Oj (n:Nat):List Nat->Bool
 | []=>true
 | h::l=>Nat.blt h n && !(l.elem h)&&Oj n l
def E2 (es:Nat->Nat):Nat->List Bm->List (Nat×Bm)
 | _,[]=>[]
 | k,o::os=>(es k,J9 es o)::E2 es (k+1) os
def Cq (es:Nat->Nat):Nat->Nat->List (Nat×Bm)
 | _,0=>[]
 | k,c+1=>(es k,.none)::Cq es (k+1) c
def Nm (H:Hp):List (Nat×Bm)->Prop
 | []=>True
 | p::l=>H p.1=p.2/\Nm H l
def K4 (n:Nat) (l:List Nat) (c:List AV) (f:List Bm) (r:AV) (b:List Bm):Bool := Oj n l&&Nat.beq f.length l.length&&Nat.ble l.length b.length&&c.all (AV.under l.length)&&f.all (Bm.under l.length)&&r.under b.length&&b.all (Bm.under b.length)
inductive Vv (xs:List AV) (i:Int) (K:Nat->AV->Prop):Prop where
 | mk (n:Nat) (x:AV) (hi:i=n) (hx:xs[n]? = some x) (k:K n x)
inductive S9 (len:Nat) (kk:Nat) (xs:List AV) (i:Int) (K:Nat->Prop):Prop where
 | mk (n:Nat) (hk:xs.length=kk) (hi:i=n) (hn:n<len) (k:K n)
inductive Pq (len:Nat) (i:Int) (K:Nat->Prop):Prop where
 | mk (n:Nat) (hi:i=n) (hn:n<len) (k:K n)
inductive I8 (k:IntKind) (n:Int) (K:Int->Prop):Prop where
 | mk (c:Int) (h:k.wrap n=c) (k:K c)
inductive Adh (k:IntKind) (m n:Int) (K:Int->Prop):Prop where
 | mk (c:Int) (hn:n≠0) (h:k.wrap (m.tdiv n)=c) (k:K c)
inductive Adi (m n:Int) (K:Int->Prop):Prop where
 | mk (c:Int) (hn:n≠0) (h:m.tmod n=c) (k:K c)
inductive Adj (k:IntKind) (m n:Int) (K:Int->Prop):Prop where
 | mk (c:Int) (hn:0<=n) (h:m.fdiv (2 ^ (min n.toNat k.bits))=c) (k:K c)
inductive A04 (k:IntKind) (m n:Int) (K:Int->Prop):Prop where
 | mk (c:Int) (hn:0<=n) (h:k.wrap (m*2 ^ (min n.toNat k.bits))=c) (k:K c)
inductive Adk (n:Nat) (lo hi:Int) (K:Nat->Nat->Prop):Prop where
 | mk (l h:Nat) (el:lo=l) (eh:hi=h) (h1:l<=h) (h2:h<=n) (k:K l h)
inductive Nn (xs:List AV) (lo hi:Int) (K:List AV->Prop):Prop where
 | mk (l h:Nat) (ys:List AV) (el:lo=l) (eh:hi=h) (h1:l<=h) (h2:h<=xs.length) (hy:(xs.take h).drop l=ys) (k:K ys)
inductive Adl (kk:Nat) (xs:List AV) (n:Nat) (lo hi:Int) (K:Nat->Nat->Prop) (KE:Prop):Prop where
 | mk (l h:Nat) (hk:xs.length=kk) (el:lo=l) (eh:hi=h) (h1:l<=h) (h2:h<=n) (h3:l=0\/l<h) (k:K l h)
 | mkE (l:Nat) (hk:xs.length=kk) (el:lo=l) (eh:hi=l) (h2:l<=n) (k:KE)
inductive Adm (s:ByteArray) (i:Int) (K:UInt8->Prop):Prop where
 | mk (n:Nat) (c:UInt8) (hi:i=n) (hc:s[n]? = some c) (k:K c)
inductive Adn (n:Nat) (K:Prop):Prop where
 | mk (h:n<=9223372036854775807) (k:K)
inductive Vx (len cap:Int) (bytes:Nat) (z:AV) (K:Nat->List AV->Prop):Prop where
 | mk (l c:Nat) (zs:List AV) (el:len=l) (ec:cap=c) (h1:l<=c) (h2:bytes*c<=281474976710656) (h3:c<=140737488355328) (hz:replicate l z=zs) (k:K l zs)
 | mkN (z':AV) (hn:G7 z.cells z'.cells) (l c:Nat) (zs:List AV) (el:len=l) (ec:cap=c) (h1:l<=c) (h2:bytes*c<=281474976710656) (h3:c<=140737488355328) (hz:replicate l z'=zs) (k:K l zs)
inductive No (xs ys:List AV) (kk len bytes:Nat) (K:List AV->Nat->Prop) (KP:List AV->Nat->Nat->Prop):Prop where
 | mkP (zs:List AV) (k' m:Nat) (hk:xs.length=kk) (hl:len<=kk) (hb:(xs.length+ys.length)*bytes<=140737488355328) (hz:Gf xs len ys=zs) (hk':zs.length=k') (hm:len+ys.length=m) (k:KP zs k' m)
 | mk (zs:List AV) (m:Nat) (hk:xs.length=kk) (hl:len=kk) (hb:(xs.length+ys.length)*bytes<=140737488355328) (hz:xs++ys=zs) (hm:kk+ys.length=m) (k:K zs m)
inductive A05 (ys:List AV) (K:Prop):Prop where
 | mk (hy:ys = []) (k:K)
inductive Ta (ys:List AV) (bytes:Nat) (K:List AV->Nat->Prop):Prop where
 | mk (zs:List AV) (m:Nat) (hb:ys.length*bytes<=140737488355328) (hz:ys=zs) (hm:ys.length=m) (k:K zs m)
inductive A06 (xs:List AV) (kk len k2 off2 len2 bytes:Nat) (K:List AV->Nat->Nat->Prop):Prop where
 | mk (zs:List AV) (k' m:Nat) (hk:xs.length=kk) (hl:len<=kk) (hk2:xs.length=k2) (hl2:off2+len2<=kk) (hb:(xs.length+len2)*bytes<=140737488355328) (hz:Gf xs len ((xs.drop off2).take len2)=zs) (hk':zs.length=k') (hm:len+len2=m) (k:K zs k' m)
inductive Aop (xs:List AV) (kk off len:Nat) (z:AV) (K:List AV->Prop):Prop where
 | mk (zs:List AV) (hk:xs.length=kk) (hl:off+len<=kk) (hz:Gf xs off (replicate len z)=zs) (k:K zs)
inductive Ai5 (a b:Nat) (K:Prop):Prop where
 | mk (h:a<=b) (k:K)
inductive Ai6 (xs:List AV) (n:Nat) (K:List AV->Prop):Prop where
 | mk (ys:List AV) (hy:xs.take n=ys) (k:K ys)
inductive Vy (xs:List AV) (q:Nat) (p:AV) (K:List AV->Prop):Prop where
 | mk (zs:List AV) (hz:xs.set q p=zs) (k:K zs)
inductive Nq (xs:List AV) (K:Int->Prop):Prop where
 | mk (c:Int) (hc:(xs.length:Int)=c) (k:K c)
inductive My (kk i:Nat) (xs:List AV) (K:AV->Prop):Prop where
 | mk (x:AV) (hk:xs.length=kk) (hx:xs[i]? = some x) (k:K x)
inductive Ie (kk:Nat) (xs:List AV) (K:Prop):Prop where
 | mk (hk:xs.length=kk) (k:K)
def Ext (P:Program) (f:FuncId) (args:List AV) (r:AV):Prop := ∀(σ F:A7) (W w:World) (d:Array Value),St σ ι0 H0 F W w->Lt σ ι0 H0 args d->∃v,(callFunc f d).run P w = .ok (.value v) w/\Conc σ ι0 H0 r v
inductive Fx (P:Program) (n:Nat) (H:Hp) (f:FuncId) (args:List AV) (K:Eff->Nat->Prop):Prop where
 | mk (r:AV) (h:A8 P f args r) (hf:args.all AV.free=true) (k:K ⟨r,[],[]⟩ n)
 | ext (r:AV) (h:Ext P f args r) (hf:args.all AV.free=true) (k:K ⟨r,[],[]⟩ n)
 | act (l:List Nat) (largs:List AV) (hs:List Bm) (r:AV) (hs':List Bm) (h:Bk P f largs hs r hs') (ha:largs.map (ren (Df n l))=args) (ok:K4 n l largs hs r hs'=true) (hh:Nm H (E2 (Df n l) 0 hs))
   (k:K ⟨ren (Df n l) r,E2 (Df n l) 0 hs++Cq (Df n l) l.length (hs'.length-l.length),E2 (Df n l) 0 hs'⟩ (n+(hs'.length-l.length)))
 | rd (l:List Nat) (largs:List AV) (hs:List Bm) (r:AV) (h:Bk P f largs hs r hs) (ha:largs.map (ren (Df n l))=args) (ok:K4 n l largs hs r hs=true) (hh:Nm H (E2 (Df n l) 0 hs))
   (k:K ⟨ren (Df n l) r,E2 (Df n l) 0 hs,[]⟩ n)
inductive Aoq (s:ByteArray) (es:List (AV×AV)) (K:Option (Nat×AV)->Prop):Prop where
 | mk (r:Option (Nat×AV)) (h:Kk s es 0=some r) (k:K r)
inductive Ado (op:BinOp) (k:FloatKind) (a b:Nat) (K:Nat->Prop):Prop where
 | mk (c:Nat) (h:floatBits op k a b=some c) (k:K c)
inductive Adp (k:FloatKind) (a:Nat) (q:IntKind) (K:Int->Prop):Prop where
 | mk (c:Int) (h:floatToIntVal k a q=some c) (k:K c)
inductive Aor (s:ByteArray) (v:AV) (es:List (AV×AV)) (K:List (AV×AV)->Prop):Prop where
 | mk (es':List (AV×AV)) (h:Adf s v es=some es') (k:K es')
inductive Ai7 (P:Program) (t:TypeId) (f:Nat) (K:TypeId->Prop):Prop where
 | mk (ft:TypeId) (h:Aix P t f=some ft) (k:K ft)
inductive Aos (P:Program) (f:FuncId) (args:List AV) (K:AV->Prop):Prop where
 | mk (r:AV) (h:A8 P f args r) (hf:args.all AV.free=true) (k:K r)
inductive Ann where
 | frz (j:Nat)
 | std
 | own
 | ask
 | vec (m:Nat)
def Mz:AV->Bool
 | .val (.slice none 0 0)=>true
 | _=>false
def Yo:AV->Bool
 | .val (.agg _)=>false
 | _=>true
def Ai8 (x:AV) (K:AV->Prop):Prop := match x with
 | .val v=>K (.val v)
 | .loc h off=>K (.loc h off)
 | .arr h k off len=>K (.arr h k off len)
 | .el h k i j=>K (.el h k i j)
 | .mp h=>K (.mp h)
 | .vec h n=>K (.vec h n)
 | .ref cs=>K (.ref cs)
 | .sl sz xs=>K (.sl sz xs)
 | .agg cs=>K (.agg cs)
 | .tup cs=>K (.tup cs)
 | .fn f cs=>K (.fn f cs)
 | .fb s=>K (.fb s)
def Q5:List AV->(List AV->Prop)->Prop
 | [],K=>K []
 | x::xs,K=>Ai8 x λx=>Q5 xs λxs=>K (x::xs)
def Vz (x:AV) (K:AV->Prop):Prop := match x with
 | .agg cs=>Q5 cs λcs=>K (.agg cs)
 | .tup cs=>Q5 cs λcs=>K (.tup cs)
 | .fn f cs=>Q5 cs λcs=>K (.fn f cs)
 | x=>Ai8 x K
def V1:List AV->(List AV->Prop)->Prop
 | [],K=>K []
 | x::xs,K=>Vz x λx=>V1 xs λxs=>K (x::xs)
def Ai9 (o:Bm) (K:Bm->Prop):Prop := match o with
 | .cells E cs=>Q5 cs λcs=>K (.cells E cs)
 | .rows E sz xs=>K (.rows E sz xs)
 | .map es=>K (.map es)
 | .none=>K .none
 | .dead=>K .dead
def Adq:List (Nat×Bm)->(List (Nat×Bm)->Prop)->Prop
 | [],K=>K []
 | p::l,K=>Ai9 p.2 λo=>Adq l λl=>K ((p.1,o)::l)
def Yp:List (Nat×Bm)->(List Nat->Prop)->Prop
 | [],K=>K []
 | p::l,K=>Yp l λl=>K (p.1::l)
theorem Aot (x:AV) (K:AV->Prop):Ai8 x K=K x:=by cases x <;> rfl
theorem Adr:∀(l:List AV) (K:List AV->Prop),Q5 l K=K l
 | [],_=>rfl
 | x::xs,K=>by simp only[Q5,Aot,Adr xs]
theorem Yq (x:AV) (K:AV->Prop):Vz x K=K x:=by cases x <;> simp only[Vz,Adr,Aot]
theorem Ads:∀(l:List AV) (K:List AV->Prop),V1 l K=K l
 | [],_=>rfl
 | x::xs,K=>by simp only[V1,Yq,Ads xs]
theorem A07 (o:Bm) (K:Bm->Prop):Ai9 o K=K o:=by cases o <;> simp only[Ai9,Adr]
theorem Aja:∀(l:List (Nat×Bm)) (K:List (Nat×Bm)->Prop),Adq l K=K l
 | [],_=>rfl
 | p::l,K=>by simp only[Adq,A07,Aja l]
theorem Ajb:∀(l:List (Nat×Bm)) (K:List Nat->Prop),Yp l K=K (l.map (·.1))
 | [],_=>rfl
 | p::l,K=>by simp only[Yp,Ajb l,map_cons]
def sop (P:Program) (T:Dq) (an:Nat->Ann) (n:Nat) (o:Oper) (ρ:Operand->AV) (H:Hp) (K:Eff->Nat->Prop):Prop :=
 match o.op with
 | .move x=>K ⟨ρ x,[],[]⟩ n
 | .assign x=>
  match o.dst with
  | none=>K ⟨ρ x,[],[]⟩ n
  | some d=>
   match an d with
   | .frz _=>K ⟨ρ x,[],[]⟩ n
   | .std=>K ⟨ρ x,[],[]⟩ n
   | .ask=>K ⟨ρ x,[],[]⟩ n
   | .vec _=>K ⟨ρ x,[],[]⟩ n
   | .own=>bif Mz (ρ x) then
     match T o.type with
     | some ⟨.slice e,_,_,_⟩=>
      match T e with
      | some i'=>bif Nat.blt 0 i'.size then K ⟨.arr n 0 0 0,[(n,.none)],[(n,.rows e i'.size [])]⟩ (n+1) else False
      | none=>False
     | _=>False
    else K ⟨ρ x,[],[]⟩ n
 | .pick c a b=>
  match ρ c with
  | .val (.bool t)=>K ⟨bif t then ρ a else ρ b,[],[]⟩ n
  | _=>False
 | .alloc t=>
  match T t with
  | some i=>K ⟨.loc n 0,[(n,.none)],[(n,.cells t (i.zero.map .val))]⟩ (n+1)
  | none=>False
 | .box t x=>K ⟨.loc n 0,[(n,.none)],[(n,.cells t (ρ x).cells)]⟩ (n+1)
 | .build t parts=>
  match T t with
  | some ⟨.struct V,_,_,z⟩=>
   match Vp V (z.map .val) (parts.toList.map λp=>(p.1,ρ p.2)) with
   | some cs=>K ⟨.agg cs,[],[]⟩ n
   | none=>False
  | _=>False
 | .buildSlice t len parts=>
  match T t with
  | some ⟨.slice e,_,_,_⟩=>
   match T e with
   | some i'=>
    bif Nat.blt 0 i'.size&&(parts.toList.map (·.1)==range' 0 len)&&Nat.ble (len*i'.size) 16777216&&parts.toList.all (λp=>L6 i'.size (ρ p.2)) then
     match an (o.dst.getD 0) with
     | .frz _=>False
     | .vec _=>False
     | .std=>V1 (parts.toList.map λp=>ρ p.2) λxs=>K ⟨.sl i'.size xs,[],[]⟩ n
     | .ask=>V1 (parts.toList.map λp=>ρ p.2) λxs=>K ⟨.sl i'.size xs,[],[]⟩ n
     | .own=>V1 (parts.toList.map λp=>ρ p.2) λxs=>K ⟨.arr n len 0 len,[(n,.none)],[(n,.rows e i'.size xs)]⟩ (n+1)
    else False
   | none=>False
  | _=>False
 | .load t x=>
  match T t with
  | some i=>
   match ρ x with
   | .ref cs=>bif i.isAgg then (bif Nat.ble i.size cs.length then K ⟨.agg (cs.take i.size),[],[]⟩ n else False) else
     match cs with
     | c::_=>K ⟨c,[],[]⟩ n
     | []=>False
   | .loc h off=>
    match H h with
    | .cells E cs=>bif i.isAgg then (bif Nat.ble (off+i.size) cs.length then K ⟨.agg ((cs.drop off).take i.size),[(h,.cells E cs)],[]⟩ n else False) else
      match cs[off]? with
      | some c=>K ⟨c,[(h,.cells E cs)],[]⟩ n
      | none=>False
    | _=>False
   | .el h k q j=>
    match H h with
    | .rows E sz xs=>My k q xs λy=>bif i.isAgg then (bif Nat.ble (j+i.size) y.cells.length then K ⟨.agg ((y.cells.drop j).take i.size),[(h,.rows E sz xs)],[]⟩ n else False) else
      match y.cells[j]? with
      | some c=>K ⟨c,[(h,.rows E sz xs)],[]⟩ n
      | none=>False
    | _=>False
   | _=>False
  | none=>False
 | .store t x y=>
  match T t with
  | some i=>
   match ρ x with
   | .loc h off=>
    match H h with
    | .cells E cs=>bif Nat.beq (ρ y).cells.length i.size&&Nat.ble (off+i.size) cs.length&&(ρ y).cells.all AV.one then K ⟨.val undef,[(h,.cells E cs)],[(h,.cells E (Nk cs off (ρ y).cells))]⟩ n else False
    | _=>False
   | .el h k q j=>
    match H h with
    | .rows E sz xs=>My k q xs λz=>bif Nat.beq (ρ y).cells.length i.size&&Nat.blt 0 i.size&&Nat.ble (j+i.size) z.cells.length&&(ρ y).cells.all AV.cl1&&Yo z then
      Q5 (ρ y).cells λys=>Vz (Yi z j ys) λp=>Vy xs q p λg=>K ⟨.val undef,[(h,.rows E sz xs)],[(h,.rows E sz g)]⟩ n else False
    | _=>False
   | _=>False
  | none=>False
 | .nilCheck x=>bif (ρ x).isPtr then K ⟨ρ x,[],[]⟩ n else False
 | .binOp op t x y _=>
  match ρ x,ρ y with
  | .val (.int k a),.val (.int B b)=>
   match op with
   | .shl=>A04 k a b λc=>K ⟨.val (.int k c),[],[]⟩ n
   | .shr=>Adj k a b λc=>K ⟨.val (.int k c),[],[]⟩ n
   | op=>bif decide (k=B) then
     match op with
     | .add=>I8 k (a+b) λc=>K ⟨.val (.int k c),[],[]⟩ n
     | .sub=>I8 k (a-b) λc=>K ⟨.val (.int k c),[],[]⟩ n
     | .mul=>I8 k (a*b) λc=>K ⟨.val (.int k c),[],[]⟩ n
     | .quo=>Adh k a b λc=>K ⟨.val (.int k c),[],[]⟩ n
     | .rem=>Adi a b λc=>K ⟨.val (.int k c),[],[]⟩ n
     | op=>
      match Aie op a b with
      | some t=>K ⟨.val (.bool t),[],[]⟩ n
      | none=>
       match Aim op k a b with
       | some c=>K ⟨.val (.int k c),[],[]⟩ n
       | none=>False
    else False
  | .val (.bool a),.val (.bool b)=>
   match T t with
   | some ⟨.bool,_,_,_⟩=>
    match Ain op a b with
    | some t=>K ⟨.val (.bool t),[],[]⟩ n
    | none=>False
   | _=>False
  | .val (.float k a),.val (.float B b)=>bif decide (k=B) then Ado op k a b λc=>K ⟨.val (.float k c),[],[]⟩ n else False
  | .val (.string a),.val (.string b)=>
   match op with
   | .add=>Adn (a.size+b.size) (K ⟨.val (.string (a++b)),[],[]⟩ n)
   | op=>
    match Aio op a b with
    | some t=>K ⟨.val (.bool t),[],[]⟩ n
    | none=>False
  | .val (.slice p _ _),.val (.slice none _ _)=>
   match op with
   | .eql=>
    match T t with
    | some ⟨.slice _,_,_,_⟩=>K ⟨.val (.bool p.isNone),[],[]⟩ n
    | _=>False
   | _=>False
  | _,_=>False
 | .unOp op _ x=>
  match op,ρ x with
  | .not,.val (.bool b)=>K ⟨.val (.bool !b),[],[]⟩ n
  | .neg,.val (.int k m)=>I8 k (0-m) λc=>K ⟨.val (.int k c),[],[]⟩ n
  | _,_=>False
 | .convert s d x=>
  match T s,T d,ρ x with
  | some _,some ⟨.int k,_,_,_⟩,.val (.int _ m)=>I8 k m λc=>K ⟨.val (.int k c),[],[]⟩ n
  | some _,some ⟨.float k,_,_,_⟩,.val (.int _ m)=>K ⟨.val (.float k (floatOfInt k m)),[],[]⟩ n
  | some _,some ⟨.int k,_,_,_⟩,.val (.float q m)=>Adp q m k λc=>K ⟨.val (.int k c),[],[]⟩ n
  | _,_,_=>False
 | .makeFunc (.func f) first u=>bif first.isEmpty then K ⟨.fn f (u.toList.map ρ),[],[]⟩ n else False
 | .makeSlice t x y=>
  match T t with
  | some ⟨.slice e,_,_,_⟩=>
   match T e with
   | some i'=>
    match ρ x,ρ y with
    | .val (.int _ l),.val (.int _ c)=>
     match an (o.dst.getD 0) with
     | .vec m=>
      match i'.zero with
      | [v]=>
       bif Nat.beq i'.size 1&&Nat.ble m 16&&Nat.ble (i'.bytes*m) 281474976710656&&decide (l=(m:Int))&&decide (c=(m:Int)) then
        K ⟨.vec n m,[(n,.none)],[(n,.cells e (replicate m (.val v)))]⟩ (n+1)
       else False
      | _=>False
     | _=>
     bif Nat.blt 0 i'.size&&L6 i'.size (Gj i')&&Nat.beq (Gj i').cells.length i'.zero.length&&Yo (Gj i') then
      Vx l c i'.bytes (Gj i') λl g=>K ⟨.arr n l 0 l,[(n,.none)],[(n,.rows e i'.size g)]⟩ (n+1)
     else False
    | _,_=>False
   | none=>False
  | _=>False
 | .slice t x lo hi none=>
  match T t with
  | some ⟨.slice e,_,_,_⟩=>
   match T e with
   | some i'=>
    match ρ x with
    | .sl sz xs=>
     match I6 ρ 0 lo,I6 ρ xs.length hi with
     | some l,some h=>bif Nat.beq sz i'.size then Nn xs l h λys=>K ⟨.sl sz ys,[],[]⟩ n else False
     | _,_=>False
    | .arr X k off len=>
     match H X with
     | .rows E sz xs=>
      match I6 ρ 0 lo,I6 ρ len hi with
      | some l,some h=>bif Nat.beq sz i'.size then Adl k xs len l h (λl h=>K ⟨.arr X k (off+l) (h-l),[(X,.rows E sz xs)],[]⟩ n) (K ⟨.sl i'.size [],[(X,.rows E sz xs)],[]⟩ n) else False
      | _,_=>False
     | _=>False
    | _=>False
   | none=>False
  | some ⟨.string,_,_,_⟩=>
   match ρ x with
   | .val (.string s)=>
    match I6 ρ 0 lo,I6 ρ s.size hi with
    | some l,some h=>Adk s.size l h λl h=>K ⟨.val (.string (s.extract l h)),[],[]⟩ n
    | _,_=>False
   | _=>False
  | _=>False
 | .fieldAddr s x f=>
  match T s with
  | some ⟨.struct V,_,_,_⟩=>
   match V[f]? with
   | some q=>
    match ρ x with
    | .loc h off=>K ⟨.loc h (off+q.1),[],[]⟩ n
    | .ref cs=>K ⟨.ref (cs.drop q.1),[],[]⟩ n
    | .el h k m j=>
     match H h with
     | .rows E sz xs=>Ie k xs (K ⟨.el h k m (j+q.1),[(h,.rows E sz xs)],[]⟩ n)
     | _=>False
    | _=>False
   | none=>False
  | _=>False
 | .indexAddr t x y=>
  match T t with
  | some ⟨.slice e,_,_,_⟩=>
   match T e with
   | some i'=>
    match ρ x,ρ y with
    | .vec h m,.val (.int _ i)=>bif Nat.beq i'.size 1 then Pq m i λq=>K ⟨.loc h q,[],[]⟩ n else False
    | .sl sz xs,.val (.int _ i)=>bif Nat.beq sz i'.size then Vv xs i λ_ z=>K ⟨.ref z.cells,[],[]⟩ n else False
    | .arr h k off len,.val (.int _ i)=>
     match H h with
     | .rows E sz xs=>bif Nat.beq sz i'.size then S9 len k xs i λm=>K ⟨.el h k (off+m) 0,[(h,.rows E sz xs)],[]⟩ n else False
     | _=>False
    | _,_=>False
   | none=>False
  | _=>False
 | .index t x y=>
  match T t with
  | some ⟨.string,_,_,_⟩=>
   match ρ x,ρ y with
   | .val (.string s),.val (.int _ i)=>Adm s i λc=>K ⟨.val (.int .u8 c.toNat),[],[]⟩ n
   | _,_=>False
  | _=>False
 | .field s x f=>
  match T s with
  | some ⟨.struct V,_,_,_⟩=>
   match V[f]? with
   | some q=>
    match ρ x with
    | .agg cs=>Ai7 P s f λS=>
     match T S with
     | some I=>bif I.isAgg then (bif Nat.ble (q.1+I.size) cs.length then K ⟨.agg ((cs.drop q.1).take I.size),[],[]⟩ n else False) else
       match cs[q.1]? with
       | some c=>K ⟨c,[],[]⟩ n
       | none=>False
     | none=>False
    | _=>False
   | none=>False
  | _=>False
 | .makeMap _ none=>K ⟨.mp n,[(n,.none)],[(n,.map [])]⟩ (n+1)
 | .lookup t x y ok=>
  match T t with
  | some ⟨.map M U,_,_,_⟩=>
   match T M with
   | some ⟨.string,_,_,_⟩=>
    match T U with
    | some I=>
     match ρ x with
     | .mp h=>
      match ρ y with
      | .val (.string s)=>
       match H h with
       | .map es=>Aoq s es λr=>K ⟨Aiy ok I r,[(h,.map es)],[]⟩ n
       | _=>False
      | _=>False
     | _=>False
    | none=>False
   | _=>False
  | _=>False
 | .mapUpdate t x y z=>
  match T t with
  | some ⟨.map M _,_,_,_⟩=>
   match T M with
   | some ⟨.string,_,_,_⟩=>
    match ρ x with
    | .mp h=>
     match ρ y with
     | .val (.string s)=>
      match H h with
      | .map es=>bif (ρ z).free1 then Vz (ρ z) λv=>Aor s v es λN=>K ⟨.val undef,[(h,.map es)],[(h,.map N)]⟩ n else False
      | _=>False
     | _=>False
    | _=>False
   | _=>False
  | _=>False
 | .extract x i=>
  match ρ x with
  | .tup cs=>
   match cs[i]? with
   | some c=>K ⟨c,[],[]⟩ n
   | none=>False
  | _=>False
 | .call c=>
  match c.callee with
  | .value x=>
   match ρ x with
   | .fn f u=>
    match an (o.dst.getD 0) with
    | .frz j=>
     (match (c.args.toList.map ρ ++ u)[j]? with
     | some (.arr h k 0 len)=>
      (match H h with
      | .rows E sz xs=>Ie k xs (Ie len xs (Aos P f ((c.args.toList.map ρ ++ u).set j (.sl sz xs)) λr=>K ⟨r,[(h,.rows E sz xs)],[(h,.dead)]⟩ n))
      | _=>False)
     | _=>False)
    | _=>Fx P n H f (c.args.toList.map ρ ++ u) K
   | _=>False
  | .invoke _ _=>False
  | .builtin .len=>
   match c.args.toList,c.argTypes.toList with
   | [x],[t]=>
    match T t with
    | some ⟨.slice _,_,_,_⟩=>
     match ρ x with
     | .sl _ xs=>
      match an (o.dst.getD 0) with
      | .ask=>Nq xs λc=>K ⟨.val (.int .i64 c),[],[]⟩ n
      | _=>K ⟨.val (.int .i64 xs.length),[],[]⟩ n
     | .val (.slice _ m _)=>K ⟨.val (.int .i64 m),[],[]⟩ n
     | .vec _ m=>K ⟨.val (.int .i64 m),[],[]⟩ n
     | .arr h k _ len=>
      match H h with
      | .rows E sz xs=>Ie k xs (K ⟨.val (.int .i64 len),[(h,.rows E sz xs)],[]⟩ n)
      | _=>False
     | _=>False
    | some ⟨.string,_,_,_⟩=>
     match ρ x with
     | .val (.string s)=>K ⟨.val (.int .i64 s.size),[],[]⟩ n
     | _=>False
    | _=>False
   | _,_=>False
  | .builtin .cap=>
   match c.args.toList,c.argTypes.toList with
   | [x],[t]=>
    match T t with
    | some ⟨.slice _,_,_,_⟩=>
     match ρ x with
     | .val (.slice _ _ m)=>K ⟨.val (.int .i64 m),[],[]⟩ n
     | _=>False
    | _=>False
   | _,_=>False
  | .builtin .clear=>
   match c.args.toList,c.argTypes.toList with
   | [x],[t]=>
    match T t with
    | some ⟨.slice e,_,_,_⟩=>
     match T e with
     | some i'=>
      match ρ x with
      | .arr h k off len=>
       match H h with
       | .rows E sz xs=>bif Nat.beq E e&&Nat.beq sz i'.size&&Nat.blt 0 i'.size&&L6 i'.size (Gj i')&&Nat.beq (Gj i').cells.length i'.zero.length&&Yo (Gj i') then
         Aop xs k off len (Gj i') (λg=>K ⟨.tup [],[(h,.rows e i'.size xs)],[(h,.rows e i'.size g)]⟩ n) else False
       | _=>False
      | .sl _ []=>K ⟨.tup [],[],[]⟩ n
      | _=>False
     | none=>False
    | _=>False
   | _,_=>False
  | .builtin .append=>
   match c.args.toList,c.argTypes.toList with
   | [x,y],[t,t']=>
    match T t,T t' with
    | some ⟨.slice e,_,_,_⟩,some ⟨.slice _,_,_,_⟩=>
     match T e with
     | some i'=>
      bif Nat.blt 0 i'.size&&Nat.beq i'.zero.length i'.size&&Nat.ble 1 i'.bytes then
       match ρ y with
       | .sl sz ys=>
        bif Nat.beq sz i'.size then
         match ρ x with
         | .arr h k 0 len=>
          match H h with
          | .rows E A xs=>bif Nat.beq E e&&Nat.beq A i'.size then
            match an (o.dst.getD 0) with
            | .frz _=>No xs ys k len i'.bytes (λg _=>K ⟨.sl i'.size g,[(h,.rows e i'.size xs)],[(h,.dead)]⟩ n) (λ_ _ _=>False)
            | _=>No xs ys k len i'.bytes (λg m=>K ⟨.arr h m 0 m,[(h,.rows e i'.size xs)],[(h,.rows e i'.size g)]⟩ n) (λg B m=>K ⟨.arr h B 0 m,[(h,.rows e i'.size xs)],[(h,.rows e i'.size g)]⟩ n) else False
          | _=>False
         | .val (.slice none 0 0)=>Ta ys i'.bytes λg m=>K ⟨.arr n m 0 m,[(n,.none)],[(n,.rows e i'.size g)]⟩ (n+1)
         | .sl L J=>A05 ys (K ⟨.sl L J,[],[]⟩ n)
         | _=>False
        else False
       | .arr h2 R D G=>
        match ρ x with
        | .arr h k 0 len=>
         match H h with
         | .rows E A xs=>bif Nat.beq E e&&Nat.beq A i'.size&&Nat.beq h h2 then
           A06 xs k len R D G i'.bytes (λg B m=>K ⟨.arr h B 0 m,[(h,.rows e i'.size xs)],[(h,.rows e i'.size g)]⟩ n) else False
         | _=>False
        | _=>False
       | _=>False
      else False
     | none=>False
    | some ⟨.slice e,_,_,_⟩,some ⟨.string,_,_,_⟩=>
     match T e with
     | some i'=>
      bif Nat.beq i'.size 1&&Nat.beq i'.zero.length i'.size&&Nat.ble 1 i'.bytes then
       match ρ y with
       | .val (.string s)=>
        match ρ x with
        | .arr h k 0 len=>
         match H h with
         | .rows E A xs=>bif Nat.beq E e&&Nat.beq A i'.size then
           No xs (Kj s) k len i'.bytes (λg m=>K ⟨.arr h m 0 m,[(h,.rows e i'.size xs)],[(h,.rows e i'.size g)]⟩ n) (λ_ _ _=>False) else False
         | _=>False
        | _=>False
       | _=>False
      else False
     | none=>False
    | _,_=>False
   | _,_=>False
  | .builtin .max=>
   match c.args.toList,c.argTypes.toList with
   | [x,y],[_,_]=>
    match ρ x,ρ y with
    | .val (.int k a),.val (.int _ b)=>K ⟨.val (.int k (if b>a then b else a)),[],[]⟩ n
    | _,_=>False
   | _,_=>False
  | .builtin .min=>
   match c.args.toList,c.argTypes.toList with
   | [x,y],[_,_]=>
    match ρ x,ρ y with
    | .val (.int k a),.val (.int _ b)=>K ⟨.val (.int k (if b<a then b else a)),[],[]⟩ n
    | _,_=>False
   | _,_=>False
  | _=>False
 | _=>False
section
variable {P:Program} {o:Oper} {ρ:Operand->AV} {a:Act} {w w':World} {next:Act->World->Prop} {Q:Exit->Act->World->Prop}
variable {F σ:A7} {r:AV} {ι:Cb} {H:Hp} {b g:List AV} {x:Operand} {v:Value} {W:World}
def Tb (σ:A7) (w:World):A7:=λb=>match σ b with|none=>w.heap[b]? | some _=>none
theorem St.lend (s:St σ ι H F W w):St σ ι0 H0 (Tb σ w) W w:=by refine⟨s.sto,λb o hb=>?_,λh=>rfl,(λh h' b c=>by cases c),s.os,s.tape,s.output,s.glo,s.drw⟩;unfold Tb at hb;cases e:σ b with| none=>rw[e]at hb;exact⟨hb,rfl⟩| some _=>rw[e]at hb;cases hb
theorem St.unlend {k:A7} (s:St σ ι H F W w) (g:σ.le k) (s':St k ι0 H0 (Tb σ w) W w'):St k ι H F W w':=by
 have d:∀b,σ b=none->∀o,w.heap[b]? = some o->w'.heap[b]? = some o/\k b=none:=by intro b hb o f;exact s'.fra b o (by unfold Tb;rw[hb];exact f)
 have le:Le σ ι H k ι H:=⟨g,λ_=>HLe.refl _ _⟩;refine⟨s'.sto,λb o hb=>?_,λh=>?_,s.inj,s'.os,s'.tape,s'.output,s'.glo,s'.drw⟩
 .obtain⟨h1,h2⟩:=s.fra b o hb;exact d b h2 o h1
 .have f:=s.obj h;unfold C4 at f ⊢;cases hh:H h with
  | none=>rw[hh]at f;exact f
  | dead=>trivial
  | cells E cs=>rw[hh]at f;obtain⟨b,C,j,h1,h2,h3,z,B⟩:=f;obtain⟨u,l⟩:=d b h1 _ h3;exact⟨b,C,j,l,h2,u,z,λi c v x y=>(B i c v x y).mono le⟩
  | rows E sz xs=>
   rw[hh]at f;obtain⟨D,J,⟨j,I⟩|⟨b,A,C,j,h1,h2,h3,z,B,G⟩⟩:=f
   .exact⟨D,J,.inl ⟨j,I⟩⟩
   .obtain⟨u,l⟩:=d b h1 _ h3;exact⟨D,J,.inr ⟨b,A,C,j,l,h2,u,z,B,G.mono g⟩⟩
  | map es=>rw[hh]at f;obtain⟨b,M,q,j,h1,h2,h3,z⟩:=f;obtain⟨u,l⟩:=d b h1 _ h3;exact⟨b,M,q,j,l,h2,u,z.mono g⟩
theorem Conc.of0 {x:AV} (h:Conc σ ι0 H0 x v):Conc σ ι H x v:=by induction h with| cc h=>exact .cc h| loc h off b hb=>cases hb| mp h b hb=>cases hb| vec h n b hb=>cases hb| arr h k off len v s hv c=>exact (s rfl).elim| el h k i j v s hv c=>exact (s rfl).elim| ref cs b off C E fr g u hc h1 y=>exact .ref cs b off C E fr g u hc h1 y| agg cs vs l _ ih=>exact .agg cs vs l ih| tup cs vs l _ ih=>exact .tup cs vs l ih| fn f q vs l _ ih=>exact .fn f q vs l ih
theorem A08 {x:AV} (h:x.free1=true) (d:∀cs,x≠.agg cs):x.cl1=true:=by cases x <;> first|exact h|exact (d _ rfl).elim
theorem Conc.to0 {x:AV} (hx:x.free=true) (h:Conc σ ι H x v):Conc σ ι0 H0 x v:=by
 have B:∀(cs:List AV),cs.all AV.cl1=true->∀(i:Nat) (c:AV) (u:Value),cs[i]? = some c->Conc σ ι H c u->Conc σ ι0 H0 c u:=by intro cs s i c u hc h;exact .cc (h.cc_of (En.1 s c (Fq hc))).1
 cases h with
 | cc h=>exact .cc h
 | loc=>cases hx
 | mp=>cases hx
 | vec=>cases hx
 | arr=>cases hx
 | el=>cases hx
 | ref cs b off C E fr g z hc h1 A=>exact .ref cs b off C E fr g z hc h1 A
 | agg cs vs l h=>exact .agg cs vs l λi c u h1 h2=>B cs hx i c u h1 (h i c u h1 h2)
 | tup cs vs l h=>refine .tup cs vs l λi c u h1 h2=>?_;have hf:=En.1 hx c (Fq h1);have hc:=h i c u h1 h2;cases c with| agg ds=>obtain⟨y,rfl,q,hv⟩:=hc.agg_inv;exact .agg ds y q λj d v D I=>B ds hf j d v D (hv j d v D I)| _=>exact .cc (hc.cc_of (A08 hf (by intro cs e;cases e))).1
 | fn f k vs l h=>exact .fn f k vs l λi c u h1 h2=>B k hx i c u h1 (h i c u h1 h2)
theorem Conc.fn_inv {f:FuncId} (h:Conc σ ι H (.fn f b) v) : ∃vs:Array Value,v = .func (.func f) #[] vs/\vs.size=b.length/\∀(i:Nat) (c:AV) (u:Value),b[i]? = some c->vs[i]? = some u->Conc σ ι H c u:=by cases h with| cc h=>cases h| fn _ _ vs g h=>exact⟨vs,rfl,g,h⟩
theorem Adt {xs:Array Operand} {vs:Array Value} (I:∀x∈xs.toList,Conc σ ι H (ρ x) (a.eval x)) (f:vs.size=b.length) (J:∀(i:Nat) (c:AV) (u:Value),b[i]? = some c->vs[i]? = some u->Conc σ ι H c u):Lt σ ι H (xs.toList.map ρ ++ b) (xs.map a.eval++vs):=by
 refine⟨by simp[f],λi c u B D=>?_⟩;by_cases d:i<xs.size
 .rw[getElem?_append_left (by simpa using d),getElem?_map,G6]at B;rw[Array.getElem?_append_left (by simpa using d),Array.getElem?_map]at D;simp[d]at B D;subst B;subst D;exact I _ ψ
 .rw[getElem?_append_right ζ]at B;rw[Array.getElem?_append_right ζ]at D;simp at B D;exact J _ c u B D
theorem A09 {c:Call} {f:FuncId} (G:o.op = .call c) (h:c.callee = .value x) (R:ρ x = .fn f g) (hp:A8 P f (c.args.toList.map ρ ++ g) r) (l:(c.args.toList.map ρ ++ g).all AV.free=true):Cn P o ρ ⟨r,[],[]⟩:=by
 intro σ ι H F W w a next Q s B _ U
 obtain⟨⟨fn,V,k,q⟩,hp⟩:=hp;have z:=B x (by simp[G,Op.operands,Call.operands,h]);rw[R]at z;obtain⟨d,X,L,E⟩:=z.fn_inv;have j:Lt σ ι H (c.args.toList.map ρ ++ g) (c.args.map a.eval++d) :=
  Adt (λy M=>B y (by simp only[G,Op.operands,Call.operands,h];simp at M ⊢;exact .inr M)) L E
 have A:(execOp a.eval o).run P w = .ok (.enter f (c.args.map a.eval++d)) w:=by have I:(callFunc f (c.args.map a.eval++d)).run P w = .ok (.enter f (c.args.map a.eval++d)) w:=(by unfold callFunc;simp only[Sem.run_bind,program,Sem.run,Result.andThen_ok,V,k,q,Bool.false_eq_true,if_false,Sem.run_pure]);simp only[execOp,G,resolve,h,X,Deferred.ofValue,invoke,Sem.run_bind,Sem.run_pure,Result.andThen_ok,Array.empty_append,I]
 unfold Oper.wp;rw[A];simp only[Oper.upon];refine (hp σ (Tb σ w) W w (c.args.map a.eval++d) s.lend ⟨j.1,λi b u N h2=>(j.2 i b u N h2).to0 (En.1 l b (Fq N))⟩).mono ?_;rintro e w' ⟨v,J,rfl,D,s',hc⟩;exact U J ι v w' ⟨D,λ_=>HLe.refl _ _⟩ (s.unlend D s') hc.of0
theorem A1a {c:Call} {f:FuncId} (B:o.op = .call c) (h:c.callee = .value x) (L:ρ x = .fn f g) (hp:Ext P f (c.args.toList.map ρ ++ g) r) (k:(c.args.toList.map ρ ++ g).all AV.free=true):Cn P o ρ ⟨r,[],[]⟩:=by
 intro σ ι H F W w a next Q s z _ M
 have l:=z x (by simp[B,Op.operands,Call.operands,h]);rw[L]at l;obtain⟨d,N,E,A⟩:=l.fn_inv;have j:Lt σ ι H (c.args.toList.map ρ ++ g) (c.args.map a.eval++d) :=
  Adt (λy I=>z y (by simp only[B,Op.operands,Call.operands,h];simp at I ⊢;exact .inr I)) E A
 obtain⟨v,D,R⟩:=hp σ (Tb σ w) W w (c.args.map a.eval++d) s.lend ⟨j.1,λi b u J U=>(j.2 i b u J U).to0 (En.1 k b (Fq J))⟩;have q:(execOp a.eval o).run P w = .ok (.value v) w:=by simp only[execOp,B,resolve,h,N,Deferred.ofValue,invoke,Sem.run_bind,Sem.run_pure,Result.andThen_ok,Array.empty_append,D]
 exact Gx q (M σ ι v w (Le.refl _ _ _) s R.of0)
theorem A1b {c:Call} {f:FuncId} {j h sz:Nat} {E:TypeId} {xs:List AV} (S:o.op = .call c) (k:c.callee = .value x) (hx:ρ x = .fn f g) (hj:(c.args.toList.map ρ ++ g)[j]? = some (.arr h xs.length 0 xs.length)) (hp:A8 P f ((c.args.toList.map ρ ++ g).set j (.sl sz xs)) r) (A:((c.args.toList.map ρ ++ g).set j (.sl sz xs)).all AV.free=true):Cn P o ρ ⟨r,[(h,.rows E sz xs)],[(h,.dead)]⟩:=by
 intro σ ι H F W w a next Q s J R hk
 have hh:H h = .rows E sz xs:=R (h,.rows E sz xs) ψ;obtain⟨⟨fn,hf,z,B⟩,hp⟩:=hp;have G:=J x (by simp[S,Op.operands,Call.operands,k]);rw[hx]at G;obtain⟨vs,hv,hl,M⟩:=G.fn_inv;have q:Lt σ ι H (c.args.toList.map ρ ++ g) (c.args.map a.eval++vs) :=
  Adt (λy hy=>J y (by simp only[S,Op.operands,Call.operands,k];simp at hy ⊢;exact .inr hy)) hl M
 obtain⟨N,D,Y,V⟩:=s.freeze hh;have l:Lt N ι (Az H h .dead) ((c.args.toList.map ρ ++ g).set j (.sl sz xs)) (c.args.map a.eval++vs):=by
  refine⟨by rw[length_set];exact q.1,λi b u d h2=>?_⟩;rw[getElem?_set]at d;split at d
  .rename_i U;split at d
   .cases d;subst U;have hc:=q.2 j _ u hj h2;have:=V 0 xs.length _ ω (hc.arr_inv hh rfl);rw[drop_zero,take_of_length_le ω]at this;exact .cc this
   .cases d
  .exact (q.2 i b u d h2).mono D
 have I:(execOp a.eval o).run P w = .ok (.enter f (c.args.map a.eval++vs)) w:=by have X:(callFunc f (c.args.map a.eval++vs)).run P w = .ok (.enter f (c.args.map a.eval++vs)) w:=(by unfold callFunc;simp only[Sem.run_bind,program,Sem.run,Result.andThen_ok,hf,z,B,Bool.false_eq_true,if_false,Sem.run_pure]);simp only[execOp,S,resolve,k,hv,Deferred.ofValue,invoke,Sem.run_bind,Sem.run_pure,Result.andThen_ok,Array.empty_append,X]
 unfold Oper.wp;rw[I];simp only[Oper.upon];refine (hp N (Tb N w) W w (c.args.map a.eval++vs) Y.lend ⟨l.1,λi b u d h2=>(l.2 i b u d h2).to0 (En.1 A b (Fq d))⟩).mono ?_;rintro e w' ⟨v,Z,rfl,L,s',hc⟩;exact hk Z ι v w' (D.trans ⟨L,λ_=>HLe.refl _ _⟩) (Y.unlend L s') hc.of0
end
variable {o:Bm} {es:Nat->Nat}
theorem Hx {a b:Nat} (h:Nat.blt a b=true):a<b:=G2 h
theorem Ajc:J9 es o = .none↔o = .none:=by cases o <;> simp[J9]
theorem Adu:(J9 es o).live=o.live:=by cases o <;> rfl
theorem Ajd {E:TypeId} {sz:Nat} {xs:List AV}:J9 es o = .rows E sz xs↔o = .rows E sz xs:=by cases o <;> simp[J9]
section
variable {es:Nat->Nat} {m:Nat} {σ:A7} {ι ιl:Cb} {H I:Hp}
variable {x:AV} {n:Nat} {v:Value}
theorem Ok (f:∀k,k<m->ιl k=ι (es k)) (A:∀k,k<m->H (es k)=J9 es (I k)) (B:x.under0 m=true):Conc σ ι H (Ai3 es x) v↔Conc σ ιl I x v:=by
 have rows:∀k,k<m->∀E sz xs,H (es k) = .rows E sz xs↔I k = .rows E sz xs:=λk d E sz xs=>by rw[A k d];exact Ajd
 have some:∀k,k<m->(H (es k)≠.none↔I k≠.none):=λk d=>by rw[A k d];exact not_congr Ajc
 constructor
 .intro h;cases x with
  | val u=>cases h with|cc h=>exact .cc h
  | sl sz xs=>cases h with|cc h=>exact .cc h
  | fb s=>cases h with|cc h=>exact .cc h
  | ref cs=>cases h with| cc h=>exact .cc h| ref cs b off C E L g y M N z=>exact .ref cs b off C E L g y M N z
  | loc k off=>have d:=Hx B;cases h with| cc h=>cases h| loc _ _ b D=>exact .loc k off b (by rw[f k d];exact D)
  | mp k=>have d:=Hx B;cases h with| cc h=>cases h| mp _ b D=>exact .mp k b (by rw[f k d];exact D)
  | vec k n=>have d:=Hx B;cases h with| cc h=>cases h| vec _ _ b D=>exact .vec k n b (by rw[f k d];exact D)
  | arr k q off len=>have d:=Hx B;cases h with| cc h=>cases h| arr _ _ _ _ _ l J c=>exact .arr k q off len v ((some k d).1 l) (λE sz xs e=>by rw[f k d];exact J E sz xs ((rows k d E sz xs).2 e)) c
  | el k q i j=>have d:=Hx B;cases h with| cc h=>cases h| el _ _ _ _ _ l J c=>exact .el k q i j v ((some k d).1 l) (λE sz xs e=>by rw[f k d];exact J E sz xs ((rows k d E sz xs).2 e)) c
  | agg=>cases B
  | tup=>cases B
  | fn=>cases B
 .intro h;cases x with
  | val u=>cases h with|cc h=>exact .cc h
  | sl sz xs=>cases h with|cc h=>exact .cc h
  | fb s=>cases h with|cc h=>exact .cc h
  | ref cs=>cases h with| cc h=>exact .cc h| ref cs b off C E L g y M N z=>exact .ref cs b off C E L g y M N z
  | loc k off=>have d:=Hx B;cases h with| cc h=>cases h| loc _ _ b D=>exact .loc (es k) off b (by rw[<-f k d];exact D)
  | mp k=>have d:=Hx B;cases h with| cc h=>cases h| mp _ b D=>exact .mp (es k) b (by rw[<-f k d];exact D)
  | vec k n=>have d:=Hx B;cases h with| cc h=>cases h| vec _ _ b D=>exact .vec (es k) n b (by rw[<-f k d];exact D)
  | arr k q off len=>have d:=Hx B;cases h with| cc h=>cases h| arr _ _ _ _ _ l J c=>exact .arr (es k) q off len v ((some k d).2 l) (λE sz xs e=>by rw[<-f k d];exact J E sz xs ((rows k d E sz xs).1 e)) c
  | el k q i j=>have d:=Hx B;cases h with| cc h=>cases h| el _ _ _ _ _ l J c=>exact .el (es k) q i j v ((some k d).2 l) (λE sz xs e=>by rw[<-f k d];exact J E sz xs ((rows k d E sz xs).1 e)) c
  | agg=>cases B
  | tup=>cases B
  | fn=>cases B
theorem Iw (b:∀k,k<m->ιl k=ι (es k)) (g:∀k,k<m->H (es k)=J9 es (I k)) (d:x.under1 m=true):Conc σ ι H (Oi es x) v↔Conc σ ιl I x v:=by
 have cells:∀{cs:List AV},cs.all (AV.under0 m)=true->∀(i:Nat) (c:AV),cs[i]? = some c->∀u,(Conc σ ι H (Ai3 es c) u↔Conc σ ιl I c u) :=
  λq i c D u=>Ok b g (En.1 q c (Fq D));cases x with
 | fn f cs=>
  constructor
  .intro h;obtain⟨J,rfl,l,h⟩:=h.fn_inv;exact .fn f cs J (by simpa using l) λi c u B L=>(cells d i c B u).1 (h i _ u (by simp[B]) L)
  .intro h;obtain⟨J,rfl,l,h⟩:=h.fn_inv;refine .fn f _ J (by simpa using l) λi c u B L=>?_;rw[getElem?_map]at B;cases D:cs[i]? with| none=>rw[D]at B;cases B| some y=>rw[D]at B;cases B;exact (cells d i y D u).2 (h i y u D L)
 | agg cs=>cases d
 | tup cs=>cases d
 | val u=>exact Ok (x:=(.val u)) b g d
 | loc h off=>exact Ok (x:=(.loc h off)) b g d
 | arr h k off len=>exact Ok (x:=(.arr h k off len)) b g d
 | el h k i j=>exact Ok (x:=(.el h k i j)) b g d
 | mp h=>exact Ok (x:=(.mp h)) b g d
 | vec h n=>exact Ok (x:=(.vec h n)) b g d
 | ref cs=>exact Ok (x:=(.ref cs)) b g d
 | sl sz xs=>exact Ok (x:=(.sl sz xs)) b g d
 | fb s=>exact Ok (x:=(.fb s)) b g d
theorem A1c (h:x.under0 n=true):x.under1 n=true:=by cases x <;> first|exact h|cases h
theorem Aje (h:x.under1 n=true):x.under n=true:=by cases x with| fn f cs=>exact En.2 λc d=>A1c (En.1 h c d)| agg cs=>cases h| tup cs=>cases h| _=>exact h
theorem A1d (b:∀k,k<m->ιl k=ι (es k)) (g:∀k,k<m->H (es k)=J9 es (I k)) (d:x.under2 m=true):Conc σ ι H (Ai4 es x) v↔Conc σ ιl I x v:=by
 have cells:∀{cs:List AV},cs.all (AV.under1 m)=true->∀(i:Nat) (c:AV),cs[i]? = some c->∀u,(Conc σ ι H (Oi es c) u↔Conc σ ιl I c u) :=
  λq i c D u=>Iw b g (En.1 q c (Fq D));cases x with
 | agg cs=>
  constructor
  .intro h;obtain⟨J,rfl,l,h⟩:=h.agg_inv;exact .agg cs J (by simpa using l) λi c u B L=>(cells d i c B u).1 (h i _ u (by simp[B]) L)
  .intro h;obtain⟨J,rfl,l,h⟩:=h.agg_inv;refine .agg _ J (by simpa using l) λi c u B L=>?_;rw[getElem?_map]at B;cases D:cs[i]? with| none=>rw[D]at B;cases B| some y=>rw[D]at B;cases B;exact (cells d i y D u).2 (h i y u D L)
 | tup cs=>cases d
 | fn f cs=>exact Iw (x:=(.fn f cs)) b g d
 | val u=>exact Iw (x:=(.val u)) b g d
 | loc h off=>exact Iw (x:=(.loc h off)) b g d
 | arr h k off len=>exact Iw (x:=(.arr h k off len)) b g d
 | el h k i j=>exact Iw (x:=(.el h k i j)) b g d
 | mp h=>exact Iw (x:=(.mp h)) b g d
 | vec h n=>exact Iw (x:=(.vec h n)) b g d
 | ref cs=>exact Iw (x:=(.ref cs)) b g d
 | sl sz xs=>exact Iw (x:=(.sl sz xs)) b g d
 | fb s=>exact Iw (x:=(.fb s)) b g d
theorem Aou (g:∀k,k<m->ιl k=ι (es k)) (q:∀k,k<m->H (es k)=J9 es (I k)) (D:x.under m=true):Conc σ ι H (ren es x) v↔Conc σ ιl I x v:=by
 have cells:∀{cs:List AV},cs.all (AV.under1 m)=true->∀(i:Nat) (c:AV),cs[i]? = some c->∀u,(Conc σ ι H (Oi es c) u↔Conc σ ιl I c u) :=
  λz i c B u=>Iw g q (En.1 z c (Fq B));have b:∀{cs:List AV},cs.all (AV.under2 m)=true->∀(i:Nat) (c:AV),cs[i]? = some c->∀u,(Conc σ ι H (Ai4 es c) u↔Conc σ ιl I c u) :=
  λz i c B u=>A1d g q (En.1 z c (Fq B));cases x with
 | agg cs=>
  constructor
  .intro h;obtain⟨J,rfl,l,h⟩:=h.agg_inv;exact .agg cs J (by simpa using l) λi c u d L=>(cells D i c d u).1 (h i _ u (by simp[d]) L)
  .intro h;obtain⟨J,rfl,l,h⟩:=h.agg_inv;refine .agg _ J (by simpa using l) λi c u d L=>?_;rw[getElem?_map]at d;cases B:cs[i]? with| none=>rw[B]at d;cases d| some y=>rw[B]at d;cases d;exact (cells D i y B u).2 (h i y u B L)
 | tup cs=>
  constructor
  .intro h;obtain⟨J,rfl,l,h⟩:=h.tup_inv;exact .tup cs J (by simpa using l) λi c u d L=>(b D i c d u).1 (h i _ u (by simp[d]) L)
  .intro h;obtain⟨J,rfl,l,h⟩:=h.tup_inv;refine .tup _ J (by simpa using l) λi c u d L=>?_;rw[getElem?_map]at d;cases B:cs[i]? with| none=>rw[B]at d;cases d| some y=>rw[B]at d;cases d;exact (b D i y B u).2 (h i y u B L)
 | fn f cs=>
  constructor
  .intro h;obtain⟨J,rfl,l,h⟩:=h.fn_inv;exact .fn f cs J (by simpa using l) λi c u d L=>(cells D i c d u).1 (h i _ u (by simp[d]) L)
  .intro h;obtain⟨J,rfl,l,h⟩:=h.fn_inv;refine .fn f _ J (by simpa using l) λi c u d L=>?_;rw[getElem?_map]at d;cases B:cs[i]? with| none=>rw[B]at d;cases d| some y=>rw[B]at d;cases d;exact (cells D i y B u).2 (h i y u B L)
 | val u=>exact Iw (x:=(.val u)) g q D
 | loc h off=>exact Iw (x:=(.loc h off)) g q D
 | arr h k off len=>exact Iw (x:=(.arr h k off len)) g q D
 | el h k i j=>exact Iw (x:=(.el h k i j)) g q D
 | mp h=>exact Iw (x:=(.mp h)) g q D
 | vec h n=>exact Iw (x:=(.vec h n)) g q D
 | ref cs=>exact Iw (x:=(.ref cs)) g q D
 | sl sz xs=>exact Iw (x:=(.sl sz xs)) g q D
 | fb s=>exact Iw (x:=(.fb s)) g q D
theorem Aov (z:∀k,k<m->ιl k=ι (es k)) (A:∀k,k<m->H (es k)=J9 es (I k)) {F D:A7} {w:World} {k:Nat} (X:k<m) (R:(I k).under m=true) (h:∀b,(I k).live=true->(ιl k).block? = some b->(F b=none↔D b=none)):C4 σ ι H F w (es k)↔C4 σ ιl I D w k:=by
 have cells:∀{cs:List AV},cs.all (AV.under1 m)=true->∀(i:Nat) (c:AV),cs[i]? = some c->∀u,(Conc σ ι H (Oi es c) u↔Conc σ ιl I c u) :=
  λs i c N u=>Iw z A (En.1 s c (Fq N));unfold C4;rw[A k X,<-z k X];cases U:I k with
 | none=>exact Iff.rfl
 | dead=>exact Iff.rfl
 | map l=>
  simp only[J9];rw[U]at h;constructor
  .rintro⟨b,M,q,f,d,J,L⟩;exact⟨b,M,q,f,d,(h b rfl (by rw[f];rfl)).1 J,L⟩
  .rintro⟨b,M,q,f,d,J,L⟩;exact⟨b,M,q,f,d,(h b rfl (by rw[f];rfl)).2 J,L⟩
 | rows E sz xs=>
  simp only[J9];rw[U]at h;refine and_congr Iff.rfl (and_congr Iff.rfl (or_congr Iff.rfl ?_));constructor
  .rintro⟨b,j,C,f,d,J,L⟩;exact⟨b,j,C,f,d,(h b rfl (by rw[f];rfl)).1 J,L⟩
  .rintro⟨b,j,C,f,d,J,L⟩;exact⟨b,j,C,f,d,(h b rfl (by rw[f];rfl)).2 J,L⟩
 | cells E cs=>
  simp only[J9];rw[U]at h R;constructor
  .rintro⟨b,C,f,d,J,L,y,x⟩;refine⟨b,C,f,d,(h b rfl (by rw[f];rfl)).1 J,L,by simpa using y,λi c v N V=>(cells R i c N v).1 (x i _ v (by simp[N]) V)⟩
  .rintro⟨b,C,f,d,J,L,y,x⟩;refine⟨b,C,f,d,(h b rfl (by rw[f];rfl)).2 J,L,by simpa using y,λi c v N V=>?_⟩;rw[getElem?_map]at N;cases g:cs[i]? with| none=>rw[g]at N;cases N| some B=>rw[g]at N;cases N;exact (cells R i B g v).2 (x i B v g V)
end
variable {b:List Bm} {k:Nat}
theorem Ajf {n:Nat}:∀{l:List Nat} {k:Nat},Oj n l=true->k<l.length->Df n l k<n
 | [],k,_,h=>by simp at h
 | h::l,0,b,_=>by simp only[Oj,Fw]at b;exact Hx b.1.1
 | h::l,k+1,b,d=>by simp only[Oj,Fw]at b;exact Ajf (l:=l) b.2 (by simpa using d)
theorem Yr {n:Nat}:∀{l:List Nat} {k:Nat},l.length<=k->Df n l k=n+(k-l.length)
 | [],k,_=>by simp[Df]
 | h::l,0,d=>by simp at d
 | h::l,k+1,d=>by simp only[Df,length_cons];rw[Yr (l:=l) (by simpa using d)];omega
theorem Ajg {n:Nat}:∀{l:List Nat} {k:Nat},k<l.length->Df n l k∈l
 | [],k,h=>by simp at h
 | h::l,0,_=>by simp[Df]
 | h::l,k+1,d=>by simp only[Df];exact mem_cons_of_mem _ (Ajg (by simpa using d))
theorem Aow {n:Nat}:∀{l:List Nat} {j k:Nat},Oj n l=true->Df n l j=Df n l k->j=k
 | [],j,k,_,h=>by simp only[Df]at h;omega
 | h::l,0,0,_,_=>rfl
 | h::l,j+1,k+1,b,e=>by simp only[Oj,Fw]at b;simp only[Df]at e;rw[Aow (l:=l) b.2 e]
 | h::l,0,k+1,b,e=>by
  simp only[Oj,Fw]at b;simp only[Df]at e;rcases Nat.lt_or_ge k l.length with d|d
  .have:=Ajg (n:=n) d;rw[<-e]at this;simp[this]at b
  .have u:=Yr (n:=n) d;have B:=Hx b.1.1;omega
 | h::l,j+1,0,b,e=>by
  simp only[Oj,Fw]at b;simp only[Df]at e;rcases Nat.lt_or_ge j l.length with d|d
  .have:=Ajg (n:=n) d;rw[e]at this;simp[this]at b
  .have u:=Yr (n:=n) d;have B:=Hx b.1.1;omega
theorem Aox {es:Nat->Nat}:∀{os:List Bm} {k i:Nat} {o:Bm},os[i]? = some o->(es (k+i),J9 es o)∈E2 es k os
 | [],k,i,o,h=>by simp at h
 | p::os,k,0,o,h=>by simp at h;subst h;simp[E2]
 | p::os,k,i+1,o,h=>by simp only[E2];refine mem_cons_of_mem _ ?_;have:=Aox (es:=es) (k:=k+1) (i:=i) (by simpa using h);rwa [show k+(i+1)=k+1+i by omega]
theorem Ys {es:Nat->Nat}:∀{os:List Bm} {k x:Nat} {H:Hp},(∀i,i<os.length->es (k+i)≠x)->Cp H (E2 es k os) x=H x
 | [],k,x,H,h=>rfl
 | q::os,k,x,H,h=>by simp only[E2,Cp];rw[Ys (λi hi=>by rw[show k+1+i=k+(i+1) by omega];exact h (i+1) (by simpa using hi)),Cu _ _ (Ne.symm (by simpa using h 0 ψ))]
theorem Aoy {es:Nat->Nat} (b:∀i j,es i=es j->i=j):∀{os:List Bm} {k i:Nat} {o:Bm} {H:Hp},os[i]? = some o->Cp H (E2 es k os) (es (k+i))=J9 es o
 | [],k,i,o,H,h=>by simp at h
 | q::os,k,0,o,H,h=>by simp at h;subst h;simp only[E2,Cp];rw[Ys (λi hi e=>by have:=b _ _ e;omega)];exact Ch _ _ _
 | q::os,k,i+1,o,H,h=>by simp only[E2,Cp];rw[show k+(i+1)=k+1+i by omega];exact Aoy b (by simpa using h)
theorem Aoz {es:Nat->Nat}:∀{c k i:Nat},i<c->(es (k+i),Bm.none)∈Cq es k c
 | 0,k,i,h=>ω
 | c+1,k,0,h=>by simp[Cq]
 | c+1,k,i+1,h=>by simp only[Cq];refine mem_cons_of_mem _ ?_;have:=Aoz (es:=es) (c:=c) (k:=k+1) (i:=i) ω;rwa [show k+(i+1)=k+1+i by omega]
theorem Ao0 {es:Nat->Nat}:∀{c k:Nat} {p:Nat×Bm},p∈Cq es k c->∃i,i<c/\p=(es (k+i),Bm.none)
 | 0,k,p,h=>by simp[Cq]at h
 | c+1,k,p,h=>by
  simp only[Cq,mem_cons]at h;rcases h with rfl|h
  .exact⟨0,ω,rfl⟩
  .obtain⟨i,u,d⟩:=Ao0 h;exact⟨i+1,ω,by rw[d,show k+(i+1)=k+1+i by omega]⟩
theorem Nm.spec {H:Hp}:∀{l:List (Nat×Bm)},Nm H l->∀p∈l,H p.1=p.2
 | [],_,p,hp=>by cases hp
 | q::l,h,p,hp=>by
  rcases mem_cons.1 hp with rfl|hp
  .exact h.1
  .exact Nm.spec h.2 p hp
theorem Yt (h:k<b.length):b[k]? = some (hp b k):=by simp[hp,h]
theorem Q6 (h:b.length<=k):hp b k = .none:=by simp[hp,getElem?_eq_none h]
section
variable {P:Program} {o:Oper} {ρ:Operand->AV} {a:Act} {w w':World}
open Classical in
theorem Ao1 {n m:Nat} {c:Call} {x:Operand} {f:FuncId} {b1:List AV} {l:List Nat} {a1:List AV} {L:List Bm} {R:AV->List Bm->Prop} (ho:o.op = .call c) (b2:c.callee = .value x) (hx:ρ x = .fn f b1) (g5:Nl P f a1 L R) (ha:a1.map (ren (Df n l))=c.args.toList.map ρ ++ b1) {r0:AV} {g6:List Bm} (h0:R r0 g6) (ok:∀r d,R r d->K4 n l a1 L r d=true/\d.length=m) {σ:A7} {ι:Cb} {H:Hp} {F:A7} {W w:World} {a:Act} {next:Act->World->Prop} {Q:Exit->Act->World->Prop} (s:St σ ι H F W w) (c9:∀x∈o.op.operands.toList,Conc σ ι H (ρ x) (a.eval x)) (e3:∀p∈E2 (Df n l) 0 L++Cq (Df n l) l.length (m-l.length),H p.1=p.2) (hk:∀r d,R r d->∀σ' ι' v w',Le σ ι H σ' ι' (Cp H (E2 (Df n l) 0 d))->St σ' ι' (Cp H (E2 (Df n l) 0 d)) F W w'->Conc σ' ι' (Cp H (E2 (Df n l) 0 d)) (ren (Df n l) r) v->next (a.put o.dst v) w'):o.wp P a w next Q:=by
 have e4:=(ok _ _ h0).1;simp only[K4,Fw]at e4;obtain⟨⟨⟨⟨⟨⟨o1,o2⟩,o3⟩,o4⟩,o5⟩,-⟩,-⟩:=e4;have o2:=Ha o2;generalize g7:Df n l=es at *;have c5:∀i j,es i=es j->i=j:=λi j e=>by rw[<-g7]at e;exact Aow o1 e
 obtain⟨⟨fn,hf,c6,c7⟩,g8⟩:=g5;have e5:=c9 x (by simp[ho,Op.operands,Call.operands,b2]);rw[hx]at e5;obtain⟨vs,hv,hl,e6⟩:=e5.fn_inv;have b3:Lt σ ι H (c.args.toList.map ρ ++ b1) (c.args.map a.eval++vs) :=
  Adt (λy hy=>c9 y (by simp only[ho,Op.operands,Call.operands,b2];simp at hy ⊢;exact .inr hy)) hl e6
 have e7:(execOp a.eval o).run P w = .ok (.enter f (c.args.map a.eval++vs)) w:=by have g9:(callFunc f (c.args.map a.eval++vs)).run P w = .ok (.enter f (c.args.map a.eval++vs)) w:=(by unfold callFunc;simp only[Sem.run_bind,program,Sem.run,Result.andThen_ok,hf,c6,c7,Bool.false_eq_true,if_false,Sem.run_pure]);simp only[execOp,ho,resolve,b2,hv,Deferred.ofValue,invoke,Sem.run_bind,Sem.run_pure,Result.andThen_ok,Array.empty_append,g9]
 unfold Oper.wp;rw[e7];simp only[Oper.upon];have N:∀k,k<L.length->H (es k)=J9 es (hp L k):=by intro k I;have:=e3 _ (mem_append_left _ (Aox (es:=es) (k:=0) (Yt I)));simpa using this
 have e8:∀k,L.length<=k->k<m->H (es k) = .none:=by intro k B D;have:=e3 _ (mem_append_right _ (Aoz (es:=es) (k:=l.length) (c:=m-l.length) (i:=k-l.length) ω));rwa [show l.length+(k-l.length)=k by omega]at this
 let ιl:Cb:=λk=>if k<L.length then ι (es k) else .none
 let a3:Nat->Prop:=λb=>∃k,k<L.length/\(hp L k).live=true/\(ι (es k)).block? = some b
 let Fl:A7:=λb=>if σ b=none/\¬a3 b then w.heap[b]? else none
 have a6:∀k,k<L.length->ιl k=ι (es k):=λk h=>if_pos h;have U:∀k,k<L.length->(H (es k)).live=(hp L k).live:=λk h=>by rw[N k h,Adu]
 have b8:∀k,k<L.length->(hp L k).under L.length=true:=by intro k h;have:=En.1 o5 _ (Fq (Yt h));rw[o2];exact this
 have b9:∀k,k<L.length->∀b,(hp L k).live=true->(ιl k).block? = some b->F b=none/\Fl b=none:=by intro k h b B D;rw[a6 k h]at D;exact⟨(s.block (by rw[U k h];exact B) D).2.2,if_neg λhn=>hn.2 ⟨k,h,B,D⟩⟩
 have sl:St σ ιl (hp L) Fl W w:=by
  refine⟨s.sto,λb ob hb=>?_,λk=>?_,λk k' b B D V h4=>?_,s.os,s.tape,s.output,s.glo,s.drw⟩
  .by_cases hc:σ b=none/\¬a3 b
   .simp only[Fl,if_pos hc]at hb;exact⟨hb,hc.1⟩
   .simp only[Fl,if_neg hc]at hb;cases hb
  .by_cases I:k<L.length
   .refine (Aov (es:=es) a6 N I (b8 k I) λb B D=>?_).1 (s.obj (es k));obtain⟨V,h4⟩:=b9 k I b B D;rw[V,h4]
   .unfold C4;rw[Q6 ω];exact if_neg I
  .have lt:∀k,(hp L k).live=true->k<L.length:=by
    intro k h;rcases Nat.lt_or_ge k L.length with h'|h'
    .exact h'
    .rw[Q6 h']at h;cases h
   have k1:=lt k B;have k2:=lt k' D;rw[a6 k k1]at V;rw[a6 k' k2]at h4;exact c5 _ _ (s.inj _ _ b (by rw[U k k1];exact B) (by rw[U k' k2];exact D) V h4)
 have c8:Lt σ ιl (hp L) a1 (c.args.map a.eval++vs):=by rw[<-ha]at b3;refine⟨by simpa using b3.1,λi b u B D=>?_⟩;have:=b3.2 i (ren es b) u (by simp[B]) D;refine (Aou (es:=es) a6 N ?_).1 this;rw[o2];exact En.1 o4 b (Fq B)
 refine (g8 σ Fl W w ιl (c.args.map a.eval++vs) sl c8).mono ?_;rintro e w' ⟨r,d,v,σ',ι'l,hR,rfl,c0,s',h7⟩;obtain⟨a7,rfl⟩:=ok _ _ hR;simp only[K4,Fw]at a7;obtain⟨⟨⟨⟨-,o3⟩,-⟩,o6⟩,o7⟩:=(⟨⟨⟨⟨a7.1.1.1.1.1,a7.1.1.1.1.2⟩,a7.1.1.1.2⟩,a7.1.2⟩,a7.2⟩:(((_/\_)/\_)/\_)/\_);have o3:=G2 o3;let ι':Cb:=λh=>if hh:∃k,k<d.length/\es k=h then ι'l hh.choose else ι h
 have a8:∀k,k<d.length->ι'l k=ι' (es k):=by intro k h;have hh:∃k',k' < d.length/\es k'=es k:=⟨k,h,rfl⟩;have:hh.choose=k:=c5 _ _ hh.choose_spec.2;simp only[ι',dif_pos hh,this]
 have b4:∀h,(∀k,k<d.length->es k≠h)->ι' h=ι h:=by intro h J;exact dif_neg (λ⟨k,k1,k2⟩=>J k k1 k2)
 have a9:∀k,k<d.length->Cp H (E2 es 0 d) (es k)=J9 es (hp d k):=by intro k h;have:=Aoy (es:=es) c5 (k:=0) (H:=H) (Yt h);simpa using this
 have b5:∀h,(∀k,k<d.length->es k≠h)->Cp H (E2 es 0 d) h=H h:=by intro h J;exact Ys (λi hi=>by simpa using J i hi)
 have i2:L.length<=d.length:=ω;have e9:Le σ ι H σ' ι' (Cp H (E2 es 0 d)):=by
  refine⟨c0.sto,λh=>?_⟩;by_cases hh:∃k,k<d.length/\es k=h
  .obtain⟨k,I,rfl⟩:=hh;rw[<-a8 k I,a9 k I];by_cases a5:k<L.length
   .have q:=c0.obj k;rw[a6 k a5]at q;rw[N k a5];refine⟨q.box,λh=>?_,λB E sz xs D=>?_⟩
    .rw[Ne,Ajc]at h ⊢;exact q.some h
    .rw[Ne,Ajc]at B;rw[Ajd]at D;obtain⟨E0,h8,h9,e0,r0⟩:=q.rows B E sz xs D;exact⟨E0,h8,h9,Ajd.2 e0,r0⟩
   .have h0:=e8 k ω I;have:ι (es k) = .none:=(by have:=s.obj (es k);unfold C4 at this;rw[h0]at this;exact this);rw[h0,this];exact HLe.of_none
  .have J:∀k,k<d.length->es k≠h:=λk B D=>hh ⟨k,B,D⟩;rw[b4 h J,b5 h J];exact HLe.refl _ _
 have X:∀b,σ b=none->¬a3 b->∀ob,w.heap[b]? = some ob->w'.heap[b]? = some ob/\σ' b=none/\Fl b=some ob:=by intro b B D ob V;have:Fl b=some ob:=(by simp only[Fl];rw[if_pos ⟨B,D⟩];exact V);exact⟨(s'.fra b ob this).1,(s'.fra b ob this).2,this⟩
 have a4:∀h b,(∀k,k<d.length->es k≠h)->(H h).live=true->(ι h).block? = some b->¬a3 b:=by rintro h b J B D ⟨k,k1,k2,k3⟩;exact J k ω (s.inj _ _ b (by rw[U k k1];exact k2) B k3 D)
 have a0:∀b ob,F b=some ob->¬a3 b:=by rintro b ob hb ⟨k,k1,k2,k3⟩;have:=(s.block (by rw[U k k1];exact k2) k3).2.2;rw[this]at hb;cases hb
 have b6:∀k,k<d.length->(hp d k).under d.length=true:=λk h=>En.1 o7 _ (Fq (Yt h));have i0:St σ' ι' (Cp H (E2 es 0 d)) F W w':=by
  refine⟨s'.sto,λb ob hb=>?_,λh=>?_,λh h' b B D V h4=>?_,s'.os,s'.tape,s'.output,s'.glo,s'.drw⟩
  .obtain⟨B,D⟩:=s.fra b ob hb;obtain⟨k1,k2,_⟩:=X b D (a0 b ob hb) ob B;exact⟨k1,k2⟩
  .by_cases hh:∃k,k<d.length/\es k=h
   .obtain⟨k,I,rfl⟩:=hh;refine (Aov (es:=es) a8 a9 I (b6 k I) λb B D=>?_).2 (s'.obj k);have c3:=(s'.block B D).2.2;refine⟨λ_=>c3,λ_=>?_⟩;cases b9:F b with| none=>rfl| some ob=>obtain⟨V,h4⟩:=s.fra b ob b9;have:=(X b h4 (a0 b ob b9) ob V).2.2;rw[c3]at this;cases this
   .have J:∀k,k<d.length->es k≠h:=λk B D=>hh ⟨k,B,D⟩;have a2:=s.obj h;have b0:=λb B D=>a4 h b J B D;unfold C4 at a2 ⊢;rw[b5 h J,b4 h J];cases hx:H h with
    | none=>rw[hx]at a2;exact a2
    | dead=>trivial
    | cells E cs=>rw[hx]at a2 b0;obtain⟨b,C,e1,B,D,V,h4,h5⟩:=a2;obtain⟨k1,k2,_⟩:=X b B (b0 b rfl (by rw[e1];rfl)) _ V;exact⟨b,C,e1,k2,D,k1,h4,λi c v x y=>(h5 i c v x y).mono e9⟩
    | rows E sz xs=>
     rw[hx]at a2 b0;obtain⟨z1,z2,⟨e1,e2⟩|⟨b,i1,C,e1,B,D,V,h4,h5,h6⟩⟩:=a2
     .exact⟨z1,z2,.inl ⟨e1,e2⟩⟩
     .obtain⟨k1,k2,_⟩:=X b B (b0 b rfl (by rw[e1];rfl)) _ V;exact⟨z1,z2,.inr ⟨b,i1,C,e1,k2,D,k1,h4,h5,h6.mono c0.sto⟩⟩
    | map l=>rw[hx]at a2 b0;obtain⟨b,M,q,e1,B,D,V,h4⟩:=a2;obtain⟨k1,k2,_⟩:=X b B (b0 b rfl (by rw[e1];rfl)) _ V;exact⟨b,M,q,e1,k2,D,k1,h4.mono c0.sto⟩
  .have Yu:∀k,k<d.length->∀h,(∀k,k<d.length->es k≠h)->(Cp H (E2 es 0 d) (es k)).live=true->(Cp H (E2 es 0 d) h).live=true->(ι' (es k)).block? = some b->(ι' h).block? = some b->False:=(by intro k I h J g1 g2 g3 g4;rw[a9 k I,Adu]at g1;rw[b5 h J]at g2;rw[<-a8 k I]at g3;rw[b4 h J]at g4;have c3:=(s'.block g1 g3).2.2;have hb:=s.block g2 g4;have g0:w.heap[b]? = some w.heap[b]:=(by simp[hb.1]);have:=(X b hb.2.1 (a4 h b J g2 g4) _ g0).2.2;rw[c3]at this;cases this);by_cases hh:∃k,k<d.length/\es k=h
   .obtain⟨k,I,rfl⟩:=hh;by_cases b7:∃k,k<d.length/\es k=h'
    .obtain⟨k',a5,rfl⟩:=b7;rw[a9 k I,Adu]at B;rw[a9 k' a5,Adu]at D;rw[<-a8 k I]at V;rw[<-a8 k' a5]at h4;rw[s'.inj k k' b B D V h4]
    .exact (Yu k I h' (λk B D=>b7 ⟨k,B,D⟩) B D V h4).elim
   .have J:∀k,k<d.length->es k≠h:=λk B D=>hh ⟨k,B,D⟩;by_cases b7:∃k,k<d.length/\es k=h'
    .obtain⟨k',a5,rfl⟩:=b7;exact (Yu k' a5 h J D B h4 V).elim
    .have c4:∀k,k<d.length->es k≠h':=λk B D=>b7 ⟨k,B,D⟩;rw[b5 h J]at B;rw[b5 h' c4]at D;rw[b4 h J]at V;rw[b4 h' c4]at h4;exact s.inj h h' b B D V h4
 exact hk r d hR σ' ι' v w' e9 i0 ((Aou (es:=es) a8 a9 o6).2 h7)
theorem Ao2 {n:Nat} {c:Call} {x:Operand} {f:FuncId} {h:List AV} {l:List Nat} {b:List AV} {j:List Bm} {r:AV} {g:List Bm} (z:o.op = .call c) (i:c.callee = .value x) (d:ρ x = .fn f h) (q:Bk P f b j r g) (B:b.map (ren (Df n l))=c.args.toList.map ρ ++ h) (y:K4 n l b j r g=true) : Cn P o ρ ⟨ren (Df n l) r,E2 (Df n l) 0 j++Cq (Df n l) l.length (g.length-l.length),E2 (Df n l) 0 g⟩ := λ_ _ _ _ _ _ _ _ _ s u k D=>Ao1 z i d q.toR B ⟨rfl,rfl⟩ (λ_ _ e=>⟨by rw[e.1,e.2];exact y,by rw[e.2]⟩) s u k λ_ _ e=>by rw[e.1,e.2];exact D
end
section
variable {P:Program} {T:Dq} {an:Nat->Ann} {n:Nat} {o:Oper} {ρ:Operand->AV} {H:Hp} {K:Eff->Nat->Prop}
variable {r:AV} {b:Bm} {l:List Nat} {x y:Operand} {α:Type} {t:TypeId}
theorem Hb {b:Bool} {X:Prop} (h:bif b then X else False):b=true/\X:=by cases b with| false=>exact h.elim| true=>exact⟨rfl,h⟩
theorem Adv {x:AV} (h:Mz x=true):x = .val (.slice none 0 0):=by
 unfold Mz at h;split at h
 .rfl
 .cases h
theorem A1e {x:AV} (h:Yo x=true):∀d,x≠.val (.agg d):=by intro d e;subst e;cases h
theorem Ajh {i:TI} (u:Nat.beq (Gj i).cells.length i.zero.length=true) (d:Yo (Gj i)=true) (B:L6 i.size (Gj i)=true):(Gj i).cells=i.zero.map .val:=by
 have _:=u;have _:=B
 unfold Gj at d ⊢;cases D:i.d with
 | struct I=>rfl
 | _=>
  rw[D]at d;cases b:i.zero with
  | nil=>rfl
  | cons v l=>
   cases l with
   | cons _ _=>rfl
   | nil=>rw[b]at d;cases v <;> first|rfl|cases d
theorem V2 {c:Array α} {x y:α} (h:c.toList = [x,y]):c = #[x,y]:=by apply Array.ext';simpa using h
theorem V3 {c:Array α} {x:α} (h:c.toList = [x]):c = #[x]:=by apply Array.ext';simpa using h
theorem V4 {c:Call} {b:Builtin} {xs:Array Operand} {ts:Array TypeId} (d:c.callee = .builtin b) (u:c.args=xs) (B:c.argTypes=ts):c = {callee:=.builtin b,args:=xs,argTypes:=ts}:=by cases c;simp_all
def Gy (H:Hp) (n:Nat):Prop:=∀m,n<=m->H m = .none
def Nr (P:Program) (o:Oper) (ρ:Operand->AV) (H:Hp) (n:Nat) (K:Eff->Nat->Prop):Prop := ∃b m,Cn P o ρ b/\(∀p∈b.rd,H p.1=p.2)/\K b m/\n<=m/\Gy (Cp H b.wr) m
theorem D7 (b:Gy H n) (h:Cn P o ρ ⟨r,[],[]⟩) (k:K ⟨r,[],[]⟩ n):Nr P o ρ H n K:=⟨_,n,h,ψ,k,Nat.le_refl _,b⟩
theorem Ol (c:Gy H n) {x:Nat} (h:Cn P o ρ ⟨r,[(x,b)],[]⟩) (d:H x=b) (k:K ⟨r,[(x,b)],[]⟩ n):Nr P o ρ H n K := ⟨_,n,h,by simpa using d,k,Nat.le_refl _,c⟩
theorem Om (g:Gy H n) {x:Nat} {c:Bm} (h:Cn P o ρ ⟨r,[(x,c)],[(x,b)]⟩) (d:H x=c) (f:c≠.none) (k:K ⟨r,[(x,c)],[(x,b)]⟩ n):Nr P o ρ H n K:=by
 refine⟨_,n,h,by simpa using d,k,Nat.le_refl _,λm i=>?_⟩;have u:x<n:=by
  rcases Nat.lt_or_ge x n with h|h
  .exact h
  .exact (f (d ▸ g x h)).elim
 show Az H x b m=_;rw[Cu _ _ ω];exact g m i
theorem Ps (c:Gy H n) (h:Cn P o ρ ⟨r,[(n,.none)],[(n,b)]⟩) (k:K ⟨r,[(n,.none)],[(n,b)]⟩ (n+1)):Nr P o ρ H n K:=by refine⟨_,n+1,h,by simpa using c n (Nat.le_refl _),k,ω,λm f=>?_⟩;show Az H n b m=_;rw[Cu _ _ ω];exact c m ω
theorem Ao3 {H:Hp}:∀{l:List (Nat×Bm)},(∀p∈l,H p.1=p.2)->Cp H l=H
 | [],_=>rfl
 | p::l,h=>by
  have e:Az H p.1 p.2=H:=by
   funext q;by_cases d:q=p.1
   .subst d;rw[Ch];exact (h p ψ).symm
   .exact Cu _ _ d
  show Cp (Az H p.1 p.2) l=H;rw[e];exact Ao3 λq d=>h q (by simp[d])
theorem A1f {c:Call} {f:FuncId} {h:List AV} {b:List AV} {g:List Bm} (A:o.op = .call c) (j:c.callee = .value x) (J:ρ x = .fn f h) (q:Bk P f b g r g) (L:b.map (ren (Df n l))=c.args.toList.map ρ ++ h) (k:K4 n l b g r g=true):Cn P o ρ ⟨ren (Df n l) r,E2 (Df n l) 0 g,[]⟩:=by
 intro σ ι H F W w a next Q s u i M
 have E:g.length=l.length:=by simp only[K4,Fw]at k;exact Ha k.1.1.1.1.1.2
 have D:g.length-l.length=0:=ω;refine Ao2 A j J q L k σ ι H F W w a next Q s u (λp hp=>?_) (λy z v w' le d I=>?_)
 .rw[D]at hp;rcases mem_append.1 hp with hp|hp
  .exact i p hp
  .simp[Cq]at hp
 .have B:Cp H (E2 (Df n l) 0 g)=H:=Ao3 i;dsimp only at le d I;rw[B]at le d I;exact M y z v w' le d I
theorem A1g (j:Gy H n) {c:List AV} {f b:List Bm} (g:K4 n l c f r b=true) (hh:Nm H (E2 (Df n l) 0 f)) (h:Cn P o ρ ⟨ren (Df n l) r,E2 (Df n l) 0 f++Cq (Df n l) l.length (b.length-l.length),E2 (Df n l) 0 b⟩) (k:K ⟨ren (Df n l) r,E2 (Df n l) 0 f++Cq (Df n l) l.length (b.length-l.length),E2 (Df n l) 0 b⟩ (n+(b.length-l.length))):Nr P o ρ H n K:=by
 simp only[K4,Fw]at g;have s:=g.1.1.1.1.1.1;have u:=G2 g.1.1.1.1.2;refine⟨_,n+(b.length-l.length),h,λp hp=>?_,k,ω,λq B=>?_⟩
 .rcases mem_append.1 hp with hp|hp
  .exact hh.spec p hp
  .obtain⟨i,hi,rfl⟩:=Ao0 hp;refine j _ ?_;show n<=Df n l (l.length+i);rw[Yr ω];omega
 .show Cp H (E2 (Df n l) 0 b) q = .none;rw[Ys λi hi e=>?_]
  .exact j q ω
  .rcases Nat.lt_or_ge (0+i) l.length with d|d
   .have:=Ajf s d;omega
   .have:=Yr (n:=n) d;omega
theorem A1h (l:Dt P T) (g:Gy H n) (f:o.op = .load t x) (h:sop P T an n o ρ H K):Nr P o ρ H n K:=by
 unfold sop at h;rw[f]at h;dsimp only at h;split at h
 .rename_i i u;split at h
  .rename_i cs d;cases b:i.isAgg with
   | true=>rw[b]at h;simp only[cond_true]at h;obtain⟨B,D⟩:=Hb h;exact D7 g (Ayx l f u b d (G2 B)) D
   | false=>
    rw[b]at h;simp only[cond_false]at h;split at h
    .exact D7 g (Ayw l f u b d) h
    .exact h.elim
  .rename_i N off d;split at h
   .rename_i E cs I;cases b:i.isAgg with
    | true=>rw[b]at h;simp only[cond_true]at h;obtain⟨B,D⟩:=Hb h;exact Ol g (Ayz l f u b d (G2 B)) I D
    | false=>
     rw[b]at h;simp only[cond_false]at h;split at h
     .rename_i c J;exact Ol g (Ayy l f u b d J) I h
     .exact h.elim
   .exact h.elim
  .rename_i N k q j d;split at h
   .rename_i E sz xs I;obtain⟨y,L,M,h⟩:=h;cases b:i.isAgg with
    | true=>rw[b]at h;simp only[cond_true]at h;obtain⟨B,D⟩:=Hb h;exact Ol g (Ay1 l f u b d L M (G2 B)) I D
    | false=>
     rw[b]at h;simp only[cond_false]at h;split at h
     .rename_i c J;exact Ol g (Ay0 l f u b d L M J) I h
     .exact h.elim
   .exact h.elim
  .exact h.elim
 .exact h.elim
theorem A1i (g:Dt P T) (f:Gy H n) (c:o.op = .store t x y) (h:sop P T an n o ρ H K):Nr P o ρ H n K:=by
 unfold sop at h;rw[c]at h;dsimp only at h;split at h
 .rename_i i I;split at h
  .rename_i J off B;split at h
   .rename_i E cs D;obtain⟨d,u⟩:=Hb h;simp only[Fw]at d;exact Om f (Ay3 g c I B (Ha d.1.1) (G2 d.1.2) d.2) D (by intro e;cases e) u
   .exact h.elim
  .rename_i J k q j B;split at h
   .rename_i E sz xs D;obtain⟨z,L,l,h⟩:=h;obtain⟨d,u⟩:=Hb h;simp only[Fw]at d;obtain⟨⟨⟨⟨M,N⟩,R⟩,U⟩,V⟩:=d;rw[Adr,Yq]at u;obtain⟨s,b,u⟩:=u;subst b;exact Om f (Ay5 g c I B L l (Ha M) (G2 N) (G2 R) U (A1e V)) D (by intro e;cases e) u
   .exact h.elim
  .exact h.elim
 .exact h.elim
theorem A1j (j:Dt P T) (g:Gy H n) {op:BinOp} {l:TypeId} (f:o.op = .binOp op t x y l) (h:sop P T an n o ρ H K):Nr P o ρ H n K:=by
 unfold sop at h;rw[f]at h;dsimp only at h;split at h
 .rename_i k a i b d L;split at h
  .obtain⟨c,M,N,U⟩:=h;exact D7 g (Azf f d L M N) U
  .obtain⟨c,M,N,U⟩:=h;exact D7 g (Aze f d L M N) U
  .replace h:=Hb h;obtain⟨V,h⟩:=h;have V:k=i:=(by simpa using V);subst V;split at h
   .obtain⟨c,M,N⟩:=h;exact D7 g (Ay7 f d L M) N
   .obtain⟨c,M,N⟩:=h;exact D7 g (Ay8 f d L M) N
   .obtain⟨c,M,N⟩:=h;exact D7 g (Ay9 f d L M) N
   .obtain⟨c,M,N,U⟩:=h;exact D7 g (Aza f d L M N) U
   .obtain⟨c,M,N,U⟩:=h;exact D7 g (Azb f d L M N) U
   .split at h
    .rename_i t' R;exact D7 g (Azc f d L R) h
    .split at h
     .rename_i c hc;exact D7 g (Azd f d L hc) h
     .exact h.elim
 .rename_i a b d L;split at h
  .rename_i u s q X;split at h
   .rename_i t' R;exact D7 g (Azi j f X rfl d L R) h
   .exact h.elim
  .exact h.elim
 .rename_i k a i b d L;replace h:=Hb h;obtain⟨V,h⟩:=h;have V:k=i:=(by simpa using V);subst V;obtain⟨c,M,N⟩:=h;exact D7 g (Azp f d L M) N
 .rename_i a b d L;split at h
  .obtain⟨M,N⟩:=h;exact D7 g (Azl f d L M) N
  .split at h
   .rename_i t' R;exact D7 g (Azk f d L R) h
   .exact h.elim
 .rename_i p D B A z d L;split at h
  .split at h
   .rename_i J I G E X;exact D7 g (Azj j f X rfl d L) h
   .exact h.elim
  .exact h.elim
 .exact h.elim
theorem A1k (q:Dt P T) (j:Gy H n) {lo hi:Option Operand} (g:o.op = .slice t x lo hi none) (h:sop P T an n o ρ H K):Nr P o ρ H n K:=by
 unfold sop at h;rw[g]at h;dsimp only at h;split at h
 .rename_i e B A z J;split at h
  .rename_i i' u;split at h
   .rename_i sz xs D;split at h
    .rename_i y R c I;replace h:=Hb h;obtain⟨M,h⟩:=h;obtain⟨l,i,ys,el,b,L,d,U,k⟩:=h;subst el;subst b;subst U;exact D7 j (Az6 q g J rfl u (Ha M) D c I L d) k
    .exact h.elim
   .rename_i X k off len D;split at h
    .rename_i E sz xs f;split at h
     .rename_i y R c I;replace h:=Hb h;obtain⟨M,h⟩:=h;cases h with| mk l i N el b L d V k=>subst el;subst b;exact Ol j (Az8 q g J rfl u (Ha M) D N c I L d V) f k| mkE l N el b d k=>subst el;subst b;exact Ol j (A0t q g J rfl u D N c I d) f k
     .exact h.elim
    .exact h.elim
   .exact h.elim
  .exact h.elim
 .rename_i B A z J;split at h
  .rename_i s D;split at h
   .rename_i y R c I;obtain⟨l,i,el,b,L,d,k⟩:=h;subst el;subst b;exact D7 j (Az7 q g J rfl D c I L d) k
   .exact h.elim
  .exact h.elim
 .exact h.elim
theorem A1l (B:Dt P T) (A:Gy H n) {c:Call} (u:o.op = .call c) (h:sop P T an n o ρ H K):Nr P o ρ H n K:=by
 unfold sop at h;rw[u]at h;dsimp only at h;split at h
 .rename_i x i;split at h
  .rename_i f ae d;split at h
   .rename_i j ai;split at h
    .rename_i hd k len hj;split at h
     .rename_i E sz xs hh;obtain⟨hk,G,r,hp,hf,h⟩:=h;subst hk;rw[<-G]at hj;exact Om A (A1b u i d hj hp hf) hh (by intro e;cases e) h
     .exact h.elim
    .exact h.elim
   .cases h with| mk r hp hf k=>exact D7 A (A09 u i d hp hf) k| ext r hp hf k=>exact D7 A (A1a u i d hp hf) k| act l N hs r ah hp ha ok hh k=>exact A1g A ok hh (Ao2 u i d hp ha ok) k| rd l N hs r hp ha ok hh k=>exact⟨_,n,A1f u i d hp ha ok,λp hp=>hh.spec p hp,k,Nat.le_refl _,A⟩
  .exact h.elim
 .exact h.elim
 .rename_i i;split at h
  .rename_i x t ha z;rw[V4 i (V3 ha) (V3 z)]at u;split at h
   .rename_i e Y X V ht;split at h
    .rename_i sz xs d;split at h
     .obtain⟨c,hc,h⟩:=h;subst hc;exact D7 A (An4 B u ht rfl d) h
     .exact D7 A (An4 B u ht rfl d) h
    .rename_i p m a2 d;exact D7 A (Azw B u ht rfl d) h
    .rename_i hd m d;exact D7 A (Az2 B u ht rfl d) h
    .rename_i hd k off len d;split at h
     .rename_i E sz xs hh;obtain⟨hk,h⟩:=h;exact Ol A (Azz B u ht rfl d hk) hh h
     .exact h.elim
    .exact h.elim
   .rename_i Y X V ht;split at h
    .rename_i s d;exact D7 A (Azy B u ht rfl d) h
    .exact h.elim
   .exact h.elim
  .exact h.elim
 .rename_i i;split at h
  .rename_i x t ha z;rw[V4 i (V3 ha) (V3 z)]at u;split at h
   .rename_i e Y X V ht;split at h
    .rename_i p m a2 d;exact D7 A (Azx B u ht rfl d) h
    .exact h.elim
   .exact h.elim
  .exact h.elim
 .rename_i i;split at h
  .rename_i x t ha z;rw[V4 i (V3 ha) (V3 z)]at u;split at h
   .rename_i e Y X V ht;split at h
    .rename_i i' J;split at h
     .rename_i hd k off len d;split at h
      .rename_i E sz xs hh;replace h:=Hb h;obtain⟨g5,h⟩:=h;simp only[Fw]at g5;have S:=Ha g5.1.1.1.1.1;have R:=Ha g5.1.1.1.1.2;have e3:0<i'.size:=G2 g5.1.1.1.2;subst S;subst R;obtain⟨M,hk,G,D,k⟩:=h;subst D;exact Om A (A0u B u ht rfl J e3 g5.1.1.2 (Ajh g5.1.2 g5.2 g5.1.1.2) d hk G) hh (by intro e;cases e) k
      .exact h.elim
     .rename_i q d;exact D7 A (A0v B u ht rfl d) h
     .exact h.elim
    .exact h.elim
   .exact h.elim
  .exact h.elim
 .rename_i i;split at h
  .rename_i x y t t' ha z;rw[V4 i (V2 ha) (V2 z)]at u;split at h
   .rename_i e Y X V e' a7 a6 a1 ht a0;split at h
    .rename_i i' J;replace h:=Hb h;obtain⟨g,h⟩:=h;simp only[Fw]at g;obtain⟨⟨g1,g2⟩,g3⟩:=g;have g1:0<i'.size:=G2 g1;have g2:=Ha g2;have g3:=G2 g3;split at h
     .rename_i sz ys hy;replace h:=Hb h;obtain⟨g4,h⟩:=h;have g4:=Ha g4;subst g4;split at h
      .rename_i hd k len d;split at h
       .rename_i E U xs hh;replace h:=Hb h;obtain⟨g5,h⟩:=h;simp only[Fw]at g5;have S:=Ha g5.1;have R:=Ha g5.2;subst S;subst R;split at h
        .cases h with| mk M m hk G hb D I k=>subst G;subst D;exact Om A (A0q (Aob B u ht rfl a0 rfl J g1 g2 g3 d hk hy hb) (by simp[hk])) hh (by intro e;cases e) k| mkP M Z m hk G hb D L I k=>exact k.elim
        cases h with| mk M m hk G hb D I k=>subst G;subst D;subst I;exact Om A (Aob B u ht rfl a0 rfl J g1 g2 g3 d hk hy hb) hh (by intro e;cases e) k| mkP M Z m hk G hb D L I k=>subst D;subst I;subst L;exact Om A (A0o B u ht rfl a0 rfl J g1 g2 g3 d hk G hy hb) hh (by intro e;cases e) k
       .exact h.elim
      .rename_i d;obtain⟨M,m,hb,D,I,k⟩:=h;subst D;subst I;exact Ps A (A0j B n u ht rfl a0 rfl J g1 g2 g3 d hy hb) k
      .rename_i ag af d;obtain⟨a8,k⟩:=h;subst a8;exact D7 A (A0r B u ht rfl a0 rfl J g1 d hy) k
      .exact h.elim
     .rename_i h2 k2 ac ad hy;split at h
      .rename_i hd k len d;split at h
       .rename_i E U xs hh;replace h:=Hb h;obtain⟨g5,h⟩:=h;simp only[Fw]at g5;have S:=Ha g5.1.1;have R:=Ha g5.1.2;have e3:=Ha g5.2;subst S;subst R;subst e3;obtain⟨M,Z,m,hk,G,ab,aa,hb,D,L,I,k⟩:=h;subst D;subst I;subst L;exact Om A (A0s B u ht rfl a0 rfl J g1 g2 g3 d hk G hy ab aa hb) hh (by intro e;cases e) k
       .exact h.elim
      .exact h.elim
     .exact h.elim
    .exact h.elim
   .rename_i e Y X V a7 a6 a1 ht a0;split at h
    .rename_i i' J;replace h:=Hb h;obtain⟨g,h⟩:=h;simp only[Fw]at g;obtain⟨⟨g1,g2⟩,g3⟩:=g;have g1:=Ha g1;have g2:=Ha g2;have g3:=G2 g3;split at h
     .rename_i s hy;split at h
      .rename_i hd k len d;split at h
       .rename_i E U xs hh;replace h:=Hb h;obtain⟨g5,h⟩:=h;simp only[Fw]at g5;have S:=Ha g5.1;have R:=Ha g5.2;subst S;subst R;obtain⟨_,_,_,_,_,_,_,_,_,k⟩|⟨M,m,hk,G,hb,D,I,k⟩:=h
        .exact k.elim
        subst G;subst D;subst I;exact Om A (A0i B u ht rfl a0 rfl J g1 g2 g3 d hk hy hb) hh (by intro e;cases e) k
       .exact h.elim
      .exact h.elim
     .exact h.elim
    .exact h.elim
   .exact h.elim
  .exact h.elim
 .rename_i i;split at h
  .rename_i x y t t' ha z;rw[V4 i (V2 ha) (V2 z)]at u;split at h
   .rename_i k a Z b d hy;exact D7 A (A0l u d hy) h
   .exact h.elim
  .exact h.elim
 .rename_i i;split at h
  .rename_i x y t t' ha z;rw[V4 i (V2 ha) (V2 z)]at u;split at h
   .rename_i k a Z b d hy;exact D7 A (A0m u d hy) h
   .exact h.elim
  .exact h.elim
 .exact h.elim
theorem Ao4 (B:Dt P T) (A:Gy H n) (h:sop P T an n o ρ H K):Nr P o ρ H n K:=by
 cases u:o.op with
 | load t x=>exact A1h B A u h
 | store t x y=>exact A1i B A u h
 | binOp op t x y yt=>exact A1j B A u h
 | call c=>exact A1l B A u h
 | slice t x lo hi mx=>cases mx with| none=>exact A1k B A u h| some m=>unfold sop at h;rw[u]at h;exact h.elim
 | move x=>unfold sop at h;rw[u]at h;exact D7 A (Ayr u) h
 | assign x=>
  unfold sop at h;rw[u]at h;dsimp only at h;split at h
  .exact D7 A (Vq u) h
  .split at h
   .exact D7 A (Vq u) h
   .exact D7 A (Vq u) h
   .exact D7 A (Vq u) h
   .exact D7 A (Vq u) h
   .cases hb:Mz (ρ x) with
    | false=>rw[hb]at h;exact D7 A (Vq u) h
    | true=>
     rw[hb]at h;simp only[cond_true]at h;split at h
     .rename_i e I G J ht;split at h
      .rename_i i' D;replace h:=Hb h;obtain⟨g1,h⟩:=h;exact Ps A (A0k B n u (Adv hb) ht rfl D (G2 g1)) h
      .exact h.elim
     .exact h.elim
 | pick c a b=>
  unfold sop at h;rw[u]at h;dsimp only at h;split at h
  .rename_i t hc;exact D7 A (Ays u hc) h
  .exact h.elim
 | alloc t=>
  unfold sop at h;rw[u]at h;dsimp only at h;split at h
  .rename_i i ht;exact Ps A (Ayu B n u ht) h
  .exact h.elim
 | box t x=>unfold sop at h;rw[u]at h;exact Ps A (Ayv n u) h
 | build t parts=>
  unfold sop at h;rw[u]at h;dsimp only at h;split at h
  .rename_i fs I G z ht;split at h
   .rename_i cs hc;exact D7 A (Az9 B u ht rfl hc) h
   .exact h.elim
  .exact h.elim
 | buildSlice t len parts=>
  unfold sop at h;rw[u]at h;dsimp only at h;split at h
  .rename_i e I G J ht;split at h
   .rename_i i' D;replace h:=Hb h;obtain⟨g,h⟩:=h;simp only[Fw]at g;obtain⟨⟨⟨g1,g2⟩,g3⟩,g4⟩:=g;have g2:parts.toList.map (·.1)=range' 0 len:=(by simpa using g2);have g4:∀p∈parts.toList,L6 i'.size (ρ p.2)=true:=En.1 g4;split at h
    .exact h.elim
    .exact h.elim
    .rw[Ads]at h;exact D7 A (An8 B u ht rfl D (G2 g1) g2 (G2 g3) g4) h
    .rw[Ads]at h;exact D7 A (An8 B u ht rfl D (G2 g1) g2 (G2 g3) g4) h
    .rw[Ads]at h;exact Ps A (A0b B n u ht rfl D (G2 g1) g2 (G2 g3) g4) h
   .exact h.elim
  .exact h.elim
 | nilCheck x=>unfold sop at h;rw[u]at h;dsimp only at h;replace h:=Hb h;obtain⟨g1,h⟩:=h;exact D7 A (Ay6 u g1) h
 | unOp op t x=>
  unfold sop at h;rw[u]at h;dsimp only at h;split at h
  .rename_i b hx;exact D7 A (Azm u hx) h
  .rename_i k m hx;obtain⟨c,h1,h2⟩:=h;exact D7 A (Azn u hx h1) h2
  .exact h.elim
 | convert s d x=>
  unfold sop at h;rw[u]at h;dsimp only at h;split at h
  .rename_i i k I G J L m hs hd hx;obtain⟨c,h1,h2⟩:=h;exact D7 A (Azo B u hs hd rfl hx h1) h2
  .rename_i v0 k0 I G J k1 m h1 h2 hx;exact D7 A (Azq B u h1 h2 rfl hx) h
  .rename_i v0 k0 I G J q m h1 h2 hx;obtain⟨c,g1,g2⟩:=h;exact D7 A (Azr B u h1 h2 rfl hx g1) g2
  .exact h.elim
 | makeFunc fn first X=>
  cases fn with
  | func f=>
   unfold sop at h;rw[u]at h;dsimp only at h;replace h:=Hb h;obtain⟨g1,h⟩:=h;have:first = #[]:=by simpa using g1
   subst this;exact D7 A (Az5 u) h
  | _=>unfold sop at h;rw[u]at h;exact h.elim
 | makeSlice t x y=>
  unfold sop at h;rw[u]at h;dsimp only at h;split at h
  .rename_i e I G J ht;split at h
   .rename_i i' D;split at h
    .rename_i k l L c hx hy;split at h
     .rename_i m V;split at h
      .rename_i v hv;replace h:=Hb h;obtain⟨g,h⟩:=h;simp only[Fw]at g;obtain⟨⟨⟨⟨g1,g2⟩,g3⟩,g4⟩,g5⟩:=g;have g4:=of_decide_eq_true g4;have g5:=of_decide_eq_true g5;subst g4;subst g5;exact Ps A (A0c B n u ht rfl D (Ha g1) hv hx hy (G2 g3) (G2 g2)) h
      .exact h.elim
     replace h:=Hb h;obtain⟨g,h⟩:=h;simp only[Fw]at g;obtain⟨⟨⟨g1,g2⟩,g3⟩,g4⟩:=g;rcases h with⟨l',c',Y,el,ec,h1,h2,h3,N,k⟩|⟨Z,S,l',c',Y,el,ec,h1,h2,h3,N,k⟩
     .subst el;subst ec;subst N;exact Ps A (A0d B n u ht rfl D (G2 g1) hx hy h1 h2 h3 g2 (Ajh g3 g4 g2)) k
     .subst el;subst ec;subst N;exact Ps A (A0e B Z n u ht rfl D (G2 g1) hx hy h1 h2 h3 g2 (Ajh g3 g4 g2) S) k
    .exact h.elim
   .exact h.elim
  .exact h.elim
 | fieldAddr s x f=>
  unfold sop at h;rw[u]at h;dsimp only at h;split at h
  .rename_i fs I G J ht;split at h
   .rename_i q hf;split at h
    .rename_i hd off hx;exact D7 A (Azt B u ht rfl hf hx) h
    .rename_i cs hx;exact D7 A (Azu B u ht rfl hf hx) h
    .rename_i hd k m j hx;split at h
     .rename_i E sz xs hh;obtain⟨hk,h⟩:=h;exact Ol A (Azv B u ht rfl hf hx hk) hh h
     .exact h.elim
    .exact h.elim
   .exact h.elim
  .exact h.elim
 | indexAddr t x y=>
  unfold sop at h;rw[u]at h;dsimp only at h;split at h
  .rename_i e I G J ht;split at h
   .rename_i i' D;split at h
    .rename_i hd m k i hx hy;replace h:=Hb h;obtain⟨g1,h⟩:=h;obtain⟨q,hi,hq,L⟩:=h;subst hi;exact D7 A (Az1 B u ht rfl D (Ha g1) hx hy hq) L
    .rename_i sz xs k i hx hy;replace h:=Hb h;obtain⟨g1,h⟩:=h;obtain⟨m,z,hi,N,L⟩:=h;subst hi;exact D7 A (Az0 B u ht rfl D (Ha g1) hx hy N) L
    .rename_i hd k off len kk i hx hy;split at h
     .rename_i E sz xs hh;replace h:=Hb h;obtain⟨g1,h⟩:=h;obtain⟨m,hk,hi,V,L⟩:=h;subst hi;exact Ol A (Az3 B u ht rfl D hx hk hy V (Ha g1)) hh L
     .exact h.elim
    .exact h.elim
   .exact h.elim
  .exact h.elim
 | index t x y=>
  unfold sop at h;rw[u]at h;dsimp only at h;split at h
  .rename_i I G J ht;split at h
   .rename_i s k i hx hy;obtain⟨m,c,hi,hc,L⟩:=h;subst hi;exact D7 A (Az4 B u ht rfl hx hy hc) L
   .exact h.elim
  .exact h.elim
 | field t x f=>
  unfold sop at h;rw[u]at h;dsimp only at h;split at h
  .rename_i fs I G J ht;split at h
   .rename_i q hq;split at h
    .rename_i cs hx;obtain⟨ft,hf,h⟩:=h;split at h
     .rename_i U D;cases M:U.isAgg with
      | true=>rw[M]at h;simp only[cond_true]at h;obtain⟨h1,h2⟩:=Hb h;exact D7 A (Aog B u ht rfl hq hf D hx (.inl ⟨M,G2 h1,rfl⟩)) h2
      | false=>
       rw[M]at h;simp only[cond_false]at h;split at h
       .rename_i c hc;exact D7 A (Aog B u ht rfl hq hf D hx (.inr ⟨M,hc⟩)) h
       .exact h.elim
     .exact h.elim
    .exact h.elim
   .exact h.elim
  .exact h.elim
 | makeMap t r=>cases r with| none=>unfold sop at h;rw[u]at h;exact Ps A (A0w n u) h| some q=>unfold sop at h;rw[u]at h;exact h.elim
 | lookup t x y ok=>
  unfold sop at h;rw[u]at h;dsimp only at h;split at h
  .rename_i kt et I G J ht;split at h
   .rename_i q1 q2 q3 hk;split at h
    .rename_i U D;split at h
     .rename_i hd hx;split at h
      .rename_i s hy;split at h
       .rename_i es hh;obtain⟨r,R,h⟩:=h;exact Ol A (A0y B u ht rfl hk rfl D hx hy R) hh h
       .exact h.elim
      .exact h.elim
     .exact h.elim
    .exact h.elim
   .exact h.elim
  .exact h.elim
 | mapUpdate t x y z=>
  unfold sop at h;rw[u]at h;dsimp only at h;split at h
  .rename_i kt et I G J ht;split at h
   .rename_i q1 q2 q3 hk;split at h
    .rename_i hd hx;split at h
     .rename_i s hy;split at h
      .rename_i es hh;obtain⟨g1,h⟩:=Hb h;rw[Yq]at h;obtain⟨a1,R,h⟩:=h;exact Om A (A0z B u ht rfl hk rfl hx hy g1 R) hh (by intro e;cases e) h
      .exact h.elim
     .exact h.elim
    .exact h.elim
   .exact h.elim
  .exact h.elim
 | extract x i=>
  unfold sop at h;rw[u]at h;dsimp only at h;split at h
  .rename_i cs hx;split at h
   .rename_i c hc;exact D7 A (Azs u hx hc) h
   .exact h.elim
  .exact h.elim
 | _=>unfold sop at h;rw[u]at h;exact h.elim
end
variable {σ:A7} {x:AV} {t:Bool} {ι:Cb} {H:Hp} {l:List (Nat×Nat)} {sz:Nat} {A:Prop} {v:Value}
theorem H7 {B:Prop} (h:t=true) (k:A):bif t then A else B:=by rw[h];exact k
theorem Aji {B:Prop} (h:t=false) (k:B):bif t then A else B:=by rw[h];exact k
abbrev Lf:=List (List Nat×List Nat)
def M0 (l:List (Nat×Nat)):Nat->List AV->List AV
 | _,[]=>[]
 | i,x::xs=>(bif Mz x then (match l.lookup i with|some sz=>.sl sz [] | none=>x) else x)::M0 l (i+1) xs
def elN (l:List (Nat×Nat)) (x:AV):AV := match x with
 | .val (.agg d)=>.agg (M0 l 1000 (d.toList.map .val))
 | .agg cs=>.agg (M0 l 1000 cs)
 | x=>x
def Yv (l:List (Nat×Nat)) (x:AV):AV := match l with
 | []=>x
 | p::l=> match x with
  | .sl sz xs=>bif Nat.ble 1000 p.1 then .sl sz (xs.map (elN (p::l))) else .sl sz xs
  | .agg cs=>.agg (M0 (p::l) 0 cs)
  | x=>bif Mz x then .sl p.2 [] else x
def Adw (nl:Nat->List (Nat×Nat)):Option Nat->List (Nat×Nat)
 | none=>[]
 | some d=>nl d
theorem Adx (d:Mz x=true) (h:Conc σ ι H x v):Conc σ ι H (.sl sz []) v:=by rw[Adv d]at h;rw[h.val_inv];exact .cc (.nil sz none 0)
theorem Ajj {l:List (Nat×Nat)}:∀{cs:List AV} {i k:Nat} {c:AV},(M0 l k cs)[i]? = some c->∃d,cs[i]? = some d/\(c=d\/(Mz d=true/\∃sz,c = .sl sz []))
 | [],i,k,c,h=>by simp[M0]at h
 | x::xs,0,k,c,h=>by
  simp only[M0,getElem?_cons_zero,Option.some.injEq]at h;refine⟨x,rfl,?_⟩;cases u:Mz x with
  | false=>rw[u]at h;exact .inl h.symm
  | true=>
   rw[u]at h;simp only[cond_true]at h;split at h
   .rename_i sz _;exact .inr ⟨rfl,sz,h.symm⟩
   .exact .inl h.symm
 | x::xs,i+1,k,c,h=>by simp only[M0,getElem?_cons_succ]at h;obtain⟨d,B,D⟩:=Ajj h;exact⟨d,by simpa using B,D⟩
theorem Ajk {l:List (Nat×Nat)}:∀{cs:List AV} {k:Nat},(M0 l k cs).length=cs.length
 | [],_=>rfl
 | x::xs,k=>by simp only[M0,length_cons,Ajk]
theorem A1m:(elN l x).cells.length=x.cells.length/\∀(j:Nat) (c b:AV) (u:Value),x.cells[j]? = some c->(elN l x).cells[j]? = some b->CC σ c u->CC σ b u:=by
 have d:∀cs:List AV,(M0 l 1000 cs).length=cs.length/\∀(j:Nat) (c b:AV) (u:Value),cs[j]? = some c->(M0 l 1000 cs)[j]? = some b->CC σ c u->CC σ b u:=by
  intro cs;refine⟨Ajk,λj c b u D I B=>?_⟩;obtain⟨M,J,rfl|⟨L,sz,rfl⟩⟩:=Ajj I
  .rw[D]at J;cases J;exact B
  .rw[D]at J;cases J;rw[Adv L]at B;cases B;exact .nil sz none 0
 unfold elN;split
 .exact d _
 .exact d _
 .exact⟨rfl,λj c b u D I B=>by rw[D]at I;cases I;exact B⟩
theorem CC.mapEl {xs:List AV} (f:AV->AV) (hf:∀x,(f x).cells.length=x.cells.length/\∀(j:Nat) (c k:AV) (u:Value),x.cells[j]? = some c->(f x).cells[j]? = some k->CC σ c u->CC σ k u) (h:CC σ (.sl sz xs) v):CC σ (.sl sz (xs.map f)) v:=by
 cases h with
 | nil sz a cap=>exact .nil sz a cap
 | sl _ b off cap _ C E fr g B D hc h1 I G s=>
  have q:(xs.map f).length=xs.length:=ψ;have l:∀(i:Nat) (y:AV) (j:Nat) (k:AV),(xs.map f)[i]? = some y->y.cells[j]? = some k->∃x c,xs[i]? = some x/\x.cells[j]? = some c/\y=f x:=(by intro i y j k d J;rw[getElem?_map]at d;cases hx:xs[i]? with| none=>rw[hx]at d;cases d| some x=>rw[hx]at d;cases d;have L:j<x.cells.length:=(by rw[<-(hf x).1];exact (G1.1 J).1);exact⟨x,x.cells[j],rfl,getElem?_eq_getElem L,rfl⟩);rw[<-q];refine .sl (xs.map f) b off cap sz C E fr g B ?_ ?_ ?_ (λi j hi L=>I i j (by simpa using hi) L) (by simpa using G) (by simpa using s)
  .intro i y hy;rw[getElem?_map]at hy;cases hx:xs[i]? with| none=>rw[hx]at hy;cases hy| some x=>rw[hx]at hy;cases hy;rw[(hf x).1];exact D i x hx
  .intro i y j k d J;obtain⟨x,c,A,z,rfl⟩:=l i y j k d J;exact (hf x).2 j c k _ z J (hc i x j c A z)
  .intro i y j k d J;obtain⟨x,c,A,z,rfl⟩:=l i y j k d J;exact h1 i x j c A z
theorem A1n (h:Conc σ ι H x v):Conc σ ι H (Yv l x) v:=by
 unfold Yv;split
 .exact h
 .split
  .rename_i _ p l _ sz xs;cases M:Nat.ble 1000 p.1 with| false=>exact h| true=>exact .cc (h.sl_inv.mapEl _ λx=>A1m)
  .rename_i cs;obtain⟨I,rfl,b,d⟩:=h.agg_inv;refine .agg _ I (by rw[Ajk];exact b) λi c u J B=>?_;obtain⟨N,D,rfl|⟨f,sz,rfl⟩⟩:=Ajj J
   .exact d i _ u D B
   .exact Adx f (d i _ u D B)
  .cases L:Mz x with| false=>exact h| true=>exact Adx L h
theorem Cn.nils {P:Program} {o:Oper} {ρ:Operand->AV} {b:Eff} (l:List (Nat×Nat)) (h:Cn P o ρ b):Cn P o ρ ⟨Yv l b.r,b.rd,b.wr⟩ := λσ ι H F W w a next Q s hx g hk=>h σ ι H F W w a next Q s hx g λc f v w' le d hc=>hk c f v w' le d (A1n hc)
def Ajl (e:B7) (d:Option Nat) (r:AV) (H:Hp) (b:List (Nat×Bm)) (K:B7->Hp->Prop):Prop :=
 match d with
 | none=>
  (match b with
  | []=>K e H
  | [p]=>K e (Az H p.1 p.2)
  | p::q::l=>K e (Cp H (p::q::l)))
 | some t=>
  (match b with
  | []=>K (Az e t r) H
  | [p]=>K (Az e t r) (Az H p.1 p.2)
  | p::q::l=>K (Az e t r) (Cp H (p::q::l)))
theorem Ajm (e:B7) (d:Option Nat) (r:AV) (H:Hp) (b:List (Nat×Bm)) (K:B7->Hp->Prop):Ajl e d r H b K=K (put e d r) (Cp H b):=by cases d <;> cases b with| nil=>rfl| cons p l=>cases l <;> rfl
inductive On (ops:List Oper) (acc:Lf) (K:Prop):Prop where
 | mk (h:Ai1 ops acc=true) (k:K)
inductive Ex where
 | normal
 | exit (id:Nat)
 | ret
def Hc (e:B7):List (Nat×AV)->Prop
 | []=>True
 | p::l=>e p.1=p.2/\Hc e l
def Hi (H H':Hp):Nat->Nat->Prop
 | 0,_=>True
 | k+1,n=>(H k=H' k/\(H' k).under n=true)/\Hi H H' k n
def Kl (b:List Nat) (e:B7) (u:Nat->Value) (l:List (Nat×AV)):B7:=l.foldr (λp e=>Az e p.1 p.2) (b.foldr (λs e=>Az e s (.val (u s))) e)
def K5 (n:Nat) (b:List (Nat×AV)) (d:List (Nat×Bm)):Bool:=(b.all λp=>p.2.under n)&&d.all λp=>Nat.blt p.1 n
def He:Code->List Nat
 | .region _ ops _=>ops.toList.filterMap (·.dst)
 | .seq a b=>He a++He b
 | .cond _ a b=>He a++He b
 | .block _ b=>He b
 | .loop b=>He b
 | .scope b=>He b
 | _=>[]
structure Cfg where
 T:Dq
 an:Nat->Ann:=λ_=>.std
 gh:Nat->List Nat:=λ_=>[]
 nl:Nat->List (Nat×Nat):=λ_=>[]
def Ao5 (N:Nat) (x:Operand):Bool := match x with
 | .tmp t=>Nat.blt t N
 | _=>true
def M1 (N:Nat):Code->Bool
 | .region _ ops _=>ops.toList.all λo=>(Lr ops o).all λs=>Nat.blt s N
 | .seq a b=>M1 N a&&M1 N b
 | .cond c a b=>Ao5 N c&&M1 N a&&M1 N b
 | .block _ b=>M1 N b
 | .loop b=>M1 N b
 | .scope b=>M1 N b
 | _=>true
def Ex.out:Ex->Exit
 | .normal=>.normal
 | .exit id=>.exit id
 | .ret=>.ret
section
variable {P:Program} {T:Dq} {an:Nat->Ann} {nl:Nat->List (Nat×Nat)} {ops:Array Oper} {F:A7} {W:World} {Q:Exit->Act->World->Prop}
theorem Ao6 {α:Type} {e:Nat->α} {s:Nat} {v:α} (h:e s=v):Az e s v=e:=by subst h;exact J8 e s
end
section
variable {P:Program} {C:Cfg} {F:A7} {W:World}
variable {x:AV} {n:Nat}
theorem Ao7 {c:Code} {Q:Exit->Act->World->Prop} {a:Act} {w:World} (J:Nat->Act->World->Prop) (k0:Nat) (h0:J k0 a w) (g:∀k a w,J k a w->c.wp P (Exit.then (λq w'=>∃s,s<k/\J s q w') Q) a w):(Code.loop c).wp P Q a w:=by
 intro b u cs;have I:∀k a w,J k a w->∃e q w',Q e q w'/\Arrives P (lone (b.at a (.code c :: .inLoop c::u)) cs w) b u cs e q w':=by
  intro k;induction k using Nat.strongRecOn with
  | _ k ih=>intro a w B;obtain⟨e,j,i,d,f⟩:=g k a w B b (.inLoop c::u) cs;cases e with| normal=>obtain⟨s,L,z⟩:=d;obtain⟨D,E,A,y,h⟩:=ih s L j i z;exact⟨D,E,A,y,.of_steps (Steps.trans f (.one step_inLoop)) h⟩| exit id=>exact⟨_,j,i,d,.pass (x:=.inLoop c) rfl (λ_ _=>.inl ψ) f⟩| goto l=>exact⟨_,j,i,d,.pass (x:=.inLoop c) rfl (λ_ _=>.inl ψ) f⟩| ret=>exact⟨_,j,i,d,.pass (x:=.inLoop c) rfl (λ_ _=>.inl ψ) f⟩| panic G=>exact⟨_,j,i,d,.pass (x:=.inLoop c) rfl (λ_ _=>.inl ψ) f⟩| outgrown=>exact⟨_,j,i,d,.pass (x:=.inLoop c) rfl (λ_ _=>.inl ψ) f⟩
 obtain⟨e,q,w',d,f⟩:=I k0 a w h0;exact⟨e,q,w',d,.of_steps (.one step_loop) f⟩
theorem A1o (h:x.under2 n=true) (d:∀cs,x≠.agg cs):x.under1 n=true:=by cases x <;> first|exact h|exact (d _ rfl).elim
theorem Conc.restrict {σ:A7} {ι A:Cb} {H H':Hp} (B:∀h,h<n->A h=ι h) (D:∀h,h<n->H' h=H h) {v:Value} (hx:x.under n=true) (h:Conc σ ι H x v):Conc σ A H' x v:=by
 have l:∀{x:AV} {v:Value},x.under0 n=true->Conc σ ι H x v->Conc σ A H' x v:=by intro x v hx h;cases h with| cc h=>exact .cc h| loc h off b hb=>exact .loc h off b (by rw[B h (Hx hx)];exact hb)| mp h b hb=>exact .mp h b (by rw[B h (Hx hx)];exact hb)| vec h n b hb=>exact .vec h n b (by rw[B h (Hx hx)];exact hb)| arr h k off len v G hv y=>have U:=Hx hx;exact .arr h k off len v (by rw[D h U];exact G) (by rw[B h U,D h U];exact hv) y| el h k i j v G hv y=>have U:=Hx hx;exact .el h k i j v (by rw[D h U];exact G) (by rw[B h U,D h U];exact hv) y| ref cs b off C E fr g M hc h1 N=>exact .ref cs b off C E fr g M hc h1 N| agg=>cases hx| tup=>cases hx| fn=>cases hx
 have R:∀{x:AV} {v:Value},x.under1 n=true->Conc σ ι H x v->Conc σ A H' x v:=by intro x v hx h;cases x with| fn f cs=>obtain⟨vs,rfl,z,h⟩:=h.fn_inv;exact .fn f cs vs z λi c u h1 h2=>l (En.1 hx c (Fq h1)) (h i c u h1 h2)| agg cs=>cases hx| tup cs=>cases hx| val u=>exact l (x:=(.val u)) hx h| loc q off=>exact l (x:=(.loc q off)) hx h| arr q k off len=>exact l (x:=(.arr q k off len)) hx h| el q k i j=>exact l (x:=(.el q k i j)) hx h| mp q=>exact l (x:=(.mp q)) hx h| vec q m=>exact l (x:=(.vec q m)) hx h| ref cs=>exact l (x:=(.ref cs)) hx h| sl sz xs=>exact l (x:=(.sl sz xs)) hx h| fb s=>exact l (x:=(.fb s)) hx h
 have cells:∀{cs:List AV},cs.all (AV.under1 n)=true->∀(i:Nat) (c:AV) (u:Value),cs[i]? = some c->Conc σ ι H c u->Conc σ A H' c u :=
  λJ i c u hc h=>R (En.1 J c (Fq hc)) h
 cases x with
 | agg cs=>cases h with| cc h=>exact .cc h| agg _ vs z h=>exact .agg cs vs z λi c u h1 h2=>cells hx i c u h1 (h i c u h1 h2)
 | tup cs=>
  cases h with
  | cc h=>exact .cc h
  | tup _ vs z h=>refine .tup cs vs z λi c u h1 h2=>?_;have hf:=En.1 hx c (Fq h1);have hc:=h i c u h1 h2;cases c with| agg ds=>obtain⟨L,rfl,I,hv⟩:=hc.agg_inv;exact .agg ds L I λj d v V X=>cells hf j d v V (hv j d v V X)| _=>exact R (A1o hf (by intro cs e;cases e)) hc
 | fn f cs=>cases h with| cc h=>exact .cc h| fn _ _ vs z h=>exact .fn f cs vs z λi c u h1 h2=>cells hx i c u h1 (h i c u h1 h2)
 | val v=>exact R rfl h
 | loc h off=>exact R hx h
 | arr h k off len=>exact R hx h
 | el h k i j=>exact R hx h
 | mp h=>exact R hx h
 | vec h n=>exact R hx h
 | ref cs=>exact R rfl h
 | sl sz xs=>exact R rfl h
 | fb s=>exact R rfl h
theorem Hi.spec {H H':Hp} {n:Nat}:∀{k:Nat},Hi H H' k n->∀h,h<k->H h=H' h/\(H' h).under n=true
 | 0,_,h,d=>ω
 | k+1,hh,h,d=>by
  by_cases e:h=k
  .subst e;exact hh.1
  .exact Hi.spec hh.2 h ω
theorem Hc.spec {e:B7}:∀{l:List (Nat×AV)},Hc e l->∀p∈l,e p.1=p.2
 | [],_,p,hp=>by cases hp
 | q::l,h,p,hp=>by
  rcases mem_cons.1 hp with rfl|hp
  .exact h.1
  .exact Hc.spec h.2 p hp
theorem Ajn (c:List Nat) (e:B7) (u:Nat->Value) (l:List (Nat×AV)) (s:Nat):(∃p∈l,p.1=s/\Kl c e u l s=p.2)\/(s∈c/\Kl c e u l s = .val (u s))\/(s ∉ c/\Kl c e u l s=e s):=by
 have d:(s∈c/\(c.foldr (λs e=>Az e s (.val (u s))) e) s = .val (u s))\/(s ∉ c/\(c.foldr (λs e=>Az e s (.val (u s))) e) s=e s):=by
  induction c with
  | nil=>exact .inr ⟨ψ,rfl⟩
  | cons t c ih=>
   simp only[foldr_cons];by_cases b:s=t
   .subst b;exact .inl ⟨ψ,Ch _ _ _⟩
   .rw[Cu _ _ b];rcases ih with⟨B,D⟩|⟨B,D⟩
    .exact .inl ⟨by simp[B],D⟩
    .exact .inr ⟨by simp[B,b],D⟩
 unfold Kl;induction l with
 | nil=>exact .inr d
 | cons p l ih=>
  simp only[foldr_cons];by_cases b:s=p.1
  .exact .inl ⟨p,ψ,b.symm,by rw[b];exact Ch _ _ _⟩
  .rw[Cu _ _ b];rcases ih with⟨q,I,B,D⟩|h|h
   .exact .inl ⟨q,by simp[I],B,D⟩
   .exact .inr (.inl h)
   .exact .inr (.inr h)
theorem Ao8 {N:Nat} {ops:Array Oper} (h:(ops.toList.all λo=>(Lr ops o).all λs=>Nat.blt s N)=true):Adg ops N:=by intro i o c s b;rw[En]at h;have:=h o (by simpa using Array.mem_of_getElem? c);rw[En]at this;exact Hx (this s b)
end
def Ady (T:Dq) (e:B7) (H:Hp):ResultVar->Option AV
 | .tmp t=>some (e t)
 | .cell a t=> match e a with
  | .loc h off=> match H h with
   | .cells _ cs=> match T t with
    | some i=>bif i.isAgg then (bif Nat.ble (off+i.size) cs.length then some (.agg ((cs.drop off).take i.size)) else none) else cs[off]?
    | none=>none
   | _=>none
  | _=>none
def Adz (x:AV) (H:Hp) (K:AV->Hp->Prop):Prop := match x with
 | .arr h k 0 len=> match H h with
  | .rows _ sz xs=>Ie k xs (Ie len xs (K (.sl sz xs) (Az H h .dead)))
  | _=>False
 | x=>K x H
def Ad0:List AV->Hp->(List AV->Hp->Prop)->Prop
 | [],H,K=>K [] H
 | x::xs,H,K=>Adz x H λy H=>Ad0 xs H λys H=>K (y::ys) H
def fin (x:AV) (H:Hp) (K:AV->Hp->Prop):Prop := match x with
 | .agg cs=>Ad0 cs H λcs H=>K (.agg cs) H
 | x=>Adz x H K
def Ad1:List AV->Hp->(List AV->Prop)->Prop
 | [],_,K=>K []
 | x::xs,H,K=>fin x H λy H=>Ad1 xs H λys=>K (y::ys)
def V5 (T:Dq) (e:B7) (H:Hp):List ResultVar->Option (List AV)
 | []=>some []
 | r::d=> match Ady T e H r with
  | none=>none
  | some x=> match V5 T e H d with
   | none=>none
   | some xs=>some (x::xs)
def Yw:List AV->AV
 | [x]=>x
 | xs=>.tup xs
def Tc (T:Dq) (b:List ResultVar) (K:AV->Prop) (e:B7) (H:Hp):Prop := match V5 T e H b with
 | none=>False
 | some xs=>Ad1 xs H λys=>K (Yw ys)
def V6 (args:List AV):B7:=λn=>args.getD n (.val undef)
def Td:ResultVar->Nat
 | .tmp t=>t
 | .cell a _=>a
def V7 (fn:Func) (c:Code) (k:Nat):Bool:=M1 fn.ntmps c&&(fn.results.toList.all λr=>Nat.blt (Td r) fn.ntmps)&&Nat.ble k fn.ntmps
section
variable {P:Program} {T:Dq} {F:A7} {W w:World}
variable {σ:A7} {x:AV} {K:AV->Hp->Prop} {a:Act} {e:B7} {ι:Cb} {H:Hp} {v:Value}
theorem Ao9 (h:Adz x H K) (s:St σ ι H F W w) (u:Conc σ ι H x v) : ∃b y d,K y d/\Le σ ι H b ι d/\St b ι d F W w/\Conc b ι d y v:=by
 unfold Adz at h;split at h
 .rename_i D k len;split at h
  .rename_i E sz xs B;obtain⟨I,j,h⟩:=h;obtain⟨g,c,i,f⟩:=s.freeze B;refine⟨g,.sl sz xs,Az H D .dead,h,c,i,.cc ?_⟩;have:=f 0 len _ ω (u.arr_inv B I);rwa [drop_zero,take_of_length_le ω]at this
  .exact h.elim
 .exact⟨σ,_,H,h,Le.refl _ _ _,s,u⟩
theorem Apa:∀{cs:List AV} {vs:List Value} {H:Hp} {K:List AV->Hp->Prop} {σ:A7} {ι:Cb},Ad0 cs H K->St σ ι H F W w->vs.length=cs.length->(∀(i:Nat) (c:AV) (v:Value),cs[i]? = some c->vs[i]? = some v->Conc σ ι H c v) -> ∃j ys J,K ys J/\Le σ ι H j ι J/\St j ι J F W w/\vs.length=ys.length/\∀(i:Nat) (c:AV) (v:Value),ys[i]? = some c->vs[i]? = some v->Conc j ι J c v
 | [],vs,H,K,σ,ι,h,s,g,d=>⟨σ,[],H,h,Le.refl _ _ _,s,g,d⟩
 | x::cs,[],H,K,σ,ι,h,s,g,d=>by simp at g
 | x::cs,v::vs,H,K,σ,ι,h,s,g,d=>by simp only[Ad0]at h;obtain⟨B,y,D,L,f,z,c1⟩:=Ao9 h s (d 0 x v ψ ψ);obtain⟨l,ys,A,M,b,q,k,c2⟩:=Apa (vs:=vs) L z (by simpa using g) λi c u hi I=>(d (i+1) c u (by simpa using hi) (by simpa using I)).mono f;refine⟨l,y::ys,A,M,f.trans b,q,by simp[k],λi c u hi I=>?_⟩;cases i with| zero=>simp at hi I;subst hi;subst I;exact c1.mono b| succ i=>exact c2 i c u (by simpa using hi) (by simpa using I)
theorem Apb (h:fin x H K) (s:St σ ι H F W w) (D:Conc σ ι H x v) : ∃b y d,K y d/\Le σ ι H b ι d/\St b ι d F W w/\Conc b ι d y v:=by
 unfold fin at h;split at h
 .rename_i cs;obtain⟨vs,rfl,l,I⟩:=D.agg_inv;obtain⟨j,ys,q,J,f,k,g,c1⟩:=Apa (vs:=vs.toList) h s (by simpa using l) λi c u hi B=>I i c u hi (by simpa using B);exact⟨j,.agg ys,q,J,f,k,.agg ys vs (by simpa using g) λi c u hi B=>c1 i c u hi (by simpa using B)⟩
 .exact Ao9 h s D
theorem Apc:∀{xs:List AV} {vs:List Value} {H:Hp} {K:List AV->Prop} {σ:A7} {ι:Cb},Ad1 xs H K->St σ ι H F W w->vs.length=xs.length->(∀(i:Nat) (c:AV) (v:Value),xs[i]? = some c->vs[i]? = some v->Conc σ ι H c v) -> ∃j ys J,K ys/\Le σ ι H j ι J/\St j ι J F W w/\vs.length=ys.length/\∀(i:Nat) (c:AV) (v:Value),ys[i]? = some c->vs[i]? = some v->Conc j ι J c v
 | [],vs,H,K,σ,ι,h,s,g,d=>⟨σ,[],H,h,Le.refl _ _ _,s,g,d⟩
 | x::cs,[],H,K,σ,ι,h,s,g,d=>by simp at g
 | x::cs,v::vs,H,K,σ,ι,h,s,g,d=>by simp only[Ad1]at h;obtain⟨B,y,D,L,f,z,c1⟩:=Apb h s (d 0 x v ψ ψ);obtain⟨l,ys,A,M,b,q,k,c2⟩:=Apc (vs:=vs) L z (by simpa using g) λi c u hi I=>(d (i+1) c u (by simpa using hi) (by simpa using I)).mono f;refine⟨l,y::ys,A,M,f.trans b,q,by simp[k],λi c u hi I=>?_⟩;cases i with| zero=>simp at hi I;subst hi;subst I;exact c1.mono b| succ i=>exact c2 i c u (by simpa using hi) (by simpa using I)
def Te (b:Array Value):ResultVar->Sem Value
 | .tmp t=>pure (b.getD t undef)
 | .cell a t=>do loadVar t (<-asAddr (b.getD a undef))
theorem A1p (A:Dt P T) (s:St σ ι H F W w) (z:Fr σ ι H e a) {r:ResultVar} (y:Td r<a.tmps.size) (h:Ady T e H r=some x) : ∃v,(Te a.tmps r).run P w = .ok v w/\Conc σ ι H x v:=by
 cases r with
 | tmp t=>simp only[Ady]at h;cases h;exact⟨_,rfl,z t y⟩
 | cell p t=>
  simp only[Ady]at h;split at h
  .rename_i hd off hx;split at h
   .rename_i E cs hh;split at h
    .rename_i i R;have U:=z p y;rw[hx]at U;obtain⟨b,hb,V⟩:=U.loc_inv;have g:=s.obj hd;unfold C4 at g;rw[hh]at g;obtain⟨J,C,G,_,_,X,I,D⟩:=g;rw[hb]at G;cases G;have L:=Ac5 (A t i R) w;cases q:i.isAgg with
     | true=>rw[q]at h L;simp only[cond_true]at h;cases f:Nat.ble (off+i.size) cs.length with| false=>rw[f]at h;cases h| true=>rw[f]at h;cases h;have f:=G2 f;have h2:=Pp (A t i R) w;have B:=run_loadCells_list (P:=P) w ⟨b,off,none⟩ ((C.toList.drop off).take i.size) (by intro j v M;have d:j<i.size:=(by have:=(G1.1 M).1;simp at this;omega);rw[H6 d,getElem?_drop,G6]at M;rw[Lq,Kz X];exact M);have l:((C.toList.drop off).take i.size).length=i.size:=ζ;rw[l]at B;refine⟨_,by simp only[Te,V,asAddr,Sem.run_bind,Sem.run_pure,Result.andThen_ok,loadVar,L,if_true,h2,B];rfl,?_⟩;refine .agg _ _ ζ λj c u N g2=>?_;have d:j<i.size:=(by have:=(G1.1 N).1;simp at this;omega);rw[H6 d,getElem?_drop]at N;rw[getElem?_toArray,H6 d,getElem?_drop,G6]at g2;exact D _ c u N g2
     | false=>rw[q]at h L;simp only[cond_false]at h;have d:off<C.size:=(by rw[I];exact (G1.1 h).1);have k:w.cell? ⟨b,off,none⟩=some C[off]:=(by rw[Kz X];simp[d]);exact⟨C[off],by simp[Te,V,asAddr,loadVar,L,k],D off x _ h (by simp[d])⟩
    .cases h
   .cases h
  .cases h
theorem Ajo (k:Dt P T) {e:B7} {H:Hp} {σ:A7} {ι:Cb} {a:Act} (s:St σ ι H F W w) (j:Fr σ ι H e a):∀{b:List ResultVar} {xs:List AV},(∀r∈b,Td r<a.tmps.size)->V5 T e H b=some xs -> ∃d:List Value,(b.mapM (Te a.tmps)).run P w = .ok d w/\d.length=xs.length/\∀(i:Nat) (c:AV) (v:Value),xs[i]? = some c->d[i]? = some v->Conc σ ι H c v
 | [],xs,_,h=>by simp only[V5]at h;cases h;exact⟨[],ψ,rfl,ψ⟩
 | r::b,xs,g,h=>by
  simp only[V5]at h;split at h
  .cases h
  .rename_i x D;split at h
   .cases h
   .rename_i ys I;cases h;obtain⟨v,J,c1⟩:=A1p k s j (g r ψ) D;obtain⟨d,L,q,c2⟩:=Ajo k s j (λl f=>g l (by simp[f])) I;refine⟨v::d,by simp[mapM_cons,J,L],by simp[q],λi c u hi B=>?_⟩;cases i with| zero=>simp at hi B;subst hi;subst B;exact c1| succ i=>exact c2 i c u (by simpa using hi) (by simpa using B)
theorem Apd (fn:Func) (b:Array Value):results fn b=(fn.results.mapM (Te b) >>= λd=>pure (if h:d.size=1 then d[0] else .tuple d)):=by unfold results;congr 1
theorem A1q (A:Dt P T) {fn:Func} {K:AV->Prop} (s:St σ ι H F W w) (z:Fr σ ι H e a) (q:∀r∈fn.results.toList,Td r<a.tmps.size) (h:Tc T fn.results.toList K e H) : ∃v f D r,(results fn a.tmps).run P w = .ok v w/\K r/\Le σ ι H f ι D/\St f ι D F W w/\Conc f ι D r v:=by
 unfold Tc at h;split at h
 .exact h.elim
 .rename_i xs I;obtain⟨d,J,x,c1⟩:=Ajo A s z q I;obtain⟨f,ys,D,k,le,L,b,j⟩:=Apc h s x c1;have g:(fn.results.mapM (Te a.tmps)).run P w = .ok d.toArray w:=(by rw[Array.mapM_eq_mapM_toList];simp[J]);refine⟨if h:d.toArray.size=1 then d.toArray[0] else .tuple d.toArray,f,D,Yw ys,?_,k,le,L,?_⟩
  .rw[Apd,Sem.run_bind,g];rfl
  .match ys,d,b,j with| [y],[v],_,j=>exact j 0 y v rfl rfl| [],[],_,_=>exact .tup [] #[] rfl ψ| y::B::ys,v::l::d,b,j=>have:¬(v::l::d).toArray.size=1:=ψ;rw[dif_neg this];exact .tup _ _ (by simpa using b) (λi c u hi M=>j i c u hi (by simpa using M))| [],_::_,b,_=>simp at b| _::_,[],b,_=>simp at b| [_],_::_::_,b,_=>simp at b| _::_::_,[_],b,_=>simp at b
theorem St.forget (s:St σ ι H F W w):St σ ι0 H0 F W w := ⟨s.sto,s.fra,λ_=>rfl,(λ_ _ _ b=>by cases b),s.os,s.tape,s.output,s.glo,s.drw⟩
theorem Ape {args:List AV} {vs:Array Value} {N:Nat} (h:Lt σ ι H args vs):Fr σ ι H (V6 args) ⟨vs++Array.replicate (N-vs.size) undef,[]⟩:=by
 intro q I;simp only[V6,Array.getD_eq_getD_getElem?];by_cases u:q<args.length
 .have d:q<vs.size:=(by rw[h.1];exact u);rw[Array.getElem?_append_left d];have B:args[q]? = some args[q]:=getElem?_eq_getElem u;have D:vs[q]? = some vs[q]:=Array.getElem?_eq_getElem d;have:=h.2 q _ _ B D;simpa[getD,B,D] using this
 .rw[Array.getElem?_append_right (by rw[h.1];omega)];have B:args[q]? = none:=getElem?_eq_none ω;have d:q-vs.size<N-vs.size:=(by simp at I;have:=h.1;omega);simp only[getD,B,Option.getD_none];simp[d];exact .of_val undef
end
inductive Tr where
 | leaf
 | node (l:Tr) (k:Nat) (v:TI) (r:Tr)
def Tr.find:Tr->Nat->Option TI
 | .leaf,_=>none
 | .node l k v r,t=>bif Nat.beq t k then some v else bif Nat.blt t k then l.find t else r.find t
def Tr.toList:Tr->List (Nat×TI)
 | .leaf=>[]
 | .node l k v r=>l.toList++(k,v)::r.toList
theorem Tr.find_mem:∀(t:Tr) (k:Nat) (v:TI),t.find k=some v->(k,v)∈t.toList
 | .leaf,k,v,h=>by cases h
 | .node l b f r,k,v,h=>by
  simp only[Tr.find]at h;simp only[Tr.toList,mem_append,mem_cons];cases hb:Nat.beq k b with
  | true=>rw[hb]at h;simp only[cond_true]at h;cases h;rw[Ha hb];exact .inr (.inl rfl)
  | false=>rw[hb]at h;simp only[cond_false]at h;cases c:Nat.blt k b with| true=>rw[c]at h;exact .inl (Tr.find_mem l k v h)| false=>rw[c]at h;exact .inr (.inr (Tr.find_mem r k v h))
theorem Tr.ok {P:Program} {t:Tr} (h:t.toList.map (λp=>I5 P p.1)=t.toList.map λp=>some p.2):Dt P t.find:=by intro k v hk;have b:=t.find_mem k v hk;obtain⟨i,hi⟩:=getElem?_of_mem b;have:=congrArg (λl=>l[i]?) h;simpa[hi] using this
def Ad2:List AV->Hp->(List AV->Hp->Prop)->Prop
 | [],H,K=>K [] H
 | x::xs,H,K=>fin x H λy H=>Ad2 xs H λys H=>K (y::ys) H
def Q7 (H:Hp):Nat->List Bm->Prop
 | _,[]=>True
 | k,o::os=>H k=o/\Q7 H (k+1) os
def Tf (T:Dq) (d:Bool) (c:List ResultVar) (r:AV) (b:List Bm) (e:B7) (H:Hp):Prop := match V5 T e H c with
 | none=>False
 | some xs=>bif d then Ad2 xs H λys H=>Yw ys=r/\Q7 H 0 b else Yw xs=r/\Q7 H 0 b
section
variable {P:Program} {T:Dq} {F:A7} {W w:World}
variable {σ:A7} {r:AV} {ι:Cb} {H:Hp}
theorem Q7.spec {H:Hp}:∀{os:List Bm} {k:Nat},Q7 H k os->∀i,i<os.length->H (k+i)=hp os i
 | [],k,_,i,hi=>by simp at hi
 | o::os,k,h,0,_=>by simpa[hp] using h.1
 | o::os,k,h,i+1,hi=>by have:=Q7.spec h.2 i (by simpa using hi);rw[show k+(i+1)=k+1+i by omega,this];simp[hp]
theorem Apf:∀{xs:List AV} {vs:List Value} {H:Hp} {K:List AV->Hp->Prop} {σ:A7} {ι:Cb},Ad2 xs H K->St σ ι H F W w->vs.length=xs.length->(∀(i:Nat) (c:AV) (v:Value),xs[i]? = some c->vs[i]? = some v->Conc σ ι H c v) -> ∃j ys J,K ys J/\Le σ ι H j ι J/\St j ι J F W w/\vs.length=ys.length/\∀(i:Nat) (c:AV) (v:Value),ys[i]? = some c->vs[i]? = some v->Conc j ι J c v
 | [],vs,H,K,σ,ι,h,s,g,d=>⟨σ,[],H,h,Le.refl _ _ _,s,g,d⟩
 | x::cs,[],H,K,σ,ι,h,s,g,d=>by simp at g
 | x::cs,v::vs,H,K,σ,ι,h,s,g,d=>by simp only[Ad2]at h;obtain⟨B,y,D,L,f,z,c1⟩:=Apb h s (d 0 x v ψ ψ);obtain⟨l,ys,A,M,b,q,k,c2⟩:=Apf (vs:=vs) L z (by simpa using g) λi c u hi I=>(d (i+1) c u (by simpa using hi) (by simpa using I)).mono f;refine⟨l,y::ys,A,M,f.trans b,q,by simp[k],λi c u hi I=>?_⟩;cases i with| zero=>simp at hi I;subst hi;subst I;exact c1.mono b| succ i=>exact c2 i c u (by simpa using hi) (by simpa using I)
theorem A1r (B:Dt P T) {fn:Func} {L:Bool} {q:List Bm} {e:B7} {a:Act} (s:St σ ι H F W w) (A:Fr σ ι H e a) (l:∀r∈fn.results.toList,Td r<a.tmps.size) (h:Tf T L fn.results.toList r q e H):∃v f d,(results fn a.tmps).run P w = .ok v w/\Q7 d 0 q/\Le σ ι H f ι d/\St f ι d F W w/\Conc f ι d r v:=by
 unfold Tf at h;split at h
 .exact h.elim
 .rename_i xs M;obtain⟨I,N,x,c1⟩:=Ajo B s A l M;have J:∃f ys d,(Yw ys=r/\Q7 d 0 q)/\Le σ ι H f ι d/\St f ι d F W w/\I.length=ys.length/\∀(i:Nat) (c:AV) (v:Value),ys[i]? = some c->I[i]? = some v->Conc f ι d c v:=(by cases L with| true=>exact Apf h s x c1| false=>exact⟨σ,xs,H,h,Le.refl _ _ _,s,x,c1⟩);obtain⟨f,ys,d,⟨rfl,k⟩,le,R,b,j⟩:=J;have g:(fn.results.mapM (Te a.tmps)).run P w = .ok I.toArray w:=(by rw[Array.mapM_eq_mapM_toList];simp[N]);refine⟨if h:I.toArray.size=1 then I.toArray[0] else .tuple I.toArray,f,d,?_,k,le,R,?_⟩
  .rw[Apd,Sem.run_bind,g];rfl
  .match ys,I,b,j with| [y],[v],_,j=>exact j 0 y v rfl rfl| [],[],_,_=>exact .tup [] #[] rfl ψ| y::D::ys,v::z::I,b,j=>have:¬(v::z::I).toArray.size=1:=ψ;rw[dif_neg this];exact .tup _ _ (by simpa using b) (λi c u hi U=>j i c u hi (by simpa using U))| [],_::_,b,_=>simp at b| _::_,[],b,_=>simp at b| [_],_::_::_,b,_=>simp at b| _::_::_,[_],b,_=>simp at b
theorem St.first (s:St σ ι H F W w) (f:List Bm) (hk:∀i,i<f.length->H i=hp f i) (I:f.all (Bm.under f.length)=true) : St σ (λk=>if k<f.length then ι k else .none) (hp f) F W w:=by
 have B:∀h,h<f.length->(λk=>if k<f.length then ι k else Loc.none) h=ι h:=λh j=>if_pos j;have d:∀h,h<f.length->hp f h=H h:=λh j=>(hk h j).symm;have lt:∀k,(hp f k).live=true->k<f.length:=by
  intro k h;rcases Nat.lt_or_ge k f.length with h'|h'
  .exact h'
  .rw[Q6 h']at h;cases h
 refine⟨s.sto,s.fra,λk=>?_,λk u b h1 h2 h3 q=>?_,s.os,s.tape,s.output,s.glo,s.drw⟩
 .by_cases j:k<f.length
  .have g:=s.obj k;have l:=En.1 I _ (Fq (Yt j));unfold C4 at g ⊢;rw[hk k j]at g;dsimp only;rw[if_pos j];cases hx:hp f k with| none=>rw[hx]at g;exact g| dead=>trivial| rows E sz xs=>rw[hx]at g;exact g| map es=>rw[hx]at g;exact g| cells E cs=>rw[hx]at g l;obtain⟨b,C,G,h1,h2,h3,q,D⟩:=g;refine⟨b,C,G,h1,h2,h3,q,λi c v x y=>?_⟩;have hc:=En.1 l c (Fq x);refine (D i c v x y).restrict (n:=f.length) B d ?_;exact Aje hc
  .unfold C4;rw[Q6 ω];exact if_neg j
 .have A:=lt k h1;have z:=lt u h2;rw[if_pos A]at h3;rw[if_pos z]at q;rw[d k A]at h1;rw[d u z]at h2;exact s.inj k u b h1 h2 h3 q
def Ajp (c:List Bm) (r:AV) (b:List Bm):Bool:=Nat.ble c.length b.length&&r.under b.length&&b.all (Bm.under b.length)
def Sub (x y:AV):Prop:=∀(σ:A7) (ι:Cb) (H:Hp) (v:Value),Conc σ ι H x v->Conc σ ι H y v
theorem Sub.refl (x:AV):Sub x x:=λ_ _ _ _ h=>h
theorem Sub.nil (sz:Nat):Sub (.val (.slice none 0 0)) (.sl sz []):=λ_ _ _ _ h=>Adx rfl h
def Q8:List AV->List AV->Prop
 | [],[]=>True
 | x::xs,y::ys=>Sub x y/\Q8 xs ys
 | _,_=>False
theorem Q8.spec:∀{xs ys:List AV},Q8 xs ys->xs.length=ys.length/\∀(i:Nat) (y:AV),ys[i]? = some y->∃x,xs[i]? = some x/\Sub x y
 | [],[],_=>⟨rfl,ψ⟩
 | [],_::_,h=>h.elim
 | _::_,[],h=>h.elim
 | x::xs,y::ys,h=>by obtain⟨h1,h2⟩:=Q8.spec h.2;refine⟨by simp[h1],λi z b=>?_⟩;cases i with| zero=>simp at b;subst b;exact⟨x,rfl,h.1⟩| succ i=>simpa using h2 i z (by simpa using b)
theorem Sub.agg {xs ys:List AV} (h:Q8 xs ys):Sub (.agg xs) (.agg ys):=by intro σ ι H v hc;obtain⟨vs,rfl,b,hv⟩:=hc.agg_inv;obtain⟨h1,h2⟩:=h.spec;refine .agg _ vs (by rw[<-h1];exact b) λi c u h3 j=>?_;obtain⟨x,g,f⟩:=h2 i c h3;exact f _ _ _ _ (hv i x u g j)
theorem A8.sub {f:FuncId} {args b:List AV} {k:AV} (h:A8 P f b r) (ha:Q8 args b) (q:Sub r k):A8 P f args k:=by
 refine⟨h.1,λσ F W w vs s hc=>?_⟩;obtain⟨h1,h2⟩:=ha.spec;refine (h.2 σ F W w vs s ⟨by rw[<-h1];exact hc.1,λi a v h3 j=>?_⟩).mono ?_
 .obtain⟨x,g,c⟩:=h2 i a h3;exact c _ _ _ _ (hc.2 i x v g j)
 .rintro e w' ⟨v,l,h3,j,g,c⟩;exact⟨v,l,h3,j,g,q _ _ _ _ c⟩
theorem Bk.sub {f:FuncId} {args b:List AV} {g c:List Bm} {r:AV} (h:Bk P f b g r c) (ha:Q8 args b):Bk P f args g r c:=by refine⟨h.1,λσ F W w ι vs s hc=>?_⟩;obtain⟨h1,h2⟩:=ha.spec;refine h.2 σ F W w ι vs s ⟨by rw[<-h1];exact hc.1,λi a v h3 l=>?_⟩;obtain⟨x,k,j⟩:=h2 i a h3;exact j _ _ _ _ (hc.2 i x v k l)
end
inductive Ga (K:Prop):Prop where
 | mk (k:K)
def opK (P:Program) (T:Dq) (an:Nat->Ann) (nl:Nat->List (Nat×Nat)) (o:Oper) (n:Nat) (e:B7) (H:Hp) (acc:Lf) (K:Nat->B7->Hp->Lf->Prop):Prop := sop P T an n o (ev e) H λb m=>Vz (Yv (Adw nl o.dst) b.r) λr=>Adq b.wr λwr=>Yp b.rd λf=>Yp wr λc=>Ajl e o.dst r H wr λe H=>Ga (K m e H (acc++[(f,c)]))
def Yx (o:Oper) (n:Nat) (e:B7) (H:Hp) (acc:Lf) (K:Nat->B7->Hp->Lf->Prop):Prop := Ajl e o.dst (.val undef) H [] λe H=>Ga (K n e H (acc++[([],[])]))
def Fy (P:Program) (T:Dq) (an:Nat->Ann) (nl:Nat->List (Nat×Nat)) (ops:Array Oper):List Oper->Nat->B7->Hp->Lf->(Nat->B7->Hp->Lf->Prop)->Prop
 | [],n,e,H,acc,K=>K n e H acc
 | o::os,n,e,H,acc,K=> match o.guard with
  | none=>opK P T an nl o n e H acc λn e H acc=>Fy P T an nl ops os n e H acc K
  | some p=> match (ops[p.1]?).bind (·.dst) with
   | none=>False
   | some s=> match e s with
    | .val v=>bif S8 v==some p.2 then opK P T an nl o n e H acc λn e H acc=>Fy P T an nl ops os n e H acc K else Yx o n e H acc λn e H acc=>Fy P T an nl ops os n e H acc K
    | _=>False
section
variable {P:Program} {T:Dq} {an:Nat->Ann} {nl:Nat->List (Nat×Nat)} {ops:Array Oper}
theorem Ajq (E:Dt P T):∀(os:List Oper) (i n:Nat) (e:B7) (H:Hp) (acc:Lf) (K:Nat->B7->Hp->Lf->Prop),ops.toList.drop i=os->acc.length=i->Gy H n->Fy P T an nl ops os n e H acc K -> ∃b U R d,K b U R d/\d.take i=acc/\d.length=i+os.length/\n<=b/\Gy R b/\Run P ops (λk=>d.getD k ([],[])) (range' i os.length) e H U R
 | [],i,n,e,H,acc,K,hd,j,y,h=>⟨n,e,H,acc,h,by rw[<-j];simp,by simpa using j,Nat.le_refl _,y,.nil e H⟩
 | o::os,i,n,e,H,acc,K,hd,j,y,h=>by
  have G:ops[i]? = some o:=(by have:=congrArg (λl=>l[0]?) hd;simpa using this);have u:ops.toList.drop (i+1)=os:=(by have:=congrArg (drop 1) hd;simpa[drop_drop] using this);have V:L9 ops o e true->(opK P T an nl o n e H acc λn e H acc=>Fy P T an nl ops os n e H acc K) ->
    ∃b U R d,K b U R d/\d.take i=acc/\d.length=i+(o::os).length/\n<=b/\Gy R b/\Run P ops (λk=>d.getD k ([],[])) (range' i (o::os).length) e H U R:=by
   intro hg g;obtain⟨c,m,h1,h2,h3,N,L⟩:=Ao4 E y g;simp only[Yq,Aja,Ajb,Ajm]at h3;obtain⟨b,U,R,d,B,x,J,I,A,z⟩:=Ajq E os (i+1) m _ _ _ K u (by simp[j]) L h3.1;have D:d[i]? = some (c.rd.map (·.1),c.wr.map (·.1)):=(by have M:(d.take (i+1))[i]? = d[i]?:=H6 ω;rw[<-M,x,getElem?_append_right ω];simp[j]);have q:d.getD i ([],[])=(c.rd.map (·.1),c.wr.map (·.1)):=(by simp[getD,D]);refine⟨b,U,R,d,B,?_,by simp only[length_cons];omega,ω,A,?_⟩
   .have:=congrArg (take i) x;rw[take_take]at this;simpa[j] using this
   .rw[length_cons,range'_succ];refine .cons o (Yv (Adw nl o.dst) c.r) c.wr ⟨G,.inl ⟨hg,_,h1.nils (Adw nl o.dst),h2,?_,?_,rfl,rfl⟩⟩ z
    .intro p hp;show p.1∈(d.getD i ([],[])).1;rw[q];exact mem_map_of_mem hp
    .intro p hp;show p.1∈(d.getD i ([],[])).2;rw[q];exact mem_map_of_mem hp
  have skip:L9 ops o e false->(Yx o n e H acc λn e H acc=>Fy P T an nl ops os n e H acc K) ->
    ∃b U R d,K b U R d/\d.take i=acc/\d.length=i+(o::os).length/\n<=b/\Gy R b/\Run P ops (λk=>d.getD k ([],[])) (range' i (o::os).length) e H U R:=by
   intro hg g;unfold Yx at g;rw[Ajm]at g;obtain⟨b,U,R,d,B,x,J,I,A,z⟩:=Ajq E os (i+1) n _ _ _ K u (by simp[j]) y g.1;refine⟨b,U,R,d,B,?_,by simp only[length_cons];omega,ω,A,?_⟩
   .have:=congrArg (take i) x;rw[take_take]at this;simpa[j] using this
   .rw[length_cons,range'_succ];exact .cons o (.val undef) [] ⟨G,.inr ⟨hg,rfl,rfl⟩⟩ z
  simp only[Fy]at h;cases f:o.guard with
  | none=>rw[f]at h;exact V (by unfold L9;rw[f]) h
  | some p=>
   rw[f]at h;simp only[]at h;cases g:(ops[p.1]?).bind (·.dst) with
   | none=>rw[g]at h;exact h.elim
   | some s=>
    rw[g]at h;simp only[]at h;split at h
    .rename_i v hv;cases X:S8 v==some p.2 with| true=>rw[X]at h;exact V (by unfold L9;rw[f];exact⟨s,v,g,hv,X.symm⟩) h| false=>rw[X]at h;exact skip (by unfold L9;rw[f];exact⟨s,v,g,hv,X.symm⟩) h
    .exact h.elim
variable {o:Oper} {os:List Oper} {n:Nat} {e:B7} {H:Hp} {acc:Lf} {K:Nat->B7->Hp->Lf->Prop} {β:Type} {r:β}
variable {s:Nat} {p:Nat×Bool}
theorem nx (k:opK P T an nl o n e H acc λn e H acc=>Fy P T an nl ops os n e H acc K) (hg:o.guard=none:=by exact rfl):Ga (Fy P T an nl ops (o::os) n e H acc K):=.mk (by simp only[Fy,hg];exact k)
theorem Lu (k:K n e H acc):Ga (Fy P T an nl ops [] n e H acc K):=.mk k
theorem A1s (p:Nat×Bool) (s:Nat) (k:opK P T an nl o n e H acc λn e H acc=>Fy P T an nl ops os n e H acc K) (hg:o.guard=some p:=by exact rfl) (b:(ops[p.1]?).bind (·.dst)=some s:=by exact rfl) (hb:e s = .val (.bool p.2):=by exact rfl):Ga (Fy P T an nl ops (o::os) n e H acc K) :=
 .mk (by simp only[Fy,hg,b,hb,S8,BEq.rfl,cond_true];exact k)
theorem A1t (p:Nat×Bool) (s:Nat) (v:Value) (k:Yx o n e H acc λn e H acc=>Fy P T an nl ops os n e H acc K) (hg:o.guard=some p:=by exact rfl) (b:(ops[p.1]?).bind (·.dst)=some s:=by exact rfl) (hb:e s = .val v:=by exact rfl) (d:(S8 v==some p.2)=false:=by exact rfl):Ga (Fy P T an nl ops (o::os) n e H acc K) :=
 .mk (by simp only[Fy,hg,b,hb,d,cond_false];exact k)
theorem Q9 (k:opK P T an nl o n e H acc λn e H acc=>Fy P T an nl ops os n e H acc K) (hg:o.guard=some p:=by exact rfl) (b:(ops[p.1]?).bind (·.dst)=some s:=by exact rfl) (hb:e s = .val (.bool p.2):=by exact rfl):Ga (Fy P T an nl ops (o::os) n e H acc K):=A1s p s k hg b hb
theorem Ra {v:Value} (k:Yx o n e H acc λn e H acc=>Fy P T an nl ops os n e H acc K) (hg:o.guard=some p:=by exact rfl) (b:(ops[p.1]?).bind (·.dst)=some s:=by exact rfl) (hb:e s = .val v:=by exact rfl) (d:(S8 v==some p.2)=false:=by exact rfl):Ga (Fy P T an nl ops (o::os) n e H acc K):=A1t p s v k hg b hb d
theorem A1u {b:Bool} {m c:Option β} {X:List Oper} (h:(bif b then m else c)=some r) (d:b=true->m=some r->Ga (Fy P T an nl ops X n (Az e s (.val (.bool true))) H acc K)) (u:b=false->c=some r->Ga (Fy P T an nl ops X n (Az e s (.val (.bool false))) H acc K)) (hb:e s = .val (.bool b):=by exact rfl):Ga (Fy P T an nl ops X n e H acc K):=by cases b with| true=>have:=d rfl h;rwa [Ao6 hb]at this| false=>have:=u rfl h;rwa [Ao6 hb]at this
end
theorem St.recell {σ:A7} {ι:Cb} {H:Hp} {F:A7} {W w:World} (s:St σ ι H F W w) (h:Nat) (E:TypeId) (cs f:List AV) (hh:H h = .cells E cs) (l:f.length=cs.length) (hc:∀(i:Nat) (c j:AV) (v:Value),cs[i]? = some c->f[i]? = some j->Conc σ ι H c v->Conc σ ι H j v) : St σ ι (Az H h (.cells E f)) F W w/\Le σ ι H σ ι (Az H h (.cells E f)):=by
 have k:=s.obj h;unfold C4 at k;rw[hh]at k;obtain⟨b,C,hb,h1,h2,h3,A,z⟩:=k;have le:Le σ ι H σ ι (Az H h (.cells E f)):=by have:=Le.upd (ι:=ι) (H:=H) (A7.le_refl σ) h (ι h) (.cells E f) (by rw[hh];exact⟨λ_ e=>e,(λ_ e=>by cases e),(λ_ _ _ _ e=>by cases e)⟩);rwa [J8]at this
 refine⟨s.touch h b (λ_ _=>rfl) (λx e=>Cu _ _ e) le (λx e=>rfl) (λ_ _=>rfl) (λo e=>by rw[h1]at e;cases e) ?_ h2 ?_ ?_ rfl rfl rfl,le⟩
 .intro x e l q;exact e (s.inj x h b l (by rw[hh];rfl) q (by rw[hb];rfl))
 .intro B _ u;exact .inr ⟨by rw[hh];rfl,u⟩
 .unfold C4;rw[Ch];refine⟨b,C,hb,h1,h2,h3,ω,λi j v x y=>?_⟩;have hi:i<cs.length:=(by rw[<-l];exact (G1.1 x).1);have g:cs[i]? = some cs[i]:=getElem?_eq_getElem hi;exact (hc i _ j v g x (z i _ v g y)).mono le
def Ad3:AV->Option Nat
 | .loc h _=>some h
 | .vec h _=>some h
 | _=>none
inductive Gh where
 | fz (s:Nat)
 | own (s j:Nat) (e:TypeId) (sz:Nat)
 | nil (s j sz:Nat)
 | fzc (s j:Nat)
 | fzp (s:Nat)
 | fzcp (s j:Nat)
 | fzv (s:Nat)
def gxs:List Gh->Nat->B7->Hp->(Nat->B7->Hp->Prop)->Prop
 | [],n,e,H,K=>K n e H
 | .fz s::d,n,e,H,K=> match e s with
  | .arr h k 0 len=> match H h with
   | .rows _ sz xs=>Ie k xs (Ie len xs (gxs d n (Az e s (.sl sz xs)) (Az H h .dead) K))
   | _=>False
  | _=>False
 | .fzp s::d,n,e,H,K=> match e s with
  | .arr h k 0 len=> match H h with
   | .rows _ sz xs=>Ie k xs (Ai5 len k (Ai6 xs len λys=>gxs d n (Az e s (.sl sz ys)) (Az H h .dead) K))
   | _=>False
  | _=>False
 | .own s j E sz::d,n,e,H,K=> match Ad3 (e s) with
  | some h=> match H h with
   | .cells T cs=> match cs[j]? with
    | some x=>bif Mz x&&Nat.blt 0 sz then gxs d (n+1) e (Az (Az H n (.rows E sz [])) h (.cells T (cs.set j (.arr n 0 0 0)))) K else False
    | none=>False
   | _=>False
  | _=>False
 | .nil s j sz::d,n,e,H,K=> match Ad3 (e s) with
  | some h=> match H h with
   | .cells T cs=> match cs[j]? with
    | some x=>bif Mz x then gxs d n e (Az H h (.cells T (cs.set j (.sl sz [])))) K else False
    | none=>False
   | _=>False
  | _=>False
 | .fzc s j::d,n,e,H,K=> match Ad3 (e s) with
  | some h=> match H h with
   | .cells T cs=> match cs[j]? with
    | some (.arr h' k 0 len)=> match H h' with
     | .rows _ sz xs=>Ie k xs (Ie len xs (gxs d n e (Az (Az H h' .dead) h (.cells T (cs.set j (.sl sz xs)))) K))
     | _=>False
    | _=>False
   | _=>False
  | _=>False
 | .fzcp s j::d,n,e,H,K=> match Ad3 (e s) with
  | some h=> match H h with
   | .cells T cs=> match cs[j]? with
    | some (.arr h' k 0 len)=> match H h' with
     | .rows _ sz xs=>Ie k xs (Ai5 len k (Ai6 xs len λys=>gxs d n e (Az (Az H h' .dead) h (.cells T (cs.set j (.sl sz ys)))) K))
     | _=>False
    | _=>False
   | _=>False
  | _=>False
 | .fzv s::d,n,e,H,K=> match e s with
  | .vec h m=> match H h with
   | .cells _ cs=>bif cs.all AV.cl1&&Nat.beq cs.length m&&Nat.ble m 16 then gxs d n (Az e s (.sl 1 cs)) (Az H h .dead) K else False
   | _=>False
  | _=>False
section
variable {F:A7} {W:World}
variable {σ:A7} {ι:Cb} {H:Hp} {h j:Nat} {E:TypeId} {w:World}
theorem Apg {cs:List AV} {i:Nat} {y c b:AV} {P:AV->AV->Prop} (u:cs[i]? = some c) (d:(cs.set j y)[i]? = some b) (f:P c c) (B:i=j->P c y):P c b:=by
 rw[getElem?_set]at d;split at d
 .rename_i e;split at d
  .cases d;exact B e.symm
  .cases d
 .rw[u]at d;cases d;exact f
theorem St.freezeVec (s:St σ ι H F W w) {cs:List AV} (hh:H h = .cells E cs) (k:∀c∈cs,c.cl1=true) : ∃B,Le σ ι H B ι (Az H h .dead)/\St B ι (Az H h .dead) F W w/\∀v,cs.length<=140737488355328->Conc σ ι H (.vec h cs.length) v->CC B (.sl 1 cs) v:=by
 have l:=s.obj h;unfold C4 at l;rw[hh]at l;obtain⟨b,C,J,Y,X,V,U,S⟩:=l;have z:σ.le (Az σ b (some (.cells C E))):=by intro Z o' d;rw[Cu _ _ (by intro e;subst e;rw[Y]at d;cases d)];exact d
 have g:Le σ ι H (Az σ b (some (.cells C E))) ι (Az H h .dead):=by have:=Le.upd (ι:=ι) (H:=H) z h (ι h) .dead ⟨λ_ e=>e,(λ_ e=>by cases e),(λ_ E1 R L e=>by cases e)⟩;rwa [J8]at this
 refine⟨Az σ b (some (.cells C E)),g,?_,?_⟩
 .exact s.touch h b (λ_ _=>rfl) (λx e=>Cu _ _ e) g (λ_ _=>rfl) (λx e=>Cu _ _ e) (λo I=>by rw[Ch]at I;cases I;exact V)
   (λx e q hb=>e (s.inj x h b q (by rw[hh];rfl) hb (by rw[J];rfl))) X (λZ q hb=>by rw[Ch]at q;cases q) (by unfold C4;rw[Ch];trivial) rfl rfl rfl
 .intro v q hc;obtain⟨b2,A,rfl⟩:=hc.vec_inv;rw[J]at A;cases A;have f:∀c:AV,c.cl1=true->c.cells = [c]:=by
   intro c hc;cases c with
   | val v=>cases v <;> first|rfl|cases hc
   | sl=>rfl
   | _=>cases hc
  have G:∀(i:Nat) (c:AV),cs[i]? = some c->∃u,C[i]? = some u/\CC σ c u/\Fi u=true:=(by intro i c hi;have a0:i<C.size:=(by rw[U];exact (G1.1 hi).1);refine⟨C[i],by simp[a0],?_⟩;exact (S i c C[i] hi (by simp[a0])).cc_of (k c (Fq hi)));have:=CC.sl (σ:=Az σ b (some (.cells C E))) cs b 0 cs.length 1 C E (0,0) (λn _=>(C[n]?).getD undef) (Ch _ _ _)
   (λi x hx=>by rw[f x (k x (Fq hx))];rfl) (λi x j c hx hj=>by rw[f x (k x (Fq hx))]at hj;obtain⟨rfl,rfl⟩:=Aif hj;obtain⟨u,y,N,_⟩:=G i _ hx;rw[y];exact N.mono z) (λi x j c hx hj=>by rw[f x (k x (Fq hx))]at hj;obtain⟨rfl,rfl⟩:=Aif hj;obtain⟨u,y,_,M⟩:=G i _ hx;rw[y];exact M) (λi j hi hj=>by have D:j=0:=ω;subst D;rw[Nat.zero_add,Nat.mul_one,Nat.add_zero];obtain⟨u,y,_⟩:=G i cs[i] (getElem?_eq_getElem hi);rw[y];rfl) q (Nat.le_refl _);exact this
theorem Pt {n:Nat} {o:Bm} (b:Gy H n) (hh:H h≠.none):Gy (Az H h o) n:=by intro m c;rw[Cu _ _ λe=>hh (by rw[<-e];exact b m c)];exact b m c
theorem Aph {d h' k len:Nat} {T:TypeId} {sz:Nat} {cs xs ys:List AV} (s:St σ ι H F W w) (hh:H d = .cells T cs) (hj:cs[j]? = some (.arr h' k 0 len)) (g:H h' = .rows E sz xs) (hk:xs.length=k) (V:len<=xs.length) (hy:xs.take len=ys) : ∃c,Le σ ι H c ι (Az (Az H h' .dead) d (.cells T (cs.set j (.sl sz ys))))/\St c ι (Az (Az H h' .dead) d (.cells T (cs.set j (.sl sz ys)))) F W w:=by
 obtain⟨c,G,D,M⟩:=s.freeze g;have J:d≠h':=by intro B;subst B;rw[hh]at g;cases g
 have f:Az H h' .dead d = .cells T cs:=by rw[Cu _ _ J];exact hh
 have h:=s.obj d;unfold C4 at h;rw[hh]at h;obtain⟨b,C,B,g1,g2,g3,g4,g5⟩:=h;have l:∀v,C[j]? = some v->Conc c ι (Az H h' .dead) (.sl sz ys) v:=by intro v hv;have hc:=g5 j _ v hj hv;have:=M 0 len _ ω (hc.arr_inv g hk);rw[drop_zero,hy]at this;exact .cc this
 have U:St c ι (Az (Az H h' .dead) d (.cells T (cs.set j (.sl sz ys)))) F W w/\Le c ι (Az H h' .dead) c ι (Az (Az H h' .dead) d (.cells T (cs.set j (.sl sz ys)))):=by
  have I:=D.obj d;unfold C4 at I;rw[f]at I;obtain⟨b',C',A,z,u,q,X,S⟩:=I;rw[B]at A;cases A;rw[g3]at q;cases q;have le:Le c ι (Az H h' .dead) c ι (Az (Az H h' .dead) d (.cells T (cs.set j (.sl sz ys)))):=(by have:=Le.upd (ι:=ι) (H:=Az H h' .dead) (A7.le_refl c) d (ι d) (.cells T (cs.set j (.sl sz ys))) (by rw[f];exact⟨λ_ e=>e,(λ_ e=>by cases e),(λ_ _ _ _ e=>by cases e)⟩);rwa [J8]at this);refine⟨D.touch d b (λ_ _=>rfl) (λx e=>Cu _ _ e) le (λx e=>rfl) (λ_ _=>rfl) (λo e=>by rw[z]at e;cases e) ?_ u ?_ ?_ rfl rfl rfl,le⟩
  .intro x e V N;exact e (D.inj x d b V (by rw[f];rfl) N (by rw[B];rfl))
  .intro Z _ R;exact .inr ⟨by rw[f];rfl,R⟩
  .unfold C4;rw[Ch];refine⟨b,C,B,z,u,g3,by simpa using g4,λi Y v x y=>?_⟩;rw[getElem?_set]at x;split at x
   .rename_i L;split at x
    .cases x;subst L;exact (l v y).mono le
    .cases x
   .exact (S i Y v x y).mono le
 exact⟨c,G.trans U.2,U.1⟩
theorem Rb:∀(z:List Gh) {n:Nat} {e:B7} {H:Hp} {K:Nat->B7->Hp->Prop} {σ:A7} {ι:Cb} {a:Act} {w:World},gxs z n e H K->St σ ι H F W w->Fr σ ι H e a->Gy H n -> ∃σ' ι' n' e' H',K n' e' H'/\Le σ ι H σ' ι' H'/\St σ' ι' H' F W w/\Fr σ' ι' H' e' a/\Gy H' n'/\n<=n'
 | [],n,e,H,K,σ,ι,a,w,h,s,u,y=>⟨σ,ι,n,e,H,h,Le.refl _ _ _,s,u,y,Nat.le_refl _⟩
 | .fz t::z,n,e,H,K,σ,ι,a,w,h,s,u,y=>by
  simp only[gxs]at h;split at h
  .rename_i hd k len hx;split at h
   .rename_i E sz xs d;obtain⟨hk,hl,h⟩:=h;obtain⟨Z,f,G,X⟩:=s.freeze d;have Y:Fr Z ι (Az H hd .dead) (Az e t (.sl sz xs)) a:=by
     intro q hq;by_cases A:q=t
     .subst A;rw[Ch];have hc:=u q hq;rw[hx]at hc;have:=X 0 len _ ω (hc.arr_inv d hk);rw[drop_zero,take_of_length_le ω]at this;exact .cc this
     .rw[Cu _ _ A];exact (u q hq).mono f
    obtain⟨B,D,I,S,U,R,N,M,L,J,V⟩:=Rb z h G Y (Pt y (by rw[d];intro e;cases e));exact⟨B,D,I,S,U,R,f.trans N,M,L,J,V⟩
   .exact h.elim
  .exact h.elim
 | .fzp t::z,n,e,H,K,σ,ι,a,w,h,s,u,y=>by
  simp only[gxs]at h;split at h
  .rename_i hd k len hx;split at h
   .rename_i E sz xs d;obtain⟨hk,hl,ys,hy,h⟩:=h;obtain⟨Z,f,G,X⟩:=s.freeze d;have Y:Fr Z ι (Az H hd .dead) (Az e t (.sl sz ys)) a:=by
     intro q hq;by_cases A:q=t
     .subst A;rw[Ch];have hc:=u q hq;rw[hx]at hc;have:=X 0 len _ ω (hc.arr_inv d hk);rw[drop_zero,hy]at this;exact .cc this
     .rw[Cu _ _ A];exact (u q hq).mono f
    obtain⟨B,D,I,S,U,R,N,M,L,J,V⟩:=Rb z h G Y (Pt y (by rw[d];intro e;cases e));exact⟨B,D,I,S,U,R,f.trans N,M,L,J,V⟩
   .exact h.elim
  .exact h.elim
 | .own t j E sz::z,n,e,H,K,σ,ι,a,w,h,s,u,y=>by
  simp only[gxs]at h;split at h
  .rename_i hd hx;split at h
   .rename_i T cs d;split at h
    .rename_i x hj;obtain⟨hb,h⟩:=Hb h;rw[Fw]at hb;have a8:hd≠n:=(by intro A;subst A;have:=y hd (Nat.le_refl _);rw[d]at this;cases this);obtain⟨s0,a6⟩:=s.newNil n (y n (Nat.le_refl _)) E sz (Hx hb.2);have a7:Az H n (.rows E sz []) hd = .cells T cs:=(by rw[Cu _ _ a8];exact d);obtain⟨G,f⟩:=s0.recell hd T cs (cs.set j (.arr n 0 0 0)) a7 ψ (by intro i c c' v h1 h2 h3;refine Apg (P:=λa b=>Conc σ _ _ a v->Conc σ _ _ b v) h1 h2 (λh=>h) (λa1 h=>?_) h3;subst a1;rw[hj]at h1;cases h1;rw[Adv hb.1]at h;rw[h.val_inv];refine .arr _ _ _ _ _ (by rw[Ch];intro e;cases e) (λE' ac ab e'=>?_) rfl;rw[Ch]at e';cases e';exact⟨ψ,λ_=>by rw[Ch];exact⟨rfl,rfl,rfl⟩⟩);have aa:Gy (Az (Az H n (.rows E sz [])) hd (.cells T (cs.set j (.arr n 0 0 0)))) (n+1):=(by refine Pt ?_ (by rw[a7];intro e;cases e);intro m hm;rw[Cu _ _ ω];exact y m ω);obtain⟨B,D,I,S,U,R,N,M,L,J,V⟩:=Rb z h G (u.mono (a6.trans f)) aa;exact⟨B,D,I,S,U,R,(a6.trans f).trans N,M,L,J,ω⟩
    .exact h.elim
   .exact h.elim
  .exact h.elim
 | .nil t j sz::z,n,e,H,K,σ,ι,a,w,h,s,u,y=>by
  simp only[gxs]at h;split at h
  .rename_i hd hx;split at h
   .rename_i T cs d;split at h
    .rename_i x hj;obtain⟨hb,h⟩:=Hb h;obtain⟨G,f⟩:=s.recell hd T cs (cs.set j (.sl sz [])) d ψ (by intro i c c' v h1 h2 h3;refine Apg (P:=λa b=>Conc σ _ _ a v->Conc σ _ _ b v) h1 h2 (λh=>h) (λa1 h=>?_) h3;subst a1;rw[hj]at h1;cases h1;exact Adx hb h);obtain⟨B,D,I,S,U,R,N,M,L,J,V⟩:=Rb z h G (u.mono f) (Pt y (by rw[d];intro e;cases e));exact⟨B,D,I,S,U,R,f.trans N,M,L,J,V⟩
    .exact h.elim
   .exact h.elim
  .exact h.elim
 | .fzc t j::z,n,e,H,K,σ,ι,a,w,h,s,u,y=>by
  simp only[gxs]at h;split at h
  .rename_i hd hx;split at h
   .rename_i T cs d;split at h
    .rename_i h' k len hj;split at h
     .rename_i E sz xs l;obtain⟨hk,hl,h⟩:=h;obtain⟨Z,f,G⟩:=Aph s d hj l hk ω (take_of_length_le ω);obtain⟨B,D,I,S,U,R,N,M,L,J,V⟩:=Rb z h G (u.mono f) (Pt (Pt y (by rw[l];intro e;cases e)) (by rw[Cu _ _ (by intro A;subst A;rw[d]at l;cases l)];rw[d];intro e;cases e));exact⟨B,D,I,S,U,R,f.trans N,M,L,J,V⟩
     .exact h.elim
    .exact h.elim
   .exact h.elim
  .exact h.elim
 | .fzcp t j::z,n,e,H,K,σ,ι,a,w,h,s,u,y=>by
  simp only[gxs]at h;split at h
  .rename_i hd hx;split at h
   .rename_i T cs d;split at h
    .rename_i h' k len hj;split at h
     .rename_i E sz xs l;obtain⟨hk,hl,ys,hy,h⟩:=h;obtain⟨Z,f,G⟩:=Aph s d hj l hk ω (hy);obtain⟨B,D,I,S,U,R,N,M,L,J,V⟩:=Rb z h G (u.mono f) (Pt (Pt y (by rw[l];intro e;cases e)) (by rw[Cu _ _ (by intro A;subst A;rw[d]at l;cases l)];rw[d];intro e;cases e));exact⟨B,D,I,S,U,R,f.trans N,M,L,J,V⟩
     .exact h.elim
    .exact h.elim
   .exact h.elim
  .exact h.elim
 | .fzv t::z,n,e,H,K,σ,ι,a,w,h,s,u,y=>by
  simp only[gxs]at h;split at h
  .rename_i hd m hx;split at h
   .rename_i E cs d;obtain⟨g,h⟩:=Hb h;simp only[Fw]at g;obtain⟨⟨g1,g2⟩,g3⟩:=g;have g2:=Ha g2;have g3:=G2 g3;obtain⟨Z,f,G,X⟩:=s.freezeVec d λc hc=>En.1 g1 c hc;have Y:Fr Z ι (Az H hd .dead) (Az e t (.sl 1 cs)) a:=by
     intro q hq;by_cases A:q=t
     .subst A;rw[Ch];have hc:=u q hq;rw[hx,<-g2]at hc;exact .cc (X _ ω hc)
     .rw[Cu _ _ A];exact (u q hq).mono f
    obtain⟨B,D,I,S,U,R,N,M,L,J,V⟩:=Rb z h G Y (Pt y (by rw[d];intro e;cases e));exact⟨B,D,I,S,U,R,f.trans N,M,L,J,V⟩
   .exact h.elim
  .exact h.elim
end
variable {i:Int} {n:Nat} {E S α:Type} {e:E} {l:List α} {s:S}
def Ix {S E:Type} (step:S->Option (S⊕E)):Nat->S->Option E
 | 0,_=>none
 | n+1,s=> match step s with
  | none=>none
  | some (.inl d)=>Ix step n d
  | some (.inr e)=>some e
theorem Ajr {S E:Type} {step:S->Option (S⊕E)}:∀{n:Nat} {s:S} {e:E},Ix step n s=some e->∀m,n<=m->Ix step m s=some e
 | 0,s,e,h,_,_=>by cases h
 | n+1,s,e,h,0,c=>ω
 | n+1,s,e,h,m+1,c=>by
  simp only[Ix]at h ⊢;cases b:step s with
  | none=>rw[b]at h;cases h
  | some o=>rw[b]at h;cases o with| inl d=>exact Ajr (n:=n) h m ω| inr u=>exact h
theorem Api {step:S->Option (S⊕E)} {m:Nat} {e':E} (h:Ix step n s=some e) (h':Ix step m s=some e'):e=e':=by have u:=Ajr h (max n m) ω;have d:=Ajr h' (max n m) ω;rw[u]at d;exact Option.some.inj d
open Classical in
noncomputable def Ak {S E:Type} (step:S->Option (S⊕E)) (s:S):Option E := match Ix step 4096 s with
 | some e=>some e
 | none=>if h:∃n e,Ix step n s=some e then some (Classical.choose (Classical.choose_spec h)) else none
theorem Ad4 {step:S->Option (S⊕E)} (h:Ak step s=some e):∃n,Ix step n s=some e:=by
 unfold Ak at h;split at h
 .rename_i u b;cases h;exact⟨_,b⟩
 .split at h
  .rename_i d;cases h;exact⟨_,Classical.choose_spec (Classical.choose_spec d)⟩
  .cases h
theorem Ajs {step:S->Option (S⊕E)} (h:Ix step n s=some e):Ak step s=some e:=by
 have d:∃n e,Ix step n s=some e:=⟨n,e,h⟩;unfold Ak;split
 .rename_i u b;exact congrArg some (Api b h)
 rw[dif_pos d];exact congrArg some (Api (Classical.choose_spec (Classical.choose_spec d)) h)
theorem F0 {step:S->Option (S⊕E)} (h:step s=some (.inr e)):Ak step s=some e := Ajs (n:=1) (by simp only[Ix,h])
theorem Lg {step:S->Option (S⊕E)} {s':S} (h:step s=some (.inl s')):Ak step s=Ak step s':=by
 cases h':Ak step s' with
 | some e=>obtain⟨n,b⟩:=Ad4 h';exact Ajs (n:=n+1) (by simp only[Ix,h];exact b)
 | none=>
  cases c:Ak step s with
  | none=>rfl
  | some e=>obtain⟨n,b⟩:=Ad4 c;cases n with| zero=>cases b| succ n=>simp only[Ix,h]at b;rw[Ajs b]at h';cases h'
theorem Jm {step:S->Option (S⊕E)} (c:S->Prop) (m:S->Nat) (b:E->Prop) (f:∀s,c s->(∃d,step s=some (.inl d)/\c d/\m d < m s)\/(∃e,step s=some (.inr e)/\b e)) (s:S) (h0:c s):∃e,Ak step s=some e/\b e:=by
 generalize D:m s=k;induction k using Nat.strongRecOn generalizing s with
 | _ k ih=>
  rcases f s h0 with⟨d,u,B,I⟩|⟨e,u,B⟩
  .obtain⟨e,h,g⟩:=ih (m d) ω d B rfl;exact⟨e,by rw[Lg u];exact h,g⟩
  .exact⟨e,F0 u,B⟩
def Ag (l:List α) (i:Int):Option α:=if 0<=i then l[i.toNat]? else none
def F1 (l:List α) (lo hi:Int):Option (List α):=if 0<=lo/\lo<=hi/\hi<=l.length then some ((l.take hi.toNat).drop lo.toNat) else none
def B8 (b:Nat) (xs ys:List α):Option (List α):=if (xs.length+ys.length)*b<=140737488355328 then some (xs++ys) else none
def Gk (c:Nat) (len b:Int) (z:α):Option (List α):=if 0<=len/\len<=b/\c*b.toNat<=281474976710656/\b<=140737488355328 then some (replicate len.toNat z) else none
def Hy (l:List α) (off n:Nat) (i:Int):Option α:=if 0<=i/\i<n then l[off+i.toNat]? else none
def Re (n:Nat) (lo hi:Int):Option (Nat×Nat):=if 0<=lo/\lo<=hi/\hi<=n/\(lo=0\/lo<hi) then some (lo.toNat,hi.toNat) else none
def Rf (xs:List α) (off n:Nat) (z:α):Option (List α):=if off+n<=xs.length then some (Gf xs off (replicate n z)) else none
def Ad5 (xs:List α) (n:Nat):Option (List α):=if n<=xs.length then some (xs.take n) else none
def V8 (n:Nat) (hi:Int):Option Nat:=if 0<=hi/\hi<=n then some hi.toNat else none
def Tg (n:Nat) (lo hi:Int):Option ((Nat×Nat)⊕Unit):=if 0<=lo/\lo<=hi/\hi<=n then (if lo=0\/lo<hi then some (.inl (lo.toNat,hi.toNat)) else some (.inr ())) else none
def Ft (n:Nat) (l:List α):Option Unit:=if n=l.length then some () else none
theorem H8 {u:Unit} (h:Ft n l=some u):n=l.length:=by
 unfold Ft at h;split at h
 .assumption
 .cases h
theorem Apj (off:Nat) (h:i=n):((off:Nat):Int)+i=((off+n:Nat):Int):=by omega
def Pu (n:Int):Option ByteArray:=if -9223372036854775808<=n/\n<=9223372036854775807 then some ⟨(Lib.itoa n).toArray⟩ else none
def Apk (l:List Int):Option (List Int):=some (l.mergeSort λx y=>decide (x<=y))
def Ad6 (a b:Int):Option ByteArray:=bif b==10 then Pu a else none
def Fk (l:List Int):List UInt8:=l.map λn=>UInt8.ofNat n.toNat
def Yy (l:List Int):Option ByteArray:=if (∀x∈l,0<=x/\x<256) then some ⟨(Fk l).toArray⟩ else none
def Ns (s:ByteArray):List Int:=s.data.toList.map λb=>(b.toNat:Int)
def Cr (l:List α) (i:Int) (x:α):List α:=l.set i.toNat x
def Hz (k:IntKind) (a b:Int):Option Int:=if b=0 then none else some (k.wrap (a.tdiv b))
def Iy (a b:Int):Option Int:=if b=0 then none else some (a.tmod b)
def Yz (k:IntKind) (a b:Int):Option Int:=if 0<=b then some (a.fdiv (2 ^ (min b.toNat k.bits))) else none
def Km (s:ByteArray) (i:Int):Option UInt8:=if 0<=i then s[i.toNat]? else none
def Gm (a b:ByteArray):Option ByteArray:=if a.size+b.size<=9223372036854775807 then some (a++b) else none
def Hf (s:ByteArray) (lo hi:Int):Option ByteArray:=if 0<=lo/\lo<=hi/\hi<=s.size then some (s.extract lo.toNat hi.toNat) else none
abbrev Ac (n:Int):Int:=IntKind.i64.wrap n
abbrev Bh (n:Int):Int:=IntKind.u64.wrap n
abbrev Dk (n:Int):Int:=IntKind.u32.wrap n
abbrev wu8 (n:Int):Int:=IntKind.u8.wrap n
theorem Apl {x:α} (h:Ag l i=some x):∃n:Nat,i=n/\l[n]? = some x:=by
 unfold Ag at h;split at h
 .exact⟨i.toNat,ω,h⟩
 .cases h
section
variable {β:Type} {r:β}
variable {hi i lo:Int} {xs ys:List AV} {b n off:Nat} {K:Nat->Nat->Prop} {G:Prop} {α:Type} {l:List α} {o:Option α} {m:α->Option β}
theorem Db (h:o.bind m=some r) (k:∀x,o=some x->m x=some r->G):G:=by cases o with| none=>cases h| some x=>exact k x rfl h
theorem Apm (h:o.bind m=some r) (k:∀x,o=some x->(∀y,y=x->m y=some r)->G):G:=by cases o with| none=>cases h| some x=>exact k x rfl (λy d=>by subst d;exact h)
theorem Apn {f:α->AV} (c:ys=l.map f) {K:Nat->AV->Prop} (h:(Ag l i).bind m=some r) (k:∀(n:Nat) (x:α),i=n->l[n]? = some x->m x=some r->K n (f x)):Vv ys i K:=by subst c;refine Db h λx u h=>?_;obtain⟨n,b,d⟩:=Apl u;exact .mk n (f x) b (by simp[d]) (k n x b d h)
theorem A1v {f:α->AV} (j:ys=l.map f) {K:Nat->Prop} {len:Nat} (g:len=l.length) (u:b=l.length) (h:(Ag l i).bind m=some r) (k:∀(n:Nat) (x:α),i=n->l[n]? = some x->m x=some r->K n):S9 len b ys i K:=by subst j;refine Db h λx B h=>?_;obtain⟨n,c,d⟩:=Apl B;exact .mk n (by rw[u];simp) c (by rw[g];exact (G1.1 d).1) (k n x c d h)
theorem A1w {f:α->AV} (c:ys=l.map f) {K:Nat->Prop} {len:Nat} (u:b=l.length) (h:(Hy l off len i).bind m=some r) (k:∀(n:Nat) (x:α),i=n->l[off+n]? = some x->m x=some r->K n):S9 len b ys i K:=by
 subst c;refine Db h λx d h=>?_;unfold Hy at d;split at d
 .rename_i B;exact .mk i.toNat (by rw[u];simp) ω ω (k _ x ω d h)
 .cases d
theorem Apo {f:α->AV} (c:ys=l.map f) (u:b=l.length) {m:Nat×Nat->Option β} {g:Prop} (h:(Re n lo hi).bind m=some r) (k:∀v:Nat×Nat,m v=some r->K v.1 v.2):Adl b ys n lo hi K g:=by
 subst c;refine Db h λx d h=>?_;unfold Re at d;split at d
 .rename_i B;cases d;exact .mk lo.toNat hi.toNat (by rw[u];simp) ω ω ω ω ω (k _ h)
 .cases d
theorem A1x {β:Type} (f:α->β) (xs:List α) (d:Nat) (ys:List α):Gf (xs.map f) d (ys.map f)=(Gf xs d ys).map f:=by unfold Gf;simp[map_take,map_drop]
theorem A1y {f:α->AV} {z:α} {c:AV} (j:xs=l.map f) (i:c=f z) {g len:Nat} {m:List α->Option β} {K:List AV->Prop} (u:g=l.length) (h:(Rf l off len z).bind m=some r) (k:∀o:List α,Rf l off len z=some o->m o=some r->K (o.map f)):Aop xs g off len c K:=by
 subst j;subst u;subst i;refine Db h λx d h=>?_;have b:=d;unfold Rf at d;split at d
 .rename_i B;cases d;exact .mk _ ψ (by simpa using B) (by rw[<-map_replicate,A1x]) (k _ b h)
 .cases d
theorem App {o:List α} {k:Nat} {z:α} (d:k=l.length) (h:Rf l off n z=some o):k=o.length:=by
 unfold Rf at h;split at h
 .cases h;rw[Yj ω];simp;omega
 .cases h
theorem A1z {f:α->AV} (c:xs=l.map f) {len:Nat} {m:List α->Option β} {K:List AV->Prop} (u:b=l.length) (h:(Ad5 l len).bind m=some r) (k:∀o:List α,m o=some r->K (o.map f)):Ie b xs (Ai5 len b (Ai6 xs len K)):=by
 subst c;subst u;refine Db h λx d h=>?_;unfold Ad5 at d;split at d
 .rename_i B;cases d;exact .mk ψ (.mk B (.mk _ (by rw[map_take]) (k _ h)))
 .cases d
theorem Apq {f:α->AV} (c:ys=l.map f) (u:b=l.length) {m:Nat->Option β} {g:Prop} (h:(V8 n hi).bind m=some r) (k:∀v:Nat,m v=some r->K 0 v):Adl b ys n 0 hi K g:=by
 subst c;refine Db h λx d h=>?_;unfold V8 at d;split at d
 .rename_i B;cases d;exact .mk 0 hi.toNat (by rw[u];simp) ω ω ω ω ω (k _ h)
 .cases d
theorem A10 {f:α->AV} (i:ys=l.map f) (u:b=l.length) {m:(Nat×Nat)⊕Unit->Option β} {c:Prop} (h:(Tg n lo hi).bind m=some r) (k:∀v:Nat×Nat,m (.inl v)=some r->K v.1 v.2) (g:m (.inr ())=some r->c):Adl b ys n lo hi K c:=by
 subst i;refine Db h λx d h=>?_;unfold Tg at d;split at d
 .rename_i B;split at d
  .cases d;exact .mk lo.toNat hi.toNat (by rw[u];simp) ω ω ω ω ω (k _ h)
  .cases d;exact .mkE lo.toNat (by rw[u];simp) ω ω ω (g h)
 .cases d
variable {p:AV} {q:FloatKind} {hi j lo:Int} {xs ys:List AV} {K:List AV->Prop} {a b i n:Nat} {α:Type} {l:List α} {g:List α->List AV} {m:List α->Option β} {x:α}
theorem Apr {op:BinOp} {m:Nat->Option β} {K:Nat->Prop} (h:(floatBits op q a b).bind m=some r) (k:∀c,m c=some r->K c):Ado op q a b K := Db h λx d h=>.mk x d (k x h)
theorem Aps {z:IntKind} {m:Int->Option β} {K:Int->Prop} (h:(floatToIntVal q a z).bind m=some r) (k:∀c,m c=some r->K c):Adp q a z K := Db h λx d h=>.mk x d (k x h)
theorem A11 {f:α->AV} (c:ys=l.map f) {K:AV->Prop} (d:b=l.length) (hi:i=n) (u:l[n]? = some x) (k:K (f x)):My b i ys K:=by subst c;subst hi;exact .mk (f x) (by rw[d];simp) (by simp[u]) k
theorem Ma {f:α->AV} (b:ys=l.map f) (hp:p=f x) (hi:i=n) (d:j=(n:Int)) (k:K ((Cr l j x).map f)):Vy ys i p K:=by subst b;subst hi;subst hp;subst d;exact .mk _ (by simp[Cr,map_set]) k
theorem Apt {f:α->AV} (hg:∀l,g l=l.map f) (b:ys=l.map f) (hp:p=f x) (hi:i=n) (d:j=(n:Int)) (k:K (g (Cr l j x))):Vy ys i p K := Ma b hp hi d (by rw[<-hg];exact k)
theorem I9 {k:Nat} (h:k=l.length) (j:Int) (x:α):k=(Cr l j x).length:=by simp[Cr,h]
theorem Ajt {f:α->AV} (c:ys=l.map f) (h:(F1 l lo hi).bind m=some r) (k:∀b:List α,m b=some r->K (b.map f)):Nn ys lo hi K:=by
 subst c;refine Db h λx d h=>?_;unfold F1 at d;split at d
 .rename_i u;cases d;exact .mk lo.toNat hi.toNat _ ω ω ω ζ (by rw[<-map_take,<-map_drop]) (k _ h)
 .cases d
theorem Apu {f:α->AV} (c:ys=l.map f) (h:(F1 l lo l.length).bind m=some r) (k:∀b:List α,m b=some r->K (b.map f)):Nn ys lo ys.length K:=by
 have e:((ys.length:Nat):Int)=(l.length:Int):=by rw[c];simp
 rw[e];exact Ajt c h k
theorem A12 {f:α->AV} (hg:∀l,g l=l.map f) (c:ys=l.map f) (h:(F1 l lo hi).bind m=some r) (k:∀b:List α,m b=some r->K (g b)):Nn ys lo hi K := Ajt c h λb h=>by rw[<-hg];exact k b h
theorem A13 {f:α->AV} (hg:∀l,g l=l.map f) (c:ys=l.map f) (h:(F1 l lo l.length).bind m=some r) (k:∀b:List α,m b=some r->K (g b)):Nn ys lo ys.length K := Apu c h λb h=>by rw[<-hg];exact k b h
theorem Th {ys:List α} {f:α->AV} {c:List AV} (q:xs=l.map f) (i:c=ys.map f) {g len:Nat} {K:List AV->Nat->Prop} {s:List AV->Nat->Nat->Prop} (u:g=l.length) (j:len=l.length) (h:(B8 b l ys).bind m=some r) (k:∀o:List α,m o=some r->K (o.map f) o.length):No xs c g len b K s:=by
 subst q;subst i;subst u;subst j;refine Db h λx d h=>?_;unfold B8 at d;split at d
 .rename_i B;cases d;exact .mk _ _ ψ rfl (by simpa using B) ψ ψ (k _ h)
 .cases d
theorem A14 {l:List Int} {s:ByteArray} (i:xs=l.map λn=>.val (.int .u8 n)) {c len:Nat} {m:List Int->Option β} {K:List AV->Nat->Prop} {j:List AV->Nat->Nat->Prop} (d:c=l.length) (g:len=l.length) (h:(B8 b l (Ns s)).bind m=some r) (k:∀o:List Int,m o=some r->K (o.map λn=>.val (.int .u8 n)) o.length):No xs (Kj s) c len b K j:=by refine Th (f:=λn=>.val (.int .u8 n)) i ?_ d g h k;simp[Kj,Ns]
variable {g:AV} {ys:List AV} {K:List AV->Nat->Prop} {b:Nat} {α:Type} {l:List α} {m:List α->Option β}
theorem Apv {ys:List α} {f:α->AV} {c:List AV} (g:c=ys.map f) (h:(B8 b [] ys).bind m=some r) (k:∀o:List α,m o=some r->K (o.map f) o.length):Ta c b K:=by
 subst g;refine Db h λx d h=>?_;unfold B8 at d;split at d
 .rename_i u;cases d;exact .mk _ _ (by simpa using u) ψ ψ (k _ h)
 .cases d
theorem A15 {g:List α->List AV} {f:α->AV} (hg:∀l,g l=l.map f) {ys:List α} {xs c:List AV} (s:xs=l.map f) (j:c=ys.map f) {i len:Nat} {u:List AV->Nat->Nat->Prop} (d:i=l.length) (q:len=l.length) (h:(B8 b l ys).bind m=some r) (k:∀o:List α,m o=some r->K (g o) o.length):No xs c i len b K u := Th s j d q h λo h=>by rw[<-hg];exact k o h
theorem Apw {g:List α->List AV} {f:α->AV} (hg:∀l,g l=l.map f) {ys:List α} {c:List AV} (i:c=ys.map f) (h:(B8 b [] ys).bind m=some r) (k:∀o:List α,m o=some r->K (g o) o.length):Ta c b K := Apv i h λo h=>by rw[<-hg];exact k o h
theorem A16 {z:α} {f:α->AV} (i:g=f z) {len c:Int} {K:Nat->List AV->Prop} (h:(Gk b len c z).bind m=some r) (k:∀o:List α,m o=some r->K o.length (o.map f)):Vx len c b g K:=by
 subst i;refine Db h λx d h=>?_;unfold Gk at d;split at d
 .rename_i u;cases d;exact .mk _ c.toNat _ ζ ω ζ u.2.2.1 ω ψ (k _ h)
 .cases d
theorem Ti {z:α} {f:α->AV} (i:G7 g.cells (f z).cells) {len c:Int} {K:Nat->List AV->Prop} (h:(Gk b len c z).bind m=some r) (k:∀o:List α,m o=some r->K o.length (o.map f)):Vx len c b g K:=by
 refine Db h λx d h=>?_;unfold Gk at d;split at d
 .rename_i u;cases d;exact .mkN (f z) i _ c.toNat _ ζ ω ζ u.2.2.1 ω ψ (k _ h)
 .cases d
theorem A17 {f:α->AV} (b:ys=l.map f) {K:Int->Prop} (k:K (l.length:Int)):Nq ys K:=by subst b;exact .mk _ ψ k
theorem A18 {f:α->AV} (c:ys=l.map f) (d:b=l.length) {K:Prop} (k:K):Ie b ys K:=by subst c;exact .mk (by rw[d];simp) k
def E9 (l:List (ByteArray×α)) (s:ByteArray):Bool:=l.any λp=>s==p.1
def Ig (l:List (ByteArray×α)) (s:ByteArray) (z:α):α:=((l.find? λp=>s==p.1).map (·.2)).getD z
def Gn {α:Type}:List (ByteArray×α)->ByteArray->α->List (ByteArray×α)
 | [],s,v=>[(s,v)]
 | p::l,s,v=>bif s==p.1 then (s,v)::l else p::Gn l s v
def Bs (f:α->AV) (l:List (ByteArray×α)):List (AV×AV):=l.map λp=>(.val (.string p.1),f p.2)
theorem Aju {α:Type} (f:α->AV) (s:ByteArray) (z:α):∀(l:List (ByteArray×α)) (i:Nat), (E9 l s=false/\Kk s (Bs f l) i=some none)\/(E9 l s=true/\∃j,Kk s (Bs f l) i=some (some (i+j,f (Ig l s z)))/\∀v,Bs f (Gn l s v)=(Bs f l).set j (.val (.string s),f v))
 | [],i=>.inl ⟨rfl,rfl⟩
 | p::l,i=>by
  cases hp:s==p.1 with
  | true=>
   refine .inr ⟨by simp[E9,hp],0,?_,λv=>?_⟩
   .simp[Bs,Kk,Ig,hp]
   .simp[Bs,Gn,hp]
  | false=>
   rcases Aju f s z l (i+1) with⟨d,u⟩|⟨d,j,u,B⟩
   .refine .inl ⟨by simp only[E9,any_cons,hp,Bool.false_or];exact d,?_⟩;have:Kk s (Bs f (p::l)) i=Kk s (Bs f l) (i+1):=(by simp[Bs,Kk,hp]);rw[this,u]
   .refine .inr ⟨by simp only[E9,any_cons,hp,Bool.false_or];exact d,j+1,?_,λv=>?_⟩
    .have:Kk s (Bs f (p::l)) i=Kk s (Bs f l) (i+1):=(by simp[Bs,Kk,hp]);have b:Ig (p::l) s z=Ig l s z:=(by simp[Ig,hp]);rw[this,u,b];congr 3;omega
    .have c:Bs f (Gn (p::l) s v)=(.val (.string p.1),f p.2)::Bs f (Gn l s v):=(by simp[Bs,Gn,hp]);rw[c,B v];rfl
variable {s:ByteArray} {a b:Int} {m:Int->Option β} {K:Int->Prop} {k:IntKind} {es:List (AV×AV)} {α:Type} {l:List (ByteArray×α)}
theorem Apx {α:Type} (f:α->AV) {s:ByteArray} {v:α}:∀{l:List (ByteArray×α)},E9 l s=false->Bs f (Gn l s v)=Bs f l++[(.val (.string s),f v)]
 | [],_=>rfl
 | p::l,h=>by simp only[E9,any_cons,Bool.or_eq_false_iff]at h;have:=Apx f (v:=v) (l:=l) h.2;simp only[Gn,h.1,cond_false];simp only[Bs,map_cons,cons_append]at this ⊢;rw[this]
theorem Tj {f:α->AV} (i:es=Bs f l) (z:α) {m b:Option β} {K:Option (Nat×AV)->Prop} (h:(bif E9 l s then m else b)=some r) (g:∀j,E9 l s=true->m=some r->K (some (j,f (Ig l s z)))) (c:E9 l s=false->b=some r->K none):Aoq s es K:=by
 subst i;rcases Aju f s z l 0 with⟨d,u⟩|⟨d,j,u,_⟩
 .rw[d]at h;exact .mk _ u (c d h)
 .rw[d]at h;exact .mk _ u (g _ d h)
theorem Rg {f:α->AV} (b:es=Bs f l) {x:α} {v:AV} (B:v=f x) {K:List (AV×AV)->Prop} (k:K (Bs f (Gn l s x))):Aor s v es K:=by
 subst b;subst B;refine .mk _ ?_ k;unfold Adf;rcases Aju f s x l 0 with⟨u,d⟩|⟨u,j,d,D⟩
 .rw[d,Apx f u]
 .rw[d,D x];simp
theorem Y0 (h:(Hz k a b).bind m=some r) (f:∀c:Int,m c=some r->K c):Adh k a b K:=by
 refine Db h λx d h=>?_;unfold Hz at d;split at d
 .cases d
 .rename_i u;cases d;exact .mk _ u rfl (f _ h)
theorem Ad7 (h:(Iy a b).bind m=some r) (f:∀c:Int,m c=some r->K c):Adi a b K:=by
 refine Db h λx d h=>?_;unfold Iy at d;split at d
 .cases d
 .rename_i u;cases d;exact .mk _ u rfl (f _ h)
theorem Apy (h:(Yz k a b).bind m=some r) (f:∀c:Int,m c=some r->K c):Adj k a b K:=by
 refine Db h λx d h=>?_;unfold Yz at d;split at d
 .rename_i u;cases d;exact .mk _ u rfl (f _ h)
 .cases d
theorem Y1 {i:Int} {m:UInt8->Option β} {K:UInt8->Prop} (h:(Km s i).bind m=some r) (b:∀c:UInt8,m c=some r->K c):Adm s i K:=by
 refine Db h λx d h=>?_;unfold Km at d;split at d
 .exact .mk i.toNat x ω d (b _ h)
 .cases d
theorem Ir {a b:ByteArray} {m:ByteArray->Option β} {K:Prop} (h:(Gm a b).bind m=some r) (k:m (a++b)=some r->K):Adn (a.size+b.size) K:=by
 refine Db h λx d h=>?_;unfold Gm at d;split at d
 .rename_i u;cases d;exact .mk u (k h)
 .cases d
theorem Ajv {lo hi:Int} {m:ByteArray->Option β} {K:Nat->Nat->Prop} (h:(Hf s lo hi).bind m=some r) (k:∀l h',lo=((l:Nat):Int)->hi=((h':Nat):Int)->m (s.extract l h')=some r->K l h'):Adk s.size lo hi K:=by
 refine Db h λx d h=>?_;unfold Hf at d;split at d
 .rename_i u;cases d;exact .mk lo.toNat hi.toNat ω ω ω ω (k _ _ ω ω h)
 .cases d
end
def Ajw (X:Nat->B7->Hp->Prop) (U:Nat->Nat->B7->Hp->Prop) (V:Nat->B7->Hp->Prop) (x:Ex) (n:Nat) (e:B7) (H:Hp):Prop := match x with
 | .normal=>X n e H
 | .exit i=>U i n e H
 | .ret=>V n e H
def wc (P:Program) (C:Cfg) (c:Code) (X:Nat->B7->Hp->Prop) (U:Nat->Nat->B7->Hp->Prop) (V:Nat->B7->Hp->Prop) (n:Nat) (e:B7) (H:Hp):Prop := Dt P C.T->P.follows .mixedOrders=true->∀(F:A7) (W:World) (σ:A7) (ι:Cb) (a:Act) (w:World) (Q:Exit->Act->World->Prop), M1 a.tmps.size c=true->St σ ι H F W w->Fr σ ι H e a->Gy H n -> (∀x h u d f g b w',Ajw X U V x h u d->Le σ ι H f g d->St f g d F W w'->Fr f g d u b->Gy d h->n<=h->b.tmps.size=a.tmps.size->b.defers=a.defers->F9 (He c) a b->Q x.out b w')->c.wp P Q a w
section
variable {P:Program} {C:Cfg} {X:Nat->B7->Hp->Prop} {U:Nat->Nat->B7->Hp->Prop} {V:Nat->B7->Hp->Prop} {n:Nat} {e:B7} {H:Hp} {β:Type} {r:β}
variable {σ:A7} {a:Act} {t:Bool} {ι:Cb} {b c1 c2:Code} {fn:Func} {os:List Oper} {id:Nat} {x:Operand} {S:Type}
theorem Nt (k:X n e H):wc P C .skip X U V n e H:=λ_ _ _ _ σ ι a w _ _ s c b d=>wp_skip (d .normal n e H σ ι a w k (Le.refl _ _ _) s c b (Nat.le_refl _) rfl rfl (F9.refl _ _))
theorem Ajx (k:V n e H):wc P C .ret X U V n e H:=λ_ _ _ _ σ ι a w _ _ s c b d=>wp_ret (d .ret n e H σ ι a w k (Le.refl _ _ _) s c b (Nat.le_refl _) rfl rfl (F9.refl _ _))
theorem H9 (k:U id n e H):wc P C (.exit id) X U V n e H:=λ_ _ _ _ σ ι a w _ _ s c b d=>wp_exit (d (.exit id) n e H σ ι a w k (Le.refl _ _ _) s c b (Nat.le_refl _) rfl rfl (F9.refl _ _))
theorem Apz {ops:Array Oper} {b:Bool} (h:Ga (Fy P C.T C.an C.nl ops ops.toList n e H [] λn e H acc=>bif b then On ops.toList acc (X n e H) else X n e H)):wc P C (.region id ops b) X U V n e H:=by
 intro a0 N F W σ ι a w Q D s S L hk;have q:=Le.refl σ ι H;have s0:=s;have y:=S;have M:=L;obtain⟨J,e',H',accs,l,_,d,x,hf,c⟩:=Ajq a0 ops.toList 0 n e H [] _ ψ rfl L h.1;have u:=Ao8 D;cases b with
 | false=>simp only[cond_false]at l;refine wp_region ?_;have:range ops.size=range' 0 ops.toList.length:=(by rw[range_eq_range'];simp);rw[this];refine c.wpOps s0 y u ?_;intro A B I w' le s' g f j hu;exact hk .normal J e' H' A B I w' l (q.trans le) s' g hf x f j hu
 | true=>
  simp only[cond_true]at l;obtain⟨E,l⟩:=l;refine wp_region_any N ?_;have z:ops=ops.toList.toArray:=ψ;rw[z];simp only[size_toArray];refine Aoo (accs:=accs) (e':=e') (H':=H') E ops.toList.length _ (range' 0 ops.toList.length) e H σ ι a _ (by rw[<-z];exact c) (pairwise_lt_range' ..) ?_ ψ ?_ ψ (s0.drew _) y (by rw[<-z];exact u) ?_
  .intro i;simp only[mem_range'_1,Array.getD_eq_getD_getElem?];constructor
   .rintro⟨_,h2⟩;refine⟨ω,?_⟩;have:i<ops.size:=(by simpa using h2);simp[this]
   .rintro⟨h1,_⟩;omega
  .intro k o R G;exfalso;simp only[Array.getD_eq_getD_getElem?]at G;by_cases a1:k<ops.size
   .simp[a1]at G
   .simp[a1]at G
  .intro A B I w' le s' g f j hu;exact hk .normal J e' H' A B I w' l (q.trans le) s' g hf x f j (by rw[<-z]at hu;exact hu)
theorem Ap0 (k:Ga (Fy P C.T C.an C.nl os.toArray os n e H [] λn e H acc=>On os acc (X n e H))):wc P C (.region id os.toArray true) X U V n e H:=Apz k
theorem Gz (k:Ga (Fy P C.T C.an C.nl os.toArray os n e H [] λn e H _=>X n e H)):wc P C (.region id os.toArray false) X U V n e H:=Apz k
theorem Em {c:Code} (z:List Gh) (k:gxs z n e H λn e H=>Ga (wc P C c X U V n e H)):wc P C c X U V n e H:=by intro S M F W σ ι a w Q h s R L hk;obtain⟨A,D,a1,d,Y,J,b,G,l,i,N⟩:=Rb z k s R L;exact J.1 S M F W A D a w Q h G l i λx I e' H' B E a0 w' hq f s' q j y g u hu=> hk x I e' H' B E a0 w' hq (b.trans f) s' q j ω g u hu
theorem A9 (k:wc P C c1 (λn e H=>wc P C c2 X U V n e H) U V n e H):wc P C (.seq c1 c2) X U V n e H:=by intro R M F W σ ι a w Q f s he hn hk;simp only[M1,Fw]at f;refine wp_seq (k R M F W σ ι a w _ f.1 s he hn ?_);intro x L S a0 y z a1 A hq c B i g q b j hu;cases x with| normal=>refine hq R M F W y z a1 A Q (by rw[b];exact f.2) B i g ?_;intro x n2 e2 H2 a3 d a2 Y G D Z J I N l u E;exact hk x n2 e2 H2 a3 d a2 Y G (c.trans D) Z J I ω (l.trans b) (u.trans j) ((hu.mono (by simp[He];exact λs h=>.inl h)).trans (E.mono (by simp[He];exact λs h=>.inr h)))| exit id=>exact hk (.exit id) L S a0 y z a1 A hq c B i g q b j (hu.mono (by simp[He];exact λs h=>.inl h))| ret=>exact hk .ret L S a0 y z a1 A hq c B i g q b j (hu.mono (by simp[He];exact λs h=>.inl h))
theorem Ajy {l:Nat} (k:X n e H):wc P C (.label l) X U V n e H:=by intro h g F W σ ι a w Q b s f c d;exact wp_label (d .normal n e H σ ι a w k (Le.refl _ _ _) s f c (Nat.le_refl _) rfl rfl (F9.refl _ _))
theorem Ajz {c:Code} (k:wc P C c X U V n e H):wc P C (.scope c) X U V n e H:=by intro G D F W σ ι a w Q g s E B d;refine wp_scope_straight (k G D F W σ ι a w _ g s E B ?_);intro x A I J q u L y M b z j h i f l N;have:=d x A I J q u L y M b z j h i f l N;cases x <;> exact this
theorem M2 {c:Code} (k:wc P C c X (λi n e H=>bif Nat.beq i id then X n e H else U i n e H) V n e H):wc P C (.block id c) X U V n e H:=by
 intro L I F W σ ι a w Q E s J G M;refine wp_block (k L I F W σ ι a w _ E s J G ?_);intro x A B D q u N y d b z j g h f l R;cases x with
 | normal=>exact M .normal A B D q u N y d b z j g h f l R
 | exit i=>
  simp only[Ex.out,Exit.inBlock];by_cases hi:i=id
  .subst hi;rw[if_pos rfl];have:Nat.beq i i=true:=Nat.beq_refl i;simp only[Ajw,this,cond_true]at d;exact M .normal A B D q u N y d b z j g h f l R
  .rw[if_neg hi];have:Nat.beq i id=false:=by
    cases hb:Nat.beq i id
    .rfl
    .exact (hi (Ha hb)).elim
   simp only[Ajw,this,cond_false]at d;exact M (.exit i) A B D q u N y d b z j g h f l R
 | ret=>exact M .ret A B D q u N y d b z j g h f l R
theorem Ap1 (b:Ao5 a.tmps.size x=true) (c:Fr σ ι H e a) (B:ev e x = .val (.bool t)):a.eval x = .bool t:=by
 have d:=c.eval (x:=x) (λt u=>by cases x with| tmp q=>cases u;exact Hx b| _=>cases u)
 rw[B]at d;exact d.val_inv
theorem Ad8 (k:wc P C c1 X U V n e H) (d:ev e x = .val (.bool true):=by exact rfl):wc P C (.cond x c1 c2) X U V n e H:=by intro G E F W σ ι a w Q b s q D L;simp only[M1,Fw]at b;refine wp_cond_true (Ap1 b.1.1 q d) (k G E F W σ ι a w Q b.1.2 s q D ?_);intro x B I J u y M z N c A j g i f l R;exact L x B I J u y M z N c A j g i f l (R.mono (by simp[He];exact λs h=>.inl h))
theorem Ad9 (k:wc P C c2 X U V n e H) (d:ev e x = .val (.bool false):=by exact rfl):wc P C (.cond x c1 c2) X U V n e H:=by intro G E F W σ ι a w Q b s q D L;simp only[M1,Fw]at b;refine wp_cond_false (Ap1 b.1.1 q d) (k G E F W σ ι a w Q b.2 s q D ?_);intro x B I J u y M z N c A j g i f l R;exact L x B I J u y M z N c A j g i f l (R.mono (by simp[He];exact λs h=>.inr h))
theorem E3 {c:Operand} {a:Code} {m f:Option β} (h:(bif t then m else f)=some r) (u:t=true->m=some r->wc P C a X U V n e H) (B:t=false->f=some r->wc P C b X U V n e H) (d:ev e c = .val (.bool t):=by exact rfl):wc P C (.cond c a b) X U V n e H:=by cases t with| true=>exact Ad8 (u rfl h) d| false=>exact Ad9 (B rfl h) d
theorem Ap2 {X:List Nat} {l:List (Nat×AV)} {h:List (Nat×Bm)} {F z:A7} {W w Y:World} {I:Cb} {a1:Act} {G:Hp} {e1:B7} (hb:K5 n l h=true) (hn:Gy H n) (s:St σ ι H F W w) (he:Fr σ ι H e a) (M:Hc e1 l) (R:Hi G (Cp H h) n n) (L:Le σ ι H z I G) (i:St z I G F W Y) (a8:Fr z I G e1 a1) (aa:a1.tmps.size=a.tmps.size) (a7:F9 X a a1) : ∃A,Le σ ι H z A (Cp H h)/\St z A (Cp H h) F W Y/\Fr z A (Cp H h) (Kl X e (λs=>a1.tmps.getD s undef) l) a1/\Gy (Cp H h) n:=by
 have Z:∀x,n<=x->ι x = .none:=by intro x d;have:=s.obj x;unfold C4 at this;rw[hn x d]at this;exact this
 have D:∀p∈h,p.1<n:=by intro p hp;unfold K5 at hb;rw[Fw,En,En]at hb;exact Hx (hb.2 p hp)
 have N:∀p∈l,p.2.under n=true:=by intro p hp;unfold K5 at hb;rw[Fw,En,En]at hb;exact hb.1 p hp
 have u:Gy (Cp H h) n:=by intro x d;rw[Vu (λp hp e=>by have:=D p hp;omega)];exact hn x d
 let A:Cb:=λx=>if x<n then I x else .none
 have c:∀x,x<n->A x=I x:=λx d=>if_pos d;have f:∀x,x<n->Cp H h x=G x:=λx d=>((R.spec) x d).1.symm;have J:Le σ ι H z A (Cp H h):=by
  refine⟨L.sto,λx=>?_⟩;by_cases d:x<n
  .rw[c x d,f x d];exact L.obj x
  .rw[Z x ω,hn x ω];exact HLe.of_none
 have s2:St z A (Cp H h) F W Y:=by
  refine⟨i.sto,i.fra,λx=>?_,?_,i.os,i.tape,i.output,i.glo,i.drw⟩
  .by_cases d:x<n
   .have k:=i.obj x;have B:=((R.spec) x d).2;unfold C4 at k ⊢;rw[f x d]at B ⊢;rw[c x d];cases j:G x with
    | none=>rw[j]at k;exact k
    | dead=>trivial
    | cells E cs=>rw[j]at k B;obtain⟨b,Cc,g1,g2,g3,g4,g5,g6⟩:=k;refine⟨b,Cc,g1,g2,g3,g4,g5,λq cq v hq a6=>(g6 q cq v hq a6).restrict c f ?_⟩;have:=En.1 B cq (Fq hq);exact Aje this
    | rows E sz xs=>rw[j]at k;exact k
    | map es=>rw[j]at k;exact k
   .unfold C4;rw[u x ω];exact if_neg d
  .intro x y b V U bx S;have d:x<n:=by
    rcases Nat.lt_or_ge x n with d|d
    .exact d
    .rw[u x d]at V;cases V
   have hy:y<n:=by
    rcases Nat.lt_or_ge y n with hy|hy
    .exact hy
    .rw[u y hy]at U;cases U
   rw[f x d]at V;rw[f y hy]at U;rw[c x d]at bx;rw[c y hy]at S;exact i.inj x y b V U bx S
 refine⟨A,J,s2,?_,u⟩;intro q hq;rcases Ajn X e (λs=>a1.tmps.getD s undef) l q with⟨p,hp,rfl,g⟩|⟨hw,g⟩|⟨hw,g⟩
 .rw[g,<-M.spec p hp];refine (a8 p.1 hq).restrict c f ?_;rw[M.spec p hp];exact N p hp
 .rw[g];exact .of_val _
 .rw[g,a7 q hw];exact (he q ω).mono J
theorem Ap3 {E:Type} {step:S->Option (S⊕E)} {s0:S} {J:E->Option β} (h:(Ak step s0).bind J=some r) (I:S->List (Nat×AV)) (hv:S->List (Nat×Bm)) (j:S->Prop) (hb:∀s,K5 n (I s) (hv s)=true) (hs:Hc e (I s0)) (hh:Hi H (Cp H (hv s0)) n n) (h0:j s0) (a8:∀(s:S) (u:Nat->Value) (K:Nat->B7->Hp->Prop) (o:S⊕E),step s=some o->(∀x,.inr x=o->J x=some r)->(∀s' n' e' H',.inl s'=o->Hc e' (I s')->Hi H' (Cp H (hv s')) n n->j s'->K n' e' H')->j s -> wc P C b K U V n (Kl (He b) e u (I s)) (Cp H (hv s))):wc P C (.loop b) X U V n e H:=by
 intro hT hm F W σ ι a w Q aa s he hn hk;refine Db h λx hx h=>?_;obtain⟨N,hN⟩:=Ad4 hx;let J':Nat->Act->World->Prop:=λk a' w'=>∃i σ' ι',(Ix step k i=some x/\j i)/\Le σ ι H σ' ι' (Cp H (hv i))/\St σ' ι' (Cp H (hv i)) F W w' /\
   Fr σ' ι' (Cp H (hv i)) (Kl (He b) e (λs=>a'.tmps.getD s undef) (I i)) a'/\a'.tmps.size=a.tmps.size/\a'.defers=a.defers/\F9 (He b) a a'
 have g:∀(k:Nat) (i:S) (D:A7) (d:Cb) (H1:Hp) (e1:B7) (a1:Act) (Z:World),(Ix step k i=some x/\j i)->Hc e1 (I i)->Hi H1 (Cp H (hv i)) n n->Le σ ι H D d H1->St D d H1 F W Z->Fr D d H1 e1 a1->a1.tmps.size=a.tmps.size ->
    a1.defers=a.defers->F9 (He b) a a1->J' k a1 Z:=by intro k i D d H1 e1 a1 Z hi ab ad q s1 a0 c f l;obtain⟨Y,g1,g2,g3,_⟩:=Ap2 (hb i) hn s he ab ad q s1 a0 c l;exact⟨i,D,Y,hi,g1,g2,g3,c,f,l⟩
 refine Ao7 J' N (g N s0 σ ι H e a w ⟨hN,h0⟩ hs hh (Le.refl _ _ _) s he rfl rfl (F9.refl _ _)) ?_;rintro k a1 Z ⟨i,D,d,⟨hi,a7⟩,q,s1,a0,c,f,l⟩;have af:Gy (Cp H (hv i)) n:=by intro y hy;have a3:=hb i;unfold K5 at a3;rw[Fw,En,En]at a3;rw[Vu (λp hp e=>by have:=Hx (a3.2 p hp);omega)];exact hn y hy
 cases k with
 | zero=>cases hi
 | succ k=>
  simp only[Ix]at hi;cases ho:step i with
  | none=>rw[ho]at hi;cases hi
  | some o=>
   rw[ho]at hi;refine a8 i (λs=>a1.tmps.getD s undef) (λ_ e' H'=>∃s',(Ix step k s'=some x/\j s')/\Hc e' (I s')/\Hi H' (Cp H (hv s')) n n) o ho ?_ ?_ a7 hT hm F W D d a1 Z _ (by rw[c];exact aa) s1 a0 af ?_
   .intro y hy;subst hy;simp only[Option.some.injEq]at hi;rw[hi];exact h
   .intro s' n' e' H' M h1 h2 h3;subst M;exact⟨s',⟨hi,h3⟩,h1,h2⟩
   .intro x n2 e2 H2 σ2 Y a2 w2 hq G s2 R a6 B z A L;cases x with| normal=>obtain⟨i',ac,M,ae⟩:=hq;exact⟨k,ω,g k i' σ2 Y H2 e2 a2 w2 ac M ae (q.trans G) s2 R (z.trans c) (A.trans f) (l.trans L)⟩| exit id=>exact hk (.exit id) n2 e2 H2 σ2 Y a2 w2 hq (q.trans G) s2 R a6 B (z.trans c) (A.trans f) (l.trans L)| ret=>exact hk .ret n2 e2 H2 σ2 Y a2 w2 hq (q.trans G) s2 R a6 B (z.trans c) (A.trans f) (l.trans L)
theorem Rh {c:Code} (J:S->Prop) (l:S->List (Nat×AV)) (hv:S->List (Nat×Bm)) (hb:∀s,K5 n (l s) (hv s)=true) (d:∀(K:Nat->B7->Hp->Prop),(∀s a0 e' H',J s->Hc e' (l s)->Hi H' (Cp H (hv s)) n n->K a0 e' H')->wc P C c K U V n e H) (a2:∀(s:S) (u:Nat->Value),J s->X n (Kl (He c) e u (l s)) (Cp H (hv s))):wc P C c X U V n e H:=by intro Z Y F W σ ι a w Q A s L I hk;refine d (λ_ e' H'=>∃s,J s/\Hc e' (l s)/\Hi H' (Cp H (hv s)) n n) (λs _ _ _ h1 h2 h3=>⟨s,h1,h2,h3⟩) Z Y F W σ ι a w _ A s L I ?_;intro x G M N q E a1 y hq f z g j k b h hu;cases x with| normal=>obtain⟨i,hi,B,D⟩:=hq;obtain⟨R,g1,g2,g3,g4⟩:=Ap2 (hb i) I s L B D f z g b hu;exact hk .normal n _ _ q R a1 y (a2 i (λs=>a1.tmps.getD s undef) hi) g1 g2 g3 g4 (Nat.le_refl _) b h hu| exit id=>exact hk (.exit id) G M N q E a1 y hq f z g j k b h hu| ret=>exact hk .ret G M N q E a1 y hq f z g j k b h hu
theorem A19 (D:Dt P C.T) (I:P.follows .mixedOrders=true) {f:FuncId} {c:Code} {args:List AV} {r:AV} (X:P.funcs[f]? = some fn) (hb:fn.body=some c) (g:(fn.name == "runtime.NumGoroutine")=false) (b:V7 fn c args.length=true) (h:r.free=true) (hv:wc P C c (λ_ e H=>Tc C.T fn.results.toList (· = r) e H) (λ_ _ _ _=>False) (λ_ e H=>Tc C.T fn.results.toList (· = r) e H) 0 (V6 args) H0):A8 P f args r:=by
 unfold V7 at b;simp only[Fw]at b;obtain⟨⟨u,y⟩,E⟩:=b;have E:=G2 E;refine⟨⟨fn,X,g,by rw[hb];rfl⟩,λσ F W w vs s hc=>?_⟩;have j:(vs++Array.replicate (fn.ntmps-vs.size) undef).size=fn.ntmps:=by have:=hc.1;simp;omega
 refine calls_of_wp X hb (hv D I F W σ ι0 _ w _ (by rw[j];exact u) s (Ape hc) (λ_ _=>rfl) ?_);intro x S e' H' M N B w' d le s' z _ _ i A _;have k:∀q∈fn.results.toList,Td q<B.tmps.size:=by intro q V;rw[i];have:=Hx (En.1 y q V);rw[j];exact this
 have fin:Tc C.T fn.results.toList (· = r) e' H'->B.defers = []/\∃v,(results fn B.tmps).run P w' = .ok v w'/\∃v0 l,Ending.returned v = .returned v0/\σ.le l/\St l ι0 H0 F W w'/\Conc l ι0 H0 r v0:=by intro d;obtain⟨v,G,U,R,h1,h2,h3,L,J⟩:=A1q D s' z k d;subst h2;exact⟨A,v,h1,v,G,rfl,A7.le_trans le.sto h3.sto,L.forget,J.to0 h⟩
 cases x with| normal=>exact fin d| ret=>exact fin d| exit id=>exact d.elim
theorem A2a (fz:Bool) (V:Dt P C.T) (hm:P.follows .mixedOrders=true) {f:FuncId} {c:Code} {args:List AV} {r:AV} {B b:List Bm} (hf:P.funcs[f]? = some fn) (hb:fn.body=some c) (l:(fn.name == "runtime.NumGoroutine")=false) (j:V7 fn c args.length=true) (g:Ajp B r b=true) (hv:wc P C c (λ_ e H=>Tf C.T fz fn.results.toList r b e H) (λ_ _ _ _=>False) (λ_ e H=>Tf C.T fz fn.results.toList r b e H) B.length (V6 args) (hp B)):Bk P f args B r b:=by
 unfold V7 at j;unfold Ajp at g;simp only[Fw]at j g;obtain⟨⟨I,L⟩,X⟩:=j;obtain⟨⟨E,J⟩,N⟩:=g;have E:=G2 E;have X:=G2 X;refine⟨⟨fn,hf,l,by rw[hb];rfl⟩,λσ F W w ι vs s hc=>?_⟩;have A:(vs++Array.replicate (fn.ntmps-vs.size) undef).size=fn.ntmps:=by have:=hc.1;simp;omega
 refine calls_of_wp hf hb (hv V hm F W σ ι _ w _ (by rw[A];exact I) s (Ape hc) (λ_ h=>Q6 h) ?_);intro x n' e' H' σ' Z U w' d le s' R _ _ z S _;have D:∀q∈fn.results.toList,Td q<U.tmps.size:=by intro q a0;rw[z];have:=Hx (En.1 L q a0);rw[A];exact this
 have fin:Tf C.T fz fn.results.toList r b e' H'->U.defers = []/\∃v,(results fn U.tmps).run P w' = .ok v w'/\∃v0 G ι0,Ending.returned v = .returned v0/\Le σ ι (hp B) G ι0 (hp b)/\St G ι0 (hp b) F W w'/\Conc G ι0 (hp b) r v0:=by
  intro d;obtain⟨v,Y,H2,h1,h2,h3,h4,h5⟩:=A1r V s' R D d;have u:∀i,i<b.length->H2 i=hp b i:=λi hi=>by simpa using h2.spec i hi
  refine⟨S,v,h1,v,Y,λk=>if k<b.length then Z k else .none,rfl,?_,h4.first b u N,?_⟩
  .have y:=le.trans h3;refine⟨y.sto,λk=>?_⟩;by_cases hk:k<b.length
   .rw[if_pos hk,<-u k hk];exact y.obj k
   .rw[if_neg hk,Q6 ω,Q6 ω];have:ι k = .none:=(by have:=s.obj k;unfold C4 at this;rw[Q6 ω]at this;exact this);rw[this];exact HLe.refl _ _
  .exact h5.restrict (n:=b.length) (λh M=>if_pos M) (λh M=>(u h M).symm) J
 cases x with| normal=>exact fin d| ret=>exact fin d| exit id=>exact d.elim
end
inductive I7 where
 | c0|c1|c2|c3|c4|c5|c6
def Y2 (i:Int):Option I7 := if i=0 then some .c0 else if i=1 then some .c1 else if i=2 then some .c2 else if i=3 then some .c3 else if i=4 then some .c4 else if i=5 then some .c5 else if i=6 then some .c6 else none
theorem Ap4 {β:Type} {r:β} {i:Int} {m:I7->Option β} {K:Nat->Prop} (h:(Y2 i).bind m=some r) (k0:i=((0:Nat):Int)->m .c0=some r->K 0) (k:i=((1:Nat):Int)->m .c1=some r->K 1) (j:i=((2:Nat):Int)->m .c2=some r->K 2) (g:i=((3:Nat):Int)->m .c3=some r->K 3) (f:i=((4:Nat):Int)->m .c4=some r->K 4) (c:i=((5:Nat):Int)->m .c5=some r->K 5) (b:i=((6:Nat):Int)->m .c6=some r->K 6):Pq 7 i K:=by
 unfold Y2 at h;split at h
 .rename_i e;exact .mk 0 e δ (k0 e h)
 split at h
 .rename_i e;exact .mk 1 e δ (k e h)
 split at h
 .rename_i e;exact .mk 2 e δ (j e h)
 split at h
 .rename_i e;exact .mk 3 e δ (g e h)
 split at h
 .rename_i e;exact .mk 4 e δ (f e h)
 split at h
 .rename_i e;exact .mk 5 e δ (c e h)
 split at h
 .rename_i e;exact .mk 6 e δ (b e h)
 cases h
variable {a:Act} {P:Program} {w:World}
theorem Ap5 {id:Nat}:∀{k b:List Item},exitTo id k=some b->b.length<k.length
 | [],b,h=>by cases h
 | x::k,b,h=>by
  have ih:exitTo id k=some b->b.length<(x::k).length:=λh=>Nat.lt_succ_of_lt (Ap5 h);unfold exitTo at h;split at h
  .rename_i c u d;cases d;split at h
   .cases h;simp
   .exact ih h
  .rename_i f u _ d;cases d;exact ih h
  .rename_i d;cases d
theorem Aj0 {m f c:Machine} (h:step P m = .next f) (h':Steps P m c):c=m\/Steps P f c:=by obtain⟨n,b⟩:=h';cases n with| zero=>left;simp only[runN,Stepped.next.injEq]at b;exact b.symm| succ n=>right;simp only[runN,h]at b;exact⟨n,b⟩
theorem Ap6 {b:Frame} {f:Act} {k c:List Item} {cs:List Frame} {w':World} (h:lone (b.at a k) cs w=lone (b.at f c) cs w'):k=c:=by simp only[lone,Machine.mk.injEq,Array.mk.injEq,List.cons.injEq,Goroutine.mk.injEq,Frame.at,Frame.mk.injEq]at h;exact h.2.1.1.1.2.2.1
def A2b:Exit->Bool
 | .normal | .exit _ | .ret=>true
 | _=>false
theorem A2c {Q:Exit->Act->World->Prop} {c:Code} (h:c.wp P (Exit.then (λD w'=>(Code.loop c).wp P (λe a w=>A2b e=true/\Q e a w) D w') Q) a w):(Code.loop c).wp P Q a w:=by
 intro b k cs;obtain⟨e,d,i,I,f⟩:=h b (.inLoop c::k) cs;have first:Steps P (lone (b.at a (.code (.loop c)::k)) cs w) (lone (b.at a (.code c :: .inLoop c::k)) cs w):=.one step_loop
 cases e with
 | normal=>
  obtain⟨u,M,y,⟨s,q⟩,g⟩:=I b k cs;have j:Steps P (lone (b.at a (.code (.loop c)::k)) cs w) (lone (b.at d (.code c :: .inLoop c::k)) cs i):=first.trans (Steps.trans f (.one step_inLoop));refine⟨u,M,y,q,.of_steps j ?_⟩;cases u with
  | normal=>
   rcases Aj0 step_loop g with e|e
   .have:=congrArg length (Ap6 e);simp at this
   .exact e
  | exit id=>
   intro z L;rcases Aj0 step_loop (g z L) with e|e
   .have R:=Ap5 L;have N:=congrArg length (Ap6 e);simp at N;omega
   .exact e
  | ret=>
   obtain⟨J,A⟩:=g;rcases Aj0 step_loop A with e|e
   .simp only[lone,Machine.mk.injEq,Array.mk.injEq,List.cons.injEq,Goroutine.mk.injEq,Frame.at,Frame.mk.injEq]at e;simp at e
   .exact⟨J,e⟩
  | goto l=>cases s
  | panic B=>cases s
  | outgrown=>cases s
 | exit id=>exact⟨_,d,i,I,.of_steps first (.pass (x:=.inLoop c) rfl (λ_ _=>.inl ψ) f)⟩
 | goto l=>exact⟨_,d,i,I,.of_steps first (.pass (x:=.inLoop c) rfl (λ_ _=>.inl ψ) f)⟩
 | ret=>exact⟨_,d,i,I,.of_steps first (.pass (x:=.inLoop c) rfl (λ_ _=>.inl ψ) f)⟩
 | panic B=>exact⟨_,d,i,I,.of_steps first (.pass (x:=.inLoop c) rfl (λ_ _=>.inl ψ) f)⟩
 | outgrown=>exact⟨_,d,i,I,.of_steps (b:=b) (k:=k) (cs:=cs) (e:=.outgrown) first (.pass (x:=.inLoop c) rfl (λ_ _=>.inl ψ) f)⟩
section
variable {P:Program} {C:Cfg} {X:Nat->B7->Hp->Prop} {U:Nat->Nat->B7->Hp->Prop} {V:Nat->B7->Hp->Prop} {n:Nat} {e:B7} {H:Hp}
theorem Y3 {c:Code} (k:wc P C c (λn e H=>wc P C (.loop c) X U V n e H) U V n e H):wc P C (.loop c) X U V n e H:=by intro R M F W σ ι a w Q l s he hn hk;refine A2c (k R M F W σ ι a w _ l s he hn ?_);intro x L S a0 y z a1 A hq f B h g q b i hu;cases x with| normal=>refine hq R M F W y z a1 A _ (by rw[b];exact l) B h g ?_;intro x n2 e2 H2 a3 d a2 Y G D Z J I N j u E;exact⟨by cases x <;> rfl,hk x n2 e2 H2 a3 d a2 Y G (f.trans D) Z J I ω (j.trans b) (u.trans i) (hu.trans E)⟩| exit id=>exact hk (.exit id) L S a0 y z a1 A hq f B h g q b i hu| ret=>exact hk .ret L S a0 y z a1 A hq f B h g q b i hu
def Vw (x:AV) (v:Value):Prop:=∀sz xs,x = .sl sz xs->∃p c,v = .slice p xs.length c/\(p=none->xs = [])
theorem V9 {c:Code} (s:Nat) (k:∀v,Vw (e s) v->wc P C c X U V n (Az e s (.val v)) H):wc P C c X U V n e H:=by
 intro z y F W σ ι a w Q f u l x I;by_cases A:s<a.tmps.size
 .have J:=l s A;refine k (a.tmps.getD s undef) ?_ z y F W σ ι a w Q f u ?_ x I
  .intro sz xs L;rw[L]at J;rcases J.sl_inv.sl_inv with⟨rfl,p,d,e⟩|⟨b,off,d,C,E,M,g,e,_⟩
   .exact⟨p,d,e,λ_=>rfl⟩
   .exact⟨_,d,e,λh=>by cases h⟩
  .intro q B;by_cases h:q=s
   .subst h;rw[Ch];exact .of_val _
   .rw[Cu _ _ h];exact l q B
 .have D:∃v,Vw (e s) v:=(by cases L:e s with| sl sz xs=>exact⟨.slice (some ⟨0,0,none⟩) xs.length 0,λj i h=>by cases h;exact⟨_,_,rfl,λh=>by cases h⟩⟩| _=>exact⟨undef,λj i h=>by cases h⟩);obtain⟨v,D⟩:=D;refine k v D z y F W σ ι a w Q f u ?_ x I;intro q B;rw[Cu _ _ ω];exact l q B
end
variable {F σ:A7} {ι:Cb} {H:Hp} {xs:List AV} {h h' k n sz:Nat} {W:World}
theorem St.move {w:World} (s:St σ ι H F W w) {E:TypeId} (A:Gy H n) (hh:H h = .rows E sz xs) : St σ (Az ι n (ι h)) (Az (Az H h .dead) n (.rows E sz xs)) F W w/\Le σ ι H σ (Az ι n (ι h)) (Az (Az H h .dead) n (.rows E sz xs)):=by
 have L:h≠n:=λe=>by rw[e,A n (Nat.le_refl _)]at hh;cases hh
 have u:ι n = .none:=by have:=s.obj n;unfold C4 at this;rw[A n (Nat.le_refl _)]at this;exact this
 have le:Le σ ι H σ (Az ι n (ι h)) (Az (Az H h .dead) n (.rows E sz xs)):=by
  refine⟨A7.le_refl σ,λx=>?_⟩;by_cases e:x=n
  .subst e;rw[u,A x (Nat.le_refl _)];exact HLe.of_none
  .rw[Cu _ _ e,Cu _ _ e];by_cases g:x=h
   .subst g;rw[Ch,hh];exact⟨λ_ q=>q,λ_ q=>(by cases q),λ_ _ _ _ q=>(by cases q)⟩
   .rw[Cu _ _ g];exact HLe.refl _ _
 refine⟨⟨s.sto,s.fra,λx=>?_,λx y b k J l B=>?_,s.os,s.tape,s.output,s.glo,s.drw⟩,le⟩
 .by_cases e:x=n
  .subst e;have f:=s.obj h;unfold C4 at f ⊢;rw[hh]at f;rw[Ch,Ch];exact f
  .by_cases g:x=h
   .subst g;unfold C4;rw[Cu _ _ e,Ch];trivial
   .have f:=s.obj x;unfold C4 at f ⊢;rw[Cu _ _ e,Cu _ _ g,Cu _ _ e];cases hx:H x with| cells T cs=>rw[hx]at f;obtain⟨b,C,d,N,R,U,V,X⟩:=f;exact⟨b,C,d,N,R,U,V,λi c v q I=>(X i c v q I).mono le⟩| none=>rw[hx]at f;exact f| dead=>trivial| rows T z ys=>rw[hx]at f;exact f| map es=>rw[hx]at f;exact f
 .have j:∀x b,((Az (Az H h .dead) n (.rows E sz xs)) x).live=true->((Az ι n (ι h)) x).block? = some b->∃y,(H y).live=true/\(ι y).block? = some b/\((x=n/\y=h)\/(x≠n/\x≠h/\y=x)):=by
   intro x b k l;by_cases e:x=n
   .subst e;rw[Ch]at l;exact⟨h,by rw[hh];rfl,l,.inl ⟨rfl,rfl⟩⟩
   .rw[Cu _ _ e]at k l;by_cases g:x=h
    .subst g;rw[Ch]at k;cases k
    .rw[Cu _ _ g]at k;exact⟨x,k,l,.inr ⟨e,g,rfl⟩⟩
  obtain⟨G,a1,a2,a3⟩:=j x b k l;obtain⟨D,b1,b2,M⟩:=j y b J B;have:=s.inj G D b a1 b1 a2 b2;rcases a3 with⟨rfl,rfl⟩|⟨c1,c2,rfl⟩ <;> rcases M with⟨d0,d1⟩|⟨d1,d2,d3⟩ <;> omega
theorem Conc.arr_mv {c:Cb} {H':Hp} {off len:Nat} {v:Value} (g:c h'=ι h) (f:H' h'=H h) (hc:Conc σ ι H (.arr h k off len) v):Conc σ c H' (.arr h' k off len) v:=by cases hc with| cc h=>cases h| arr _ _ _ _ _ i hv b=>exact .arr h' k off len v (by rw[f];exact i) (λE sz xs e=>by rw[g];exact hv E sz xs (by rw[<-f];exact e)) b
theorem A2d {ws:List Nat} {l:List (Nat×AV)} {g:List (Nat×Bm)} {J:A7} {w1:World} {L:Cb} {a a1:Act} {G I:Hp} {e e1:B7} {sl:Nat} {T:TypeId} (hb:K5 n l g=true) (ad:Gy G n) (a7:∀x,n<=x->ι x = .none) (ac:Gy H n) (he:Fr σ ι H e a) (ag:n<=h') (Y:Hc e1 l) (ab:e1 sl = .arr h' k 0 k) (hr:I h' = .rows T sz xs) (S:Hi I G n n) (X:Le σ ι H J L I) (B:St J L I F W w1) (a6:Fr J L I e1 a1) (af:a1.tmps.size=a.tmps.size) (aa:F9 ws a a1) : ∃A,Le σ ι H J A (Az G n (.rows T sz xs))/\St J A (Az G n (.rows T sz xs)) F W w1/\Fr J A (Az G n (.rows T sz xs)) (Az (Kl ws e (λs=>a1.tmps.getD s undef) l) sl (.arr n k 0 k)) a1/\Gy (Az G n (.rows T sz xs)) (n+1):=by
 have Z:∀p∈l,p.2.under n=true:=by intro p hp;unfold K5 at hb;rw[Fw,En,En]at hb;exact hb.1 p hp
 let A:Cb:=λx=>if x<n then L x else if x=n then L h' else .none
 have i:∀x,x<n->A x=L x:=λx d=>if_pos d;have h:A n=L h':=by show (if n<n then _ else if n=n then _ else _)=_;rw[if_neg ω,if_pos rfl]
 have z:∀x,x<n->(Az G n (.rows T sz xs)) x=I x:=λx d=>by rw[Cu _ _ ω];exact ((S.spec) x d).1.symm
 have u:(Az G n (.rows T sz xs)) n=I h':=by rw[Ch,hr]
 have c:∀x,n<x->(Az G n (.rows T sz xs)) x = .none:=λx d=>by rw[Cu _ _ ω];exact ad x ω
 have V:Le σ ι H J A (Az G n (.rows T sz xs)):=by
  refine⟨X.sto,λx=>?_⟩;by_cases d:x<n
  .rw[i x d,z x d];exact X.obj x
  .rw[a7 x ω,ac x ω];exact HLe.of_none
 have s2:St J A (Az G n (.rows T sz xs)) F W w1:=by
  refine⟨B.sto,B.fra,λx=>?_,?_,B.os,B.tape,B.output,B.glo,B.drw⟩
  .rcases Nat.lt_trichotomy x n with d|d|d
   .have f:=B.obj x;have R:=((S.spec) x d).2;unfold C4 at f ⊢;rw[z x d,i x d];rw[<-((S.spec) x d).1]at R;cases D:I x with
    | none=>rw[D]at f;exact f
    | dead=>trivial
    | cells E cs=>rw[D]at f R;obtain⟨b,Cc,g1,g2,g3,g4,g5,g6⟩:=f;refine⟨b,Cc,g1,g2,g3,g4,g5,λq cq v hq a8=>(g6 q cq v hq a8).restrict i z ?_⟩;have:=En.1 R cq (Fq hq);exact Aje this
    | rows E sz xs=>rw[D]at f;exact f
    | map es=>rw[D]at f;exact f
   .subst d;have f:=B.obj h';unfold C4 at f ⊢;rw[u,h];rw[hr]at f ⊢;exact f
   .unfold C4;rw[c x d];show (if x<n then _ else if x=n then _ else _)=_;rw[if_neg ω,if_neg ω]
  .have N:∀x b,((Az G n (.rows T sz xs)) x).live=true->(A x).block? = some b->∃y,(I y).live=true/\(L y).block? = some b/\((x=n/\y=h')\/(x<n/\y=x)):=by
    intro x b M U;rcases Nat.lt_trichotomy x n with d|d|d
    .rw[z x d]at M;rw[i x d]at U;exact⟨x,M,U,.inr ⟨d,rfl⟩⟩
    .subst d;rw[u]at M;rw[h]at U;exact⟨h',M,U,.inl ⟨rfl,rfl⟩⟩
    .rw[c x d]at M;cases M
   intro x y b M ly U ae;obtain⟨x',a1,a2,a3⟩:=N x b M U;obtain⟨y',b1,b2,b3⟩:=N y b ly ae;have:=B.inj x' y' b a1 b1 a2 b2;rcases a3 with⟨c1,c2⟩|⟨c1,c2⟩ <;> rcases b3 with⟨d1,d2⟩|⟨d1,d2⟩ <;> omega
 refine⟨A,V,s2,?_,λx d=>c x ω⟩;intro q hq;by_cases e0:q=sl
 .subst e0;rw[Ch];have:=a6 q hq;rw[ab]at this;exact this.arr_mv h u
 .rw[Cu _ _ e0];rcases Ajn ws e (λs=>a1.tmps.getD s undef) l q with⟨p,hp,rfl,j⟩|⟨hw,j⟩|⟨hw,j⟩
  .rw[j,<-Y.spec p hp];refine (a6 p.1 hq).restrict i z ?_;rw[Y.spec p hp];exact Z p hp
  .rw[j];exact .of_val _
  .rw[j,aa q hw];exact (he q ω).mono V
section
variable {P:Program} {C:Cfg} {X:Nat->B7->Hp->Prop} {U:Nat->Nat->B7->Hp->Prop} {V:Nat->B7->Hp->Prop} {n:Nat} {e:B7} {H:Hp} {β:Type} {r:β}
theorem A2e {S E:Type} {step:S->Option (S⊕E)} {s0:S} {J:E->Option β} {b:Code} (h:(Ak step s0).bind J=some r) (sl h0:Nat) (T:TypeId) (sz:Nat) (xs:S->List AV) (len:S->Nat) (D:S->List (Nat×AV)) (hv:S->List (Nat×Bm)) (hb:∀s,K5 n (D s) (hv s)=true) (ak:e sl = .arr h0 (len s0) 0 (len s0)) (G:H h0 = .rows T sz (xs s0)) (hs:Hc e (D s0)) (hh:Hi (Az H h0 .dead) (Cp (Az H h0 .dead) (hv s0)) n n) (aa:∀(s:S) (u:Nat->Value) (K:Nat->B7->Hp->Prop) (o:S⊕E),step s=some o->(∀x,.inr x=o->J x=some r) -> (∀s' d n' e' H',.inl s'=o->Hc e' (D s')->e' sl = .arr (n+d) (len s') 0 (len s')->H' (n+d) = .rows T sz (xs s')->Hi H' (Cp (Az H h0 .dead) (hv s')) n n->K n' e' H') -> wc P C b K U V (n+1) (Az (Kl (He b) e u (D s)) sl (.arr n (len s) 0 (len s))) (Az (Cp (Az H h0 .dead) (hv s)) n (.rows T sz (xs s)))):wc P C (.loop b) X U V n e H:=by
 intro hT hm F W σ ι a w Q ac s he hn hk;refine Db h λx hx h=>?_;obtain⟨N,hN⟩:=Ad4 hx;have ab:∀x,n<=x->ι x = .none:=by intro x hx;have:=s.obj x;unfold C4 at this;rw[hn x hx]at this;exact this
 have ap:h0<n:=by
  rcases Nat.lt_or_ge h0 n with q|q
  .exact q
  .rw[hn h0 q]at G;cases G
 have Z:∀i,Gy (Cp (Az H h0 .dead) (hv i)) n:=λi y hy=>by have Y:=hb i;unfold K5 at Y;rw[Fw,En,En]at Y;rw[Vu (λp hp e=>by have:=Hx (Y.2 p hp);omega),Cu _ _ ω];exact hn y hy
 let Hd:S->Hp:=λi=>Az (Cp (Az H h0 .dead) (hv i)) n (.rows T sz (xs i))
 let J':Nat->Act->World->Prop:=λk a' w'=>∃i σ' ι',Ix step k i=some x/\Le σ ι H σ' ι' (Hd i)/\St σ' ι' (Hd i) F W w' /\
   Fr σ' ι' (Hd i) (Az (Kl (He b) e (λs=>a'.tmps.getD s undef) (D i)) sl (.arr n (len i) 0 (len i))) a'/\a'.tmps.size=a.tmps.size/\a'.defers=a.defers/\F9 (He b) a a'
 have I:∀(k d:Nat) (i:S) (L:A7) (ι1:Cb) (H1:Hp) (e1:B7) (a1:Act) (w1:World),Ix step k i=some x->Hc e1 (D i)->e1 sl = .arr (n+d) (len i) 0 (len i)->H1 (n+d) = .rows T sz (xs i)->Hi H1 (Cp (Az H h0 .dead) (hv i)) n n->Le σ ι H L ι1 H1->St L ι1 H1 F W w1->Fr L ι1 H1 e1 a1->a1.tmps.size=a.tmps.size ->
    a1.defers=a.defers->F9 (He b) a a1->J' k a1 w1:=by intro k d i L ι1 H1 e1 a1 w1 hi ae ad hr ah j s1 a0 c f g;obtain⟨ι2,g1,g2,g3,_⟩:=A2d (hb i) (Z i) ab hn he (Nat.le_add_right n d) ae ad hr ah j s1 a0 c g;exact⟨i,L,ι2,hi,g1,g2,g3,c,f,g⟩
 obtain⟨sm,lm⟩:=s.move hn G;have a8:Fr σ (Az ι n (ι h0)) (Az (Az H h0 .dead) n (.rows T sz (xs s0))) (Az e sl (.arr n (len s0) 0 (len s0))) a:=λq hq=>by
  by_cases e0:q=sl
  .subst e0;rw[Ch];have:=he q hq;rw[ak]at this;exact this.arr_mv (Ch _ _ _) (by rw[Ch,G])
  .rw[Cu _ _ e0];exact (he q hq).mono lm
 have aq:Hc (Az e sl (.arr n (len s0) 0 (len s0))) (D s0)\/True:=.inr trivial;have Aj1:J' N a w:=by
  have am:∀y,y<n->(Cp (Az H h0 .dead) (hv s0)) y=(Az H h0 .dead) y:=λy hy=>((hh.spec) y hy).1.symm;have B:∀y,Hd s0 y=(Az (Az H h0 .dead) n (.rows T sz (xs s0))) y:=λy=>by
   show (Az (Cp (Az H h0 .dead) (hv s0)) n (.rows T sz (xs s0))) y=_;by_cases ey:y=n
   .subst ey;rw[Ch,Ch]
   .rw[Cu _ _ ey,Cu _ _ ey];rcases Nat.lt_or_ge y n with hy|hy
    .exact am y hy
    .rw[Z s0 y hy,Cu _ _ ω,hn y hy]
  have B:Hd s0=Az (Az H h0 .dead) n (.rows T sz (xs s0)):=funext B;refine⟨s0,σ,Az ι n (ι h0),hN,by rw[B];exact lm,by rw[B];exact sm,?_,rfl,rfl,F9.refl _ _⟩;rw[B];intro q hq;by_cases e0:q=sl
  .have:=a8 q hq;subst e0;rw[Ch]at this ⊢;exact this
  .have h1:=a8 q hq;rw[Cu _ _ e0]at h1 ⊢;rcases Ajn (He b) e (λs=>a.tmps.getD s undef) (D s0) q with⟨p,hp,rfl,z⟩|⟨hw,z⟩|⟨hw,z⟩
   .rw[z,<-hs.spec p hp];exact h1
   .rw[z];exact .of_val _
   .rw[z];exact h1
 refine Ao7 J' N Aj1 ?_;rintro k a1 w1 ⟨i,L,ι1,hi,j,s1,a0,c,f,g⟩;have aj:Gy (Hd i) (n+1):=λy hy=>by show (Az (Cp (Az H h0 .dead) (hv i)) n (.rows T sz (xs i))) y=_;rw[Cu _ _ ω];exact Z i y ω
 cases k with
 | zero=>cases hi
 | succ k=>
  simp only[Ix]at hi;cases ho:step i with
  | none=>rw[ho]at hi;cases hi
  | some o=>
   rw[ho]at hi;refine aa i (λs=>a1.tmps.getD s undef) (λ_ e' H'=>∃s' d,Ix step k s'=some x/\Hc e' (D s')/\e' sl = .arr (n+d) (len s') 0 (len s')/\H' (n+d) = .rows T sz (xs s')/\Hi H' (Cp (Az H h0 .dead) (hv s')) n n) o ho ?_ ?_ hT hm F W L ι1 a1 w1 _ (by rw[c];exact ac) s1 a0 aj ?_
   .intro y hy;subst hy;simp only[Option.some.injEq]at hi;rw[hi];exact h
   .intro s' d n' e' H' a3 h1 h2 h3 h4;subst a3;exact⟨s',d,hi,h1,h2,h3,h4⟩
   .intro x n2 e2 H2 σ2 ι2 a2 w2 hq M s2 a4 a7 ao l A R;cases x with| normal=>obtain⟨i',d,ag,a3,a6,af,ai⟩:=hq;exact⟨k,ω,I k d i' σ2 ι2 H2 e2 a2 w2 ag a3 a6 af ai (j.trans M) s2 a4 (l.trans c) (A.trans f) (g.trans R)⟩| exit id=>exact hk (.exit id) n2 e2 H2 σ2 ι2 a2 w2 hq (j.trans M) s2 a4 a7 ω (l.trans c) (A.trans f) (g.trans R)| ret=>exact hk .ret n2 e2 H2 σ2 ι2 a2 w2 hq (j.trans M) s2 a4 a7 ω (l.trans c) (A.trans f) (g.trans R)
end
variable {α β:Type} {l r:List α} {k:List α->Option β} {cmp:α->α->Option Int}
structure Nu {α:Type} (cf:α->α->Int):Prop where
 irr:∀x,¬cf x x<0
 trs:∀x y z,cf x y<0->cf y z<0->cf x z<0
 ntr:∀x y z,¬cf x y<0->¬cf y z<0->¬cf x z<0
def Pv (cmp:α->α->Option Int) (l r:List α):Prop := ∃cf:α->α->Int,Nu cf/\(∀x∈l,∀y∈l,cmp x y=some (cf x y))/\r.Perm l/\r.Pairwise (λx y=>cf x y<0)
open Classical in
noncomputable def Oo {α:Type} (cmp:α->α->Option Int) (l:List α):Option (List α) := if h:∃r,Pv cmp l r then some (Classical.choose h) else none
theorem Wa (h:Oo cmp l=some r):Pv cmp l r:=by
 unfold Oo at h;split at h
 .rename_i k;cases h;exact Classical.choose_spec k
 .cases h
theorem Ap7 (h:Pv cmp l r):∃b,Oo cmp l=some b/\Pv cmp l b:=by unfold Oo;rw[dif_pos ⟨r,h⟩];exact⟨_,rfl,Classical.choose_spec (⟨r,h⟩:∃r,Pv cmp l r)⟩
def Kn (n:Nat) (a:List α):Option (List α×List α):=(B8 n [] a).bind λo=>some ([],o)
def Lv (n:Int):Option (List α):=bif decide (0<=n)&&decide (n<=1000000) then some [] else none
def Jn (cmp:α->α->Option Int) (l r:List α):Prop := ∃cf:α->α->Int,Nu cf/\(∀x∈l,∀y∈l,cmp x y=some (cf x y))/\r.Perm l/\r.Pairwise (λx y=>¬cf y x<0)
open Classical in
noncomputable def Y4 {α β:Type} (cmp:α->α->Option Int) (l:List α) (k:List α->Option β):Option β := if h:∃r,(∃o,Jn cmp l o)/\∀o,Jn cmp l o->k o=some r then some (Classical.choose h) else none
theorem A2f {r:β} (h:Y4 cmp l k=some r):(∃o,Jn cmp l o)/\∀o,Jn cmp l o->k o=some r:=by
 unfold Y4 at h;split at h
 .rename_i q;cases h;exact Classical.choose_spec q
 .cases h
theorem A2g {o:List α} {r:β} (b:Jn cmp l o) (h:∀o,Jn cmp l o->k o=some r):Y4 cmp l k=some r:=by have q:∃r,(∃o,Jn cmp l o)/\∀o,Jn cmp l o->k o=some r:=⟨r,⟨o,b⟩,h⟩;unfold Y4;rw[dif_pos q];have:=(Classical.choose_spec q).2 o b;rw[h o b]at this;exact this.symm
structure Tk (α:Type) where
 f:List α->Option (List α)
 cmp:α->α->Option Int
 l:List α
noncomputable def Tk.bind (s:Tk α) (k:List α->Option β):Option β:=bif Nat.ble s.l.length 12 then (s.f s.l).bind k else Y4 s.cmp s.l k
inductive Aj2 (P:Program) (b:Oper) (n:Nat) (e:B7) (H:Hp) (K:B7->Hp->Prop):Prop where
 | mk (c:Call) (x:Operand) (f:FuncId) (caps:List AV) (l:List Nat) (largs:List AV) (hs:List Bm) (R:AV->List Bm->Prop) (r0:AV) (hs0:List Bm) (hp:Nl P f largs hs R) (ho:b.op = .call c) (hcal:c.callee = .value x) (hx:ev e x = .fn f caps)
   (ha:largs.map (ren (Df n l))=c.args.toList.map (ev e)++caps) (h0:R r0 hs0) (ok:∀r hs',R r hs'->K4 n l largs hs r hs'=true/\hs'.length=hs.length) (hh:Nm H (E2 (Df n l) 0 hs))
   (k:∀r hs',R r hs'->K (put e b.dst (ren (Df n l) r)) (Cp H (E2 (Df n l) 0 hs')))
section
variable {P:Program} {C:Cfg} {X:Nat->B7->Hp->Prop} {U:Nat->Nat->B7->Hp->Prop} {V:Nat->B7->Hp->Prop} {n:Nat} {e:B7} {H:Hp}
theorem A2h {id:Nat} {a b:Oper} (k:opK P C.T C.an C.nl a n e H [] λn e H _=>Aj2 P b n e H (X n)) (ga:a.guard=none:=by exact rfl) (gb:b.guard=none:=by exact rfl):wc P C (.region id #[a,b] false) X U V n e H:=by
 intro hT hm F W σ ι act w Q E s B hn hk;obtain⟨a6,m,h1,h2,h3,h4,h5⟩:=Ao4 hT hn k;simp only[Yq,Aja,Ajb,Ajm]at h3;obtain⟨⟨c,x,f,M,l,D,hs,R,r0,a1,hp,ho,A,hx,ha,h0,ok,hh,kk⟩⟩:=h3;have G:=Ao8 E;have J:∀{i:Nat} {o:Oper} (_:#[a,b][i]? = some o) {e:B7} {σ:A7} {ι:Cb} {H:Hp} {v:Act} (_:Fr σ ι H e v) (_:v.tmps.size=act.tmps.size),∀x∈o.op.operands.toList,Conc σ ι H (ev e x) (v.eval x):=by intro i o hi e σ ι H v B hv x hx;refine B.eval λt ht=>?_;rw[hv];refine G i o hi t ?_;simp only[Lr,mem_append,mem_filterMap];exact .inl ⟨x,hx,ht⟩
 have g:∀(v:Act) (d:Option Nat) (u:Value),(v.put d u).defers=v.defers:=by intro v d u;cases d <;> rfl
 have a3:∀v:Act,Region.wanted a (yielded #[a,b] v.tmps)=true:=λv=>by unfold Region.wanted;rw[ga]
 have a2:∀v:Act,Region.wanted b (yielded #[a,b] v.tmps)=true:=λv=>by unfold Region.wanted;rw[gb]
 refine wp_region ?_;show wpOps P #[a,b] Q [0,1] act w;rw[wpOps_cons];unfold wpOp;show (if Region.wanted a _=true then (a.wp P act w _ Q\/_) else _);rw[if_pos (a3 act)];refine .inl ((h1.nils (Adw C.nl a.dst)) σ ι H F W w act _ Q s (J (i:=0) rfl B rfl) h2 ?_);intro σ1 ι1 Z Y y s1 c1;have z:=(B.mono y).put (d:=a.dst) c1;rw[wpOps_cons];unfold wpOp;show (if Region.wanted b _=true then (b.wp P _ Y _ Q\/_) else _);rw[if_pos (a2 _)];have h:=(ok _ _ h0).1;simp only[K4,Fw]at h;have o1:=h.1.1.1.1.1.1;have o2:=Ha h.1.1.1.1.1.2;refine .inl (Ao1 (m:=hs.length) ho A hx hp ha h0 ok s1 (J (i:=1) rfl z (Yl _ _ _)) (λp hp=>?_) ?_)
 .rw[o2,Nat.sub_self]at hp;rcases mem_append.1 hp with hp|hp
  .exact hh.spec p hp
  .cases hp
 intro r I L N S v2 a0 j s2 c2;refine hk .normal m _ _ N S _ a0 (kk r I L) (y.trans j) s2 ((z.mono j).put c2) (λq hq=>?_) h4 (by rw[Yl,Yl]) (by rw[g,g]) ((F9.step (ops:=#[a,b]) (i:=0) (o:=a) rfl act Z).trans (F9.step (ops:=#[a,b]) (i:=1) (o:=b) rfl _ v2));rw[Ys λi hi e=>?_]
 .exact h5 q hq
 .have:=(ok _ _ L).2;have:=Ajf (n:=m) (k:=0+i) o1 ω;omega
end
end Go.Ab
