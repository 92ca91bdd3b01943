/- Plain laws: what the plain functions answer. -/
import Derived.Test.YtdjgjhnhlpiccaaGreatDoorMsAb
open List
namespace Go.Ab
def H0:Hp:=λ_=>.none
def ι0:Ca:=λ_=>.none
def Adh (P:Program) (f:FuncId):Prop:=∃fn,P.funcs[f]? = some fn/\(fn.name == "runtime.NumGoroutine")=false/\fn.body.isNone=false
def Lz (σ:A7) (ι:Ca) (H:Hp) (args:List AV) (vs:Array Value):Prop := vs.size=args.length/\∀(i:Nat) (a:AV) (v:Value),args[i]? = some a->vs[i]? = some v->Conc σ ι H a v
def A8 (P:Program) (f:FuncId) (args:List AV) (r:AV):Prop := Adh P f/\∀(σ F:A7) (W w:World) (vs:Array Value),St σ ι0 H0 F W w->Lz σ ι0 H0 args vs -> Calls P f vs w λe w'=>∃v b,e = .returned v/\σ.le b/\St b ι0 H0 F W w'/\Conc b ι0 H0 r v
def AV.under0 (n:Nat):AV->Bool
 | .loc h _ | .mp h | .vec h _=>Nat.blt h n
 | .arr h _ _ _ | .el h _ _ _=>Nat.blt h n
 | .val _ | .sl _ _ | .ref _ | .fb _=>true
 | _=>false
def AV.under1 (n:Nat):AV->Bool
 | .loc h _ | .mp h | .vec h _=>Nat.blt h n
 | .arr h _ _ _ | .el h _ _ _=>Nat.blt h n
 | .val _ | .sl _ _ | .ref _ | .fb _=>true
 | .fn _ cs=>cs.all (AV.under0 n)
 | _=>false
def AV.under2 (n:Nat):AV->Bool
 | .agg cs=>cs.all (AV.under1 n)
 | x=>x.under1 n
def AV.under (n:Nat):AV->Bool
 | .agg cs | .fn _ cs=>cs.all (AV.under1 n)
 | .tup cs=>cs.all (AV.under2 n)
 | x=>x.under1 n
def Bq.under (n:Nat):Bq->Bool
 | .cells _ cs=>cs.all (AV.under1 n)
 | .map _=>true
 | .rows _ _ _=>true
 | .none=>true
 | .dead=>true
def Ai2 (es:Nat->Nat):AV->AV
 | .loc h off=>.loc (es h) off
 | .mp h=>.mp (es h)
 | .vec h k=>.vec (es h) k
 | .arr h k off len=>.arr (es h) k off len
 | .el h k i j=>.el (es h) k i j
 | x=>x
def Ot (es:Nat->Nat):AV->AV
 | .loc h off=>.loc (es h) off
 | .mp h=>.mp (es h)
 | .vec h k=>.vec (es h) k
 | .arr h k off len=>.arr (es h) k off len
 | .el h k i j=>.el (es h) k i j
 | .fn f cs=>.fn f (cs.map (Ai2 es))
 | x=>x
def Ai3 (es:Nat->Nat):AV->AV
 | .agg cs=>.agg (cs.map (Ot es))
 | x=>Ot es x
def ren (es:Nat->Nat):AV->AV
 | .agg cs=>.agg (cs.map (Ot es))
 | .tup cs=>.tup (cs.map (Ai3 es))
 | .fn f cs=>.fn f (cs.map (Ot es))
 | x=>Ot es x
def J9 (es:Nat->Nat):Bq->Bq
 | .cells E cs=>.cells E (cs.map (Ot es))
 | o=>o
def hp (b:List Bq):Hp:=λk=>b.getD k .none
def Bo (P:Program) (f:FuncId) (args:List AV) (h:List Bq) (r:AV) (b:List Bq):Prop := Adh P f/\∀(σ F:A7) (W w:World) (ι:Ca) (vs:Array Value),St σ ι (hp h) F W w->Lz σ ι (hp h) args vs -> Calls P f vs w λe w'=>∃v c g,e = .returned v/\Le σ ι (hp h) c g (hp b)/\St c g (hp b) F W w'/\Conc c g (hp b) r v
def Dt (n:Nat):List Nat->Nat->Nat
 | [],k=>n+k
 | h::_,0=>h
 | _::l,k+1=>Dt n l k
def Ps (n:Nat):List Nat->Bool
 | []=>true
 | h::l=>Nat.blt h n && !(l.elem h)&&Ps n l
def Fy (es:Nat->Nat):Nat->List Bq->List (Nat×Bq)
 | _,[]=>[]
 | k,o::os=>(es k,J9 es o)::Fy es (k+1) os
def Cn (es:Nat->Nat):Nat->Nat->List (Nat×Bq)
 | _,0=>[]
 | k,c+1=>(es k,.none)::Cn es (k+1) c
def Ou (H:Hp):List (Nat×Bq)->Prop
 | []=>True
 | p::l=>H p.1=p.2/\Ou H l
def Nz (n:Nat) (l:List Nat) (c:List AV) (f:List Bq) (r:AV) (b:List Bq):Bool := Ps n l&&Nat.beq f.length l.length&&Nat.ble l.length b.length&&c.all (AV.under l.length)&&f.all (Bq.under l.length)&&r.under b.length&&b.all (Bq.under b.length)
inductive Vz (xs:List AV) (i:Int) (K:Nat->AV->Prop):Prop where
 | mk (n:Nat) (x:AV) (hi:i=n) (hx:xs[n]? = some x) (k:K n x)
inductive Th (len:Nat) (kk:Nat) (xs:List AV) (i:Int) (K:Nat->Prop):Prop where
 | mk (n:Nat) (hk:xs.length=kk) (hi:i=n) (hn:n<len) (k:K n)
inductive Pt (len:Nat) (i:Int) (K:Nat->Prop):Prop where
 | mk (n:Nat) (hi:i=n) (hn:n<len) (k:K n)
inductive Jb (k:IntKind) (n:Int) (K:Int->Prop):Prop where
 | mk (c:Int) (h:k.wrap n=c) (k:K c)
inductive Adi (k:IntKind) (m n:Int) (K:Int->Prop):Prop where
 | mk (c:Int) (hn:n≠0) (h:k.wrap (m.tdiv n)=c) (k:K c)
inductive Adj (m n:Int) (K:Int->Prop):Prop where
 | mk (c:Int) (hn:n≠0) (h:m.tmod n=c) (k:K c)
inductive Adk (k:IntKind) (m n:Int) (K:Int->Prop):Prop where
 | mk (c:Int) (hn:0<=n) (h:m.fdiv (2 ^ (min n.toNat k.bits))=c) (k:K c)
inductive Ai4 (k:IntKind) (m n:Int) (K:Int->Prop):Prop where
 | mk (c:Int) (hn:0<=n) (h:k.wrap (m*2 ^ (min n.toNat k.bits))=c) (k:K c)
inductive Adl (n:Nat) (lo hi:Int) (K:Nat->Nat->Prop):Prop where
 | mk (l h:Nat) (el:lo=l) (eh:hi=h) (h1:l<=h) (h2:h<=n) (k:K l h)
inductive N0 (xs:List AV) (lo hi:Int) (K:List AV->Prop):Prop where
 | mk (l h:Nat) (ys:List AV) (el:lo=l) (eh:hi=h) (h1:l<=h) (h2:h<=xs.length) (hy:(xs.take h).drop l=ys) (k:K ys)
inductive Adm (kk:Nat) (xs:List AV) (n:Nat) (lo hi:Int) (K:Nat->Nat->Prop) (KE:Prop):Prop where
 | mk (l h:Nat) (hk:xs.length=kk) (el:lo=l) (eh:hi=h) (h1:l<=h) (h2:h<=n) (h3:l=0\/l<h) (k:K l h)
 | mkE (l:Nat) (hk:xs.length=kk) (el:lo=l) (eh:hi=l) (h2:l<=n) (k:KE)
inductive Adn (s:ByteArray) (i:Int) (K:UInt8->Prop):Prop where
 | mk (n:Nat) (c:UInt8) (hi:i=n) (hc:s[n]? = some c) (k:K c)
inductive Ai5 (xs:List AV) (K:ByteArray->Prop):Prop where
 | mk (bs:List UInt8) (hx:xs=bs.map λb=>.val (.int .u8 b.toNat)) (k:K ⟨bs.toArray⟩)
inductive Ado (n:Nat) (K:Prop):Prop where
 | mk (h:n<=9223372036854775807) (k:K)
inductive V1 (len cap:Int) (bytes:Nat) (z:AV) (K:Nat->List AV->Prop):Prop where
 | mk (l c:Nat) (zs:List AV) (el:len=l) (ec:cap=c) (h1:l<=c) (h2:bytes*c<=281474976710656) (h3:c<=140737488355328) (hz:replicate l z=zs) (k:K l zs)
 | mkN (z':AV) (hn:Hb z.cells z'.cells) (l c:Nat) (zs:List AV) (el:len=l) (ec:cap=c) (h1:l<=c) (h2:bytes*c<=281474976710656) (h3:c<=140737488355328) (hz:replicate l z'=zs) (k:K l zs)
inductive N1 (xs ys:List AV) (kk len bytes:Nat) (K:List AV->Nat->Prop) (KP:List AV->Nat->Nat->Prop):Prop where
 | mkP (zs:List AV) (k' m:Nat) (hk:xs.length=kk) (hl:len<=kk) (hb:(xs.length+ys.length)*bytes<=140737488355328) (hz:Fu xs len ys=zs) (hk':zs.length=k') (hm:len+ys.length=m) (k:KP zs k' m)
 | mk (zs:List AV) (m:Nat) (hk:xs.length=kk) (hl:len=kk) (hb:(xs.length+ys.length)*bytes<=140737488355328) (hz:xs++ys=zs) (hm:kk+ys.length=m) (k:K zs m)
inductive A1b (ys:List AV) (K:Prop):Prop where
 | mk (hy:ys = []) (k:K)
inductive Ti (ys:List AV) (bytes:Nat) (K:List AV->Nat->Prop):Prop where
 | mk (zs:List AV) (m:Nat) (hb:ys.length*bytes<=140737488355328) (hz:ys=zs) (hm:ys.length=m) (k:K zs m)
inductive A1c (xs:List AV) (kk len k2 off2 len2 bytes:Nat) (K:List AV->Nat->Nat->Prop):Prop where
 | mk (zs:List AV) (k' m:Nat) (hk:xs.length=kk) (hl:len<=kk) (hk2:xs.length=k2) (hl2:off2+len2<=kk) (hb:(xs.length+len2)*bytes<=140737488355328) (hz:Fu xs len ((xs.drop off2).take len2)=zs) (hk':zs.length=k') (hm:len+len2=m) (k:K zs k' m)
inductive A1d (xs:List AV) (kk off len k2 off2 len2:Nat) (K:List AV->Nat->Prop):Prop where
 | mk (zs:List AV) (c:Nat) (hk:xs.length=kk) (hl:off+len<=kk) (hk2:xs.length=k2) (hl2:off2+len2<=kk) (hz:Fu xs off ((xs.drop off2).take (min len2 len))=zs) (hc:min len2 len=c) (k:K zs c)
inductive Aop (xs:List AV) (kk off len:Nat) (z:AV) (K:List AV->Prop):Prop where
 | mk (zs:List AV) (hk:xs.length=kk) (hl:off+len<=kk) (hz:Fu xs off (replicate len z)=zs) (k:K zs)
inductive Ai6 (a b:Nat) (K:Prop):Prop where
 | mk (h:a<=b) (k:K)
inductive Ai7 (xs:List AV) (n:Nat) (K:List AV->Prop):Prop where
 | mk (ys:List AV) (hy:xs.take n=ys) (k:K ys)
inductive V2 (xs:List AV) (q:Nat) (p:AV) (K:List AV->Prop):Prop where
 | mk (zs:List AV) (hz:xs.set q p=zs) (k:K zs)
inductive N2 (xs:List AV) (K:Int->Prop):Prop where
 | mk (c:Int) (hc:(xs.length:Int)=c) (k:K c)
inductive M0 (kk i:Nat) (xs:List AV) (K:AV->Prop):Prop where
 | mk (x:AV) (hk:xs.length=kk) (hx:xs[i]? = some x) (k:K x)
inductive Hs (kk:Nat) (xs:List AV) (K:Prop):Prop where
 | mk (hk:xs.length=kk) (k:K)
def Ext (P:Program) (f:FuncId) (args:List AV) (r:AV):Prop := ∀(σ F:A7) (W w:World) (vs:Array Value),St σ ι0 H0 F W w->Lz σ ι0 H0 args vs->∃v,(callFunc f vs).run P w = .ok (.value v) w/\Conc σ ι0 H0 r v
inductive Fk (P:Program) (n:Nat) (H:Hp) (f:FuncId) (args:List AV) (K:Eff->Nat->Prop):Prop where
 | mk (r:AV) (h:A8 P f args r) (hf:args.all AV.free=true) (k:K ⟨r,[],[]⟩ n)
 | ext (r:AV) (h:Ext P f args r) (hf:args.all AV.free=true) (k:K ⟨r,[],[]⟩ n)
 | act (l:List Nat) (largs:List AV) (hs:List Bq) (r:AV) (hs':List Bq) (h:Bo P f largs hs r hs') (ha:largs.map (ren (Dt n l))=args) (ok:Nz n l largs hs r hs'=true) (hh:Ou H (Fy (Dt n l) 0 hs))
   (k:K ⟨ren (Dt n l) r,Fy (Dt n l) 0 hs++Cn (Dt n l) l.length (hs'.length-l.length),Fy (Dt n l) 0 hs'⟩ (n+(hs'.length-l.length)))
 | rd (l:List Nat) (largs:List AV) (hs:List Bq) (r:AV) (h:Bo P f largs hs r hs) (ha:largs.map (ren (Dt n l))=args) (ok:Nz n l largs hs r hs=true) (hh:Ou H (Fy (Dt n l) 0 hs))
   (k:K ⟨ren (Dt n l) r,Fy (Dt n l) 0 hs,[]⟩ n)
inductive Aoq (s:ByteArray) (es:List (AV×AV)) (K:Option (Nat×AV)->Prop):Prop where
 | mk (r:Option (Nat×AV)) (h:Kk s es 0=some r) (k:K r)
inductive Adp (op:BinOp) (k:FloatKind) (a b:Nat) (K:Nat->Prop):Prop where
 | mk (c:Nat) (h:floatBits op k a b=some c) (k:K c)
inductive Adq (k:FloatKind) (a:Nat) (q:IntKind) (K:Int->Prop):Prop where
 | mk (c:Int) (h:floatToIntVal k a q=some c) (k:K c)
inductive A1e (P:Program) (kt:TypeId) (us:List Value) (es:List (AV×AV)) (K:Option (Nat×AV)->Prop):Prop where
 | mk (r:Option (Nat×AV)) (hc:Adf P kt us) (h:Oq P kt us es 0 r) (k:K r)
inductive A1f (P:Program) (kt:TypeId) (ks:List AV) (us:List Value) (v:AV) (es:List (AV×AV)) (K:List (AV×AV)->Prop):Prop where
 | mk (es':List (AV×AV)) (hc:Adf P kt us) (h:Oq P kt us es 0 none) (he:es++[(.agg ks,v)]=es') (k:K es')
inductive Aor (s:ByteArray) (v:AV) (es:List (AV×AV)) (K:List (AV×AV)->Prop):Prop where
 | mk (es':List (AV×AV)) (h:Adc s v es=some es') (k:K es')
inductive Aos (P:Program) (t:TypeId) (us vs:List Value) (K:Bool->Prop):Prop where
 | mk (b:Bool) (h:Ade P t us vs b) (k:K b)
inductive V3 (P:Program) (t:TypeId) (f:Nat) (K:TypeId->Prop):Prop where
 | mk (ft:TypeId) (h:Aiw P t f=some ft) (k:K ft)
inductive Aot (P:Program) (f:FuncId) (args:List AV) (K:AV->Prop):Prop where
 | mk (r:AV) (h:A8 P f args r) (hf:args.all AV.free=true) (k:K r)
inductive Ann where
 | frz (j:Nat)
 | std
 | own
 | ask
 | vec (m:Nat)
def M1:AV->Bool
 | .val (.slice none 0 0)=>true
 | _=>false
def Yq:AV->Bool
 | .val (.agg _)=>false
 | _=>true
def Ai8 (x:AV) (K:AV->Prop):Prop := match x with
 | .val v=>K (.val v)
 | .loc h off=>K (.loc h off)
 | .arr h k off len=>K (.arr h k off len)
 | .el h k i j=>K (.el h k i j)
 | .mp h=>K (.mp h)
 | .vec h n=>K (.vec h n)
 | .ref cs=>K (.ref cs)
 | .sl sz xs=>K (.sl sz xs)
 | .agg cs=>K (.agg cs)
 | .tup cs=>K (.tup cs)
 | .fn f cs=>K (.fn f cs)
 | .fb s=>K (.fb s)
def Re:List AV->(List AV->Prop)->Prop
 | [],K=>K []
 | x::xs,K=>Ai8 x λx=>Re xs λxs=>K (x::xs)
def Md (x:AV) (K:AV->Prop):Prop := match x with
 | .agg cs=>Re cs λcs=>K (.agg cs)
 | .tup cs=>Re cs λcs=>K (.tup cs)
 | .fn f cs=>Re cs λcs=>K (.fn f cs)
 | x=>Ai8 x K
def V4:List AV->(List AV->Prop)->Prop
 | [],K=>K []
 | x::xs,K=>Md x λx=>V4 xs λxs=>K (x::xs)
def Ai9 (o:Bq) (K:Bq->Prop):Prop := match o with
 | .cells E cs=>Re cs λcs=>K (.cells E cs)
 | .rows E sz xs=>K (.rows E sz xs)
 | .map es=>K (.map es)
 | .none=>K .none
 | .dead=>K .dead
def Ov:List (Nat×Bq)->(List (Nat×Bq)->Prop)->Prop
 | [],K=>K []
 | p::l,K=>Ai9 p.2 λo=>Ov l λl=>K ((p.1,o)::l)
def Kl:List (Nat×Bq)->(List Nat->Prop)->Prop
 | [],K=>K []
 | p::l,K=>Kl l λl=>K (p.1::l)
theorem Aou (x:AV) (K:AV->Prop):Ai8 x K=K x:=by cases x <;> rfl
theorem Adr:∀(l:List AV) (K:List AV->Prop),Re l K=K l
 | [],_=>rfl
 | x::xs,K=>by simp only[Re,Aou,Adr xs]
theorem V5 (x:AV) (K:AV->Prop):Md x K=K x:=by cases x <;> simp only[Md,Adr,Aou]
theorem Ads:∀(l:List AV) (K:List AV->Prop),V4 l K=K l
 | [],_=>rfl
 | x::xs,K=>by simp only[V4,V5,Ads xs]
theorem A1g (o:Bq) (K:Bq->Prop):Ai9 o K=K o:=by cases o <;> simp only[Ai9,Adr]
theorem Aja:∀(l:List (Nat×Bq)) (K:List (Nat×Bq)->Prop),Ov l K=K l
 | [],_=>rfl
 | p::l,K=>by simp only[Ov,A1g,Aja l]
theorem Ajb:∀(l:List (Nat×Bq)) (K:List Nat->Prop),Kl l K=K (l.map (·.1))
 | [],_=>rfl
 | p::l,K=>by simp only[Kl,Ajb l,map_cons]
def Fg (P:Program) (T:Dc) (an:Nat->Ann) (n:Nat) (o:Oper) (ρ:Operand->AV) (H:Hp) (K:Eff->Nat->Prop):Prop :=
 match o.op with
 | .move x=>K ⟨ρ x,[],[]⟩ n
 | .assign x=>
  match o.dst with
  | none=>K ⟨ρ x,[],[]⟩ n
  | some d=>
   match an d with
   | .frz _=>K ⟨ρ x,[],[]⟩ n
   | .std=>K ⟨ρ x,[],[]⟩ n
   | .ask=>K ⟨ρ x,[],[]⟩ n
   | .vec _=>K ⟨ρ x,[],[]⟩ n
   | .own=>bif M1 (ρ x) then
     match T o.type with
     | some ⟨.slice e,_,_,_⟩=>
      match T e with
      | some i'=>bif Nat.blt 0 i'.size then K ⟨.arr n 0 0 0,[(n,.none)],[(n,.rows e i'.size [])]⟩ (n+1) else False
      | none=>False
     | _=>False
    else K ⟨ρ x,[],[]⟩ n
 | .pick c a b=>
  match ρ c with
  | .val (.bool t)=>K ⟨bif t then ρ a else ρ b,[],[]⟩ n
  | _=>False
 | .alloc t=>
  match T t with
  | some i=>K ⟨.loc n 0,[(n,.none)],[(n,.cells t (i.zero.map .val))]⟩ (n+1)
  | none=>False
 | .box t x=>K ⟨.loc n 0,[(n,.none)],[(n,.cells t (ρ x).cells)]⟩ (n+1)
 | .build t parts=>
  match T t with
  | some ⟨.struct fs,_,_,z⟩=>
   match Vs fs (z.map .val) (parts.toList.map λp=>(p.1,ρ p.2)) with
   | some cs=>K ⟨.agg cs,[],[]⟩ n
   | none=>False
  | _=>False
 | .buildSlice t len parts=>
  match T t with
  | some ⟨.slice e,_,_,_⟩=>
   match T e with
   | some i'=>
    bif Nat.blt 0 i'.size&&(parts.toList.map (·.1)==range' 0 len)&&Nat.ble (len*i'.size) 16777216&&parts.toList.all (λp=>Ma i'.size (ρ p.2)) then
     match an (o.dst.getD 0) with
     | .frz _=>False
     | .vec _=>False
     | .std=>V4 (parts.toList.map λp=>ρ p.2) λxs=>K ⟨.sl i'.size xs,[],[]⟩ n
     | .ask=>V4 (parts.toList.map λp=>ρ p.2) λxs=>K ⟨.sl i'.size xs,[],[]⟩ n
     | .own=>V4 (parts.toList.map λp=>ρ p.2) λxs=>K ⟨.arr n len 0 len,[(n,.none)],[(n,.rows e i'.size xs)]⟩ (n+1)
    else False
   | none=>False
  | _=>False
 | .load t x=>
  match T t with
  | some i=>
   match ρ x with
   | .ref cs=>bif i.isAgg then (bif Nat.ble i.size cs.length then K ⟨.agg (cs.take i.size),[],[]⟩ n else False) else
     match cs with
     | c::_=>K ⟨c,[],[]⟩ n
     | []=>False
   | .loc h off=>
    match H h with
    | .cells E cs=>bif i.isAgg then (bif Nat.ble (off+i.size) cs.length then K ⟨.agg ((cs.drop off).take i.size),[(h,.cells E cs)],[]⟩ n else False) else
      match cs[off]? with
      | some c=>K ⟨c,[(h,.cells E cs)],[]⟩ n
      | none=>False
    | _=>False
   | .el h k q j=>
    match H h with
    | .rows E sz xs=>M0 k q xs λy=>bif i.isAgg then (bif Nat.ble (j+i.size) y.cells.length then K ⟨.agg ((y.cells.drop j).take i.size),[(h,.rows E sz xs)],[]⟩ n else False) else
      match y.cells[j]? with
      | some c=>K ⟨c,[(h,.rows E sz xs)],[]⟩ n
      | none=>False
    | _=>False
   | _=>False
  | none=>False
 | .store t x y=>
  match T t with
  | some i=>
   match ρ x with
   | .loc h off=>
    match H h with
    | .cells E cs=>bif Nat.beq (ρ y).cells.length i.size&&Nat.ble (off+i.size) cs.length&&(ρ y).cells.all AV.one then K ⟨.val undef,[(h,.cells E cs)],[(h,.cells E (Nx cs off (ρ y).cells))]⟩ n else False
    | _=>False
   | .el h k q j=>
    match H h with
    | .rows E sz xs=>M0 k q xs λz=>bif Nat.beq (ρ y).cells.length i.size&&Nat.blt 0 i.size&&Nat.ble (j+i.size) z.cells.length&&(ρ y).cells.all AV.cl1&&Yq z then
      Re (ρ y).cells λys=>Md (Ym z j ys) λp=>V2 xs q p λg=>K ⟨.val undef,[(h,.rows E sz xs)],[(h,.rows E sz g)]⟩ n else False
    | _=>False
   | _=>False
  | none=>False
 | .nilCheck x=>bif (ρ x).isPtr then K ⟨ρ x,[],[]⟩ n else False
 | .binOp op t x y _=>
  match ρ x,ρ y with
  | .val (.int k a),.val (.int G b)=>
   match op with
   | .shl=>Ai4 k a b λc=>K ⟨.val (.int k c),[],[]⟩ n
   | .shr=>Adk k a b λc=>K ⟨.val (.int k c),[],[]⟩ n
   | op=>bif decide (k=G) then
     match op with
     | .add=>Jb k (a+b) λc=>K ⟨.val (.int k c),[],[]⟩ n
     | .sub=>Jb k (a-b) λc=>K ⟨.val (.int k c),[],[]⟩ n
     | .mul=>Jb k (a*b) λc=>K ⟨.val (.int k c),[],[]⟩ n
     | .quo=>Adi k a b λc=>K ⟨.val (.int k c),[],[]⟩ n
     | .rem=>Adj a b λc=>K ⟨.val (.int k c),[],[]⟩ n
     | op=>
      match Aic op a b with
      | some t=>K ⟨.val (.bool t),[],[]⟩ n
      | none=>
       match Aij op k a b with
       | some c=>K ⟨.val (.int k c),[],[]⟩ n
       | none=>False
    else False
  | .val (.bool a),.val (.bool b)=>
   match T t with
   | some ⟨.bool,_,_,_⟩=>
    match Aik op a b with
    | some t=>K ⟨.val (.bool t),[],[]⟩ n
    | none=>False
   | _=>False
  | .agg xs,.agg ys=>
   match Jv xs with
   | some L=>
    match Jv ys with
    | some vs=>
     match op with
     | .eql=>Aos P t L vs λb=>K ⟨.val (.bool b),[],[]⟩ n
     | .neq=>Aos P t L vs λb=>K ⟨.val (.bool !b),[],[]⟩ n
     | _=>False
    | none=>False
   | none=>False
  | .val (.float k a),.val (.float G b)=>bif decide (k=G) then Adp op k a b λc=>K ⟨.val (.float k c),[],[]⟩ n else False
  | .val (.string a),.val (.string b)=>
   match op with
   | .add=>Ado (a.size+b.size) (K ⟨.val (.string (a++b)),[],[]⟩ n)
   | op=>
    match Ail op a b with
    | some t=>K ⟨.val (.bool t),[],[]⟩ n
    | none=>False
  | .val (.slice p _ _),.val (.slice none _ _)=>
   match op with
   | .eql=>
    match T t with
    | some ⟨.slice _,_,_,_⟩=>K ⟨.val (.bool p.isNone),[],[]⟩ n
    | _=>False
   | _=>False
  | _,_=>False
 | .unOp op _ x=>
  match op,ρ x with
  | .not,.val (.bool b)=>K ⟨.val (.bool !b),[],[]⟩ n
  | .neg,.val (.int k m)=>Jb k (0-m) λc=>K ⟨.val (.int k c),[],[]⟩ n
  | _,_=>False
 | .convert s d x=>
  match T s,T d,ρ x with
  | some _,some ⟨.int k,_,_,_⟩,.val (.int _ m)=>Jb k m λc=>K ⟨.val (.int k c),[],[]⟩ n
  | some _,some ⟨.float k,_,_,_⟩,.val (.int _ m)=>K ⟨.val (.float k (floatOfInt k m)),[],[]⟩ n
  | some _,some ⟨.int k,_,_,_⟩,.val (.float q m)=>Adq q m k λc=>K ⟨.val (.int k c),[],[]⟩ n
  | some ⟨.slice e,_,_,_⟩,some ⟨.string,_,_,_⟩,.sl sz xs=>
   match T e with
   | some ⟨.int .u8,_,_,_⟩=>bif Nat.beq sz 1 then Ai5 xs λs=>K ⟨.val (.string s),[],[]⟩ n else False
   | _=>False
  | _,_,_=>False
 | .makeFunc (.func f) first u=>bif first.isEmpty then K ⟨.fn f (u.toList.map ρ),[],[]⟩ n else False
 | .makeSlice t x y=>
  match T t with
  | some ⟨.slice e,_,_,_⟩=>
   match T e with
   | some i'=>
    match ρ x,ρ y with
    | .val (.int _ l),.val (.int _ c)=>
     match an (o.dst.getD 0) with
     | .vec m=>
      match i'.zero with
      | [v]=>
       bif Nat.beq i'.size 1&&Nat.ble m 16&&Nat.ble (i'.bytes*m) 281474976710656&&decide (l=(m:Int))&&decide (c=(m:Int)) then
        K ⟨.vec n m,[(n,.none)],[(n,.cells e (replicate m (.val v)))]⟩ (n+1)
       else False
      | _=>False
     | _=>
     bif Nat.blt 0 i'.size&&Ma i'.size (Gd i')&&Nat.beq (Gd i').cells.length i'.zero.length&&Yq (Gd i') then
      V1 l c i'.bytes (Gd i') λl g=>K ⟨.arr n l 0 l,[(n,.none)],[(n,.rows e i'.size g)]⟩ (n+1)
     else False
    | _,_=>False
   | none=>False
  | _=>False
 | .slice t x lo hi none=>
  match T t with
  | some ⟨.slice e,_,_,_⟩=>
   match T e with
   | some i'=>
    match ρ x with
    | .sl sz xs=>
     match Ja ρ 0 lo,Ja ρ xs.length hi with
     | some l,some h=>bif Nat.beq sz i'.size then N0 xs l h λys=>K ⟨.sl sz ys,[],[]⟩ n else False
     | _,_=>False
    | .arr hd k off len=>
     match H hd with
     | .rows E sz xs=>
      match Ja ρ 0 lo,Ja ρ len hi with
      | some l,some h=>bif Nat.beq sz i'.size then Adm k xs len l h (λl h=>K ⟨.arr hd k (off+l) (h-l),[(hd,.rows E sz xs)],[]⟩ n) (K ⟨.sl i'.size [],[(hd,.rows E sz xs)],[]⟩ n) else False
      | _,_=>False
     | _=>False
    | _=>False
   | none=>False
  | some ⟨.string,_,_,_⟩=>
   match ρ x with
   | .val (.string s)=>
    match Ja ρ 0 lo,Ja ρ s.size hi with
    | some l,some h=>Adl s.size l h λl h=>K ⟨.val (.string (s.extract l h)),[],[]⟩ n
    | _,_=>False
   | _=>False
  | _=>False
 | .fieldAddr s x f=>
  match T s with
  | some ⟨.struct fs,_,_,_⟩=>
   match fs[f]? with
   | some q=>
    match ρ x with
    | .loc h off=>K ⟨.loc h (off+q.1),[],[]⟩ n
    | .ref cs=>K ⟨.ref (cs.drop q.1),[],[]⟩ n
    | .el h k m j=>
     match H h with
     | .rows E sz xs=>Hs k xs (K ⟨.el h k m (j+q.1),[(h,.rows E sz xs)],[]⟩ n)
     | _=>False
    | _=>False
   | none=>False
  | _=>False
 | .indexAddr t x y=>
  match T t with
  | some ⟨.slice e,_,_,_⟩=>
   match T e with
   | some i'=>
    match ρ x,ρ y with
    | .vec h m,.val (.int _ i)=>bif Nat.beq i'.size 1 then Pt m i λq=>K ⟨.loc h q,[],[]⟩ n else False
    | .sl sz xs,.val (.int _ i)=>bif Nat.beq sz i'.size then Vz xs i λ_ z=>K ⟨.ref z.cells,[],[]⟩ n else False
    | .arr h k off len,.val (.int _ i)=>
     match H h with
     | .rows E sz xs=>bif Nat.beq sz i'.size then Th len k xs i λm=>K ⟨.el h k (off+m) 0,[(h,.rows E sz xs)],[]⟩ n else False
     | _=>False
    | _,_=>False
   | none=>False
  | _=>False
 | .index t x y=>
  match T t with
  | some ⟨.string,_,_,_⟩=>
   match ρ x,ρ y with
   | .val (.string s),.val (.int _ i)=>Adn s i λc=>K ⟨.val (.int .u8 c.toNat),[],[]⟩ n
   | _,_=>False
  | _=>False
 | .field s x f=>
  match T s with
  | some ⟨.struct fs,_,_,_⟩=>
   match fs[f]? with
   | some q=>
    match ρ x with
    | .agg cs=>V3 P s f λX=>
     match T X with
     | some I=>bif I.isAgg then (bif Nat.ble (q.1+I.size) cs.length then K ⟨.agg ((cs.drop q.1).take I.size),[],[]⟩ n else False) else
       match cs[q.1]? with
       | some c=>K ⟨c,[],[]⟩ n
       | none=>False
     | none=>False
    | _=>False
   | none=>False
  | _=>False
 | .makeMap _ none=>K ⟨.mp n,[(n,.none)],[(n,.map [])]⟩ (n+1)
 | .lookup t x y ok=>
  match T t with
  | some ⟨.map M V,_,_,_⟩=>
   match T M with
   | some ⟨.string,_,_,_⟩=>
    match T V with
    | some I=>
     match ρ x with
     | .mp h=>
      match ρ y with
      | .val (.string s)=>
       match H h with
       | .map es=>Aoq s es λr=>K ⟨Vx ok I r,[(h,.map es)],[]⟩ n
       | _=>False
      | _=>False
     | _=>False
    | none=>False
   | some ⟨.struct _,_,_,_⟩=>
    match T V with
    | some I=>
     match ρ x with
     | .mp h=>
      match ρ y with
      | .agg N=>
       match Jv N with
       | some L=>
        match H h with
        | .map es=>A1e P M L es λr=>K ⟨Vx ok I r,[(h,.map es)],[]⟩ n
        | _=>False
       | none=>False
      | _=>False
     | _=>False
    | none=>False
   | _=>False
  | _=>False
 | .mapUpdate t x y z=>
  match T t with
  | some ⟨.map M _,_,_,_⟩=>
   match T M with
   | some ⟨.string,_,_,_⟩=>
    match ρ x with
    | .mp h=>
     match ρ y with
     | .val (.string s)=>
      match H h with
      | .map es=>bif (ρ z).free1 then Md (ρ z) λv=>Aor s v es λJ=>K ⟨.val undef,[(h,.map es)],[(h,.map J)]⟩ n else False
      | _=>False
     | _=>False
    | _=>False
   | some ⟨.struct _,_,_,_⟩=>
    match ρ x with
    | .mp h=>
     match ρ y with
     | .agg N=>
      match Jv N with
      | some L=>
       match H h with
       | .map es=>bif (ρ z).free1 then Md (ρ z) λv=>A1f P M N L v es λJ=>K ⟨.val undef,[(h,.map es)],[(h,.map J)]⟩ n else False
       | _=>False
      | none=>False
     | _=>False
    | _=>False
   | _=>False
  | _=>False
 | .extract x i=>
  match ρ x with
  | .tup cs=>
   match cs[i]? with
   | some c=>K ⟨c,[],[]⟩ n
   | none=>False
  | _=>False
 | .call c=>
  match c.callee with
  | .value x=>
   match ρ x with
   | .fn f u=>
    match an (o.dst.getD 0) with
    | .frz j=>
     (match (c.args.toList.map ρ ++ u)[j]? with
     | some (.arr h k 0 len)=>
      (match H h with
      | .rows E sz xs=>Hs k xs (Hs len xs (Aot P f ((c.args.toList.map ρ ++ u).set j (.sl sz xs)) λr=>K ⟨r,[(h,.rows E sz xs)],[(h,.dead)]⟩ n))
      | _=>False)
     | _=>False)
    | _=>Fk P n H f (c.args.toList.map ρ ++ u) K
   | _=>False
  | .invoke _ _=>False
  | .builtin .len=>
   match c.args.toList,c.argTypes.toList with
   | [x],[t]=>
    match T t with
    | some ⟨.slice _,_,_,_⟩=>
     match ρ x with
     | .sl _ xs=>
      match an (o.dst.getD 0) with
      | .ask=>N2 xs λc=>K ⟨.val (.int .i64 c),[],[]⟩ n
      | _=>K ⟨.val (.int .i64 xs.length),[],[]⟩ n
     | .val (.slice _ m _)=>K ⟨.val (.int .i64 m),[],[]⟩ n
     | .vec _ m=>K ⟨.val (.int .i64 m),[],[]⟩ n
     | .arr h k _ len=>
      match H h with
      | .rows E sz xs=>Hs k xs (K ⟨.val (.int .i64 len),[(h,.rows E sz xs)],[]⟩ n)
      | _=>False
     | _=>False
    | some ⟨.string,_,_,_⟩=>
     match ρ x with
     | .val (.string s)=>K ⟨.val (.int .i64 s.size),[],[]⟩ n
     | _=>False
    | _=>False
   | _,_=>False
  | .builtin .cap=>
   match c.args.toList,c.argTypes.toList with
   | [x],[t]=>
    match T t with
    | some ⟨.slice _,_,_,_⟩=>
     match ρ x with
     | .val (.slice _ _ m)=>K ⟨.val (.int .i64 m),[],[]⟩ n
     | _=>False
    | _=>False
   | _,_=>False
  | .builtin .copy=>
   match c.args.toList,c.argTypes.toList with
   | [x,y],[t,t']=>
    match T t with
    | some ⟨.slice e,_,_,_⟩=>
     match T e with
     | some i'=>
      match ρ y with
      | .arr h2 R B D=>
       match ρ x with
       | .arr h k off len=>
        match H h with
        | .rows E sz xs=>bif Nat.beq E e&&Nat.beq sz i'.size&&Nat.beq h h2&&Nat.blt 0 i'.size then
          A1d xs k off len R B D (λg c=>K ⟨.val (.int .i64 c),[(h,.rows e i'.size xs)],[(h,.rows e i'.size g)]⟩ n) else False
        | _=>False
       | .sl _ []=>
        match H h2 with
        | .rows E sz xs=>bif Nat.beq sz i'.size then Hs R xs (K ⟨.val (.int .i64 0),[(h2,.rows E i'.size xs)],[]⟩ n) else False
        | _=>False
       | _=>False
      | _=>False
     | none=>False
    | _=>False
   | _,_=>False
  | .builtin .clear=>
   match c.args.toList,c.argTypes.toList with
   | [x],[t]=>
    match T t with
    | some ⟨.slice e,_,_,_⟩=>
     match T e with
     | some i'=>
      match ρ x with
      | .arr h k off len=>
       match H h with
       | .rows E sz xs=>bif Nat.beq E e&&Nat.beq sz i'.size&&Nat.blt 0 i'.size&&Ma i'.size (Gd i')&&Nat.beq (Gd i').cells.length i'.zero.length&&Yq (Gd i') then
         Aop xs k off len (Gd i') (λg=>K ⟨.tup [],[(h,.rows e i'.size xs)],[(h,.rows e i'.size g)]⟩ n) else False
       | _=>False
      | .sl _ []=>K ⟨.tup [],[],[]⟩ n
      | _=>False
     | none=>False
    | _=>False
   | _,_=>False
  | .builtin .append=>
   match c.args.toList,c.argTypes.toList with
   | [x,y],[t,t']=>
    match T t,T t' with
    | some ⟨.slice e,_,_,_⟩,some ⟨.slice _,_,_,_⟩=>
     match T e with
     | some i'=>
      bif Nat.blt 0 i'.size&&Nat.beq i'.zero.length i'.size&&Nat.ble 1 i'.bytes then
       match ρ y with
       | .sl sz ys=>
        bif Nat.beq sz i'.size then
         match ρ x with
         | .arr h k 0 len=>
          match H h with
          | .rows E A xs=>bif Nat.beq E e&&Nat.beq A i'.size then
            match an (o.dst.getD 0) with
            | .frz _=>N1 xs ys k len i'.bytes (λg _=>K ⟨.sl i'.size g,[(h,.rows e i'.size xs)],[(h,.dead)]⟩ n) (λ_ _ _=>False)
            | _=>N1 xs ys k len i'.bytes (λg m=>K ⟨.arr h m 0 m,[(h,.rows e i'.size xs)],[(h,.rows e i'.size g)]⟩ n) (λg G m=>K ⟨.arr h G 0 m,[(h,.rows e i'.size xs)],[(h,.rows e i'.size g)]⟩ n) else False
          | _=>False
         | .val (.slice none 0 0)=>Ti ys i'.bytes λg m=>K ⟨.arr n m 0 m,[(n,.none)],[(n,.rows e i'.size g)]⟩ (n+1)
         | .sl U S=>A1b ys (K ⟨.sl U S,[],[]⟩ n)
         | _=>False
        else False
       | .arr h2 R B D=>
        match ρ x with
        | .arr h k 0 len=>
         match H h with
         | .rows E A xs=>bif Nat.beq E e&&Nat.beq A i'.size&&Nat.beq h h2 then
           A1c xs k len R B D i'.bytes (λg G m=>K ⟨.arr h G 0 m,[(h,.rows e i'.size xs)],[(h,.rows e i'.size g)]⟩ n) else False
         | _=>False
        | _=>False
       | _=>False
      else False
     | none=>False
    | some ⟨.slice e,_,_,_⟩,some ⟨.string,_,_,_⟩=>
     match T e with
     | some i'=>
      bif Nat.beq i'.size 1&&Nat.beq i'.zero.length i'.size&&Nat.ble 1 i'.bytes then
       match ρ y with
       | .val (.string s)=>
        match ρ x with
        | .arr h k 0 len=>
         match H h with
         | .rows E A xs=>bif Nat.beq E e&&Nat.beq A i'.size then
           N1 xs (Kj s) k len i'.bytes (λg m=>K ⟨.arr h m 0 m,[(h,.rows e i'.size xs)],[(h,.rows e i'.size g)]⟩ n) (λ_ _ _=>False) else False
         | _=>False
        | _=>False
       | _=>False
      else False
     | none=>False
    | _,_=>False
   | _,_=>False
  | .builtin .max=>
   match c.args.toList,c.argTypes.toList with
   | [x,y],[_,_]=>
    match ρ x,ρ y with
    | .val (.int k a),.val (.int _ b)=>K ⟨.val (.int k (if b>a then b else a)),[],[]⟩ n
    | _,_=>False
   | _,_=>False
  | .builtin .min=>
   match c.args.toList,c.argTypes.toList with
   | [x,y],[_,_]=>
    match ρ x,ρ y with
    | .val (.int k a),.val (.int _ b)=>K ⟨.val (.int k (if b<a then b else a)),[],[]⟩ n
    | _,_=>False
   | _,_=>False
  | _=>False
 | _=>False
section
variable {P:Program} {o:Oper} {ρ:Operand->AV} {a:Act} {w w':World} {next:Act->World->Prop} {Q:Exit->Act->World->Prop}
variable {F σ:A7} {r:AV} {ι:Ca} {H:Hp} {b g:List AV} {x:Operand} {v:Value} {W:World}
def Tj (σ:A7) (w:World):A7:=λb=>match σ b with|none=>w.heap[b]? | some _=>none
theorem St.lend (s:St σ ι H F W w):St σ ι0 H0 (Tj σ w) W w:=by refine⟨s.sto,λb o hb=>?_,λh=>rfl,(λh h' b c=>by cases c),s.os,s.tape,s.output,s.glo,s.drw⟩;unfold Tj at hb;cases e:σ b with| none=>rw[e]at hb;exact⟨hb,rfl⟩| some _=>rw[e]at hb;cases hb
theorem St.unlend {k:A7} (s:St σ ι H F W w) (g:σ.le k) (s':St k ι0 H0 (Tj σ w) W w'):St k ι H F W w':=by
 have key:∀b,σ b=none->∀o,w.heap[b]? = some o->w'.heap[b]? = some o/\k b=none:=by intro b hb o f;exact s'.fra b o (by unfold Tj;rw[hb];exact f)
 have le:Le σ ι H k ι H:=⟨g,λ_=>HLe.refl _ _⟩;refine⟨s'.sto,λb o hb=>?_,λh=>?_,s.inj,s'.os,s'.tape,s'.output,s'.glo,s'.drw⟩
 .obtain⟨h1,h2⟩:=s.fra b o hb;exact key b h2 o h1
 .have f:=s.obj h;unfold Cr at f ⊢;cases hh:H h with
  | none=>rw[hh]at f;exact f
  | dead=>trivial
  | cells E cs=>rw[hh]at f;obtain⟨b,C,j,h1,h2,h3,z,B⟩:=f;obtain⟨u,l⟩:=key b h1 _ h3;exact⟨b,C,j,l,h2,u,z,λi c v x y=>(B i c v x y).mono le⟩
  | rows E sz xs=>
   rw[hh]at f;obtain⟨D,z2,⟨j,I⟩|⟨b,A,C,j,h1,h2,h3,z,B,G⟩⟩:=f
   .exact⟨D,z2,.inl ⟨j,I⟩⟩
   .obtain⟨u,l⟩:=key b h1 _ h3;exact⟨D,z2,.inr ⟨b,A,C,j,l,h2,u,z,B,G.mono g⟩⟩
  | map es=>rw[hh]at f;obtain⟨b,M,q,j,h1,h2,h3,z⟩:=f;obtain⟨u,l⟩:=key b h1 _ h3;exact⟨b,M,q,j,l,h2,u,z.mono g⟩
theorem Conc.of0 {x:AV} (h:Conc σ ι0 H0 x v):Conc σ ι H x v:=by induction h with| cc h=>exact .cc h| loc h off b hb=>cases hb| mp h b hb=>cases hb| vec h n b hb=>cases hb| arr h k off len v s hv c=>exact (s rfl).elim| el h k i j v s hv c=>exact (s rfl).elim| ref cs b off C E fr g u hc h1 y=>exact .ref cs b off C E fr g u hc h1 y| agg cs vs l _ ih=>exact .agg cs vs l ih| tup cs vs l _ ih=>exact .tup cs vs l ih| fn f q vs l _ ih=>exact .fn f q vs l ih
theorem A1h {x:AV} (h:x.free1=true) (hx:∀cs,x≠.agg cs):x.cl1=true:=by cases x <;> first|exact h|exact (hx _ rfl).elim
theorem Conc.to0 {x:AV} (hx:x.free=true) (h:Conc σ ι H x v):Conc σ ι0 H0 x v:=by
 have key:∀(cs:List AV),cs.all AV.cl1=true->∀(i:Nat) (c:AV) (u:Value),cs[i]? = some c->Conc σ ι H c u->Conc σ ι0 H0 c u:=by intro cs s i c u hc h;exact .cc (h.cc_of (D8.1 s c (Fi hc))).1
 cases h with
 | cc h=>exact .cc h
 | loc=>cases hx
 | mp=>cases hx
 | vec=>cases hx
 | arr=>cases hx
 | el=>cases hx
 | ref cs b off C E fr g z hc h1 A=>exact .ref cs b off C E fr g z hc h1 A
 | agg cs vs l h=>exact .agg cs vs l λi c u h1 h2=>key cs hx i c u h1 (h i c u h1 h2)
 | tup cs vs l h=>refine .tup cs vs l λi c u h1 h2=>?_;have hf:=D8.1 hx c (Fi h1);have hc:=h i c u h1 h2;cases c with| agg ds=>obtain⟨y,rfl,q,hv⟩:=hc.agg_inv;exact .agg ds y q λj d v g1 g2=>key ds hf j d v g1 (hv j d v g1 g2)| _=>exact .cc (hc.cc_of (A1h hf (by intro cs e;cases e))).1
 | fn f k vs l h=>exact .fn f k vs l λi c u h1 h2=>key k hx i c u h1 (h i c u h1 h2)
theorem Conc.fn_inv {f:FuncId} (h:Conc σ ι H (.fn f b) v) : ∃vs:Array Value,v = .func (.func f) #[] vs/\vs.size=b.length/\∀(i:Nat) (c:AV) (u:Value),b[i]? = some c->vs[i]? = some u->Conc σ ι H c u:=by cases h with| cc h=>cases h| fn _ _ vs g h=>exact⟨vs,rfl,g,h⟩
theorem Adt {xs:Array Operand} {vs:Array Value} (hx:∀x∈xs.toList,Conc σ ι H (ρ x) (a.eval x)) (g:vs.size=b.length) (hv:∀(i:Nat) (c:AV) (u:Value),b[i]? = some c->vs[i]? = some u->Conc σ ι H c u):Lz σ ι H (xs.toList.map ρ ++ b) (xs.map a.eval++vs):=by
 refine⟨by simp[g],λi c u h1 h2=>?_⟩;by_cases f:i<xs.size
 .rw[getElem?_append_left (by simpa using f),getElem?_map,Ha]at h1;rw[Array.getElem?_append_left (by simpa using f),Array.getElem?_map]at h2;simp[f]at h1 h2;subst h1;subst h2;exact hx _ ψ
 .rw[getElem?_append_right ζ]at h1;rw[Array.getElem?_append_right ζ]at h2;simp at h1 h2;exact hv _ c u h1 h2
theorem A1i {c:Call} {f:FuncId} (G:o.op = .call c) (h:c.callee = .value x) (hx:ρ x = .fn f g) (hp:A8 P f (c.args.toList.map ρ ++ g) r) (l:(c.args.toList.map ρ ++ g).all AV.free=true):Ch P o ρ ⟨r,[],[]⟩:=by
 intro σ ι H F W w a next Q s B _ hk
 obtain⟨⟨fn,hf,k,q⟩,hp⟩:=hp;have z:=B x (by simp[G,Op.operands,Call.operands,h]);rw[hx]at z;obtain⟨vs,hv,L,E⟩:=z.fn_inv;have j:Lz σ ι H (c.args.toList.map ρ ++ g) (c.args.map a.eval++vs) :=
  Adt (λy hy=>B y (by simp only[G,Op.operands,Call.operands,h];simp at hy ⊢;exact .inr hy)) L E
 have A:(execOp a.eval o).run P w = .ok (.enter f (c.args.map a.eval++vs)) w:=by have I:(callFunc f (c.args.map a.eval++vs)).run P w = .ok (.enter f (c.args.map a.eval++vs)) w:=(by unfold callFunc;simp only[Sem.run_bind,program,Sem.run,Result.andThen_ok,hf,k,q,Bool.false_eq_true,if_false,Sem.run_pure]);simp only[execOp,G,resolve,h,hv,Deferred.ofValue,invoke,Sem.run_bind,Sem.run_pure,Result.andThen_ok,Array.empty_append,I]
 unfold Oper.wp;rw[A];simp only[Oper.upon];refine (hp σ (Tj σ w) W w (c.args.map a.eval++vs) s.lend ⟨j.1,λi b u h1 h2=>(j.2 i b u h1 h2).to0 (D8.1 l b (Fi h1))⟩).mono ?_;rintro e w' ⟨v,J,rfl,D,s',hc⟩;exact hk J ι v w' ⟨D,λ_=>HLe.refl _ _⟩ (s.unlend D s') hc.of0
theorem A1j {c:Call} {f:FuncId} (B:o.op = .call c) (h:c.callee = .value x) (hx:ρ x = .fn f g) (hp:Ext P f (c.args.toList.map ρ ++ g) r) (k:(c.args.toList.map ρ ++ g).all AV.free=true):Ch P o ρ ⟨r,[],[]⟩:=by
 intro σ ι H F W w a next Q s z _ hk
 have l:=z x (by simp[B,Op.operands,Call.operands,h]);rw[hx]at l;obtain⟨vs,hv,E,A⟩:=l.fn_inv;have j:Lz σ ι H (c.args.toList.map ρ ++ g) (c.args.map a.eval++vs) :=
  Adt (λy hy=>z y (by simp only[B,Op.operands,Call.operands,h];simp at hy ⊢;exact .inr hy)) E A
 obtain⟨v,D,hc⟩:=hp σ (Tj σ w) W w (c.args.map a.eval++vs) s.lend ⟨j.1,λi b u h1 h2=>(j.2 i b u h1 h2).to0 (D8.1 k b (Fi h1))⟩;have q:(execOp a.eval o).run P w = .ok (.value v) w:=by simp only[execOp,B,resolve,h,hv,Deferred.ofValue,invoke,Sem.run_bind,Sem.run_pure,Result.andThen_ok,Array.empty_append,D]
 exact F4 q (hk σ ι v w (Le.refl _ _ _) s hc.of0)
theorem A1k {c:Call} {f:FuncId} {j h sz:Nat} {E:TypeId} {xs:List AV} (S:o.op = .call c) (k:c.callee = .value x) (hx:ρ x = .fn f g) (hj:(c.args.toList.map ρ ++ g)[j]? = some (.arr h xs.length 0 xs.length)) (hp:A8 P f ((c.args.toList.map ρ ++ g).set j (.sl sz xs)) r) (A:((c.args.toList.map ρ ++ g).set j (.sl sz xs)).all AV.free=true):Ch P o ρ ⟨r,[(h,.rows E sz xs)],[(h,.dead)]⟩:=by
 intro σ ι H F W w a next Q s J R hk
 have hh:H h = .rows E sz xs:=R (h,.rows E sz xs) ψ;obtain⟨⟨fn,hf,z,B⟩,hp⟩:=hp;have G:=J x (by simp[S,Op.operands,Call.operands,k]);rw[hx]at G;obtain⟨vs,hv,hl,M⟩:=G.fn_inv;have q:Lz σ ι H (c.args.toList.map ρ ++ g) (c.args.map a.eval++vs) :=
  Adt (λy hy=>J y (by simp only[S,Op.operands,Call.operands,k];simp at hy ⊢;exact .inr hy)) hl M
 obtain⟨N,D,Y,V⟩:=s.freeze hh;have l:Lz N ι (Ay H h .dead) ((c.args.toList.map ρ ++ g).set j (.sl sz xs)) (c.args.map a.eval++vs):=by
  refine⟨by rw[length_set];exact q.1,λi b u h1 h2=>?_⟩;rw[getElem?_set]at h1;split at h1
  .rename_i U;split at h1
   .cases h1;subst U;have hc:=q.2 j _ u hj h2;have:=V 0 xs.length _ ω (hc.arr_inv hh rfl);rw[drop_zero,take_of_length_le ω]at this;exact .cc this
   .cases h1
  .exact (q.2 i b u h1 h2).mono D
 have I:(execOp a.eval o).run P w = .ok (.enter f (c.args.map a.eval++vs)) w:=by have X:(callFunc f (c.args.map a.eval++vs)).run P w = .ok (.enter f (c.args.map a.eval++vs)) w:=(by unfold callFunc;simp only[Sem.run_bind,program,Sem.run,Result.andThen_ok,hf,z,B,Bool.false_eq_true,if_false,Sem.run_pure]);simp only[execOp,S,resolve,k,hv,Deferred.ofValue,invoke,Sem.run_bind,Sem.run_pure,Result.andThen_ok,Array.empty_append,X]
 unfold Oper.wp;rw[I];simp only[Oper.upon];refine (hp N (Tj N w) W w (c.args.map a.eval++vs) Y.lend ⟨l.1,λi b u h1 h2=>(l.2 i b u h1 h2).to0 (D8.1 A b (Fi h1))⟩).mono ?_;rintro e w' ⟨v,Z,rfl,L,s',hc⟩;exact hk Z ι v w' (D.trans ⟨L,λ_=>HLe.refl _ _⟩) (Y.unlend L s') hc.of0
end
variable {o:Bq} {es:Nat->Nat}
theorem Hn {a b:Nat} (h:Nat.blt a b=true):a<b:=G2 h
theorem Ajc:J9 es o = .none↔o = .none:=by cases o <;> simp[J9]
theorem Adu:(J9 es o).live=o.live:=by cases o <;> rfl
theorem Ajd {E:TypeId} {sz:Nat} {xs:List AV}:J9 es o = .rows E sz xs↔o = .rows E sz xs:=by cases o <;> simp[J9]
section
variable {es:Nat->Nat} {m:Nat} {σ:A7} {ι ιl:Ca} {H Hl:Hp}
variable {x:AV} {n:Nat} {v:Value}
theorem Ow (f:∀k,k<m->ιl k=ι (es k)) (A:∀k,k<m->H (es k)=J9 es (Hl k)) (hx:x.under0 m=true):Conc σ ι H (Ai2 es x) v↔Conc σ ιl Hl x v:=by
 have rows:∀k,k<m->∀E sz xs,H (es k) = .rows E sz xs↔Hl k = .rows E sz xs:=λk hk E sz xs=>by rw[A k hk];exact Ajd
 have some:∀k,k<m->(H (es k)≠.none↔Hl k≠.none):=λk hk=>by rw[A k hk];exact not_congr Ajc
 constructor
 .intro h;cases x with
  | val u=>cases h with|cc h=>exact .cc h
  | sl sz xs=>cases h with|cc h=>exact .cc h
  | fb s=>cases h with|cc h=>exact .cc h
  | ref cs=>cases h with| cc h=>exact .cc h| ref cs b off C E fr g y hc h1 z=>exact .ref cs b off C E fr g y hc h1 z
  | loc k off=>have hk:=Hn hx;cases h with| cc h=>cases h| loc _ _ b hb=>exact .loc k off b (by rw[f k hk];exact hb)
  | mp k=>have hk:=Hn hx;cases h with| cc h=>cases h| mp _ b hb=>exact .mp k b (by rw[f k hk];exact hb)
  | vec k n=>have hk:=Hn hx;cases h with| cc h=>cases h| vec _ _ b hb=>exact .vec k n b (by rw[f k hk];exact hb)
  | arr k q off len=>have hk:=Hn hx;cases h with| cc h=>cases h| arr _ _ _ _ _ l hv c=>exact .arr k q off len v ((some k hk).1 l) (λE sz xs e=>by rw[f k hk];exact hv E sz xs ((rows k hk E sz xs).2 e)) c
  | el k q i j=>have hk:=Hn hx;cases h with| cc h=>cases h| el _ _ _ _ _ l hv c=>exact .el k q i j v ((some k hk).1 l) (λE sz xs e=>by rw[f k hk];exact hv E sz xs ((rows k hk E sz xs).2 e)) c
  | agg=>cases hx
  | tup=>cases hx
  | fn=>cases hx
 .intro h;cases x with
  | val u=>cases h with|cc h=>exact .cc h
  | sl sz xs=>cases h with|cc h=>exact .cc h
  | fb s=>cases h with|cc h=>exact .cc h
  | ref cs=>cases h with| cc h=>exact .cc h| ref cs b off C E fr g y hc h1 z=>exact .ref cs b off C E fr g y hc h1 z
  | loc k off=>have hk:=Hn hx;cases h with| cc h=>cases h| loc _ _ b hb=>exact .loc (es k) off b (by rw[<-f k hk];exact hb)
  | mp k=>have hk:=Hn hx;cases h with| cc h=>cases h| mp _ b hb=>exact .mp (es k) b (by rw[<-f k hk];exact hb)
  | vec k n=>have hk:=Hn hx;cases h with| cc h=>cases h| vec _ _ b hb=>exact .vec (es k) n b (by rw[<-f k hk];exact hb)
  | arr k q off len=>have hk:=Hn hx;cases h with| cc h=>cases h| arr _ _ _ _ _ l hv c=>exact .arr (es k) q off len v ((some k hk).2 l) (λE sz xs e=>by rw[<-f k hk];exact hv E sz xs ((rows k hk E sz xs).1 e)) c
  | el k q i j=>have hk:=Hn hx;cases h with| cc h=>cases h| el _ _ _ _ _ l hv c=>exact .el (es k) q i j v ((some k hk).2 l) (λE sz xs e=>by rw[<-f k hk];exact hv E sz xs ((rows k hk E sz xs).1 e)) c
  | agg=>cases hx
  | tup=>cases hx
  | fn=>cases hx
theorem Iy (b:∀k,k<m->ιl k=ι (es k)) (g:∀k,k<m->H (es k)=J9 es (Hl k)) (hx:x.under1 m=true):Conc σ ι H (Ot es x) v↔Conc σ ιl Hl x v:=by
 have cells:∀{cs:List AV},cs.all (AV.under0 m)=true->∀(i:Nat) (c:AV),cs[i]? = some c->∀u,(Conc σ ι H (Ai2 es c) u↔Conc σ ιl Hl c u) :=
  λq i c hc u=>Ow b g (D8.1 q c (Fi hc));cases x with
 | fn f cs=>
  constructor
  .intro h;obtain⟨vs,rfl,l,h⟩:=h.fn_inv;exact .fn f cs vs (by simpa using l) λi c u h1 h2=>(cells hx i c h1 u).1 (h i _ u (by simp[h1]) h2)
  .intro h;obtain⟨vs,rfl,l,h⟩:=h.fn_inv;refine .fn f _ vs (by simpa using l) λi c u h1 h2=>?_;rw[getElem?_map]at h1;cases hc:cs[i]? with| none=>rw[hc]at h1;cases h1| some y=>rw[hc]at h1;cases h1;exact (cells hx i y hc u).2 (h i y u hc h2)
 | agg cs=>cases hx
 | tup cs=>cases hx
 | val u=>exact Ow (x:=(.val u)) b g hx
 | loc h off=>exact Ow (x:=(.loc h off)) b g hx
 | arr h k off len=>exact Ow (x:=(.arr h k off len)) b g hx
 | el h k i j=>exact Ow (x:=(.el h k i j)) b g hx
 | mp h=>exact Ow (x:=(.mp h)) b g hx
 | vec h n=>exact Ow (x:=(.vec h n)) b g hx
 | ref cs=>exact Ow (x:=(.ref cs)) b g hx
 | sl sz xs=>exact Ow (x:=(.sl sz xs)) b g hx
 | fb s=>exact Ow (x:=(.fb s)) b g hx
theorem A1l (h:x.under0 n=true):x.under1 n=true:=by cases x <;> first|exact h|cases h
theorem Adv (h:x.under1 n=true):x.under n=true:=by cases x with| fn f cs=>exact D8.2 λc hc=>A1l (D8.1 h c hc)| agg cs=>cases h| tup cs=>cases h| _=>exact h
theorem A1m (b:∀k,k<m->ιl k=ι (es k)) (g:∀k,k<m->H (es k)=J9 es (Hl k)) (hx:x.under2 m=true):Conc σ ι H (Ai3 es x) v↔Conc σ ιl Hl x v:=by
 have cells:∀{cs:List AV},cs.all (AV.under1 m)=true->∀(i:Nat) (c:AV),cs[i]? = some c->∀u,(Conc σ ι H (Ot es c) u↔Conc σ ιl Hl c u) :=
  λq i c hc u=>Iy b g (D8.1 q c (Fi hc));cases x with
 | agg cs=>
  constructor
  .intro h;obtain⟨vs,rfl,l,h⟩:=h.agg_inv;exact .agg cs vs (by simpa using l) λi c u h1 h2=>(cells hx i c h1 u).1 (h i _ u (by simp[h1]) h2)
  .intro h;obtain⟨vs,rfl,l,h⟩:=h.agg_inv;refine .agg _ vs (by simpa using l) λi c u h1 h2=>?_;rw[getElem?_map]at h1;cases hc:cs[i]? with| none=>rw[hc]at h1;cases h1| some y=>rw[hc]at h1;cases h1;exact (cells hx i y hc u).2 (h i y u hc h2)
 | tup cs=>cases hx
 | fn f cs=>exact Iy (x:=(.fn f cs)) b g hx
 | val u=>exact Iy (x:=(.val u)) b g hx
 | loc h off=>exact Iy (x:=(.loc h off)) b g hx
 | arr h k off len=>exact Iy (x:=(.arr h k off len)) b g hx
 | el h k i j=>exact Iy (x:=(.el h k i j)) b g hx
 | mp h=>exact Iy (x:=(.mp h)) b g hx
 | vec h n=>exact Iy (x:=(.vec h n)) b g hx
 | ref cs=>exact Iy (x:=(.ref cs)) b g hx
 | sl sz xs=>exact Iy (x:=(.sl sz xs)) b g hx
 | fb s=>exact Iy (x:=(.fb s)) b g hx
theorem Aov (g:∀k,k<m->ιl k=ι (es k)) (q:∀k,k<m->H (es k)=J9 es (Hl k)) (hx:x.under m=true):Conc σ ι H (ren es x) v↔Conc σ ιl Hl x v:=by
 have cells:∀{cs:List AV},cs.all (AV.under1 m)=true->∀(i:Nat) (c:AV),cs[i]? = some c->∀u,(Conc σ ι H (Ot es c) u↔Conc σ ιl Hl c u) :=
  λz i c hc u=>Iy g q (D8.1 z c (Fi hc));have b:∀{cs:List AV},cs.all (AV.under2 m)=true->∀(i:Nat) (c:AV),cs[i]? = some c->∀u,(Conc σ ι H (Ai3 es c) u↔Conc σ ιl Hl c u) :=
  λz i c hc u=>A1m g q (D8.1 z c (Fi hc));cases x with
 | agg cs=>
  constructor
  .intro h;obtain⟨vs,rfl,l,h⟩:=h.agg_inv;exact .agg cs vs (by simpa using l) λi c u h1 h2=>(cells hx i c h1 u).1 (h i _ u (by simp[h1]) h2)
  .intro h;obtain⟨vs,rfl,l,h⟩:=h.agg_inv;refine .agg _ vs (by simpa using l) λi c u h1 h2=>?_;rw[getElem?_map]at h1;cases hc:cs[i]? with| none=>rw[hc]at h1;cases h1| some y=>rw[hc]at h1;cases h1;exact (cells hx i y hc u).2 (h i y u hc h2)
 | tup cs=>
  constructor
  .intro h;obtain⟨vs,rfl,l,h⟩:=h.tup_inv;exact .tup cs vs (by simpa using l) λi c u h1 h2=>(b hx i c h1 u).1 (h i _ u (by simp[h1]) h2)
  .intro h;obtain⟨vs,rfl,l,h⟩:=h.tup_inv;refine .tup _ vs (by simpa using l) λi c u h1 h2=>?_;rw[getElem?_map]at h1;cases hc:cs[i]? with| none=>rw[hc]at h1;cases h1| some y=>rw[hc]at h1;cases h1;exact (b hx i y hc u).2 (h i y u hc h2)
 | fn f cs=>
  constructor
  .intro h;obtain⟨vs,rfl,l,h⟩:=h.fn_inv;exact .fn f cs vs (by simpa using l) λi c u h1 h2=>(cells hx i c h1 u).1 (h i _ u (by simp[h1]) h2)
  .intro h;obtain⟨vs,rfl,l,h⟩:=h.fn_inv;refine .fn f _ vs (by simpa using l) λi c u h1 h2=>?_;rw[getElem?_map]at h1;cases hc:cs[i]? with| none=>rw[hc]at h1;cases h1| some y=>rw[hc]at h1;cases h1;exact (cells hx i y hc u).2 (h i y u hc h2)
 | val u=>exact Iy (x:=(.val u)) g q hx
 | loc h off=>exact Iy (x:=(.loc h off)) g q hx
 | arr h k off len=>exact Iy (x:=(.arr h k off len)) g q hx
 | el h k i j=>exact Iy (x:=(.el h k i j)) g q hx
 | mp h=>exact Iy (x:=(.mp h)) g q hx
 | vec h n=>exact Iy (x:=(.vec h n)) g q hx
 | ref cs=>exact Iy (x:=(.ref cs)) g q hx
 | sl sz xs=>exact Iy (x:=(.sl sz xs)) g q hx
 | fb s=>exact Iy (x:=(.fb s)) g q hx
theorem Aow (z:∀k,k<m->ιl k=ι (es k)) (A:∀k,k<m->H (es k)=J9 es (Hl k)) {F D:A7} {w:World} {k:Nat} (hk:k<m) (hu:(Hl k).under m=true) (h:∀b,(Hl k).live=true->(ιl k).block? = some b->(F b=none↔D b=none)):Cr σ ι H F w (es k)↔Cr σ ιl Hl D w k:=by
 have cells:∀{cs:List AV},cs.all (AV.under1 m)=true->∀(i:Nat) (c:AV),cs[i]? = some c->∀u,(Conc σ ι H (Ot es c) u↔Conc σ ιl Hl c u) :=
  λs i c hc u=>Iy z A (D8.1 s c (Fi hc));unfold Cr;rw[A k hk,<-z k hk];cases hx:Hl k with
 | none=>exact Iff.rfl
 | dead=>exact Iff.rfl
 | map l=>
  simp only[J9];rw[hx]at h;constructor
  .rintro⟨b,M,q,f,h1,h2,h3⟩;exact⟨b,M,q,f,h1,(h b rfl (by rw[f];rfl)).1 h2,h3⟩
  .rintro⟨b,M,q,f,h1,h2,h3⟩;exact⟨b,M,q,f,h1,(h b rfl (by rw[f];rfl)).2 h2,h3⟩
 | rows E sz xs=>
  simp only[J9];rw[hx]at h;refine and_congr Iff.rfl (and_congr Iff.rfl (or_congr Iff.rfl ?_));constructor
  .rintro⟨b,j,C,f,h1,h2,h3⟩;exact⟨b,j,C,f,h1,(h b rfl (by rw[f];rfl)).1 h2,h3⟩
  .rintro⟨b,j,C,f,h1,h2,h3⟩;exact⟨b,j,C,f,h1,(h b rfl (by rw[f];rfl)).2 h2,h3⟩
 | cells E cs=>
  simp only[J9];rw[hx]at h hu;constructor
  .rintro⟨b,C,f,h1,h2,h3,y,x⟩;refine⟨b,C,f,h1,(h b rfl (by rw[f];rfl)).1 h2,h3,by simpa using y,λi c v hc hv=>(cells hu i c hc v).1 (x i _ v (by simp[hc]) hv)⟩
  .rintro⟨b,C,f,h1,h2,h3,y,x⟩;refine⟨b,C,f,h1,(h b rfl (by rw[f];rfl)).2 h2,h3,by simpa using y,λi c v hc hv=>?_⟩;rw[getElem?_map]at hc;cases g:cs[i]? with| none=>rw[g]at hc;cases hc| some B=>rw[g]at hc;cases hc;exact (cells hu i B g v).2 (x i B v g hv)
end
variable {b:List Bq} {k:Nat}
theorem Aox {n:Nat}:∀{l:List Nat} {k:Nat},Ps n l=true->k<l.length->Dt n l k<n
 | [],k,_,h=>by simp at h
 | h::l,0,b,_=>by simp only[Ps,Fe]at b;exact Hn b.1.1
 | h::l,k+1,b,hk=>by simp only[Ps,Fe]at b;exact Aox (l:=l) b.2 (by simpa using hk)
theorem Yr {n:Nat}:∀{l:List Nat} {k:Nat},l.length<=k->Dt n l k=n+(k-l.length)
 | [],k,_=>by simp[Dt]
 | h::l,0,hk=>by simp at hk
 | h::l,k+1,hk=>by simp only[Dt,length_cons];rw[Yr (l:=l) (by simpa using hk)];omega
theorem Aje {n:Nat}:∀{l:List Nat} {k:Nat},k<l.length->Dt n l k∈l
 | [],k,h=>by simp at h
 | h::l,0,_=>by simp[Dt]
 | h::l,k+1,hk=>by simp only[Dt];exact mem_cons_of_mem _ (Aje (by simpa using hk))
theorem Aoy {n:Nat}:∀{l:List Nat} {j k:Nat},Ps n l=true->Dt n l j=Dt n l k->j=k
 | [],j,k,_,h=>by simp only[Dt]at h;omega
 | h::l,0,0,_,_=>rfl
 | h::l,j+1,k+1,b,e=>by simp only[Ps,Fe]at b;simp only[Dt]at e;rw[Aoy (l:=l) b.2 e]
 | h::l,0,k+1,b,e=>by
  simp only[Ps,Fe]at b;simp only[Dt]at e;rcases Nat.lt_or_ge k l.length with hk|hk
  .have:=Aje (n:=n) hk;rw[<-e]at this;simp[this]at b
  .have h1:=Yr (n:=n) hk;have h2:=Hn b.1.1;omega
 | h::l,j+1,0,b,e=>by
  simp only[Ps,Fe]at b;simp only[Dt]at e;rcases Nat.lt_or_ge j l.length with hk|hk
  .have:=Aje (n:=n) hk;rw[e]at this;simp[this]at b
  .have h1:=Yr (n:=n) hk;have h2:=Hn b.1.1;omega
theorem Aoz {es:Nat->Nat}:∀{os:List Bq} {k i:Nat} {o:Bq},os[i]? = some o->(es (k+i),J9 es o)∈Fy es k os
 | [],k,i,o,h=>by simp at h
 | p::os,k,0,o,h=>by simp at h;subst h;simp[Fy]
 | p::os,k,i+1,o,h=>by simp only[Fy];refine mem_cons_of_mem _ ?_;have:=Aoz (es:=es) (k:=k+1) (i:=i) (by simpa using h);rwa [show k+(i+1)=k+1+i by omega]
theorem Adw {es:Nat->Nat}:∀{os:List Bq} {k x:Nat} {H:Hp},(∀i,i<os.length->es (k+i)≠x)->Ci H (Fy es k os) x=H x
 | [],k,x,H,h=>rfl
 | q::os,k,x,H,h=>by simp only[Fy,Ci];rw[Adw (λi hi=>by rw[show k+1+i=k+(i+1) by omega];exact h (i+1) (by simpa using hi)),Cq _ _ (Ne.symm (by simpa using h 0 ψ))]
theorem Ao0 {es:Nat->Nat} (b:∀i j,es i=es j->i=j):∀{os:List Bq} {k i:Nat} {o:Bq} {H:Hp},os[i]? = some o->Ci H (Fy es k os) (es (k+i))=J9 es o
 | [],k,i,o,H,h=>by simp at h
 | q::os,k,0,o,H,h=>by simp at h;subst h;simp only[Fy,Ci];rw[Adw (λi hi e=>by have:=b _ _ e;omega)];exact Ce _ _ _
 | q::os,k,i+1,o,H,h=>by simp only[Fy,Ci];rw[show k+(i+1)=k+1+i by omega];exact Ao0 b (by simpa using h)
theorem Ao1 {es:Nat->Nat}:∀{c k i:Nat},i<c->(es (k+i),Bq.none)∈Cn es k c
 | 0,k,i,h=>ω
 | c+1,k,0,h=>by simp[Cn]
 | c+1,k,i+1,h=>by simp only[Cn];refine mem_cons_of_mem _ ?_;have:=Ao1 (es:=es) (c:=c) (k:=k+1) (i:=i) ω;rwa [show k+(i+1)=k+1+i by omega]
theorem Ao2 {es:Nat->Nat}:∀{c k:Nat} {p:Nat×Bq},p∈Cn es k c->∃i,i<c/\p=(es (k+i),Bq.none)
 | 0,k,p,h=>by simp[Cn]at h
 | c+1,k,p,h=>by
  simp only[Cn,mem_cons]at h;rcases h with rfl|h
  .exact⟨0,ω,rfl⟩
  .obtain⟨i,h1,h2⟩:=Ao2 h;exact⟨i+1,ω,by rw[h2,show k+(i+1)=k+1+i by omega]⟩
theorem Ou.spec {H:Hp}:∀{l:List (Nat×Bq)},Ou H l->∀p∈l,H p.1=p.2
 | [],_,p,hp=>by cases hp
 | q::l,h,p,hp=>by
  rcases mem_cons.1 hp with rfl|hp
  .exact h.1
  .exact Ou.spec h.2 p hp
theorem Ys (h:k<b.length):b[k]? = some (hp b k):=by simp[hp,h]
theorem Rf (h:b.length<=k):hp b k = .none:=by simp[hp,getElem?_eq_none h]
section
variable {P:Program} {o:Oper} {ρ:Operand->AV} {a:Act} {w w':World}
open Classical in
theorem Ao3 {n:Nat} {c:Call} {x:Operand} {f:FuncId} {caps:List AV} {l:List Nat} {largs:List AV} {hs:List Bq} {r:AV} {hs':List Bq} (ho:o.op = .call c) (hcal:c.callee = .value x) (hx:ρ x = .fn f caps) (hp0:Bo P f largs hs r hs') (ha:largs.map (ren (Dt n l))=c.args.toList.map ρ ++ caps) (ok:Nz n l largs hs r hs'=true) : Ch P o ρ ⟨ren (Dt n l) r,Fy (Dt n l) 0 hs++Cn (Dt n l) l.length (hs'.length-l.length),Fy (Dt n l) 0 hs'⟩:=by
 intro σ ι H F W w a next Q s hop hrd hk
 simp only[Nz,Fe]at ok;obtain⟨⟨⟨⟨⟨⟨o1,o2⟩,o3⟩,o4⟩,o5⟩,o6⟩,o7⟩:=ok;have o2:=Gk o2;have o3:=G2 o3;generalize hes:Dt n l=es at *;have inj:∀i j,es i=es j->i=j:=λi j e=>by rw[<-hes]at e;exact Aoy o1 e
 obtain⟨⟨fn,hf,hname,hbody⟩,hpp⟩:=hp0;have hxv:=hop x (by simp[ho,Op.operands,Call.operands,hcal]);rw[hx]at hxv;obtain⟨vs,hv,hl,hcap⟩:=hxv.fn_inv;have hall:Lz σ ι H (c.args.toList.map ρ ++ caps) (c.args.map a.eval++vs) :=
  Adt (λy hy=>hop y (by simp only[ho,Op.operands,Call.operands,hcal];simp at hy ⊢;exact .inr hy)) hl hcap
 have hrun:(execOp a.eval o).run P w = .ok (.enter f (c.args.map a.eval++vs)) w:=by have hcf:(callFunc f (c.args.map a.eval++vs)).run P w = .ok (.enter f (c.args.map a.eval++vs)) w:=(by unfold callFunc;simp only[Sem.run_bind,program,Sem.run,Result.andThen_ok,hf,hname,hbody,Bool.false_eq_true,if_false,Sem.run_pure]);simp only[execOp,ho,resolve,hcal,hv,Deferred.ofValue,invoke,Sem.run_bind,Sem.run_pure,Result.andThen_ok,Array.empty_append,hcf]
 unfold Oper.wp;rw[hrun];simp only[Oper.upon];have hgiven:∀k,k<hs.length->H (es k)=J9 es (hp hs k):=by intro k hk';have:=hrd _ (mem_append_left _ (Aoz (es:=es) (k:=0) (Ys hk')));simpa using this
 have hnew:∀k,hs.length<=k->k<hs'.length->H (es k) = .none:=by intro k h1 h2;have:=hrd _ (mem_append_right _ (Ao1 (es:=es) (k:=l.length) (c:=hs'.length-l.length) (i:=k-l.length) ω));rwa [show l.length+(k-l.length)=k by omega]at this
 let ιl:Ca:=λk=>if k<hs.length then ι (es k) else .none
 let mine:Nat->Prop:=λb=>∃k,k<hs.length/\(hp hs k).live=true/\(ι (es k)).block? = some b
 let Fl:A7:=λb=>if σ b=none/\¬mine b then w.heap[b]? else none
 have hιl:∀k,k<hs.length->ιl k=ι (es k):=λk h=>if_pos h;have hlive:∀k,k<hs.length->(H (es k)).live=(hp hs k).live:=λk h=>by rw[hgiven k h,Adu]
 have hunder:∀k,k<hs.length->(hp hs k).under hs.length=true:=by intro k h;have:=D8.1 o5 _ (Fi (Ys h));rw[o2];exact this
 have hFb:∀k,k<hs.length->∀b,(hp hs k).live=true->(ιl k).block? = some b->F b=none/\Fl b=none:=by intro k h b h1 h2;rw[hιl k h]at h2;exact⟨(s.block (by rw[hlive k h];exact h1) h2).2.2,if_neg (λhn=>hn.2 ⟨k,h,h1,h2⟩)⟩
 have sl:St σ ιl (hp hs) Fl W w:=by
  refine⟨s.sto,λb ob hb=>?_,λk=>?_,λk k' b h1 h2 h3 h4=>?_,s.os,s.tape,s.output,s.glo,s.drw⟩
  .by_cases hc:σ b=none/\¬mine b
   .simp only[Fl,if_pos hc]at hb;exact⟨hb,hc.1⟩
   .simp only[Fl,if_neg hc]at hb;cases hb
  .by_cases hk':k<hs.length
   .refine (Aow (es:=es) hιl hgiven hk' (hunder k hk') (λb h1 h2=>?_)).1 (s.obj (es k));obtain⟨h3,h4⟩:=hFb k hk' b h1 h2;rw[h3,h4]
   .unfold Cr;rw[Rf ω];exact if_neg hk'
  .have lt:∀k,(hp hs k).live=true->k<hs.length:=by
    intro k h;rcases Nat.lt_or_ge k hs.length with h'|h'
    .exact h'
    .rw[Rf h']at h;cases h
   have k1:=lt k h1;have k2:=lt k' h2;rw[hιl k k1]at h3;rw[hιl k' k2]at h4;exact inj _ _ (s.inj _ _ b (by rw[hlive k k1];exact h1) (by rw[hlive k' k2];exact h2) h3 h4)
 have hargs:Lz σ ιl (hp hs) largs (c.args.map a.eval++vs):=by rw[<-ha]at hall;refine⟨by simpa using hall.1,λi b u h1 h2=>?_⟩;have:=hall.2 i (ren es b) u (by simp[h1]) h2;refine (Aov (es:=es) hιl hgiven ?_).1 this;rw[o2];exact D8.1 o4 b (Fi h1)
 refine (hpp σ Fl W w ιl (c.args.map a.eval++vs) sl hargs).mono ?_;rintro e w' ⟨v,σ',ι'l,rfl,le',s',hc'⟩;let ι':Ca:=λh=>if hh:∃k,k<hs'.length/\es k=h then ι'l hh.choose else ι h
 have hι':∀k,k<hs'.length->ι'l k=ι' (es k):=by intro k h;have hh:∃k',k' < hs'.length/\es k'=es k:=⟨k,h,rfl⟩;have:hh.choose=k:=inj _ _ hh.choose_spec.2;simp only[ι',dif_pos hh,this]
 have hιo:∀h,(∀k,k<hs'.length->es k≠h)->ι' h=ι h:=by intro h hno;exact dif_neg (λ⟨k,k1,k2⟩=>hno k k1 k2)
 have hH':∀k,k<hs'.length->Ci H (Fy es 0 hs') (es k)=J9 es (hp hs' k):=by intro k h;have:=Ao0 (es:=es) inj (k:=0) (H:=H) (Ys h);simpa using this
 have hHo:∀h,(∀k,k<hs'.length->es k≠h)->Ci H (Fy es 0 hs') h=H h:=by intro h hno;exact Adw (λi hi=>by simpa using hno i hi)
 have hle2:hs.length<=hs'.length:=ω;have lel:Le σ ι H σ' ι' (Ci H (Fy es 0 hs')):=by
  refine⟨le'.sto,λh=>?_⟩;by_cases hh:∃k,k<hs'.length/\es k=h
  .obtain⟨k,hk',rfl⟩:=hh;rw[<-hι' k hk',hH' k hk'];by_cases hk2:k<hs.length
   .have q:=le'.obj k;rw[hιl k hk2]at q;rw[hgiven k hk2];refine⟨q.box,λh=>?_,λh1 E sz xs h2=>?_⟩
    .rw[Ne,Ajc]at h ⊢;exact q.some h
    .rw[Ne,Ajc]at h1;rw[Ajd]at h2;obtain⟨E0,sz0,xs0,e0,r0⟩:=q.rows h1 E sz xs h2;exact⟨E0,sz0,xs0,Ajd.2 e0,r0⟩
   .have h0:=hnew k ω hk';have:ι (es k) = .none:=(by have:=s.obj (es k);unfold Cr at this;rw[h0]at this;exact this);rw[h0,this];exact HLe.of_none
  .have hno:∀k,k<hs'.length->es k≠h:=λk h1 h2=>hh ⟨k,h1,h2⟩;rw[hιo h hno,hHo h hno];exact HLe.refl _ _
 have keep:∀b,σ b=none->¬mine b->∀ob,w.heap[b]? = some ob->w'.heap[b]? = some ob/\σ' b=none/\Fl b=some ob:=by intro b h1 h2 ob h3;have:Fl b=some ob:=(by simp only[Fl];rw[if_pos ⟨h1,h2⟩];exact h3);exact⟨(s'.fra b ob this).1,(s'.fra b ob this).2,this⟩
 have notmine:∀h b,(∀k,k<hs'.length->es k≠h)->(H h).live=true->(ι h).block? = some b->¬mine b:=by rintro h b hno h1 h2 ⟨k,k1,k2,k3⟩;exact hno k ω (s.inj _ _ b (by rw[hlive k k1];exact k2) h1 k3 h2)
 have notmineF:∀b ob,F b=some ob->¬mine b:=by rintro b ob hb ⟨k,k1,k2,k3⟩;have:=(s.block (by rw[hlive k k1];exact k2) k3).2.2;rw[this]at hb;cases hb
 have hunder':∀k,k<hs'.length->(hp hs' k).under hs'.length=true:=λk h=>D8.1 o7 _ (Fi (Ys h));have st':St σ' ι' (Ci H (Fy es 0 hs')) F W w':=by
  refine⟨s'.sto,λb ob hb=>?_,λh=>?_,λh h' b h1 h2 h3 h4=>?_,s'.os,s'.tape,s'.output,s'.glo,s'.drw⟩
  .obtain⟨h1,h2⟩:=s.fra b ob hb;obtain⟨k1,k2,_⟩:=keep b h2 (notmineF b ob hb) ob h1;exact⟨k1,k2⟩
  .by_cases hh:∃k,k<hs'.length/\es k=h
   .obtain⟨k,hk',rfl⟩:=hh;refine (Aow (es:=es) hι' hH' hk' (hunder' k hk') (λb h1 h2=>?_)).2 (s'.obj k);have hf0:=(s'.block h1 h2).2.2;refine⟨λ_=>hf0,λ_=>?_⟩;cases hFb:F b with| none=>rfl| some ob=>obtain⟨h3,h4⟩:=s.fra b ob hFb;have:=(keep b h4 (notmineF b ob hFb) ob h3).2.2;rw[hf0]at this;cases this
   .have hno:∀k,k<hs'.length->es k≠h:=λk h1 h2=>hh ⟨k,h1,h2⟩;have hob:=s.obj h;have hnm:=λb h1 h2=>notmine h b hno h1 h2;unfold Cr at hob ⊢;rw[hHo h hno,hιo h hno];cases hx:H h with
    | none=>rw[hx]at hob;exact hob
    | dead=>trivial
    | cells E cs=>rw[hx]at hob hnm;obtain⟨b,C,e1,h1,h2,h3,h4,h5⟩:=hob;obtain⟨k1,k2,_⟩:=keep b h1 (hnm b rfl (by rw[e1];rfl)) _ h3;exact⟨b,C,e1,k2,h2,k1,h4,λi c v x y=>(h5 i c v x y).mono lel⟩
    | rows E sz xs=>
     rw[hx]at hob hnm;obtain⟨z1,z2,⟨e1,e2⟩|⟨b,tot,C,e1,h1,h2,h3,h4,h5,h6⟩⟩:=hob
     .exact⟨z1,z2,.inl ⟨e1,e2⟩⟩
     .obtain⟨k1,k2,_⟩:=keep b h1 (hnm b rfl (by rw[e1];rfl)) _ h3;exact⟨z1,z2,.inr ⟨b,tot,C,e1,k2,h2,k1,h4,h5,h6.mono le'.sto⟩⟩
    | map l=>rw[hx]at hob hnm;obtain⟨b,M,q,e1,h1,h2,h3,h4⟩:=hob;obtain⟨k1,k2,_⟩:=keep b h1 (hnm b rfl (by rw[e1];rfl)) _ h3;exact⟨b,M,q,e1,k2,h2,k1,h4.mono le'.sto⟩
  .have Yt:∀k,k<hs'.length->∀h,(∀k,k<hs'.length->es k≠h)->(Ci H (Fy es 0 hs') (es k)).live=true->(Ci H (Fy es 0 hs') h).live=true->(ι' (es k)).block? = some b->(ι' h).block? = some b->False:=(by intro k hk' h hno g1 g2 g3 g4;rw[hH' k hk',Adu]at g1;rw[hHo h hno]at g2;rw[<-hι' k hk']at g3;rw[hιo h hno]at g4;have hf0:=(s'.block g1 g3).2.2;have hb:=s.block g2 g4;have hget:w.heap[b]? = some w.heap[b]:=(by simp[hb.1]);have:=(keep b hb.2.1 (notmine h b hno g2 g4) _ hget).2.2;rw[hf0]at this;cases this);by_cases hh:∃k,k<hs'.length/\es k=h
   .obtain⟨k,hk',rfl⟩:=hh;by_cases hh':∃k,k<hs'.length/\es k=h'
    .obtain⟨k',hk2,rfl⟩:=hh';rw[hH' k hk',Adu]at h1;rw[hH' k' hk2,Adu]at h2;rw[<-hι' k hk']at h3;rw[<-hι' k' hk2]at h4;rw[s'.inj k k' b h1 h2 h3 h4]
    .exact (Yt k hk' h' (λk h1 h2=>hh' ⟨k,h1,h2⟩) h1 h2 h3 h4).elim
   .have hno:∀k,k<hs'.length->es k≠h:=λk h1 h2=>hh ⟨k,h1,h2⟩;by_cases hh':∃k,k<hs'.length/\es k=h'
    .obtain⟨k',hk2,rfl⟩:=hh';exact (Yt k' hk2 h hno h2 h1 h4 h3).elim
    .have hno':∀k,k<hs'.length->es k≠h':=λk h1 h2=>hh' ⟨k,h1,h2⟩;rw[hHo h hno]at h1;rw[hHo h' hno']at h2;rw[hιo h hno]at h3;rw[hιo h' hno']at h4;exact s.inj h h' b h1 h2 h3 h4
 exact hk σ' ι' v w' lel st' ((Aov (es:=es) hι' hH' o6).2 hc')
end
section
variable {P:Program} {T:Dc} {an:Nat->Ann} {n:Nat} {o:Oper} {ρ:Operand->AV} {H:Hp} {K:Eff->Nat->Prop}
variable {r:AV} {b:Bq} {l:List Nat} {x y:Operand} {α:Type} {t:TypeId}
theorem Gq {b:Bool} {X:Prop} (h:bif b then X else False):b=true/\X:=by cases b with| false=>exact h.elim| true=>exact⟨rfl,h⟩
theorem Adx {x:AV} (h:M1 x=true):x = .val (.slice none 0 0):=by
 unfold M1 at h;split at h
 .rfl
 .cases h
theorem A1n {x:AV} (h:Yq x=true):∀vs,x≠.val (.agg vs):=by intro vs e;subst e;cases h
theorem Ajf {i:TI} (h1:Nat.beq (Gd i).cells.length i.zero.length=true) (h2:Yq (Gd i)=true) (h3:Ma i.size (Gd i)=true):(Gd i).cells=i.zero.map .val:=by
 have _:=h1;have _:=h3
 unfold Gd at h2 ⊢;cases hd:i.d with
 | struct fs=>rfl
 | _=>
  rw[hd]at h2;cases b:i.zero with
  | nil=>rfl
  | cons v l=>
   cases l with
   | cons _ _=>rfl
   | nil=>rw[b]at h2;cases v <;> first|rfl|cases h2
theorem Rg {c:Array α} {x y:α} (h:c.toList = [x,y]):c = #[x,y]:=by apply Array.ext';simpa using h
theorem V6 {c:Array α} {x:α} (h:c.toList = [x]):c = #[x]:=by apply Array.ext';simpa using h
theorem Tk {c:Call} {b:Builtin} {xs:Array Operand} {ts:Array TypeId} (h1:c.callee = .builtin b) (h2:c.args=xs) (h3:c.argTypes=ts):c = {callee:=.builtin b,args:=xs,argTypes:=ts}:=by cases c;simp_all
def E8 (H:Hp) (n:Nat):Prop:=∀m,n<=m->H m = .none
def N3 (P:Program) (o:Oper) (ρ:Operand->AV) (H:Hp) (n:Nat) (K:Eff->Nat->Prop):Prop := ∃b m,Ch P o ρ b/\(∀p∈b.rd,H p.1=p.2)/\K b m/\n<=m/\E8 (Ci H b.wr) m
theorem Dx (b:E8 H n) (h:Ch P o ρ ⟨r,[],[]⟩) (k:K ⟨r,[],[]⟩ n):N3 P o ρ H n K:=⟨_,n,h,ψ,k,Nat.le_refl _,b⟩
theorem M2 (c:E8 H n) {x:Nat} (h:Ch P o ρ ⟨r,[(x,b)],[]⟩) (hx:H x=b) (k:K ⟨r,[(x,b)],[]⟩ n):N3 P o ρ H n K := ⟨_,n,h,by simpa using hx,k,Nat.le_refl _,c⟩
theorem M3 (g:E8 H n) {x:Nat} {c:Bq} (h:Ch P o ρ ⟨r,[(x,c)],[(x,b)]⟩) (hx:H x=c) (f:c≠.none) (k:K ⟨r,[(x,c)],[(x,b)]⟩ n):N3 P o ρ H n K:=by
 refine⟨_,n,h,by simpa using hx,k,Nat.le_refl _,λm i=>?_⟩;have j:x<n:=by
  rcases Nat.lt_or_ge x n with h|h
  .exact h
  .exact (f (hx ▸ g x h)).elim
 show Ay H x b m=_;rw[Cq _ _ ω];exact g m i
theorem Pu (c:E8 H n) (h:Ch P o ρ ⟨r,[(n,.none)],[(n,b)]⟩) (k:K ⟨r,[(n,.none)],[(n,b)]⟩ (n+1)):N3 P o ρ H n K:=by refine⟨_,n+1,h,by simpa using c n (Nat.le_refl _),k,ω,λm f=>?_⟩;show Ay H n b m=_;rw[Cq _ _ ω];exact c m ω
theorem Ao4 {H:Hp}:∀{l:List (Nat×Bq)},(∀p∈l,H p.1=p.2)->Ci H l=H
 | [],_=>rfl
 | p::l,h=>by
  have e:Ay H p.1 p.2=H:=by
   funext q;by_cases hq:q=p.1
   .subst hq;rw[Ce];exact (h p ψ).symm
   .exact Cq _ _ hq
  show Ci (Ay H p.1 p.2) l=H;rw[e];exact Ao4 λq hq=>h q (by simp[hq])
theorem A1o {c:Call} {f:FuncId} {h:List AV} {b:List AV} {g:List Bq} (A:o.op = .call c) (j:c.callee = .value x) (hx:ρ x = .fn f h) (q:Bo P f b g r g) (ha:b.map (ren (Dt n l))=c.args.toList.map ρ ++ h) (k:Nz n l b g r g=true):Ch P o ρ ⟨ren (Dt n l) r,Fy (Dt n l) 0 g,[]⟩:=by
 intro σ ι H F W w a next Q s u i hk
 have E:g.length=l.length:=by simp only[Nz,Fe]at k;exact Gk k.1.1.1.1.1.2
 have D:g.length-l.length=0:=ω;refine Ao3 A j hx q ha k σ ι H F W w a next Q s u (λp hp=>?_) (λy z v w' le s' hv=>?_)
 .rw[D]at hp;rcases mem_append.1 hp with hp|hp
  .exact i p hp
  .simp[Cn]at hp
 .have B:Ci H (Fy (Dt n l) 0 g)=H:=Ao4 i;dsimp only at le s' hv;rw[B]at le s' hv;exact hk y z v w' le s' hv
theorem A1p (j:E8 H n) {c:List AV} {f b:List Bq} (g:Nz n l c f r b=true) (hh:Ou H (Fy (Dt n l) 0 f)) (h:Ch P o ρ ⟨ren (Dt n l) r,Fy (Dt n l) 0 f++Cn (Dt n l) l.length (b.length-l.length),Fy (Dt n l) 0 b⟩) (k:K ⟨ren (Dt n l) r,Fy (Dt n l) 0 f++Cn (Dt n l) l.length (b.length-l.length),Fy (Dt n l) 0 b⟩ (n+(b.length-l.length))):N3 P o ρ H n K:=by
 simp only[Nz,Fe]at g;have s:=g.1.1.1.1.1.1;have u:=G2 g.1.1.1.1.2;refine⟨_,n+(b.length-l.length),h,λp hp=>?_,k,ω,λq hq=>?_⟩
 .rcases mem_append.1 hp with hp|hp
  .exact hh.spec p hp
  .obtain⟨i,hi,rfl⟩:=Ao2 hp;refine j _ ?_;show n<=Dt n l (l.length+i);rw[Yr ω];omega
 .show Ci H (Fy (Dt n l) 0 b) q = .none;rw[Adw (λi hi e=>?_)]
  .exact j q ω
  .rcases Nat.lt_or_ge (0+i) l.length with h1|h1
   .have:=Aox s h1;omega
   .have:=Yr (n:=n) h1;omega
theorem A1q (l:Dd P T) (g:E8 H n) (f:o.op = .load t x) (h:Fg P T an n o ρ H K):N3 P o ρ H n K:=by
 unfold Fg at h;rw[f]at h;dsimp only at h;split at h
 .rename_i i ht;split at h
  .rename_i cs hx;cases b:i.isAgg with
   | true=>rw[b]at h;simp only[cond_true]at h;obtain⟨h1,h2⟩:=Gq h;exact Dx g (Ay1 l f ht b hx (G2 h1)) h2
   | false=>
    rw[b]at h;simp only[cond_false]at h;split at h
    .exact Dx g (Ay0 l f ht b hx) h
    .exact h.elim
  .rename_i hd off hx;split at h
   .rename_i E cs hh;cases b:i.isAgg with
    | true=>rw[b]at h;simp only[cond_true]at h;obtain⟨h1,h2⟩:=Gq h;exact M2 g (Ay3 l f ht b hx (G2 h1)) hh h2
    | false=>
     rw[b]at h;simp only[cond_false]at h;split at h
     .rename_i c hc;exact M2 g (Ay2 l f ht b hx hc) hh h
     .exact h.elim
   .exact h.elim
  .rename_i hd k q j hx;split at h
   .rename_i E sz xs hh;obtain⟨y,hk,hy,h⟩:=h;cases b:i.isAgg with
    | true=>rw[b]at h;simp only[cond_true]at h;obtain⟨h1,h2⟩:=Gq h;exact M2 g (Ay5 l f ht b hx hk hy (G2 h1)) hh h2
    | false=>
     rw[b]at h;simp only[cond_false]at h;split at h
     .rename_i c hc;exact M2 g (Ay4 l f ht b hx hk hy hc) hh h
     .exact h.elim
   .exact h.elim
  .exact h.elim
 .exact h.elim
theorem A1r (g:Dd P T) (f:E8 H n) (c:o.op = .store t x y) (h:Fg P T an n o ρ H K):N3 P o ρ H n K:=by
 unfold Fg at h;rw[c]at h;dsimp only at h;split at h
 .rename_i i ht;split at h
  .rename_i hd off hx;split at h
   .rename_i E cs hh;obtain⟨h1,h2⟩:=Gq h;simp only[Fe]at h1;exact M3 f (Ay7 g c ht hx (Gk h1.1.1) (G2 h1.1.2) h1.2) hh (by intro e;cases e) h2
   .exact h.elim
  .rename_i hd k q j hx;split at h
   .rename_i E sz xs hh;obtain⟨z,hk,l,h⟩:=h;obtain⟨h1,h2⟩:=Gq h;simp only[Fe]at h1;obtain⟨⟨⟨⟨g1,g2⟩,g3⟩,g4⟩,g5⟩:=h1;rw[Adr,V5]at h2;obtain⟨s,b,h2⟩:=h2;subst b;exact M3 f (Ay9 g c ht hx hk l (Gk g1) (G2 g2) (G2 g3) g4 (A1n g5)) hh (by intro e;cases e) h2
   .exact h.elim
  .exact h.elim
 .exact h.elim
theorem A1s (l:Dd P T) (g:E8 H n) {op:BinOp} {q:TypeId} (f:o.op = .binOp op t x y q) (h:Fg P T an n o ρ H K):N3 P o ρ H n K:=by
 unfold Fg at h;rw[f]at h;dsimp only at h;split at h
 .rename_i k a j b hx hy;split at h
  .obtain⟨c,h1,h2,h3⟩:=h;exact Dx g (Azj f hx hy h1 h2) h3
  .obtain⟨c,h1,h2,h3⟩:=h;exact Dx g (Azi f hx hy h1 h2) h3
  .replace h:=Gq h;obtain⟨hk,h⟩:=h;have hk:k=j:=(by simpa using hk);subst hk;split at h
   .obtain⟨c,h1,h2⟩:=h;exact Dx g (Azb f hx hy h1) h2
   .obtain⟨c,h1,h2⟩:=h;exact Dx g (Azc f hx hy h1) h2
   .obtain⟨c,h1,h2⟩:=h;exact Dx g (Azd f hx hy h1) h2
   .obtain⟨c,h1,h2,h3⟩:=h;exact Dx g (Aze f hx hy h1 h2) h3
   .obtain⟨c,h1,h2,h3⟩:=h;exact Dx g (Azf f hx hy h1 h2) h3
   .split at h
    .rename_i t' i;exact Dx g (Azg f hx hy i) h
    .split at h
     .rename_i c hc;exact Dx g (Azh f hx hy hc) h
     .exact h.elim
 .rename_i a b hx hy;split at h
  .rename_i A z u ht;split at h
   .rename_i t' i;exact Dx g (Azm l f ht rfl hx hy i) h
   .exact h.elim
  .exact h.elim
 .rename_i xs ys hx hy;split at h
  .rename_i s h1;split at h
   .rename_i vs h2;split at h
    .obtain⟨b,hb,h⟩:=h;exact Dx g (Aoe f hx hy h1 h2 hb (.inl ⟨rfl,rfl⟩)) h
    .obtain⟨b,hb,h⟩:=h;exact Dx g (Aoe f hx hy h1 h2 hb (.inr ⟨rfl,rfl⟩)) h
    .exact h.elim
   .exact h.elim
  .exact h.elim
 .rename_i k a j b hx hy;replace h:=Gq h;obtain⟨hk,h⟩:=h;have hk:k=j:=(by simpa using hk);subst hk;obtain⟨c,h1,h2⟩:=h;exact Dx g (Azt f hx hy h1) h2
 .rename_i a b hx hy;split at h
  .obtain⟨h1,h2⟩:=h;exact Dx g (Azp f hx hy h1) h2
  .split at h
   .rename_i t' i;exact Dx g (Azo f hx hy i) h
   .exact h.elim
 .rename_i p G E D B hx hy;split at h
  .split at h
   .rename_i M L J I ht;exact Dx g (Azn l f ht rfl hx hy) h
   .exact h.elim
  .exact h.elim
 .exact h.elim
theorem A1t (q:Dd P T) (j:E8 H n) {lo hi:Option Operand} (g:o.op = .slice t x lo hi none) (h:Fg P T an n o ρ H K):N3 P o ρ H n K:=by
 unfold Fg at h;rw[g]at h;dsimp only at h;split at h
 .rename_i e B A z ht;split at h
  .rename_i i' u;split at h
   .rename_i sz xs hx;split at h
    .rename_i y h0 c hh;replace h:=Gq h;obtain⟨g1,h⟩:=h;obtain⟨l,i,ys,el,b,h1,h2,hy,k⟩:=h;subst el;subst b;subst hy;exact Dx j (A0b q g ht rfl u (Gk g1) hx c hh h1 h2) k
    .exact h.elim
   .rename_i hd k off len hx;split at h
    .rename_i E sz xs f;split at h
     .rename_i y h0 c hh;replace h:=Gq h;obtain⟨g1,h⟩:=h;cases h with| mk l i hk el b h1 h2 h3 k=>subst el;subst b;exact M2 j (A0d q g ht rfl u (Gk g1) hx hk c hh h1 h2 h3) f k| mkE l hk el b h2 k=>subst el;subst b;exact M2 j (A0z q g ht rfl u hx hk c hh h2) f k
     .exact h.elim
    .exact h.elim
   .exact h.elim
  .exact h.elim
 .rename_i B A z ht;split at h
  .rename_i s hx;split at h
   .rename_i y h0 c hh;obtain⟨l,i,el,b,h1,h2,k⟩:=h;subst el;subst b;exact Dx j (A0c q g ht rfl hx c hh h1 h2) k
   .exact h.elim
  .exact h.elim
 .exact h.elim
theorem A1u (B:Dd P T) (A:E8 H n) {c:Call} (u:o.op = .call c) (h:Fg P T an n o ρ H K):N3 P o ρ H n K:=by
 unfold Fg at h;rw[u]at h;dsimp only at h;split at h
 .rename_i x i;split at h
  .rename_i f ad hx;split at h
   .rename_i j ah;split at h
    .rename_i hd k len hj;split at h
     .rename_i E sz xs hh;obtain⟨hk,I,r,hp,hf,h⟩:=h;subst hk;rw[<-I]at hj;exact M3 A (A1k u i hx hj hp hf) hh (by intro e;cases e) h
     .exact h.elim
    .exact h.elim
   .cases h with| mk r hp hf k=>exact Dx A (A1i u i hx hp hf) k| ext r hp hf k=>exact Dx A (A1j u i hx hp hf) k| act l U hs r ag hp ha ok hh k=>exact A1p A ok hh (Ao3 u i hx hp ha ok) k| rd l U hs r hp ha ok hh k=>exact⟨_,n,A1o u i hx hp ha ok,λp hp=>hh.spec p hp,k,Nat.le_refl _,A⟩
  .exact h.elim
 .exact h.elim
 .rename_i i;split at h
  .rename_i x t ha z;rw[Tk i (V6 ha) (V6 z)]at u;split at h
   .rename_i e s1 Z Y ht;split at h
    .rename_i sz xs hx;split at h
     .obtain⟨c,hc,h⟩:=h;subst hc;exact Dx A (An2 B u ht rfl hx) h
     .exact Dx A (An2 B u ht rfl hx) h
    .rename_i p m cap hx;exact Dx A (Az0 B u ht rfl hx) h
    .rename_i hd m hx;exact Dx A (Az7 B u ht rfl hx) h
    .rename_i hd k off len hx;split at h
     .rename_i E sz xs hh;obtain⟨hk,h⟩:=h;exact M2 A (Az3 B u ht rfl hx hk) hh h
     .exact h.elim
    .exact h.elim
   .rename_i s1 Z Y ht;split at h
    .rename_i s hx;exact Dx A (Az2 B u ht rfl hx) h
    .exact h.elim
   .exact h.elim
  .exact h.elim
 .rename_i i;split at h
  .rename_i x t ha z;rw[Tk i (V6 ha) (V6 z)]at u;split at h
   .rename_i e s1 Z Y ht;split at h
    .rename_i p m cap hx;exact Dx A (Az1 B u ht rfl hx) h
    .exact h.elim
   .exact h.elim
  .exact h.elim
 .rename_i i;split at h
  .rename_i x y t t' ha z;rw[Tk i (Rg ha) (Rg z)]at u;split at h
   .rename_i e s1 Z Y ht;split at h
    .rename_i i' J;split at h
     .rename_i h2 k2 a6 a7 hy;split at h
      .rename_i hd k off len hx;split at h
       .rename_i E sz xs hh;replace h:=Gq h;obtain⟨g5,h⟩:=h;simp only[Fe]at g5;have M:=Gk g5.1.1.1;have R:=Gk g5.1.1.2;have e3:=Gk g5.1.2;have e4:0<i'.size:=G2 g5.2;subst M;subst R;subst e3;obtain⟨S,c,hk,I,X,V,G,hc,k⟩:=h;subst G;subst hc;exact M3 A (A0x B u ht rfl J e4 hx hk I hy X V) hh (by intro e;cases e) k
       .exact h.elim
      .rename_i q hx;split at h
       .rename_i E sz xs hh;replace h:=Gq h;obtain⟨g5,h⟩:=h;have M:=Gk g5;subst M;obtain⟨hk,k⟩:=h;exact M2 A (A0y B u ht rfl J hx hy hk) hh k
       .exact h.elim
      .exact h.elim
     .exact h.elim
    .exact h.elim
   .exact h.elim
  .exact h.elim
 .rename_i i;split at h
  .rename_i x t ha z;rw[Tk i (V6 ha) (V6 z)]at u;split at h
   .rename_i e s1 Z Y ht;split at h
    .rename_i i' J;split at h
     .rename_i hd k off len hx;split at h
      .rename_i E sz xs hh;replace h:=Gq h;obtain⟨g5,h⟩:=h;simp only[Fe]at g5;have M:=Gk g5.1.1.1.1.1;have R:=Gk g5.1.1.1.1.2;have e3:0<i'.size:=G2 g5.1.1.1.2;subst M;subst R;obtain⟨S,hk,I,G,k⟩:=h;subst G;exact M3 A (A00 B u ht rfl J e3 g5.1.1.2 (Ajf g5.1.2 g5.2 g5.1.1.2) hx hk I) hh (by intro e;cases e) k
      .exact h.elim
     .rename_i q hx;exact Dx A (A01 B u ht rfl hx) h
     .exact h.elim
    .exact h.elim
   .exact h.elim
  .exact h.elim
 .rename_i i;split at h
  .rename_i x y t t' ha z;rw[Tk i (Rg ha) (Rg z)]at u;split at h
   .rename_i e s1 Z Y e' ab aa a8 ht D;split at h
    .rename_i i' J;replace h:=Gq h;obtain⟨g,h⟩:=h;simp only[Fe]at g;obtain⟨⟨g1,g2⟩,g3⟩:=g;have g1:0<i'.size:=G2 g1;have g2:=Gk g2;have g3:=G2 g3;split at h
     .rename_i sz ys hy;replace h:=Gq h;obtain⟨g4,h⟩:=h;have g4:=Gk g4;subst g4;split at h
      .rename_i hd k len hx;split at h
       .rename_i E a1 xs hh;replace h:=Gq h;obtain⟨g5,h⟩:=h;simp only[Fe]at g5;have M:=Gk g5.1;have R:=Gk g5.2;subst M;subst R;split at h
        .cases h with| mk S m hk I hb G L k=>subst I;subst G;exact M3 A (A0u (An9 B u ht rfl D rfl J g1 g2 g3 hx hk hy hb) (by simp[hk])) hh (by intro e;cases e) k| mkP S k' m hk I hb G N L k=>exact k.elim
        cases h with| mk S m hk I hb G L k=>subst I;subst G;subst L;exact M3 A (An9 B u ht rfl D rfl J g1 g2 g3 hx hk hy hb) hh (by intro e;cases e) k| mkP S k' m hk I hb G N L k=>subst G;subst L;subst N;exact M3 A (A0s B u ht rfl D rfl J g1 g2 g3 hx hk I hy hb) hh (by intro e;cases e) k
       .exact h.elim
      .rename_i hx;obtain⟨S,m,hb,G,L,k⟩:=h;subst G;subst L;exact Pu A (A0o B n u ht rfl D rfl J g1 g2 g3 hx hy hb) k
      .rename_i af ae hx;obtain⟨ac,k⟩:=h;subst ac;exact Dx A (A0v B u ht rfl D rfl J g1 hx hy) k
      .exact h.elim
     .rename_i h2 k2 a6 a7 hy;split at h
      .rename_i hd k len hx;split at h
       .rename_i E a1 xs hh;replace h:=Gq h;obtain⟨g5,h⟩:=h;simp only[Fe]at g5;have M:=Gk g5.1.1;have R:=Gk g5.1.2;have e3:=Gk g5.2;subst M;subst R;subst e3;obtain⟨S,k',m,hk,I,X,V,hb,G,N,L,k⟩:=h;subst G;subst L;subst N;exact M3 A (A0w B u ht rfl D rfl J g1 g2 g3 hx hk I hy X V hb) hh (by intro e;cases e) k
       .exact h.elim
      .exact h.elim
     .exact h.elim
    .exact h.elim
   .rename_i e s1 Z Y ab aa a8 ht D;split at h
    .rename_i i' J;replace h:=Gq h;obtain⟨g,h⟩:=h;simp only[Fe]at g;obtain⟨⟨g1,g2⟩,g3⟩:=g;have g1:=Gk g1;have g2:=Gk g2;have g3:=G2 g3;split at h
     .rename_i s hy;split at h
      .rename_i hd k len hx;split at h
       .rename_i E a1 xs hh;replace h:=Gq h;obtain⟨g5,h⟩:=h;simp only[Fe]at g5;have M:=Gk g5.1;have R:=Gk g5.2;subst M;subst R;obtain⟨_,_,_,_,_,_,_,_,_,k⟩|⟨S,m,hk,I,hb,G,L,k⟩:=h
        .exact k.elim
        subst I;subst G;subst L;exact M3 A (A0n B u ht rfl D rfl J g1 g2 g3 hx hk hy hb) hh (by intro e;cases e) k
       .exact h.elim
      .exact h.elim
     .exact h.elim
    .exact h.elim
   .exact h.elim
  .exact h.elim
 .rename_i i;split at h
  .rename_i x y t t' ha z;rw[Tk i (Rg ha) (Rg z)]at u;split at h
   .rename_i k a k' b hx hy;exact Dx A (A0q u hx hy) h
   .exact h.elim
  .exact h.elim
 .rename_i i;split at h
  .rename_i x y t t' ha z;rw[Tk i (Rg ha) (Rg z)]at u;split at h
   .rename_i k a k' b hx hy;exact Dx A (A0r u hx hy) h
   .exact h.elim
  .exact h.elim
 .exact h.elim
theorem Ao5 (B:Dd P T) (A:E8 H n) (h:Fg P T an n o ρ H K):N3 P o ρ H n K:=by
 cases u:o.op with
 | load t x=>exact A1q B A u h
 | store t x y=>exact A1r B A u h
 | binOp op t x y yt=>exact A1s B A u h
 | call c=>exact A1u B A u h
 | slice t x lo hi mx=>cases mx with| none=>exact A1t B A u h| some m=>unfold Fg at h;rw[u]at h;exact h.elim
 | move x=>unfold Fg at h;rw[u]at h;exact Dx A (Ayw u) h
 | assign x=>
  unfold Fg at h;rw[u]at h;dsimp only at h;split at h
  .exact Dx A (Vt u) h
  .split at h
   .exact Dx A (Vt u) h
   .exact Dx A (Vt u) h
   .exact Dx A (Vt u) h
   .exact Dx A (Vt u) h
   .cases hb:M1 (ρ x) with
    | false=>rw[hb]at h;exact Dx A (Vt u) h
    | true=>
     rw[hb]at h;simp only[cond_true]at h;split at h
     .rename_i e I G J ht;split at h
      .rename_i i' D;replace h:=Gq h;obtain⟨g1,h⟩:=h;exact Pu A (A0p B n u (Adx hb) ht rfl D (G2 g1)) h
      .exact h.elim
     .exact h.elim
 | pick c a b=>
  unfold Fg at h;rw[u]at h;dsimp only at h;split at h
  .rename_i t hc;exact Dx A (Ayx u hc) h
  .exact h.elim
 | alloc t=>
  unfold Fg at h;rw[u]at h;dsimp only at h;split at h
  .rename_i i ht;exact Pu A (Ayy B n u ht) h
  .exact h.elim
 | box t x=>unfold Fg at h;rw[u]at h;exact Pu A (Ayz n u) h
 | build t parts=>
  unfold Fg at h;rw[u]at h;dsimp only at h;split at h
  .rename_i fs I G z ht;split at h
   .rename_i cs hc;exact Dx A (A0e B u ht rfl hc) h
   .exact h.elim
  .exact h.elim
 | buildSlice t len parts=>
  unfold Fg at h;rw[u]at h;dsimp only at h;split at h
  .rename_i e I G J ht;split at h
   .rename_i i' D;replace h:=Gq h;obtain⟨g,h⟩:=h;simp only[Fe]at g;obtain⟨⟨⟨g1,g2⟩,g3⟩,g4⟩:=g;have g2:parts.toList.map (·.1)=range' 0 len:=(by simpa using g2);have g4:∀p∈parts.toList,Ma i'.size (ρ p.2)=true:=D8.1 g4;split at h
    .exact h.elim
    .exact h.elim
    .rw[Ads]at h;exact Dx A (An6 B u ht rfl D (G2 g1) g2 (G2 g3) g4) h
    .rw[Ads]at h;exact Dx A (An6 B u ht rfl D (G2 g1) g2 (G2 g3) g4) h
    .rw[Ads]at h;exact Pu A (A0g B n u ht rfl D (G2 g1) g2 (G2 g3) g4) h
   .exact h.elim
  .exact h.elim
 | nilCheck x=>unfold Fg at h;rw[u]at h;dsimp only at h;replace h:=Gq h;obtain⟨g1,h⟩:=h;exact Dx A (Aza u g1) h
 | unOp op t x=>
  unfold Fg at h;rw[u]at h;dsimp only at h;split at h
  .rename_i b hx;exact Dx A (Azq u hx) h
  .rename_i k m hx;obtain⟨c,h1,h2⟩:=h;exact Dx A (Azr u hx h1) h2
  .exact h.elim
 | convert s d x=>
  unfold Fg at h;rw[u]at h;dsimp only at h;split at h
  .rename_i i k I G J L m hs hd hx;obtain⟨c,h1,h2⟩:=h;exact Dx A (Azs B u hs hd rfl hx h1) h2
  .rename_i v0 k0 I G J k1 m h1 h2 hx;exact Dx A (Azu B u h1 h2 rfl hx) h
  .rename_i v0 k0 I G J q m h1 h2 hx;obtain⟨c,g1,g2⟩:=h;exact Dx A (Azv B u h1 h2 rfl hx g1) g2
  .rename_i e I G J s4 s5 s6 sz xs ht hd hx;split at h
   .rename_i s7 s8 s9 D;replace h:=Gq h;obtain⟨g1,h⟩:=h;obtain⟨bs,g2,g3⟩:=h;have g1:sz=1:=Gk g1;subst g1;exact Dx A (Az4 B u ht rfl D rfl hd rfl hx g2) g3
   .exact h.elim
  .exact h.elim
 | makeFunc fn first Y=>
  cases fn with
  | func f=>
   unfold Fg at h;rw[u]at h;dsimp only at h;replace h:=Gq h;obtain⟨g1,h⟩:=h;have:first = #[]:=by simpa using g1
   subst this;exact Dx A (A0a u) h
  | _=>unfold Fg at h;rw[u]at h;exact h.elim
 | makeSlice t x y=>
  unfold Fg at h;rw[u]at h;dsimp only at h;split at h
  .rename_i e I G J ht;split at h
   .rename_i i' D;split at h
    .rename_i k l L c hx hy;split at h
     .rename_i m X;split at h
      .rename_i v hv;replace h:=Gq h;obtain⟨g,h⟩:=h;simp only[Fe]at g;obtain⟨⟨⟨⟨g1,g2⟩,g3⟩,g4⟩,g5⟩:=g;have g4:=of_decide_eq_true g4;have g5:=of_decide_eq_true g5;subst g4;subst g5;exact Pu A (A0h B n u ht rfl D (Gk g1) hv hx hy (G2 g3) (G2 g2)) h
      .exact h.elim
     replace h:=Gq h;obtain⟨g,h⟩:=h;simp only[Fe]at g;obtain⟨⟨⟨g1,g2⟩,g3⟩,g4⟩:=g;rcases h with⟨l',c',Z,el,ec,h1,h2,h3,R,k⟩|⟨z',U,l',c',Z,el,ec,h1,h2,h3,R,k⟩
     .subst el;subst ec;subst R;exact Pu A (A0i B n u ht rfl D (G2 g1) hx hy h1 h2 h3 g2 (Ajf g3 g4 g2)) k
     .subst el;subst ec;subst R;exact Pu A (A0j B z' n u ht rfl D (G2 g1) hx hy h1 h2 h3 g2 (Ajf g3 g4 g2) U) k
    .exact h.elim
   .exact h.elim
  .exact h.elim
 | fieldAddr s x f=>
  unfold Fg at h;rw[u]at h;dsimp only at h;split at h
  .rename_i fs I G J ht;split at h
   .rename_i q hf;split at h
    .rename_i hd off hx;exact Dx A (Azx B u ht rfl hf hx) h
    .rename_i cs hx;exact Dx A (Azy B u ht rfl hf hx) h
    .rename_i hd k m j hx;split at h
     .rename_i E sz xs hh;obtain⟨hk,h⟩:=h;exact M2 A (Azz B u ht rfl hf hx hk) hh h
     .exact h.elim
    .exact h.elim
   .exact h.elim
  .exact h.elim
 | indexAddr t x y=>
  unfold Fg at h;rw[u]at h;dsimp only at h;split at h
  .rename_i e I G J ht;split at h
   .rename_i i' D;split at h
    .rename_i hd m k i hx hy;replace h:=Gq h;obtain⟨g1,h⟩:=h;obtain⟨q,hi,hq,L⟩:=h;subst hi;exact Dx A (Az6 B u ht rfl D (Gk g1) hx hy hq) L
    .rename_i sz xs k i hx hy;replace h:=Gq h;obtain⟨g1,h⟩:=h;obtain⟨m,z,hi,R,L⟩:=h;subst hi;exact Dx A (Az5 B u ht rfl D (Gk g1) hx hy R) L
    .rename_i hd k off len kk i hx hy;split at h
     .rename_i E sz xs hh;replace h:=Gq h;obtain⟨g1,h⟩:=h;obtain⟨m,hk,hi,X,L⟩:=h;subst hi;exact M2 A (Az8 B u ht rfl D hx hk hy X (Gk g1)) hh L
     .exact h.elim
    .exact h.elim
   .exact h.elim
  .exact h.elim
 | index t x y=>
  unfold Fg at h;rw[u]at h;dsimp only at h;split at h
  .rename_i I G J ht;split at h
   .rename_i s k i hx hy;obtain⟨m,c,hi,hc,L⟩:=h;subst hi;exact Dx A (Az9 B u ht rfl hx hy hc) L
   .exact h.elim
  .exact h.elim
 | field t x f=>
  unfold Fg at h;rw[u]at h;dsimp only at h;split at h
  .rename_i fs I G J ht;split at h
   .rename_i q hq;split at h
    .rename_i cs hx;obtain⟨ft,hf,h⟩:=h;split at h
     .rename_i S D;cases M:S.isAgg with
      | true=>rw[M]at h;simp only[cond_true]at h;obtain⟨h1,h2⟩:=Gq h;exact Dx A (Aof B u ht rfl hq hf D hx (.inl ⟨M,G2 h1,rfl⟩)) h2
      | false=>
       rw[M]at h;simp only[cond_false]at h;split at h
       .rename_i c hc;exact Dx A (Aof B u ht rfl hq hf D hx (.inr ⟨M,hc⟩)) h
       .exact h.elim
     .exact h.elim
    .exact h.elim
   .exact h.elim
  .exact h.elim
 | makeMap t r=>cases r with| none=>unfold Fg at h;rw[u]at h;exact Pu A (A02 n u) h| some q=>unfold Fg at h;rw[u]at h;exact h.elim
 | lookup t x y ok=>
  unfold Fg at h;rw[u]at h;dsimp only at h;split at h
  .rename_i kt et I G J ht;split at h
   .rename_i q1 q2 q3 hk;split at h
    .rename_i S D;split at h
     .rename_i hd hx;split at h
      .rename_i s hy;split at h
       .rename_i es hh;obtain⟨r,N,h⟩:=h;exact M2 A (A03 B u ht rfl hk rfl D hx hy N) hh h
       .exact h.elim
      .exact h.elim
     .exact h.elim
    .exact h.elim
   .split at h
    .rename_i S D;split at h
     .rename_i hd hx;split at h
      .rename_i ks hy;split at h
       .rename_i us hu;split at h
        .rename_i es hh;obtain⟨r,hc,N,h⟩:=h;exact M2 A (A05 B u ht rfl D hx hy hu hc N) hh h
        .exact h.elim
       .exact h.elim
      .exact h.elim
     .exact h.elim
    .exact h.elim
   .exact h.elim
  .exact h.elim
 | mapUpdate t x y z=>
  unfold Fg at h;rw[u]at h;dsimp only at h;split at h
  .rename_i kt et I G J ht;split at h
   .rename_i q1 q2 q3 hk;split at h
    .rename_i hd hx;split at h
     .rename_i s hy;split at h
      .rename_i es hh;obtain⟨g1,h⟩:=Gq h;rw[V5]at h;obtain⟨V,N,h⟩:=h;exact M3 A (A04 B u ht rfl hk rfl hx hy g1 N) hh (by intro e;cases e) h
      .exact h.elim
     .exact h.elim
    .exact h.elim
   .split at h
    .rename_i hd hx;split at h
     .rename_i ks hy;split at h
      .rename_i us hu;split at h
       .rename_i es hh;obtain⟨g1,h⟩:=Gq h;rw[V5]at h;obtain⟨V,hc,N,rfl,h⟩:=h;exact M3 A (A06 B u ht rfl hx hy hu g1 hc N) hh (by intro e;cases e) h
       .exact h.elim
      .exact h.elim
     .exact h.elim
    .exact h.elim
   .exact h.elim
  .exact h.elim
 | extract x i=>
  unfold Fg at h;rw[u]at h;dsimp only at h;split at h
  .rename_i cs hx;split at h
   .rename_i c hc;exact Dx A (Azw u hx hc) h
   .exact h.elim
  .exact h.elim
 | _=>unfold Fg at h;rw[u]at h;exact h.elim
end
variable {σ:A7} {x:AV} {t:Bool} {ι:Ca} {H:Hp} {l:List (Nat×Nat)} {sz:Nat} {A:Prop} {v:Value}
theorem Ia {B:Prop} (h:t=true) (k:A):bif t then A else B:=by rw[h];exact k
theorem Ajg {B:Prop} (h:t=false) (k:B):bif t then A else B:=by rw[h];exact k
abbrev Jx:=List (List Nat×List Nat)
def M4 (l:List (Nat×Nat)):Nat->List AV->List AV
 | _,[]=>[]
 | i,x::xs=>(bif M1 x then (match l.lookup i with|some sz=>.sl sz [] | none=>x) else x)::M4 l (i+1) xs
def elN (l:List (Nat×Nat)) (x:AV):AV := match x with
 | .val (.agg vs)=>.agg (M4 l 1000 (vs.toList.map .val))
 | .agg cs=>.agg (M4 l 1000 cs)
 | x=>x
def M5 (l:List (Nat×Nat)) (x:AV):AV := match l with
 | []=>x
 | p::l=> match x with
  | .sl sz xs=>bif Nat.ble 1000 p.1 then .sl sz (xs.map (elN (p::l))) else .sl sz xs
  | .agg cs=>.agg (M4 (p::l) 0 cs)
  | x=>bif M1 x then .sl p.2 [] else x
def N4 (nl:Nat->List (Nat×Nat)):Option Nat->List (Nat×Nat)
 | none=>[]
 | some d=>nl d
theorem Ady (hx:M1 x=true) (h:Conc σ ι H x v):Conc σ ι H (.sl sz []) v:=by rw[Adx hx]at h;rw[h.val_inv];exact .cc (.nil sz none 0)
theorem Ajh {l:List (Nat×Nat)}:∀{cs:List AV} {i k:Nat} {c:AV},(M4 l k cs)[i]? = some c->∃c0,cs[i]? = some c0/\(c=c0\/(M1 c0=true/\∃sz,c = .sl sz []))
 | [],i,k,c,h=>by simp[M4]at h
 | x::xs,0,k,c,h=>by
  simp only[M4,getElem?_cons_zero,Option.some.injEq]at h;refine⟨x,rfl,?_⟩;cases hx:M1 x with
  | false=>rw[hx]at h;exact .inl h.symm
  | true=>
   rw[hx]at h;simp only[cond_true]at h;split at h
   .rename_i sz _;exact .inr ⟨rfl,sz,h.symm⟩
   .exact .inl h.symm
 | x::xs,i+1,k,c,h=>by simp only[M4,getElem?_cons_succ]at h;obtain⟨c0,h1,h2⟩:=Ajh h;exact⟨c0,by simpa using h1,h2⟩
theorem Aji {l:List (Nat×Nat)}:∀{cs:List AV} {k:Nat},(M4 l k cs).length=cs.length
 | [],_=>rfl
 | x::xs,k=>by simp only[M4,length_cons,Aji]
theorem A1v:(elN l x).cells.length=x.cells.length/\∀(j:Nat) (c b:AV) (u:Value),x.cells[j]? = some c->(elN l x).cells[j]? = some b->CC σ c u->CC σ b u:=by
 have key:∀cs:List AV,(M4 l 1000 cs).length=cs.length/\∀(j:Nat) (c b:AV) (u:Value),cs[j]? = some c->(M4 l 1000 cs)[j]? = some b->CC σ c u->CC σ b u:=by
  intro cs;refine⟨Aji,λj c b u h1 h2 h3=>?_⟩;obtain⟨c0,g1,rfl|⟨g2,sz,rfl⟩⟩:=Ajh h2
  .rw[h1]at g1;cases g1;exact h3
  .rw[h1]at g1;cases g1;rw[Adx g2]at h3;cases h3;exact .nil sz none 0
 unfold elN;split
 .exact key _
 .exact key _
 .exact⟨rfl,λj c b u h1 h2 h3=>by rw[h1]at h2;cases h2;exact h3⟩
theorem CC.mapEl {xs:List AV} (f:AV->AV) (hf:∀x,(f x).cells.length=x.cells.length/\∀(j:Nat) (c k:AV) (u:Value),x.cells[j]? = some c->(f x).cells[j]? = some k->CC σ c u->CC σ k u) (h:CC σ (.sl sz xs) v):CC σ (.sl sz (xs.map f)) v:=by
 cases h with
 | nil sz a cap=>exact .nil sz a cap
 | sl _ b off cap _ C E fr g B D hc h1 I G s=>
  have q:(xs.map f).length=xs.length:=ψ;have l:∀(i:Nat) (y:AV) (j:Nat) (k:AV),(xs.map f)[i]? = some y->y.cells[j]? = some k->∃x c,xs[i]? = some x/\x.cells[j]? = some c/\y=f x:=(by intro i y j k g1 g2;rw[getElem?_map]at g1;cases hx:xs[i]? with| none=>rw[hx]at g1;cases g1| some x=>rw[hx]at g1;cases g1;have hj:j<x.cells.length:=(by rw[<-(hf x).1];exact (G1.1 g2).1);exact⟨x,x.cells[j],rfl,getElem?_eq_getElem hj,rfl⟩);rw[<-q];refine .sl (xs.map f) b off cap sz C E fr g B ?_ ?_ ?_ (λi j hi hj=>I i j (by simpa using hi) hj) (by simpa using G) (by simpa using s)
  .intro i y hy;rw[getElem?_map]at hy;cases hx:xs[i]? with| none=>rw[hx]at hy;cases hy| some x=>rw[hx]at hy;cases hy;rw[(hf x).1];exact D i x hx
  .intro i y j k g1 g2;obtain⟨x,c,A,z,rfl⟩:=l i y j k g1 g2;exact (hf x).2 j c k _ z g2 (hc i x j c A z)
  .intro i y j k g1 g2;obtain⟨x,c,A,z,rfl⟩:=l i y j k g1 g2;exact h1 i x j c A z
theorem A1w (h:Conc σ ι H x v):Conc σ ι H (M5 l x) v:=by
 unfold M5;split
 .exact h
 .split
  .rename_i _ p l _ sz xs;cases hb:Nat.ble 1000 p.1 with| false=>exact h| true=>exact .cc (h.sl_inv.mapEl _ λx=>A1v)
  .rename_i cs;obtain⟨vs,rfl,b,hv⟩:=h.agg_inv;refine .agg _ vs (by rw[Aji];exact b) λi c u h1 h2=>?_;obtain⟨c0,h3,rfl|⟨f,sz,rfl⟩⟩:=Ajh h1
   .exact hv i _ u h3 h2
   .exact Ady f (hv i _ u h3 h2)
  .cases hx:M1 x with| false=>exact h| true=>exact Ady hx h
theorem Ch.nils {P:Program} {o:Oper} {ρ:Operand->AV} {b:Eff} (l:List (Nat×Nat)) (h:Ch P o ρ b):Ch P o ρ ⟨M5 l b.r,b.rd,b.wr⟩ := λσ ι H F W w a next Q s hx g hk=>h σ ι H F W w a next Q s hx g λc f v w' le s' hc=>hk c f v w' le s' (A1w hc)
def Ld (e:Bx) (d:Option Nat) (r:AV) (H:Hp) (b:List (Nat×Bq)) (K:Bx->Hp->Prop):Prop :=
 match d with
 | none=>
  (match b with
  | []=>K e H
  | [p]=>K e (Ay H p.1 p.2)
  | p::q::l=>K e (Ci H (p::q::l)))
 | some t=>
  (match b with
  | []=>K (Ay e t r) H
  | [p]=>K (Ay e t r) (Ay H p.1 p.2)
  | p::q::l=>K (Ay e t r) (Ci H (p::q::l)))
theorem Adz (e:Bx) (d:Option Nat) (r:AV) (H:Hp) (b:List (Nat×Bq)) (K:Bx->Hp->Prop):Ld e d r H b K=K (put e d r) (Ci H b):=by cases d <;> cases b with| nil=>rfl| cons p l=>cases l <;> rfl
def Lf (P:Program) (T:Dc) (an:Nat->Ann) (nl:Nat->List (Nat×Nat)) (ops:Array Oper):List Oper->List Nat->Nat->Bx->Hp->Jx->(Nat->Bx->Hp->Jx->Prop)->Prop
 | [],_,n,e,H,acc,K=>K n e H acc
 | o::os,f,n,e,H,acc,K=>
  match o.guard with
  | none=>Fg P T an n o (ev e) H λc m=>Md (M5 (N4 nl o.dst) c.r) λr=>Ov c.wr λwr=>Kl c.rd λh=>Kl wr λg=>Ld e o.dst r H wr λe H=>Lf P T an nl ops os f m e H (acc++[(h,g)]) K
  | some p=>
   match (ops[p.1]?).bind (·.dst) with
   | none=>False
   | some s=>
    match e s with
    | .val (.bool b)=>
     match f.elem s with
     | true=>
      (match b with
      | true=>
       (match p.2 with
       | true=>Fg P T an n o (ev e) H λc m=>Md (M5 (N4 nl o.dst) c.r) λr=>Ov c.wr λwr=>Kl c.rd λh=>Kl wr λg=>Ld e o.dst r H wr λe H=>Lf P T an nl ops os f m e H (acc++[(h,g)]) K
       | false=>Ld e o.dst (.val undef) H [] λe H=>Lf P T an nl ops os f n e H (acc++[([],[])]) K)
      | false=>
       (match p.2 with
       | true=>Ld e o.dst (.val undef) H [] λe H=>Lf P T an nl ops os f n e H (acc++[([],[])]) K
       | false=>Fg P T an n o (ev e) H λc m=>Md (M5 (N4 nl o.dst) c.r) λr=>Ov c.wr λwr=>Kl c.rd λh=>Kl wr λg=>Ld e o.dst r H wr λe H=>Lf P T an nl ops os f m e H (acc++[(h,g)]) K))
     | false=>
      bif b then
       (match p.2 with
       | true=>Fg P T an n o (ev (Ay e s (.val (.bool true)))) H λc m=>Md (M5 (N4 nl o.dst) c.r) λr=>Ov c.wr λwr=>Kl c.rd λh=>Kl wr λg=>Ld (Ay e s (.val (.bool true))) o.dst r H wr λe H=>Lf P T an nl ops os (s::f) m e H (acc++[(h,g)]) K
       | false=>Ld (Ay e s (.val (.bool true))) o.dst (.val undef) H [] λe H=>Lf P T an nl ops os (s::f) n e H (acc++[([],[])]) K)
      else
       (match p.2 with
       | true=>Ld (Ay e s (.val (.bool false))) o.dst (.val undef) H [] λe H=>Lf P T an nl ops os (s::f) n e H (acc++[([],[])]) K
       | false=>Fg P T an n o (ev (Ay e s (.val (.bool false)))) H λc m=>Md (M5 (N4 nl o.dst) c.r) λr=>Ov c.wr λwr=>Kl c.rd λh=>Kl wr λg=>Ld (Ay e s (.val (.bool false))) o.dst r H wr λe H=>Lf P T an nl ops os (s::f) m e H (acc++[(h,g)]) K)
    | .val (.tuple _)=>Ld e o.dst (.val undef) H [] λe H=>Lf P T an nl ops os f n e H (acc++[([],[])]) K
    | _=>False
inductive N5 (ops:List Oper) (acc:Jx) (K:Prop):Prop where
 | mk (h:Aiz ops acc=true) (k:K)
inductive Ex where
 | normal
 | exit (id:Nat)
 | ret
def G3 (e:Bx):List (Nat×AV)->Prop
 | []=>True
 | p::l=>e p.1=p.2/\G3 e l
def G5 (H H':Hp):Nat->Nat->Prop
 | 0,_=>True
 | k+1,n=>(H k=H' k/\(H' k).under n=true)/\G5 H H' k n
def Jy (b:List Nat) (e:Bx) (u:Nat->Value) (l:List (Nat×AV)):Bx:=l.foldr (λp e=>Ay e p.1 p.2) (b.foldr (λs e=>Ay e s (.val (u s))) e)
def Jz (n:Nat) (b:List (Nat×AV)) (hv:List (Nat×Bq)):Bool:=(b.all λp=>p.2.under n)&&hv.all λp=>Nat.blt p.1 n
inductive A1x (n:Nat) (ws:List Nat) (e:Bx) (H:Hp) (body:(Nat->Bx->Hp->Prop)->Nat->Bx->Hp->Prop):Prop where
 | mk (I:Type) (inv:I->Prop) (iv:I->List (Nat×AV)) (hv:I->List (Nat×Bq)) (m:I->Nat) (i0:I) (hb:∀i,Jz n (iv i) (hv i)=true)
   (h0:inv i0) (hs:G3 e (iv i0)) (hh:G5 H (Ci H (hv i0)) n n)
   (step:∀(i:I) (u:Nat->Value),inv i->body (λ_ e' H'=>∃i',inv i'/\G3 e' (iv i')/\G5 H' (Ci H (hv i')) n n/\m i' < m i) n (Jy ws e u (iv i)) (Ci H (hv i)))
def Fh:Code->List Nat
 | .region _ ops _=>ops.toList.filterMap (·.dst)
 | .seq a b=>Fh a++Fh b
 | .cond _ a b=>Fh a++Fh b
 | .block _ b=>Fh b
 | .loop b=>Fh b
 | .scope b=>Fh b
 | _=>[]
def Ad0:List Nat->Bx->Hp->(Bx->Hp->Prop)->Prop
 | [],e,H,K=>K e H
 | s::b,e,H,K=> match e s with
  | .arr h k 0 len=> match H h with
   | .rows _ sz xs=>Hs k xs (Hs len xs (Ad0 b (Ay e s (.sl sz xs)) (Ay H h .dead) K))
   | _=>False
  | _=>False
structure Cfg where
 T:Dc
 an:Nat->Ann:=λ_=>.std
 gh:Nat->List Nat:=λ_=>[]
 nl:Nat->List (Nat×Nat):=λ_=>[]
def Ao6 (x:AV) (A B:Prop):Prop := match x with
 | .val (.bool t)=>bif t then A else B
 | _=>False
def vc (P:Program) (C:Cfg):Code->(Ex->Nat->Bx->Hp->Prop)->Nat->Bx->Hp->Prop
 | .skip,Q,n,e,H=>Q .normal n e H
 | .region id ops draw,Q,n,e,H=>Ad0 (C.gh id) e H λe H=> Lf P C.T C.an C.nl ops ops.toList [] n e H [] λn e H acc=>bif draw then N5 ops.toList acc (Q .normal n e H) else Q .normal n e H
 | .seq a b,Q,n,e,H=>vc P C a (λx n e H=>match x with
   | .normal=>vc P C b Q n e H
   | .exit id=>Q (.exit id) n e H
   | .ret=>Q .ret n e H) n e H
 | .cond c a b,Q,n,e,H=>Ao6 (ev e c) (vc P C a Q n e H) (vc P C b Q n e H)
 | .block id b,Q,n,e,H=>vc P C b (λx n e H=>match x with
   | .normal=>Q .normal n e H
   | .exit i=>bif Nat.beq i id then Q .normal n e H else Q (.exit i) n e H
   | .ret=>Q .ret n e H) n e H
 | .loop b,Q,n,e,H=>A1x n (Fh b) e H λK n e H=>vc P C b (λx n e H=>match x with
   | .normal=>K n e H
   | .exit id=>Q (.exit id) n e H
   | .ret=>Q .ret n e H) n e H
 | .exit id,Q,n,e,H=>Q (.exit id) n e H
 | .ret,Q,n,e,H=>Q .ret n e H
 | _,_,_,_,_=>False
def Ao7 (N:Nat) (x:Operand):Bool := match x with
 | .tmp t=>Nat.blt t N
 | _=>true
def Lg (N:Nat):Code->Bool
 | .region _ ops _=>ops.toList.all λo=>(Mc ops o).all λs=>Nat.blt s N
 | .seq a b=>Lg N a&&Lg N b
 | .cond c a b=>Ao7 N c&&Lg N a&&Lg N b
 | .block _ b=>Lg N b
 | .loop b=>Lg N b
 | .scope b=>Lg N b
 | _=>true
def Ex.out:Ex->Exit
 | .normal=>.normal
 | .exit id=>.exit id
 | .ret=>.ret
section
variable {P:Program} {T:Dc} {an:Nat->Ann} {nl:Nat->List (Nat×Nat)} {ops:Array Oper} {F:A7} {W:World} {Q:Exit->Act->World->Prop}
theorem Ad1 {α:Type} {e:Nat->α} {s:Nat} {v:α} (h:e s=v):Ay e s v=e:=by subst h;exact Jm e s
theorem Ajj (L:Dd P T):∀(os:List Oper) (g:List Nat) (i n:Nat) (e:Bx) (H:Hp) (acc:Jx) (K:Nat->Bx->Hp->Jx->Prop),ops.toList.drop i=os->acc.length=i->E8 H n->Lf P T an nl ops os g n e H acc K -> ∃f e' H' accs,K f e' H' accs/\accs.take i=acc/\accs.length=i+os.length/\n<=f/\E8 H' f/\Run P ops (λk=>accs.getD k ([],[])) (range' i os.length) e H e' H'
 | [],g,i,n,e,H,acc,K,hd,x,B,h=>⟨n,e,H,acc,h,by rw[<-x];simp,by simpa using x,Nat.le_refl _,B,.nil e H⟩
 | o::os,g,i,n,e,H,acc,K,hd,x,B,h=>by
  have M:ops[i]? = some o:=(by have:=congrArg (λl=>l[0]?) hd;simpa using this);have z:ops.toList.drop (i+1)=os:=(by have:=congrArg (drop 1) hd;simpa[drop_drop] using this);have run:∀(q:Bx) (g:List Nat),Jw ops o q true->(Fg P T an n o (ev q) H λc m=>Md (M5 (N4 nl o.dst) c.r) λr=>Ov c.wr λwr=>Kl c.rd λR=>Kl wr λN=>Ld q o.dst r H wr λe H=>Lf P T an nl ops os g m e H (acc++[(R,N)]) K) ->
    ∃f e' H' accs,K f e' H' accs/\accs.take i=acc/\accs.length=i+(o::os).length/\n<=f/\E8 H' f/\Run P ops (λk=>accs.getD k ([],[])) (range' i (o::os).length) q H e' H':=by
   intro q g hg u;obtain⟨c,m,h1,h2,h3,Y,V⟩:=Ao5 L B u;simp only[V5,Aja,Ajb,Adz]at h3;obtain⟨f,e',H',accs,G,A,U,S,E,D⟩:=Ajj L os g (i+1) m _ _ _ K z (by simp[x]) V h3;have J:accs[i]? = some (c.rd.map (·.1),c.wr.map (·.1)):=(by have X:(accs.take (i+1))[i]? = accs[i]?:=Hz ω;rw[<-X,A,getElem?_append_right ω];simp[x]);have y:accs.getD i ([],[])=(c.rd.map (·.1),c.wr.map (·.1)):=(by simp[getD,J]);refine⟨f,e',H',accs,G,?_,by simp only[length_cons];omega,ω,E,?_⟩
   .have:=congrArg (take i) A;rw[take_take]at this;simpa[x] using this
   .rw[length_cons,range'_succ];refine .cons o (M5 (N4 nl o.dst) c.r) c.wr ⟨M,.inl ⟨hg,_,h1.nils (N4 nl o.dst),h2,?_,?_,rfl,rfl⟩⟩ D
    .intro p hp;show p.1∈(accs.getD i ([],[])).1;rw[y];exact mem_map_of_mem hp
    .intro p hp;show p.1∈(accs.getD i ([],[])).2;rw[y];exact mem_map_of_mem hp
  have skip:∀(q:Bx) (g:List Nat),Jw ops o q false->(Ld q o.dst (.val undef) H [] λe H=>Lf P T an nl ops os g n e H (acc++[([],[])]) K) ->
    ∃f e' H' accs,K f e' H' accs/\accs.take i=acc/\accs.length=i+(o::os).length/\n<=f/\E8 H' f/\Run P ops (λk=>accs.getD k ([],[])) (range' i (o::os).length) q H e' H':=by
   intro q g hg u;rw[Adz]at u;obtain⟨f,e',H',accs,G,A,U,S,E,D⟩:=Ajj L os g (i+1) n _ _ _ K z (by simp[x]) B u;refine⟨f,e',H',accs,G,?_,by simp only[length_cons];omega,ω,E,?_⟩
   .have:=congrArg (take i) A;rw[take_take]at this;simpa[x] using this
   .rw[length_cons,range'_succ];exact .cons o (.val undef) [] ⟨M,.inr ⟨hg,rfl,rfl⟩⟩ D
  simp only[Lf]at h;cases j:o.guard with
  | none=>rw[j]at h;exact run e g (by unfold Jw;rw[j]) h
  | some p=>
   rw[j]at h;simp only[]at h;cases u:(ops[p.1]?).bind (·.dst) with
   | none=>rw[u]at h;exact h.elim
   | some s=>
    rw[u]at h;simp only[]at h;split at h
    .rename_i b hb;have hg:∀on,on=(b==p.2)->Jw ops o e on:=(by intro on I;unfold Jw;rw[j];exact⟨s,.bool b,u,hb,by rw[I];cases b <;> cases p.2 <;> rfl⟩);cases hk:g.elem s with
     | true=>
      rw[hk]at h;simp only[]at h;cases b with
      | true=>cases hp:p.2 with| true=>rw[hp]at h;exact run e _ (hg true (by rw[hp];rfl)) h| false=>rw[hp]at h;exact skip e _ (hg false (by rw[hp];rfl)) h
      | false=>cases hp:p.2 with| true=>rw[hp]at h;exact skip e _ (hg false (by rw[hp];rfl)) h| false=>rw[hp]at h;exact run e _ (hg true (by rw[hp];rfl)) h
     | false=>
      rw[hk]at h;simp only[]at h;cases b with
      | true=>rw[Ad1 hb]at h;simp only[cond_true]at h;cases hp:p.2 with| true=>rw[hp]at h;exact run e _ (hg true (by rw[hp];rfl)) h| false=>rw[hp]at h;exact skip e _ (hg false (by rw[hp];rfl)) h
      | false=>rw[Ad1 hb]at h;simp only[cond_false]at h;cases hp:p.2 with| true=>rw[hp]at h;exact skip e _ (hg false (by rw[hp];rfl)) h| false=>rw[hp]at h;exact run e _ (hg true (by rw[hp];rfl)) h
    .rename_i vs hv;exact skip e _ (by unfold Jw;rw[j];exact⟨s,_,u,hv,rfl⟩) h
    .exact h.elim
end
section
variable {P:Program} {C:Cfg} {F:A7} {W:World}
variable {x:AV} {n:Nat}
theorem Ajk {c:Code} {Q:Exit->Act->World->Prop} {a:Act} {w:World} (J:Nat->Act->World->Prop) (k0:Nat) (h0:J k0 a w) (g:∀k a w,J k a w->c.wp P (Exit.then (λq w'=>∃s,s<k/\J s q w') Q) a w):(Code.loop c).wp P Q a w:=by
 intro b u cs;have key:∀k a w,J k a w->∃e q w',Q e q w'/\Arrives P (lone (b.at a (.code c :: .inLoop c::u)) cs w) b u cs e q w':=by
  intro k;induction k using Nat.strongRecOn with
  | _ k ih=>intro a w D;obtain⟨e,j,i,hq,f⟩:=g k a w D b (.inLoop c::u) cs;cases e with| normal=>obtain⟨s,z,A⟩:=hq;obtain⟨E,G,B,y,h⟩:=ih s z j i A;exact⟨E,G,B,y,.of_steps (Steps.trans f (.one step_inLoop)) h⟩| exit id=>exact⟨_,j,i,hq,.pass (x:=.inLoop c) rfl (λ_ _=>.inl ψ) f⟩| goto l=>exact⟨_,j,i,hq,.pass (x:=.inLoop c) rfl (λ_ _=>.inl ψ) f⟩| ret=>exact⟨_,j,i,hq,.pass (x:=.inLoop c) rfl (λ_ _=>.inl ψ) f⟩| panic I=>exact⟨_,j,i,hq,.pass (x:=.inLoop c) rfl (λ_ _=>.inl ψ) f⟩| outgrown=>exact⟨_,j,i,hq,.pass (x:=.inLoop c) rfl (λ_ _=>.inl ψ) f⟩
 obtain⟨e,q,w',hq,f⟩:=key k0 a w h0;exact⟨e,q,w',hq,.of_steps (.one step_loop) f⟩
theorem A1y (h:x.under2 n=true) (hx:∀cs,x≠.agg cs):x.under1 n=true:=by cases x <;> first|exact h|exact (hx _ rfl).elim
theorem Conc.restrict {σ:A7} {ι B:Ca} {H H':Hp} (D:∀h,h<n->B h=ι h) (G:∀h,h<n->H' h=H h) {v:Value} (hx:x.under n=true) (h:Conc σ ι H x v):Conc σ B H' x v:=by
 have l:∀{x:AV} {v:Value},x.under0 n=true->Conc σ ι H x v->Conc σ B H' x v:=by intro x v hx h;cases h with| cc h=>exact .cc h| loc h off b hb=>exact .loc h off b (by rw[D h (Hn hx)];exact hb)| mp h b hb=>exact .mp h b (by rw[D h (Hn hx)];exact hb)| vec h n b hb=>exact .vec h n b (by rw[D h (Hn hx)];exact hb)| arr h k off len v I hv z=>have y:=Hn hx;exact .arr h k off len v (by rw[G h y];exact I) (by rw[D h y,G h y];exact hv) z| el h k i j v I hv z=>have y:=Hn hx;exact .el h k i j v (by rw[G h y];exact I) (by rw[D h y,G h y];exact hv) z| ref cs b off C E fr g N hc h1 R=>exact .ref cs b off C E fr g N hc h1 R| agg=>cases hx| tup=>cases hx| fn=>cases hx
 have key:∀{x:AV} {v:Value},x.under1 n=true->Conc σ ι H x v->Conc σ B H' x v:=by intro x v hx h;cases x with| fn f cs=>obtain⟨vs,rfl,A,h⟩:=h.fn_inv;exact .fn f cs vs A λi c u h1 h2=>l (D8.1 hx c (Fi h1)) (h i c u h1 h2)| agg cs=>cases hx| tup cs=>cases hx| val u=>exact l (x:=(.val u)) hx h| loc q off=>exact l (x:=(.loc q off)) hx h| arr q k off len=>exact l (x:=(.arr q k off len)) hx h| el q k i j=>exact l (x:=(.el q k i j)) hx h| mp q=>exact l (x:=(.mp q)) hx h| vec q m=>exact l (x:=(.vec q m)) hx h| ref cs=>exact l (x:=(.ref cs)) hx h| sl sz xs=>exact l (x:=(.sl sz xs)) hx h| fb s=>exact l (x:=(.fb s)) hx h
 have cells:∀{cs:List AV},cs.all (AV.under1 n)=true->∀(i:Nat) (c:AV) (u:Value),cs[i]? = some c->Conc σ ι H c u->Conc σ B H' c u :=
  λL i c u hc h=>key (D8.1 L c (Fi hc)) h
 cases x with
 | agg cs=>cases h with| cc h=>exact .cc h| agg _ vs A h=>exact .agg cs vs A λi c u h1 h2=>cells hx i c u h1 (h i c u h1 h2)
 | tup cs=>
  cases h with
  | cc h=>exact .cc h
  | tup _ vs A h=>refine .tup cs vs A λi c u h1 h2=>?_;have hf:=D8.1 hx c (Fi h1);have hc:=h i c u h1 h2;cases c with| agg ds=>obtain⟨M,rfl,J,hv⟩:=hc.agg_inv;exact .agg ds M J λj d v g1 g2=>cells hf j d v g1 (hv j d v g1 g2)| _=>exact key (A1y hf (by intro cs e;cases e)) hc
 | fn f cs=>cases h with| cc h=>exact .cc h| fn _ _ vs A h=>exact .fn f cs vs A λi c u h1 h2=>cells hx i c u h1 (h i c u h1 h2)
 | val v=>exact key rfl h
 | loc h off=>exact key hx h
 | arr h k off len=>exact key hx h
 | el h k i j=>exact key hx h
 | mp h=>exact key hx h
 | vec h n=>exact key hx h
 | ref cs=>exact key rfl h
 | sl sz xs=>exact key rfl h
 | fb s=>exact key rfl h
theorem G5.spec {H H':Hp} {n:Nat}:∀{k:Nat},G5 H H' k n->∀h,h<k->H h=H' h/\(H' h).under n=true
 | 0,_,h,b=>ω
 | k+1,hh,h,b=>by
  by_cases e:h=k
  .subst e;exact hh.1
  .exact G5.spec hh.2 h ω
theorem G3.spec {e:Bx}:∀{l:List (Nat×AV)},G3 e l->∀p∈l,e p.1=p.2
 | [],_,p,hp=>by cases hp
 | q::l,h,p,hp=>by
  rcases mem_cons.1 hp with rfl|hp
  .exact h.1
  .exact G3.spec h.2 p hp
theorem Ad2 (c:List Nat) (e:Bx) (u:Nat->Value) (l:List (Nat×AV)) (s:Nat):(∃p∈l,p.1=s/\Jy c e u l s=p.2)\/(s∈c/\Jy c e u l s = .val (u s))\/(s ∉ c/\Jy c e u l s=e s):=by
 have base:(s∈c/\(c.foldr (λs e=>Ay e s (.val (u s))) e) s = .val (u s))\/(s ∉ c/\(c.foldr (λs e=>Ay e s (.val (u s))) e) s=e s):=by
  induction c with
  | nil=>exact .inr ⟨ψ,rfl⟩
  | cons t c ih=>
   simp only[foldr_cons];by_cases b:s=t
   .subst b;exact .inl ⟨ψ,Ce _ _ _⟩
   .rw[Cq _ _ b];rcases ih with⟨h1,h2⟩|⟨h1,h2⟩
    .exact .inl ⟨by simp[h1],h2⟩
    .exact .inr ⟨by simp[h1,b],h2⟩
 unfold Jy;induction l with
 | nil=>exact .inr base
 | cons p l ih=>
  simp only[foldr_cons];by_cases b:s=p.1
  .exact .inl ⟨p,ψ,b.symm,by rw[b];exact Ce _ _ _⟩
  .rw[Cq _ _ b];rcases ih with⟨q,hq,h1,h2⟩|h|h
   .exact .inl ⟨q,by simp[hq],h1,h2⟩
   .exact .inr (.inl h)
   .exact .inr (.inr h)
theorem Ao8:∀(i:List Nat) {e:Bx} {H:Hp} {K:Bx->Hp->Prop} {n:Nat} {σ:A7} {ι:Ca} {a:Act} {w:World},Ad0 i e H K->St σ ι H F W w->Er σ ι H e a->E8 H n -> ∃g e' H',K e' H'/\Le σ ι H g ι H'/\St g ι H' F W w/\Er g ι H' e' a/\E8 H' n
 | [],e,H,K,n,σ,ι,a,w,h,s,f,c=>⟨σ,e,H,h,Le.refl _ _ _,s,f,c⟩
 | t::i,e,H,K,n,σ,ι,a,w,h,s,f,c=>by
  simp only[Ad0]at h;split at h
  .rename_i hd k len hx;split at h
   .rename_i E sz xs hh;obtain⟨hk,S,h⟩:=h;obtain⟨D,b,G,u⟩:=s.freeze hh;have x:Er D ι (Ay H hd .dead) (Ay e t (.sl sz xs)) a:=by
     intro q hq;by_cases A:q=t
     .subst A;rw[Ce];have hc:=f q hq;rw[hx]at hc;have:=u 0 len _ ω (hc.arr_inv hh hk);rw[drop_zero,take_of_length_le ω]at this;exact .cc this
     .rw[Cq _ _ A];exact (f q hq).mono b
    have j:E8 (Ay H hd .dead) n:=(by intro m z;have l:hd≠m:=(by intro y;subst y;have:=c hd z;rw[hh]at this;cases this);rw[Cq _ _ (Ne.symm l)];exact c m z);obtain⟨B,y,R,N,M,L,J,I⟩:=Ao8 i h G x j;exact⟨B,y,R,N,b.trans M,L,J,I⟩
   .exact h.elim
  .exact h.elim
theorem Ao9 {N:Nat} {ops:Array Oper} (h:(ops.toList.all λo=>(Mc ops o).all λs=>Nat.blt s N)=true):Adg ops N:=by intro i o c s b;rw[D8]at h;have:=h o (by simpa using Array.mem_of_getElem? c);rw[D8]at this;exact Hn (this s b)
theorem Tl (hT:Dd P C.T) (hm:P.follows .mixedOrders=true):∀(c:Code) (Q':Ex->Nat->Bx->Hp->Prop) (n:Nat) (e:Bx) (H:Hp) (σ:A7) (ι:Ca) (a:Act) (w:World) (Q:Exit->Act->World->Prop), Lg a.tmps.size c=true->vc P C c Q' n e H->St σ ι H F W w->Er σ ι H e a->E8 H n -> (∀x n' e' H' σ' ι' a' w',Q' x n' e' H'->Le σ ι H σ' ι' H'->St σ' ι' H' F W w'->Er σ' ι' H' e' a'->E8 H' n'->n<=n'->a'.tmps.size=a.tmps.size->a'.defers=a.defers->Fx (Fh c) a a'->Q x.out a' w')->c.wp P Q a w
 | .skip,Q',n,e,H,σ,ι,a,w,Q,_,h,s,U,S,hk=>wp_skip (hk .normal n e H σ ι a w h (Le.refl _ _ _) s U S (Nat.le_refl _) rfl rfl (Fx.refl _ _))
 | .exit id,Q',n,e,H,σ,ι,a,w,Q,_,h,s,U,S,hk=>wp_exit (hk (.exit id) n e H σ ι a w h (Le.refl _ _ _) s U S (Nat.le_refl _) rfl rfl (Fx.refl _ _))
 | .ret,Q',n,e,H,σ,ι,a,w,Q,_,h,s,U,S,hk=>wp_ret (hk .ret n e H σ ι a w h (Le.refl _ _ _) s U S (Nat.le_refl _) rfl rfl (Fx.refl _ _))
 | .region id ops draw,Q',n,e,H,σ,ι,a,w,Q,u,h,s,U,S,hk=>by
  simp only[vc]at h;obtain⟨σ0,e0,b3,h,ap,s0,az,ba⟩:=Ao8 _ h s U S;obtain⟨n',e',H',accs,hK,_,bh,av,hf,aj⟩:=Ajj hT ops.toList [] 0 n e0 b3 [] _ ψ rfl ba h;have ar:=Ao9 u;cases draw with
  | false=>simp only[cond_false]at hK;refine wp_region ?_;have:range ops.size=range' 0 ops.toList.length:=(by rw[range_eq_range'];simp);rw[this];refine aj.wpOps s0 az ar ?_;intro σ' ι' a' w' le s' ao g l hu;exact hk .normal n' e' H' σ' ι' a' w' hK (ap.trans le) s' ao hf av g l hu
  | true=>
   simp only[cond_true]at hK;obtain⟨b9,hK⟩:=hK;refine wp_region_any hm ?_;have L:ops=ops.toList.toArray:=ψ;rw[L];simp only[size_toArray];refine Ai1 (accs:=accs) (e':=e') (H':=H') b9 ops.toList.length _ (range' 0 ops.toList.length) e0 b3 σ0 ι a _ (by rw[<-L];exact aj) (pairwise_lt_range' ..) ?_ ψ ?_ ψ (s0.drew _) az (by rw[<-L];exact ar) ?_
   .intro i;simp only[mem_range'_1,Array.getD_eq_getD_getElem?];constructor
    .rintro⟨_,h2⟩;refine⟨ω,?_⟩;have:i<ops.size:=(by simpa using h2);simp[this]
    .rintro⟨h1,_⟩;omega
   .intro k o bg hl;exfalso;simp only[Array.getD_eq_getD_getElem?]at hl;by_cases ah:k<ops.size
    .simp[ah]at hl
    .simp[ah]at hl
   .intro σ' ι' a' w' le s' ao g l hu;exact hk .normal n' e' H' σ' ι' a' w' hK (ap.trans le) s' ao hf av g l (by rw[<-L]at hu;exact hu)
 | .seq c1 c2,Q',n,e,H,σ,ι,a,w,Q,u,h,s,U,S,hk=>by simp only[Lg,Fe]at u;simp only[vc]at h;refine wp_seq (Tl hT hm c1 _ n e H σ ι a w _ u.1 h s U S ?_);intro x n1 L N D G a1 R hq f A j z B g l hu;cases x with| normal=>refine Tl hT hm c2 Q' n1 L N D G a1 R Q (by rw[g];exact u.2) hq A j z ?_;intro x n2 e2 H2 σ2 ι2 a2 w2 b8 V s2 ae ag ac X Y ab;exact hk x n2 e2 H2 σ2 ι2 a2 w2 b8 (f.trans V) s2 ae ag ω (X.trans g) (Y.trans l) ((hu.mono (by simp[Fh];exact λs h=>.inl h)).trans (ab.mono (by simp[Fh];exact λs h=>.inr h)))| exit id=>exact hk (.exit id) n1 L N D G a1 R hq f A j z B g l (hu.mono (by simp[Fh];exact λs h=>.inl h))| ret=>exact hk .ret n1 L N D G a1 R hq f A j z B g l (hu.mono (by simp[Fh];exact λs h=>.inl h))
 | .cond x c1 c2,Q',n,e,H,σ,ι,a,w,Q,u,h,s,U,S,hk=>by
  simp only[Lg,Fe]at u;simp only[vc,Ao6]at h;split at h
  .rename_i t hx;have hc:=U.eval (x:=x) (λt ht=>by cases x with| tmp q=>cases ht;exact Hn u.1.1| _=>cases ht)
   rw[hx]at hc;have hv:=hc.val_inv;cases t with| true=>refine wp_cond_true hv (Tl hT hm c1 Q' n e H σ ι a w Q u.1.2 h s U S ?_);intro x n1 L N D G a1 R hq f A j z B g l hu;exact hk x n1 L N D G a1 R hq f A j z B g l (hu.mono (by simp[Fh];exact λs h=>.inl h))| false=>refine wp_cond_false hv (Tl hT hm c2 Q' n e H σ ι a w Q u.2 h s U S ?_);intro x n1 L N D G a1 R hq f A j z B g l hu;exact hk x n1 L N D G a1 R hq f A j z B g l (hu.mono (by simp[Fh];exact λs h=>.inr h))
  .exact h.elim
 | .block id c,Q',n,e,H,σ,ι,a,w,Q,u,h,s,U,S,hk=>by
  simp only[vc]at h;refine wp_block (Tl hT hm c _ n e H σ ι a w _ u h s U S ?_);intro x n1 L N D G a1 R hq f A j z B g l hu;cases x with
  | normal=>exact hk .normal n1 L N D G a1 R hq f A j z B g l hu
  | exit i=>
   simp only[Ex.out,Exit.inBlock];by_cases hi:i=id
   .subst hi;rw[if_pos rfl];have:Nat.beq i i=true:=Nat.beq_refl i;simp only[this,cond_true]at hq;exact hk .normal n1 L N D G a1 R hq f A j z B g l hu
   .rw[if_neg hi];have:Nat.beq i id=false:=by
     cases hb:Nat.beq i id
     .rfl
     .exact (hi (Gk hb)).elim
    simp only[this,cond_false]at hq;exact hk (.exit i) n1 L N D G a1 R hq f A j z B g l hu
  | ret=>exact hk .ret n1 L N D G a1 R hq f A j z B g l hu
 | .loop c,Q',n,e,H,σ,ι,a,w,Q,u,h,s,U,S,hk=>by
  simp only[vc]at h;obtain⟨I,aq,iv,hv,m,i0,hb,h0,b6,be,step⟩:=h;have b4:∀x,n<=x->ι x = .none:=(by intro x hx;have:=s.obj x;unfold Cr at this;rw[S x hx]at this;exact this);have am:∀i,∀p∈hv i,p.1<n:=(by intro i p hp;have:=hb i;unfold Jz at this;rw[Fe,D8,D8]at this;exact Hn (this.2 p hp));have ax:∀i,∀p∈iv i,p.2.under n=true:=(by intro i p hp;have:=hb i;unfold Jz at this;rw[Fe,D8,D8]at this;exact this.1 p hp);have ai:∀i,E8 (Ci H (hv i)) n:=(by intro i x hx;rw[Tg (λp hp e=>by have:=am i p hp;omega)];exact S x hx);let J:Nat->Act->World->Prop:=λk a' w'=>∃i σ' ι',m i=k/\aq i/\Le σ ι H σ' ι' (Ci H (hv i))/\St σ' ι' (Ci H (hv i)) F W w' /\
   Er σ' ι' (Ci H (hv i)) (Jy (Fh c) e (λs=>a'.tmps.getD s undef) (iv i)) a'/\a'.tmps.size=a.tmps.size/\a'.defers=a.defers/\Fx (Fh c) a a'
  have a6:∀(i:I) (D:A7) (G:Ca) (N:Hp) (L:Bx) (a1:Act) (R:World),aq i->G3 L (iv i)->G5 N (Ci H (hv i)) n n->Le σ ι H D G N->St D G N F W R->Er D G N L a1->a1.tmps.size=a.tmps.size ->
    a1.defers=a.defers->Fx (Fh c) a a1->J (m i) a1 R:=by
   intro i D G N L a1 R hi au ay f A j M Z a8;let ι2:Ca:=λx=>if x<n then G x else .none
   have a7:∀x,x<n->ι2 x=G x:=λx hx=>if_pos hx;have aa:∀x,x<n->Ci H (hv i) x=N x:=λx hx=>((ay.spec) x hx).1.symm;have V:Le σ ι H D ι2 (Ci H (hv i)):=by
    refine⟨f.sto,λx=>?_⟩;by_cases hx:x<n
    .rw[a7 x hx,aa x hx];exact f.obj x
    .rw[b4 x ω,S x ω];exact HLe.of_none
   have s2:St D ι2 (Ci H (hv i)) F W R:=by
    refine⟨A.sto,A.fra,λx=>?_,?_,A.os,A.tape,A.output,A.glo,A.drw⟩
    .by_cases hx:x<n
     .have ho:=A.obj x;have ak:=((ay.spec) x hx).2;unfold Cr at ho ⊢;rw[aa x hx]at ak ⊢;rw[a7 x hx];cases af:N x with
      | none=>rw[af]at ho;exact ho
      | dead=>trivial
      | cells E cs=>rw[af]at ho ak;obtain⟨b,Cc,g1,g2,g3,g4,g5,g6⟩:=ho;refine⟨b,Cc,g1,g2,g3,g4,g5,λq cq v hq b5=>(g6 q cq v hq b5).restrict a7 aa ?_⟩;have:=D8.1 ak cq (Fi hq);exact Adv this
      | rows E sz xs=>rw[af]at ho;exact ho
      | map es=>rw[af]at ho;exact ho
     .unfold Cr;rw[ai i x ω];exact if_neg hx
    .intro x y b lx ly bx b0;have hx:x<n:=by
      rcases Nat.lt_or_ge x n with hx|hx
      .exact hx
      .rw[ai i x hx]at lx;cases lx
     have hy:y<n:=by
      rcases Nat.lt_or_ge y n with hy|hy
      .exact hy
      .rw[ai i y hy]at ly;cases ly
     rw[aa x hx]at lx;rw[aa y hy]at ly;rw[a7 x hx]at bx;rw[a7 y hy]at b0;exact A.inj x y b lx ly bx b0
   refine⟨i,D,ι2,rfl,hi,V,s2,?_,M,Z,a8⟩;intro q hq;rcases Ad2 (Fh c) e (λs=>a1.tmps.getD s undef) (iv i) q with⟨p,hp,rfl,ad⟩|⟨hw,ad⟩|⟨hw,ad⟩
   .rw[ad,<-au.spec p hp];refine (j p.1 hq).restrict a7 aa ?_;rw[au.spec p hp];exact ax i p hp
   .rw[ad];exact .of_val _
   .rw[ad,a8 q hw];exact (U q ω).mono V
  refine Ajk J (m i0) (a6 i0 σ ι H e a w h0 b6 be (Le.refl _ _ _) s U rfl rfl (Fx.refl _ _)) ?_;rintro k a1 R ⟨i,D,G,rfl,hi,f,A,j,M,Z,a8⟩;refine Tl hT hm c _ n _ _ D G a1 R _ (by rw[M];exact u) (step i (λs=>a1.tmps.getD s undef) hi) A j (ai i) ?_;intro x n2 e2 H2 σ2 ι2 a2 w2 hq V s2 ae ag ac X Y ab;cases x with| normal=>obtain⟨i',bb,b7,bf,ah⟩:=hq;exact⟨m i',ah,a6 i' σ2 ι2 H2 e2 a2 w2 bb b7 bf (f.trans V) s2 ae (X.trans M) (Y.trans Z) (a8.trans ab)⟩| exit id=>exact hk (.exit id) n2 e2 H2 σ2 ι2 a2 w2 hq (f.trans V) s2 ae ag ac (X.trans M) (Y.trans Z) (a8.trans ab)| ret=>exact hk .ret n2 e2 H2 σ2 ι2 a2 w2 hq (f.trans V) s2 ae ag ac (X.trans M) (Y.trans Z) (a8.trans ab)
 | .rangeFunc ..,_,_,_,_,_,_,_,_,_,_,h,_,_,_,_=>by simp only[vc]at h
 | .scope _,_,_,_,_,_,_,_,_,_,_,h,_,_,_,_=>by simp only[vc]at h
 | .label _,_,_,_,_,_,_,_,_,_,_,h,_,_,_,_=>by simp only[vc]at h
 | .goto _,_,_,_,_,_,_,_,_,_,_,h,_,_,_,_=>by simp only[vc]at h
 | .refuse _,_,_,_,_,_,_,_,_,_,_,h,_,_,_,_=>by simp only[vc]at h
end
def Ad3 (T:Dc) (e:Bx) (H:Hp):ResultVar->Option AV
 | .tmp t=>some (e t)
 | .cell a t=> match e a with
  | .loc h off=> match H h with
   | .cells _ cs=> match T t with
    | some i=>bif i.isAgg then (bif Nat.ble (off+i.size) cs.length then some (.agg ((cs.drop off).take i.size)) else none) else cs[off]?
    | none=>none
   | _=>none
  | _=>none
def Ad4 (x:AV) (H:Hp) (K:AV->Hp->Prop):Prop := match x with
 | .arr h k 0 len=> match H h with
  | .rows _ sz xs=>Hs k xs (Hs len xs (K (.sl sz xs) (Ay H h .dead)))
  | _=>False
 | x=>K x H
def Ad5:List AV->Hp->(List AV->Hp->Prop)->Prop
 | [],H,K=>K [] H
 | x::xs,H,K=>Ad4 x H λy H=>Ad5 xs H λys H=>K (y::ys) H
def fin (x:AV) (H:Hp) (K:AV->Hp->Prop):Prop := match x with
 | .agg cs=>Ad5 cs H λcs H=>K (.agg cs) H
 | x=>Ad4 x H K
def Ad6:List AV->Hp->(List AV->Prop)->Prop
 | [],_,K=>K []
 | x::xs,H,K=>fin x H λy H=>Ad6 xs H λys=>K (y::ys)
def V7 (T:Dc) (e:Bx) (H:Hp):List ResultVar->Option (List AV)
 | []=>some []
 | r::rs=> match Ad3 T e H r with
  | none=>none
  | some x=> match V7 T e H rs with
   | none=>none
   | some xs=>some (x::xs)
def Yu:List AV->AV
 | [x]=>x
 | xs=>.tup xs
def Tn (T:Dc) (b:List ResultVar) (K:AV->Prop) (e:Bx) (H:Hp):Prop := match V7 T e H b with
 | none=>False
 | some xs=>Ad6 xs H λys=>K (Yu ys)
def V8 (args:List AV):Bx:=λn=>args.getD n (.val undef)
def To:ResultVar->Nat
 | .tmp t=>t
 | .cell a _=>a
def V9 (fn:Func) (c:Code) (k:Nat):Bool:=Lg fn.ntmps c&&(fn.results.toList.all λr=>Nat.blt (To r) fn.ntmps)&&Nat.ble k fn.ntmps
section
variable {P:Program} {T:Dc} {F:A7} {W w:World}
variable {σ:A7} {x:AV} {K:AV->Hp->Prop} {a:Act} {e:Bx} {ι:Ca} {H:Hp} {v:Value}
theorem Apa (h:Ad4 x H K) (s:St σ ι H F W w) (hc:Conc σ ι H x v) : ∃b y H',K y H'/\Le σ ι H b ι H'/\St b ι H' F W w/\Conc b ι H' y v:=by
 unfold Ad4 at h;split at h
 .rename_i hd k len;split at h
  .rename_i E sz xs hh;obtain⟨hk,j,h⟩:=h;obtain⟨g,c,i,f⟩:=s.freeze hh;refine⟨g,.sl sz xs,Ay H hd .dead,h,c,i,.cc ?_⟩;have:=f 0 len _ ω (hc.arr_inv hh hk);rwa [drop_zero,take_of_length_le ω]at this
  .exact h.elim
 .exact⟨σ,_,H,h,Le.refl _ _ _,s,hc⟩
theorem Apb:∀{cs:List AV} {vs:List Value} {H:Hp} {K:List AV->Hp->Prop} {σ:A7} {ι:Ca},Ad5 cs H K->St σ ι H F W w->vs.length=cs.length->(∀(i:Nat) (c:AV) (v:Value),cs[i]? = some c->vs[i]? = some v->Conc σ ι H c v) -> ∃j ys H',K ys H'/\Le σ ι H j ι H'/\St j ι H' F W w/\vs.length=ys.length/\∀(i:Nat) (c:AV) (v:Value),ys[i]? = some c->vs[i]? = some v->Conc j ι H' c v
 | [],vs,H,K,σ,ι,h,s,g,hc=>⟨σ,[],H,h,Le.refl _ _ _,s,g,hc⟩
 | x::cs,[],H,K,σ,ι,h,s,g,hc=>by simp at g
 | x::cs,v::vs,H,K,σ,ι,h,s,g,hc=>by simp only[Ad5]at h;obtain⟨B,y,D,h1,f,z,c1⟩:=Apa h s (hc 0 x v ψ ψ);obtain⟨l,ys,A,h2,b,q,k,c2⟩:=Apb (vs:=vs) h1 z (by simpa using g) (λi c u hi hu=>(hc (i+1) c u (by simpa using hi) (by simpa using hu)).mono f);refine⟨l,y::ys,A,h2,f.trans b,q,by simp[k],λi c u hi hu=>?_⟩;cases i with| zero=>simp at hi hu;subst hi;subst hu;exact c1.mono b| succ i=>exact c2 i c u (by simpa using hi) (by simpa using hu)
theorem Apc (h:fin x H K) (s:St σ ι H F W w) (hc:Conc σ ι H x v) : ∃b y H',K y H'/\Le σ ι H b ι H'/\St b ι H' F W w/\Conc b ι H' y v:=by
 unfold fin at h;split at h
 .rename_i cs;obtain⟨vs,rfl,l,hv⟩:=hc.agg_inv;obtain⟨j,ys,q,h1,f,k,g,c1⟩:=Apb (vs:=vs.toList) h s (by simpa using l) (λi c u hi hu=>hv i c u hi (by simpa using hu));exact⟨j,.agg ys,q,h1,f,k,.agg ys vs (by simpa using g) (λi c u hi hu=>c1 i c u hi (by simpa using hu))⟩
 .exact Apa h s hc
theorem Apd:∀{xs:List AV} {vs:List Value} {H:Hp} {K:List AV->Prop} {σ:A7} {ι:Ca},Ad6 xs H K->St σ ι H F W w->vs.length=xs.length->(∀(i:Nat) (c:AV) (v:Value),xs[i]? = some c->vs[i]? = some v->Conc σ ι H c v) -> ∃j ys H',K ys/\Le σ ι H j ι H'/\St j ι H' F W w/\vs.length=ys.length/\∀(i:Nat) (c:AV) (v:Value),ys[i]? = some c->vs[i]? = some v->Conc j ι H' c v
 | [],vs,H,K,σ,ι,h,s,g,hc=>⟨σ,[],H,h,Le.refl _ _ _,s,g,hc⟩
 | x::cs,[],H,K,σ,ι,h,s,g,hc=>by simp at g
 | x::cs,v::vs,H,K,σ,ι,h,s,g,hc=>by simp only[Ad6]at h;obtain⟨B,y,D,h1,f,z,c1⟩:=Apc h s (hc 0 x v ψ ψ);obtain⟨l,ys,A,h2,b,q,k,c2⟩:=Apd (vs:=vs) h1 z (by simpa using g) (λi c u hi hu=>(hc (i+1) c u (by simpa using hi) (by simpa using hu)).mono f);refine⟨l,y::ys,A,h2,f.trans b,q,by simp[k],λi c u hi hu=>?_⟩;cases i with| zero=>simp at hi hu;subst hi;subst hu;exact c1.mono b| succ i=>exact c2 i c u (by simpa using hi) (by simpa using hu)
def Tp (b:Array Value):ResultVar->Sem Value
 | .tmp t=>pure (b.getD t undef)
 | .cell a t=>do loadVar t (<-asAddr (b.getD a undef))
theorem A1z (B:Dd P T) (s:St σ ι H F W w) (A:Er σ ι H e a) {r:ResultVar} (z:To r<a.tmps.size) (h:Ad3 T e H r=some x) : ∃v,(Tp a.tmps r).run P w = .ok v w/\Conc σ ι H x v:=by
 cases r with
 | tmp t=>simp only[Ad3]at h;cases h;exact⟨_,rfl,A t z⟩
 | cell p t=>
  simp only[Ad3]at h;split at h
  .rename_i hd off hx;split at h
   .rename_i E cs hh;split at h
    .rename_i i ht;have hc:=A p z;rw[hx]at hc;obtain⟨b,hb,hv⟩:=hc.loc_inv;have k:=s.obj hd;unfold Cr at k;rw[hh]at k;obtain⟨L,C,I,_,_,h3,J,G⟩:=k;rw[hb]at I;cases I;have h1:=Ac2 (B t i ht) w;cases y:i.isAgg with
     | true=>rw[y]at h h1;simp only[cond_true]at h;cases g:Nat.ble (off+i.size) cs.length with| false=>rw[g]at h;cases h| true=>rw[g]at h;cases h;have g:=G2 g;have h2:=Ny (B t i ht) w;have D:=run_loadCells_list (P:=P) w ⟨b,off,none⟩ ((C.toList.drop off).take i.size) (by intro j v hj;have f:j<i.size:=(by have:=(G1.1 hj).1;simp at this;omega);rw[Hz f,getElem?_drop,Ha]at hj;rw[La,Ki h3];exact hj);have q:((C.toList.drop off).take i.size).length=i.size:=ζ;rw[q]at D;refine⟨_,by simp only[Tp,hv,asAddr,Sem.run_bind,Sem.run_pure,Result.andThen_ok,loadVar,h1,if_true,h2,D];rfl,?_⟩;refine .agg _ _ ζ (λj c u g1 g2=>?_);have f:j<i.size:=(by have:=(G1.1 g1).1;simp at this;omega);rw[Hz f,getElem?_drop]at g1;rw[getElem?_toArray,Hz f,getElem?_drop,Ha]at g2;exact G _ c u g1 g2
     | false=>rw[y]at h h1;simp only[cond_false]at h;have f:off<C.size:=(by rw[J];exact (G1.1 h).1);have l:w.cell? ⟨b,off,none⟩=some C[off]:=(by rw[Ki h3];simp[f]);exact⟨C[off],by simp[Tp,hv,asAddr,loadVar,h1,l],G off x _ h (by simp[f])⟩
    .cases h
   .cases h
  .cases h
theorem Ajl (k:Dd P T) {e:Bx} {H:Hp} {σ:A7} {ι:Ca} {a:Act} (s:St σ ι H F W w) (j:Er σ ι H e a):∀{b:List ResultVar} {xs:List AV},(∀r∈b,To r<a.tmps.size)->V7 T e H b=some xs -> ∃vs:List Value,(b.mapM (Tp a.tmps)).run P w = .ok vs w/\vs.length=xs.length/\∀(i:Nat) (c:AV) (v:Value),xs[i]? = some c->vs[i]? = some v->Conc σ ι H c v
 | [],xs,_,h=>by simp only[V7]at h;cases h;exact⟨[],ψ,rfl,ψ⟩
 | r::b,xs,g,h=>by
  simp only[V7]at h;split at h
  .cases h
  .rename_i x hx;split at h
   .cases h
   .rename_i ys hy;cases h;obtain⟨v,h1,c1⟩:=A1z k s j (g r ψ) hx;obtain⟨vs,h2,q,c2⟩:=Ajl k s j (λl f=>g l (by simp[f])) hy;refine⟨v::vs,by simp[mapM_cons,h1,h2],by simp[q],λi c u hi hu=>?_⟩;cases i with| zero=>simp at hi hu;subst hi;subst hu;exact c1| succ i=>exact c2 i c u (by simpa using hi) (by simpa using hu)
theorem Ape (fn:Func) (b:Array Value):results fn b=(fn.results.mapM (Tp b) >>= λvs=>pure (if h:vs.size=1 then vs[0] else .tuple vs)):=by unfold results;congr 1
theorem A10 (A:Dd P T) {fn:Func} {K:AV->Prop} (s:St σ ι H F W w) (z:Er σ ι H e a) (q:∀r∈fn.results.toList,To r<a.tmps.size) (h:Tn T fn.results.toList K e H) : ∃v f H' r,(results fn a.tmps).run P w = .ok v w/\K r/\Le σ ι H f ι H'/\St f ι H' F W w/\Conc f ι H' r v:=by
 unfold Tn at h;split at h
 .exact h.elim
 .rename_i xs hx;obtain⟨vs,h1,x,c1⟩:=Ajl A s z q hx;obtain⟨f,ys,H',k,le,s',b,j⟩:=Apd h s x c1;have g:(fn.results.mapM (Tp a.tmps)).run P w = .ok vs.toArray w:=(by rw[Array.mapM_eq_mapM_toList];simp[h1]);refine⟨if h:vs.toArray.size=1 then vs.toArray[0] else .tuple vs.toArray,f,H',Yu ys,?_,k,le,s',?_⟩
  .rw[Ape,Sem.run_bind,g];rfl
  .match ys,vs,b,j with| [y],[v],_,j=>exact j 0 y v rfl rfl| [],[],_,_=>exact .tup [] #[] rfl ψ| y::B::ys,v::l::vs,b,j=>have:¬(v::l::vs).toArray.size=1:=ψ;rw[dif_neg this];exact .tup _ _ (by simpa using b) (λi c u hi hu=>j i c u hi (by simpa using hu))| [],_::_,b,_=>simp at b| _::_,[],b,_=>simp at b| [_],_::_::_,b,_=>simp at b| _::_::_,[_],b,_=>simp at b
theorem St.forget (s:St σ ι H F W w):St σ ι0 H0 F W w := ⟨s.sto,s.fra,λ_=>rfl,(λ_ _ _ b=>by cases b),s.os,s.tape,s.output,s.glo,s.drw⟩
theorem Apf {args:List AV} {vs:Array Value} {N:Nat} (h:Lz σ ι H args vs):Er σ ι H (V8 args) ⟨vs++Array.replicate (N-vs.size) undef,[]⟩:=by
 intro q hq;simp only[V8,Array.getD_eq_getD_getElem?];by_cases b:q<args.length
 .have hq':q<vs.size:=(by rw[h.1];exact b);rw[Array.getElem?_append_left hq'];have h1:args[q]? = some args[q]:=getElem?_eq_getElem b;have h2:vs[q]? = some vs[q]:=Array.getElem?_eq_getElem hq';have:=h.2 q _ _ h1 h2;simpa[getD,h1,h2] using this
 .rw[Array.getElem?_append_right (by rw[h.1];omega)];have h1:args[q]? = none:=getElem?_eq_none ω;have hq':q-vs.size<N-vs.size:=(by simp at hq;have:=h.1;omega);simp only[getD,h1,Option.getD_none];simp[hq'];exact .of_val undef
end
inductive Tr where
 | leaf
 | node (l:Tr) (k:Nat) (v:TI) (r:Tr)
def Tr.find:Tr->Nat->Option TI
 | .leaf,_=>none
 | .node l k v r,t=>bif Nat.beq t k then some v else bif Nat.blt t k then l.find t else r.find t
def Tr.toList:Tr->List (Nat×TI)
 | .leaf=>[]
 | .node l k v r=>l.toList++(k,v)::r.toList
theorem Tr.find_mem:∀(t:Tr) (k:Nat) (v:TI),t.find k=some v->(k,v)∈t.toList
 | .leaf,k,v,h=>by cases h
 | .node l b f r,k,v,h=>by
  simp only[Tr.find]at h;simp only[Tr.toList,mem_append,mem_cons];cases hb:Nat.beq k b with
  | true=>rw[hb]at h;simp only[cond_true]at h;cases h;rw[Gk hb];exact .inr (.inl rfl)
  | false=>rw[hb]at h;simp only[cond_false]at h;cases c:Nat.blt k b with| true=>rw[c]at h;exact .inl (Tr.find_mem l k v h)| false=>rw[c]at h;exact .inr (.inr (Tr.find_mem r k v h))
theorem Tr.ok {P:Program} {t:Tr} (h:t.toList.map (λp=>I9 P p.1)=t.toList.map (λp=>some p.2)):Dd P t.find:=by intro k v hk;have b:=t.find_mem k v hk;obtain⟨i,hi⟩:=getElem?_of_mem b;have:=congrArg (λl=>l[i]?) h;simpa[hi] using this
def Ad7:List AV->Hp->(List AV->Hp->Prop)->Prop
 | [],H,K=>K [] H
 | x::xs,H,K=>fin x H λy H=>Ad7 xs H λys H=>K (y::ys) H
def Rh (H:Hp):Nat->List Bq->Prop
 | _,[]=>True
 | k,o::os=>H k=o/\Rh H (k+1) os
def Tq (T:Dc) (fz:Bool) (c:List ResultVar) (r:AV) (b:List Bq) (e:Bx) (H:Hp):Prop := match V7 T e H c with
 | none=>False
 | some xs=>bif fz then Ad7 xs H λys H=>Yu ys=r/\Rh H 0 b else Yu xs=r/\Rh H 0 b
section
variable {P:Program} {T:Dc} {F:A7} {W w:World}
variable {σ:A7} {r:AV} {ι:Ca} {H:Hp}
theorem Rh.spec {H:Hp}:∀{os:List Bq} {k:Nat},Rh H k os->∀i,i<os.length->H (k+i)=hp os i
 | [],k,_,i,hi=>by simp at hi
 | o::os,k,h,0,_=>by simpa[hp] using h.1
 | o::os,k,h,i+1,hi=>by have:=Rh.spec h.2 i (by simpa using hi);rw[show k+(i+1)=k+1+i by omega,this];simp[hp]
theorem Apg:∀{xs:List AV} {vs:List Value} {H:Hp} {K:List AV->Hp->Prop} {σ:A7} {ι:Ca},Ad7 xs H K->St σ ι H F W w->vs.length=xs.length->(∀(i:Nat) (c:AV) (v:Value),xs[i]? = some c->vs[i]? = some v->Conc σ ι H c v) -> ∃j ys H',K ys H'/\Le σ ι H j ι H'/\St j ι H' F W w/\vs.length=ys.length/\∀(i:Nat) (c:AV) (v:Value),ys[i]? = some c->vs[i]? = some v->Conc j ι H' c v
 | [],vs,H,K,σ,ι,h,s,g,hc=>⟨σ,[],H,h,Le.refl _ _ _,s,g,hc⟩
 | x::cs,[],H,K,σ,ι,h,s,g,hc=>by simp at g
 | x::cs,v::vs,H,K,σ,ι,h,s,g,hc=>by simp only[Ad7]at h;obtain⟨B,y,D,h1,f,z,c1⟩:=Apc h s (hc 0 x v ψ ψ);obtain⟨l,ys,A,h2,b,q,k,c2⟩:=Apg (vs:=vs) h1 z (by simpa using g) (λi c u hi hu=>(hc (i+1) c u (by simpa using hi) (by simpa using hu)).mono f);refine⟨l,y::ys,A,h2,f.trans b,q,by simp[k],λi c u hi hu=>?_⟩;cases i with| zero=>simp at hi hu;subst hi;subst hu;exact c1.mono b| succ i=>exact c2 i c u (by simpa using hi) (by simpa using hu)
theorem A11 (B:Dd P T) {fn:Func} {fz:Bool} {q:List Bq} {e:Bx} {a:Act} (s:St σ ι H F W w) (A:Er σ ι H e a) (l:∀r∈fn.results.toList,To r<a.tmps.size) (h:Tq T fz fn.results.toList r q e H):∃v f H',(results fn a.tmps).run P w = .ok v w/\Rh H' 0 q/\Le σ ι H f ι H'/\St f ι H' F W w/\Conc f ι H' r v:=by
 unfold Tq at h;split at h
 .exact h.elim
 .rename_i xs hx;obtain⟨vs,h1,x,c1⟩:=Ajl B s A l hx;have key:∃f ys H',(Yu ys=r/\Rh H' 0 q)/\Le σ ι H f ι H'/\St f ι H' F W w/\vs.length=ys.length/\∀(i:Nat) (c:AV) (v:Value),ys[i]? = some c->vs[i]? = some v->Conc f ι H' c v:=(by cases fz with| true=>exact Apg h s x c1| false=>exact⟨σ,xs,H,h,Le.refl _ _ _,s,x,c1⟩);obtain⟨f,ys,H',⟨rfl,k⟩,le,s',b,j⟩:=key;have g:(fn.results.mapM (Tp a.tmps)).run P w = .ok vs.toArray w:=(by rw[Array.mapM_eq_mapM_toList];simp[h1]);refine⟨if h:vs.toArray.size=1 then vs.toArray[0] else .tuple vs.toArray,f,H',?_,k,le,s',?_⟩
  .rw[Ape,Sem.run_bind,g];rfl
  .match ys,vs,b,j with| [y],[v],_,j=>exact j 0 y v rfl rfl| [],[],_,_=>exact .tup [] #[] rfl ψ| y::D::ys,v::z::vs,b,j=>have:¬(v::z::vs).toArray.size=1:=ψ;rw[dif_neg this];exact .tup _ _ (by simpa using b) (λi c u hi hu=>j i c u hi (by simpa using hu))| [],_::_,b,_=>simp at b| _::_,[],b,_=>simp at b| [_],_::_::_,b,_=>simp at b| _::_::_,[_],b,_=>simp at b
theorem St.first (s:St σ ι H F W w) (f:List Bq) (hk:∀i,i<f.length->H i=hp f i) (hu:f.all (Bq.under f.length)=true) : St σ (λk=>if k<f.length then ι k else .none) (hp f) F W w:=by
 have B:∀h,h<f.length->(λk=>if k<f.length then ι k else Loc.none) h=ι h:=λh j=>if_pos j;have hH:∀h,h<f.length->hp f h=H h:=λh j=>(hk h j).symm;have lt:∀k,(hp f k).live=true->k<f.length:=by
  intro k h;rcases Nat.lt_or_ge k f.length with h'|h'
  .exact h'
  .rw[Rf h']at h;cases h
 refine⟨s.sto,s.fra,λk=>?_,λk u b h1 h2 h3 q=>?_,s.os,s.tape,s.output,s.glo,s.drw⟩
 .by_cases j:k<f.length
  .have g:=s.obj k;have l:=D8.1 hu _ (Fi (Ys j));unfold Cr at g ⊢;rw[hk k j]at g;dsimp only;rw[if_pos j];cases hx:hp f k with| none=>rw[hx]at g;exact g| dead=>trivial| rows E sz xs=>rw[hx]at g;exact g| map es=>rw[hx]at g;exact g| cells E cs=>rw[hx]at g l;obtain⟨b,C,G,h1,h2,h3,q,D⟩:=g;refine⟨b,C,G,h1,h2,h3,q,λi c v x y=>?_⟩;have hc:=D8.1 l c (Fi x);refine (D i c v x y).restrict (n:=f.length) B hH ?_;exact Adv hc
  .unfold Cr;rw[Rf ω];exact if_neg j
 .have A:=lt k h1;have z:=lt u h2;rw[if_pos A]at h3;rw[if_pos z]at q;rw[hH k A]at h1;rw[hH u z]at h2;exact s.inj k u b h1 h2 h3 q
def Ajm (c:List Bq) (r:AV) (b:List Bq):Bool:=Nat.ble c.length b.length&&r.under b.length&&b.all (Bq.under b.length)
def Sub (x y:AV):Prop:=∀(σ:A7) (ι:Ca) (H:Hp) (v:Value),Conc σ ι H x v->Conc σ ι H y v
theorem Sub.refl (x:AV):Sub x x:=λ_ _ _ _ h=>h
theorem Sub.nil (sz:Nat):Sub (.val (.slice none 0 0)) (.sl sz []):=λ_ _ _ _ h=>Ady rfl h
def Ri:List AV->List AV->Prop
 | [],[]=>True
 | x::xs,y::ys=>Sub x y/\Ri xs ys
 | _,_=>False
theorem Ri.spec:∀{xs ys:List AV},Ri xs ys->xs.length=ys.length/\∀(i:Nat) (y:AV),ys[i]? = some y->∃x,xs[i]? = some x/\Sub x y
 | [],[],_=>⟨rfl,ψ⟩
 | [],_::_,h=>h.elim
 | _::_,[],h=>h.elim
 | x::xs,y::ys,h=>by obtain⟨h1,h2⟩:=Ri.spec h.2;refine⟨by simp[h1],λi z b=>?_⟩;cases i with| zero=>simp at b;subst b;exact⟨x,rfl,h.1⟩| succ i=>simpa using h2 i z (by simpa using b)
theorem Sub.agg {xs ys:List AV} (h:Ri xs ys):Sub (.agg xs) (.agg ys):=by intro σ ι H v hc;obtain⟨vs,rfl,b,hv⟩:=hc.agg_inv;obtain⟨h1,h2⟩:=h.spec;refine .agg _ vs (by rw[<-h1];exact b) λi c u h3 j=>?_;obtain⟨x,g,f⟩:=h2 i c h3;exact f _ _ _ _ (hv i x u g j)
theorem A8.sub {f:FuncId} {args b:List AV} {k:AV} (h:A8 P f b r) (ha:Ri args b) (q:Sub r k):A8 P f args k:=by
 refine⟨h.1,λσ F W w vs s hc=>?_⟩;obtain⟨h1,h2⟩:=ha.spec;refine (h.2 σ F W w vs s ⟨by rw[<-h1];exact hc.1,λi a v h3 j=>?_⟩).mono ?_
 .obtain⟨x,g,c⟩:=h2 i a h3;exact c _ _ _ _ (hc.2 i x v g j)
 .rintro e w' ⟨v,l,h3,j,g,c⟩;exact⟨v,l,h3,j,g,q _ _ _ _ c⟩
theorem Bo.sub {f:FuncId} {args b:List AV} {g c:List Bq} {r:AV} (h:Bo P f b g r c) (ha:Ri args b):Bo P f args g r c:=by refine⟨h.1,λσ F W w ι vs s hc=>?_⟩;obtain⟨h1,h2⟩:=ha.spec;refine h.2 σ F W w ι vs s ⟨by rw[<-h1];exact hc.1,λi a v h3 l=>?_⟩;obtain⟨x,k,j⟩:=h2 i a h3;exact j _ _ _ _ (hc.2 i x v k l)
end
inductive F9 (K:Prop):Prop where
 | mk (k:K)
def opK (P:Program) (T:Dc) (an:Nat->Ann) (nl:Nat->List (Nat×Nat)) (o:Oper) (n:Nat) (e:Bx) (H:Hp) (acc:Jx) (K:Nat->Bx->Hp->Jx->Prop):Prop := Fg P T an n o (ev e) H λb m=>Md (M5 (N4 nl o.dst) b.r) λr=>Ov b.wr λwr=>Kl b.rd λf=>Kl wr λc=>Ld e o.dst r H wr λe H=>F9 (K m e H (acc++[(f,c)]))
def Yv (o:Oper) (n:Nat) (e:Bx) (H:Hp) (acc:Jx) (K:Nat->Bx->Hp->Jx->Prop):Prop := Ld e o.dst (.val undef) H [] λe H=>F9 (K n e H (acc++[([],[])]))
def Fz (P:Program) (T:Dc) (an:Nat->Ann) (nl:Nat->List (Nat×Nat)) (ops:Array Oper):List Oper->Nat->Bx->Hp->Jx->(Nat->Bx->Hp->Jx->Prop)->Prop
 | [],n,e,H,acc,K=>K n e H acc
 | o::os,n,e,H,acc,K=> match o.guard with
  | none=>opK P T an nl o n e H acc λn e H acc=>Fz P T an nl ops os n e H acc K
  | some p=> match (ops[p.1]?).bind (·.dst) with
   | none=>False
   | some s=> match e s with
    | .val v=>bif Tf v==some p.2 then opK P T an nl o n e H acc λn e H acc=>Fz P T an nl ops os n e H acc K else Yv o n e H acc λn e H acc=>Fz P T an nl ops os n e H acc K
    | _=>False
section
variable {P:Program} {T:Dc} {an:Nat->Ann} {nl:Nat->List (Nat×Nat)} {ops:Array Oper}
theorem Ajn (E:Dd P T):∀(os:List Oper) (i n:Nat) (e:Bx) (H:Hp) (acc:Jx) (K:Nat->Bx->Hp->Jx->Prop),ops.toList.drop i=os->acc.length=i->E8 H n->Fz P T an nl ops os n e H acc K -> ∃b e' H' accs,K b e' H' accs/\accs.take i=acc/\accs.length=i+os.length/\n<=b/\E8 H' b/\Run P ops (λk=>accs.getD k ([],[])) (range' i os.length) e H e' H'
 | [],i,n,e,H,acc,K,hd,j,y,h=>⟨n,e,H,acc,h,by rw[<-j];simp,by simpa using j,Nat.le_refl _,y,.nil e H⟩
 | o::os,i,n,e,H,acc,K,hd,j,y,h=>by
  have G:ops[i]? = some o:=(by have:=congrArg (λl=>l[0]?) hd;simpa using this);have u:ops.toList.drop (i+1)=os:=(by have:=congrArg (drop 1) hd;simpa[drop_drop] using this);have run:Jw ops o e true->(opK P T an nl o n e H acc λn e H acc=>Fz P T an nl ops os n e H acc K) ->
    ∃b e' H' accs,K b e' H' accs/\accs.take i=acc/\accs.length=i+(o::os).length/\n<=b/\E8 H' b/\Run P ops (λk=>accs.getD k ([],[])) (range' i (o::os).length) e H e' H':=by
   intro hg g;obtain⟨c,m,h1,h2,h3,N,L⟩:=Ao5 E y g;simp only[V5,Aja,Ajb,Adz]at h3;obtain⟨b,e',H',accs,B,x,J,I,A,z⟩:=Ajn E os (i+1) m _ _ _ K u (by simp[j]) L h3.1;have D:accs[i]? = some (c.rd.map (·.1),c.wr.map (·.1)):=(by have M:(accs.take (i+1))[i]? = accs[i]?:=Hz ω;rw[<-M,x,getElem?_append_right ω];simp[j]);have q:accs.getD i ([],[])=(c.rd.map (·.1),c.wr.map (·.1)):=(by simp[getD,D]);refine⟨b,e',H',accs,B,?_,by simp only[length_cons];omega,ω,A,?_⟩
   .have:=congrArg (take i) x;rw[take_take]at this;simpa[j] using this
   .rw[length_cons,range'_succ];refine .cons o (M5 (N4 nl o.dst) c.r) c.wr ⟨G,.inl ⟨hg,_,h1.nils (N4 nl o.dst),h2,?_,?_,rfl,rfl⟩⟩ z
    .intro p hp;show p.1∈(accs.getD i ([],[])).1;rw[q];exact mem_map_of_mem hp
    .intro p hp;show p.1∈(accs.getD i ([],[])).2;rw[q];exact mem_map_of_mem hp
  have skip:Jw ops o e false->(Yv o n e H acc λn e H acc=>Fz P T an nl ops os n e H acc K) ->
    ∃b e' H' accs,K b e' H' accs/\accs.take i=acc/\accs.length=i+(o::os).length/\n<=b/\E8 H' b/\Run P ops (λk=>accs.getD k ([],[])) (range' i (o::os).length) e H e' H':=by
   intro hg g;unfold Yv at g;rw[Adz]at g;obtain⟨b,e',H',accs,B,x,J,I,A,z⟩:=Ajn E os (i+1) n _ _ _ K u (by simp[j]) y g.1;refine⟨b,e',H',accs,B,?_,by simp only[length_cons];omega,ω,A,?_⟩
   .have:=congrArg (take i) x;rw[take_take]at this;simpa[j] using this
   .rw[length_cons,range'_succ];exact .cons o (.val undef) [] ⟨G,.inr ⟨hg,rfl,rfl⟩⟩ z
  simp only[Fz]at h;cases f:o.guard with
  | none=>rw[f]at h;exact run (by unfold Jw;rw[f]) h
  | some p=>
   rw[f]at h;simp only[]at h;cases g:(ops[p.1]?).bind (·.dst) with
   | none=>rw[g]at h;exact h.elim
   | some s=>
    rw[g]at h;simp only[]at h;split at h
    .rename_i v hv;cases hb:Tf v==some p.2 with| true=>rw[hb]at h;exact run (by unfold Jw;rw[f];exact⟨s,v,g,hv,hb.symm⟩) h| false=>rw[hb]at h;exact skip (by unfold Jw;rw[f];exact⟨s,v,g,hv,hb.symm⟩) h
    .exact h.elim
variable {o:Oper} {os:List Oper} {n:Nat} {e:Bx} {H:Hp} {acc:Jx} {K:Nat->Bx->Hp->Jx->Prop} {β:Type} {r:β}
variable {s:Nat} {p:Nat×Bool}
theorem nx (k:opK P T an nl o n e H acc λn e H acc=>Fz P T an nl ops os n e H acc K) (hg:o.guard=none:=by exact rfl):F9 (Fz P T an nl ops (o::os) n e H acc K):=.mk (by simp only[Fz,hg];exact k)
theorem M6 (k:K n e H acc):F9 (Fz P T an nl ops [] n e H acc K):=.mk k
theorem A12 (p:Nat×Bool) (s:Nat) (k:opK P T an nl o n e H acc λn e H acc=>Fz P T an nl ops os n e H acc K) (hg:o.guard=some p:=by exact rfl) (b:(ops[p.1]?).bind (·.dst)=some s:=by exact rfl) (hb:e s = .val (.bool p.2):=by exact rfl):F9 (Fz P T an nl ops (o::os) n e H acc K) :=
 .mk (by simp only[Fz,hg,b,hb,Tf,BEq.rfl,cond_true];exact k)
theorem A13 (p:Nat×Bool) (s:Nat) (v:Value) (k:Yv o n e H acc λn e H acc=>Fz P T an nl ops os n e H acc K) (hg:o.guard=some p:=by exact rfl) (b:(ops[p.1]?).bind (·.dst)=some s:=by exact rfl) (hb:e s = .val v:=by exact rfl) (hv:(Tf v==some p.2)=false:=by exact rfl):F9 (Fz P T an nl ops (o::os) n e H acc K) :=
 .mk (by simp only[Fz,hg,b,hb,hv,cond_false];exact k)
theorem Rj (k:opK P T an nl o n e H acc λn e H acc=>Fz P T an nl ops os n e H acc K) (hg:o.guard=some p:=by exact rfl) (b:(ops[p.1]?).bind (·.dst)=some s:=by exact rfl) (hb:e s = .val (.bool p.2):=by exact rfl):F9 (Fz P T an nl ops (o::os) n e H acc K):=A12 p s k hg b hb
theorem Rk {v:Value} (k:Yv o n e H acc λn e H acc=>Fz P T an nl ops os n e H acc K) (hg:o.guard=some p:=by exact rfl) (b:(ops[p.1]?).bind (·.dst)=some s:=by exact rfl) (hb:e s = .val v:=by exact rfl) (hv:(Tf v==some p.2)=false:=by exact rfl):F9 (Fz P T an nl ops (o::os) n e H acc K):=A13 p s v k hg b hb hv
theorem A14 {b:Bool} {m c:Option β} {X:List Oper} (h:(bif b then m else c)=some r) (h1:b=true->m=some r->F9 (Fz P T an nl ops X n (Ay e s (.val (.bool true))) H acc K)) (h2:b=false->c=some r->F9 (Fz P T an nl ops X n (Ay e s (.val (.bool false))) H acc K)) (hb:e s = .val (.bool b):=by exact rfl):F9 (Fz P T an nl ops X n e H acc K):=by cases b with| true=>have:=h1 rfl h;rwa [Ad1 hb]at this| false=>have:=h2 rfl h;rwa [Ad1 hb]at this
end
theorem St.recell {σ:A7} {ι:Ca} {H:Hp} {F:A7} {W w:World} (s:St σ ι H F W w) (h:Nat) (E:TypeId) (cs f:List AV) (hh:H h = .cells E cs) (l:f.length=cs.length) (hc:∀(i:Nat) (c j:AV) (v:Value),cs[i]? = some c->f[i]? = some j->Conc σ ι H c v->Conc σ ι H j v) : St σ ι (Ay H h (.cells E f)) F W w/\Le σ ι H σ ι (Ay H h (.cells E f)):=by
 have k:=s.obj h;unfold Cr at k;rw[hh]at k;obtain⟨b,C,hb,h1,h2,h3,A,z⟩:=k;have le:Le σ ι H σ ι (Ay H h (.cells E f)):=by have:=Le.upd (ι:=ι) (H:=H) (A7.le_refl σ) h (ι h) (.cells E f) (by rw[hh];exact⟨λ_ e=>e,(λ_ e=>by cases e),(λ_ _ _ _ e=>by cases e)⟩);rwa [Jm]at this
 refine⟨s.touch h b (λ_ _=>rfl) (λx e=>Cq _ _ e) le (λx e=>rfl) (λ_ _=>rfl) (λo e=>by rw[h1]at e;cases e) ?_ h2 ?_ ?_ rfl rfl rfl,le⟩
 .intro x e l q;exact e (s.inj x h b l (by rw[hh];rfl) q (by rw[hb];rfl))
 .intro B _ u;exact .inr ⟨by rw[hh];rfl,u⟩
 .unfold Cr;rw[Ce];refine⟨b,C,hb,h1,h2,h3,ω,λi j v x y=>?_⟩;have hi:i<cs.length:=(by rw[<-l];exact (G1.1 x).1);have g:cs[i]? = some cs[i]:=getElem?_eq_getElem hi;exact (hc i _ j v g x (z i _ v g y)).mono le
def Ad8:AV->Option Nat
 | .loc h _=>some h
 | .vec h _=>some h
 | _=>none
inductive Gh where
 | fz (s:Nat)
 | own (s j:Nat) (e:TypeId) (sz:Nat)
 | nil (s j sz:Nat)
 | fzc (s j:Nat)
 | fzp (s:Nat)
 | fzcp (s j:Nat)
 | fzv (s:Nat)
def gxs:List Gh->Nat->Bx->Hp->(Nat->Bx->Hp->Prop)->Prop
 | [],n,e,H,K=>K n e H
 | .fz s::gs,n,e,H,K=> match e s with
  | .arr h k 0 len=> match H h with
   | .rows _ sz xs=>Hs k xs (Hs len xs (gxs gs n (Ay e s (.sl sz xs)) (Ay H h .dead) K))
   | _=>False
  | _=>False
 | .fzp s::gs,n,e,H,K=> match e s with
  | .arr h k 0 len=> match H h with
   | .rows _ sz xs=>Hs k xs (Ai6 len k (Ai7 xs len λys=>gxs gs n (Ay e s (.sl sz ys)) (Ay H h .dead) K))
   | _=>False
  | _=>False
 | .own s j E sz::gs,n,e,H,K=> match Ad8 (e s) with
  | some h=> match H h with
   | .cells T cs=> match cs[j]? with
    | some x=>bif M1 x&&Nat.blt 0 sz then gxs gs (n+1) e (Ay (Ay H n (.rows E sz [])) h (.cells T (cs.set j (.arr n 0 0 0)))) K else False
    | none=>False
   | _=>False
  | _=>False
 | .nil s j sz::gs,n,e,H,K=> match Ad8 (e s) with
  | some h=> match H h with
   | .cells T cs=> match cs[j]? with
    | some x=>bif M1 x then gxs gs n e (Ay H h (.cells T (cs.set j (.sl sz [])))) K else False
    | none=>False
   | _=>False
  | _=>False
 | .fzc s j::gs,n,e,H,K=> match Ad8 (e s) with
  | some h=> match H h with
   | .cells T cs=> match cs[j]? with
    | some (.arr h' k 0 len)=> match H h' with
     | .rows _ sz xs=>Hs k xs (Hs len xs (gxs gs n e (Ay (Ay H h' .dead) h (.cells T (cs.set j (.sl sz xs)))) K))
     | _=>False
    | _=>False
   | _=>False
  | _=>False
 | .fzcp s j::gs,n,e,H,K=> match Ad8 (e s) with
  | some h=> match H h with
   | .cells T cs=> match cs[j]? with
    | some (.arr h' k 0 len)=> match H h' with
     | .rows _ sz xs=>Hs k xs (Ai6 len k (Ai7 xs len λys=>gxs gs n e (Ay (Ay H h' .dead) h (.cells T (cs.set j (.sl sz ys)))) K))
     | _=>False
    | _=>False
   | _=>False
  | _=>False
 | .fzv s::gs,n,e,H,K=> match e s with
  | .vec h m=> match H h with
   | .cells _ cs=>bif cs.all AV.cl1&&Nat.beq cs.length m&&Nat.ble m 16 then gxs gs n (Ay e s (.sl 1 cs)) (Ay H h .dead) K else False
   | _=>False
  | _=>False
section
variable {F:A7} {W:World}
variable {σ:A7} {ι:Ca} {H:Hp} {h j:Nat} {E:TypeId} {w:World}
theorem Aph {cs:List AV} {i:Nat} {y c b:AV} {P:AV->AV->Prop} (h1:cs[i]? = some c) (h2:(cs.set j y)[i]? = some b) (f:P c c) (hy:i=j->P c y):P c b:=by
 rw[getElem?_set]at h2;split at h2
 .rename_i e;split at h2
  .cases h2;exact hy e.symm
  .cases h2
 .rw[h1]at h2;cases h2;exact f
theorem St.freezeVec (s:St σ ι H F W w) {cs:List AV} (hh:H h = .cells E cs) (k:∀c∈cs,c.cl1=true) : ∃D,Le σ ι H D ι (Ay H h .dead)/\St D ι (Ay H h .dead) F W w/\∀v,cs.length<=140737488355328->Conc σ ι H (.vec h cs.length) v->CC D (.sl 1 cs) v:=by
 have l:=s.obj h;unfold Cr at l;rw[hh]at l;obtain⟨b,C,L,Z,Y,X,V,U⟩:=l;have A:σ.le (Ay σ b (some (.cells C E))):=by intro b' o' hb';rw[Cq _ _ (by intro e;subst e;rw[Z]at hb';cases hb')];exact hb'
 have g:Le σ ι H (Ay σ b (some (.cells C E))) ι (Ay H h .dead):=by have:=Le.upd (ι:=ι) (H:=H) A h (ι h) .dead ⟨λ_ e=>e,(λ_ e=>by cases e),(λ_ E1 S M e=>by cases e)⟩;rwa [Jm]at this
 refine⟨Ay σ b (some (.cells C E)),g,?_,?_⟩
 .exact s.touch h b (λ_ _=>rfl) (λx e=>Cq _ _ e) g (λ_ _=>rfl) (λx e=>Cq _ _ e) (λo J=>by rw[Ce]at J;cases J;exact X)
   (λx e q hb=>e (s.inj x h b q (by rw[hh];rfl) hb (by rw[L];rfl))) Y (λb' q hb=>by rw[Ce]at q;cases q) (by unfold Cr;rw[Ce];trivial) rfl rfl rfl
 .intro v q hc;obtain⟨b2,B,rfl⟩:=hc.vec_inv;rw[L]at B;cases B;have f:∀c:AV,c.cl1=true->c.cells = [c]:=by
   intro c hc;cases c with
   | val v=>cases v <;> first|rfl|cases hc
   | sl=>rfl
   | _=>cases hc
  have I:∀(i:Nat) (c:AV),cs[i]? = some c->∃u,C[i]? = some u/\CC σ c u/\Fj u=true:=(by intro i c hi;have z:i<C.size:=(by rw[V];exact (G1.1 hi).1);refine⟨C[i],by simp[z],?_⟩;exact (U i c C[i] hi (by simp[z])).cc_of (k c (Fi hi)));have:=CC.sl (σ:=Ay σ b (some (.cells C E))) cs b 0 cs.length 1 C E (0,0) (λn _=>(C[n]?).getD undef) (Ce _ _ _)
   (λi x hx=>by rw[f x (k x (Fi hx))];rfl) (λi x j c hx hj=>by rw[f x (k x (Fi hx))]at hj;obtain⟨rfl,rfl⟩:=Aid hj;obtain⟨u,y,R,_⟩:=I i _ hx;rw[y];exact R.mono A) (λi x j c hx hj=>by rw[f x (k x (Fi hx))]at hj;obtain⟨rfl,rfl⟩:=Aid hj;obtain⟨u,y,_,N⟩:=I i _ hx;rw[y];exact N) (λi j hi hj=>by have G:j=0:=ω;subst G;rw[Nat.zero_add,Nat.mul_one,Nat.add_zero];obtain⟨u,y,_⟩:=I i cs[i] (getElem?_eq_getElem hi);rw[y];rfl) q (Nat.le_refl _);exact this
theorem Pv {n:Nat} {o:Bq} (b:E8 H n) (hh:H h≠.none):E8 (Ay H h o) n:=by intro m c;rw[Cq _ _ (λe=>hh (by rw[<-e];exact b m c))];exact b m c
theorem Api {hd h' k len:Nat} {T:TypeId} {sz:Nat} {cs xs ys:List AV} (s:St σ ι H F W w) (hh:H hd = .cells T cs) (hj:cs[j]? = some (.arr h' k 0 len)) (g:H h' = .rows E sz xs) (hk:xs.length=k) (V:len<=xs.length) (hy:xs.take len=ys) : ∃c,Le σ ι H c ι (Ay (Ay H h' .dead) hd (.cells T (cs.set j (.sl sz ys))))/\St c ι (Ay (Ay H h' .dead) hd (.cells T (cs.set j (.sl sz ys)))) F W w:=by
 obtain⟨c,G,D,M⟩:=s.freeze g;have J:hd≠h':=by intro B;subst B;rw[hh]at g;cases g
 have f:Ay H h' .dead hd = .cells T cs:=by rw[Cq _ _ J];exact hh
 have h:=s.obj hd;unfold Cr at h;rw[hh]at h;obtain⟨b,C,B,g1,g2,g3,g4,g5⟩:=h;have l:∀v,C[j]? = some v->Conc c ι (Ay H h' .dead) (.sl sz ys) v:=by intro v hv;have hc:=g5 j _ v hj hv;have:=M 0 len _ ω (hc.arr_inv g hk);rw[drop_zero,hy]at this;exact .cc this
 have U:St c ι (Ay (Ay H h' .dead) hd (.cells T (cs.set j (.sl sz ys)))) F W w/\Le c ι (Ay H h' .dead) c ι (Ay (Ay H h' .dead) hd (.cells T (cs.set j (.sl sz ys)))):=by
  have I:=D.obj hd;unfold Cr at I;rw[f]at I;obtain⟨b',C',A,z,u,q,X,S⟩:=I;rw[B]at A;cases A;rw[g3]at q;cases q;have le:Le c ι (Ay H h' .dead) c ι (Ay (Ay H h' .dead) hd (.cells T (cs.set j (.sl sz ys)))):=(by have:=Le.upd (ι:=ι) (H:=Ay H h' .dead) (A7.le_refl c) hd (ι hd) (.cells T (cs.set j (.sl sz ys))) (by rw[f];exact⟨λ_ e=>e,(λ_ e=>by cases e),(λ_ _ _ _ e=>by cases e)⟩);rwa [Jm]at this);refine⟨D.touch hd b (λ_ _=>rfl) (λx e=>Cq _ _ e) le (λx e=>rfl) (λ_ _=>rfl) (λo e=>by rw[z]at e;cases e) ?_ u ?_ ?_ rfl rfl rfl,le⟩
  .intro x e V N;exact e (D.inj x hd b V (by rw[f];rfl) N (by rw[B];rfl))
  .intro Z _ R;exact .inr ⟨by rw[f];rfl,R⟩
  .unfold Cr;rw[Ce];refine⟨b,C,B,z,u,g3,by simpa using g4,λi Y v x y=>?_⟩;rw[getElem?_set]at x;split at x
   .rename_i L;split at x
    .cases x;subst L;exact (l v y).mono le
    .cases x
   .exact (S i Y v x y).mono le
 exact⟨c,G.trans U.2,U.1⟩
theorem Rl:∀(z:List Gh) {n:Nat} {e:Bx} {H:Hp} {K:Nat->Bx->Hp->Prop} {σ:A7} {ι:Ca} {a:Act} {w:World},gxs z n e H K->St σ ι H F W w->Er σ ι H e a->E8 H n -> ∃σ' ι' n' e' H',K n' e' H'/\Le σ ι H σ' ι' H'/\St σ' ι' H' F W w/\Er σ' ι' H' e' a/\E8 H' n'/\n<=n'
 | [],n,e,H,K,σ,ι,a,w,h,s,u,y=>⟨σ,ι,n,e,H,h,Le.refl _ _ _,s,u,y,Nat.le_refl _⟩
 | .fz t::z,n,e,H,K,σ,ι,a,w,h,s,u,y=>by
  simp only[gxs]at h;split at h
  .rename_i hd k len hx;split at h
   .rename_i E sz xs hh;obtain⟨hk,hl,h⟩:=h;obtain⟨Z,f,G,X⟩:=s.freeze hh;have Y:Er Z ι (Ay H hd .dead) (Ay e t (.sl sz xs)) a:=by
     intro q hq;by_cases A:q=t
     .subst A;rw[Ce];have hc:=u q hq;rw[hx]at hc;have:=X 0 len _ ω (hc.arr_inv hh hk);rw[drop_zero,take_of_length_le ω]at this;exact .cc this
     .rw[Cq _ _ A];exact (u q hq).mono f
    obtain⟨B,D,I,S,U,R,N,M,L,J,V⟩:=Rl z h G Y (Pv y (by rw[hh];intro e;cases e));exact⟨B,D,I,S,U,R,f.trans N,M,L,J,V⟩
   .exact h.elim
  .exact h.elim
 | .fzp t::z,n,e,H,K,σ,ι,a,w,h,s,u,y=>by
  simp only[gxs]at h;split at h
  .rename_i hd k len hx;split at h
   .rename_i E sz xs hh;obtain⟨hk,hl,ys,hy,h⟩:=h;obtain⟨Z,f,G,X⟩:=s.freeze hh;have Y:Er Z ι (Ay H hd .dead) (Ay e t (.sl sz ys)) a:=by
     intro q hq;by_cases A:q=t
     .subst A;rw[Ce];have hc:=u q hq;rw[hx]at hc;have:=X 0 len _ ω (hc.arr_inv hh hk);rw[drop_zero,hy]at this;exact .cc this
     .rw[Cq _ _ A];exact (u q hq).mono f
    obtain⟨B,D,I,S,U,R,N,M,L,J,V⟩:=Rl z h G Y (Pv y (by rw[hh];intro e;cases e));exact⟨B,D,I,S,U,R,f.trans N,M,L,J,V⟩
   .exact h.elim
  .exact h.elim
 | .own t j E sz::z,n,e,H,K,σ,ι,a,w,h,s,u,y=>by
  simp only[gxs]at h;split at h
  .rename_i hd hx;split at h
   .rename_i T cs hh;split at h
    .rename_i x hj;obtain⟨hb,h⟩:=Gq h;rw[Fe]at hb;have a8:hd≠n:=(by intro A;subst A;have:=y hd (Nat.le_refl _);rw[hh]at this;cases this);obtain⟨s0,a6⟩:=s.newNil n (y n (Nat.le_refl _)) E sz (Hn hb.2);have a7:Ay H n (.rows E sz []) hd = .cells T cs:=(by rw[Cq _ _ a8];exact hh);obtain⟨G,f⟩:=s0.recell hd T cs (cs.set j (.arr n 0 0 0)) a7 ψ (by intro i c c' v h1 h2 h3;refine Aph (P:=λa b=>Conc σ _ _ a v->Conc σ _ _ b v) h1 h2 (λh=>h) (λa1 h=>?_) h3;subst a1;rw[hj]at h1;cases h1;rw[Adx hb.1]at h;rw[h.val_inv];refine .arr _ _ _ _ _ (by rw[Ce];intro e;cases e) (λE' ac ab e'=>?_) rfl;rw[Ce]at e';cases e';exact⟨ψ,λ_=>by rw[Ce];exact⟨rfl,rfl,rfl⟩⟩);have aa:E8 (Ay (Ay H n (.rows E sz [])) hd (.cells T (cs.set j (.arr n 0 0 0)))) (n+1):=(by refine Pv ?_ (by rw[a7];intro e;cases e);intro m hm;rw[Cq _ _ ω];exact y m ω);obtain⟨B,D,I,S,U,R,N,M,L,J,V⟩:=Rl z h G (u.mono (a6.trans f)) aa;exact⟨B,D,I,S,U,R,(a6.trans f).trans N,M,L,J,ω⟩
    .exact h.elim
   .exact h.elim
  .exact h.elim
 | .nil t j sz::z,n,e,H,K,σ,ι,a,w,h,s,u,y=>by
  simp only[gxs]at h;split at h
  .rename_i hd hx;split at h
   .rename_i T cs hh;split at h
    .rename_i x hj;obtain⟨hb,h⟩:=Gq h;obtain⟨G,f⟩:=s.recell hd T cs (cs.set j (.sl sz [])) hh ψ (by intro i c c' v h1 h2 h3;refine Aph (P:=λa b=>Conc σ _ _ a v->Conc σ _ _ b v) h1 h2 (λh=>h) (λa1 h=>?_) h3;subst a1;rw[hj]at h1;cases h1;exact Ady hb h);obtain⟨B,D,I,S,U,R,N,M,L,J,V⟩:=Rl z h G (u.mono f) (Pv y (by rw[hh];intro e;cases e));exact⟨B,D,I,S,U,R,f.trans N,M,L,J,V⟩
    .exact h.elim
   .exact h.elim
  .exact h.elim
 | .fzc t j::z,n,e,H,K,σ,ι,a,w,h,s,u,y=>by
  simp only[gxs]at h;split at h
  .rename_i hd hx;split at h
   .rename_i T cs hh;split at h
    .rename_i h' k len hj;split at h
     .rename_i E sz xs l;obtain⟨hk,hl,h⟩:=h;obtain⟨Z,f,G⟩:=Api s hh hj l hk ω (take_of_length_le ω);obtain⟨B,D,I,S,U,R,N,M,L,J,V⟩:=Rl z h G (u.mono f) (Pv (Pv y (by rw[l];intro e;cases e)) (by rw[Cq _ _ (by intro A;subst A;rw[hh]at l;cases l)];rw[hh];intro e;cases e));exact⟨B,D,I,S,U,R,f.trans N,M,L,J,V⟩
     .exact h.elim
    .exact h.elim
   .exact h.elim
  .exact h.elim
 | .fzcp t j::z,n,e,H,K,σ,ι,a,w,h,s,u,y=>by
  simp only[gxs]at h;split at h
  .rename_i hd hx;split at h
   .rename_i T cs hh;split at h
    .rename_i h' k len hj;split at h
     .rename_i E sz xs l;obtain⟨hk,hl,ys,hy,h⟩:=h;obtain⟨Z,f,G⟩:=Api s hh hj l hk ω (hy);obtain⟨B,D,I,S,U,R,N,M,L,J,V⟩:=Rl z h G (u.mono f) (Pv (Pv y (by rw[l];intro e;cases e)) (by rw[Cq _ _ (by intro A;subst A;rw[hh]at l;cases l)];rw[hh];intro e;cases e));exact⟨B,D,I,S,U,R,f.trans N,M,L,J,V⟩
     .exact h.elim
    .exact h.elim
   .exact h.elim
  .exact h.elim
 | .fzv t::z,n,e,H,K,σ,ι,a,w,h,s,u,y=>by
  simp only[gxs]at h;split at h
  .rename_i hd m hx;split at h
   .rename_i E cs hh;obtain⟨g,h⟩:=Gq h;simp only[Fe]at g;obtain⟨⟨g1,g2⟩,g3⟩:=g;have g2:=Gk g2;have g3:=G2 g3;obtain⟨Z,f,G,X⟩:=s.freezeVec hh (λc hc=>D8.1 g1 c hc);have Y:Er Z ι (Ay H hd .dead) (Ay e t (.sl 1 cs)) a:=by
     intro q hq;by_cases A:q=t
     .subst A;rw[Ce];have hc:=u q hq;rw[hx,<-g2]at hc;exact .cc (X _ ω hc)
     .rw[Cq _ _ A];exact (u q hq).mono f
    obtain⟨B,D,I,S,U,R,N,M,L,J,V⟩:=Rl z h G Y (Pv y (by rw[hh];intro e;cases e));exact⟨B,D,I,S,U,R,f.trans N,M,L,J,V⟩
   .exact h.elim
  .exact h.elim
end
variable {i:Int} {n:Nat} {E S α:Type} {e:E} {l:List α} {s:S}
def Iz {S E:Type} (step:S->Option (S⊕E)):Nat->S->Option E
 | 0,_=>none
 | n+1,s=> match step s with
  | none=>none
  | some (.inl s')=>Iz step n s'
  | some (.inr e)=>some e
theorem Ajo {S E:Type} {step:S->Option (S⊕E)}:∀{n:Nat} {s:S} {e:E},Iz step n s=some e->∀m,n<=m->Iz step m s=some e
 | 0,s,e,h,_,_=>by cases h
 | n+1,s,e,h,0,c=>ω
 | n+1,s,e,h,m+1,c=>by
  simp only[Iz]at h ⊢;cases b:step s with
  | none=>rw[b]at h;cases h
  | some o=>rw[b]at h;cases o with| inl s'=>exact Ajo (n:=n) h m ω| inr e'=>exact h
theorem Apj {step:S->Option (S⊕E)} {m:Nat} {e':E} (h:Iz step n s=some e) (h':Iz step m s=some e'):e=e':=by have h1:=Ajo h (max n m) ω;have h2:=Ajo h' (max n m) ω;rw[h1]at h2;exact Option.some.inj h2
open Classical in
noncomputable def Ak {S E:Type} (step:S->Option (S⊕E)) (s:S):Option E := match Iz step 4096 s with
 | some e=>some e
 | none=>if h:∃n e,Iz step n s=some e then some (Classical.choose (Classical.choose_spec h)) else none
theorem Ad9 {step:S->Option (S⊕E)} (h:Ak step s=some e):∃n,Iz step n s=some e:=by
 unfold Ak at h;split at h
 .rename_i e' b;cases h;exact⟨_,b⟩
 .split at h
  .rename_i hx;cases h;exact⟨_,Classical.choose_spec (Classical.choose_spec hx)⟩
  .cases h
theorem Ajp {step:S->Option (S⊕E)} (h:Iz step n s=some e):Ak step s=some e:=by
 have hx:∃n e,Iz step n s=some e:=⟨n,e,h⟩;unfold Ak;split
 .rename_i e' b;exact congrArg some (Apj b h)
 rw[dif_pos hx];exact congrArg some (Apj (Classical.choose_spec (Classical.choose_spec hx)) h)
theorem Gf {step:S->Option (S⊕E)} (h:step s=some (.inr e)):Ak step s=some e := Ajp (n:=1) (by simp only[Iz,h])
theorem Lh {step:S->Option (S⊕E)} {s':S} (h:step s=some (.inl s')):Ak step s=Ak step s':=by
 cases h':Ak step s' with
 | some e=>obtain⟨n,b⟩:=Ad9 h';exact Ajp (n:=n+1) (by simp only[Iz,h];exact b)
 | none=>
  cases c:Ak step s with
  | none=>rfl
  | some e=>obtain⟨n,b⟩:=Ad9 c;cases n with| zero=>cases b| succ n=>simp only[Iz,h]at b;rw[Ajp b]at h';cases h'
theorem Ka {step:S->Option (S⊕E)} (c:S->Prop) (m:S->Nat) (b:E->Prop) (f:∀s,c s->(∃s',step s=some (.inl s')/\c s'/\m s' < m s)\/(∃e,step s=some (.inr e)/\b e)) (s:S) (h0:c s):∃e,Ak step s=some e/\b e:=by
 generalize hk:m s=k;induction k using Nat.strongRecOn generalizing s with
 | _ k ih=>
  rcases f s h0 with⟨s',h1,h2,h3⟩|⟨e,h1,h2⟩
  .obtain⟨e,h,g⟩:=ih (m s') ω s' h2 rfl;exact⟨e,by rw[Lh h1];exact h,g⟩
  .exact⟨e,Gf h1,h2⟩
def Ag (l:List α) (i:Int):Option α:=if 0<=i then l[i.toNat]? else none
def F5 (l:List α) (lo hi:Int):Option (List α):=if 0<=lo/\lo<=hi/\hi<=l.length then some ((l.take hi.toNat).drop lo.toNat) else none
def Cd (b:Nat) (xs ys:List α):Option (List α):=if (xs.length+ys.length)*b<=140737488355328 then some (xs++ys) else none
def Gl (c:Nat) (len b:Int) (z:α):Option (List α):=if 0<=len/\len<=b/\c*b.toNat<=281474976710656/\b<=140737488355328 then some (replicate len.toNat z) else none
def H3 (l:List α) (off n:Nat) (i:Int):Option α:=if 0<=i/\i<n then l[off+i.toNat]? else none
def Rm (n:Nat) (lo hi:Int):Option (Nat×Nat):=if 0<=lo/\lo<=hi/\hi<=n/\(lo=0\/lo<hi) then some (lo.toNat,hi.toNat) else none
def Rn (xs:List α) (off n:Nat) (z:α):Option (List α):=if off+n<=xs.length then some (Fu xs off (replicate n z)) else none
def Aea (xs:List α) (n:Nat):Option (List α):=if n<=xs.length then some (xs.take n) else none
def Wa (n:Nat) (hi:Int):Option Nat:=if 0<=hi/\hi<=n then some hi.toNat else none
def Ts (n:Nat) (lo hi:Int):Option ((Nat×Nat)⊕Unit):=if 0<=lo/\lo<=hi/\hi<=n then (if lo=0\/lo<hi then some (.inl (lo.toNat,hi.toNat)) else some (.inr ())) else none
def Gm (n:Nat) (l:List α):Option Unit:=if n=l.length then some () else none
theorem Ip {u:Unit} (h:Gm n l=some u):n=l.length:=by
 unfold Gm at h;split at h
 .assumption
 .cases h
theorem Apk (off:Nat) (h:i=n):((off:Nat):Int)+i=((off+n:Nat):Int):=ω
def Px (n:Int):Option ByteArray:=if -9223372036854775808<=n/\n<=9223372036854775807 then some ⟨(Lib.itoa n).toArray⟩ else none
def Apl (l:List Int):Option (List Int):=some (l.mergeSort λx y=>decide (x<=y))
def Aeb (a b:Int):Option ByteArray:=bif b==10 then Px a else none
def Fm (l:List Int):List UInt8:=l.map λn=>UInt8.ofNat n.toNat
def Yw (l:List Int):Option ByteArray:=if (∀x∈l,0<=x/\x<256) then some ⟨(Fm l).toArray⟩ else none
def N6 (s:ByteArray):List Int:=s.data.toList.map λb=>(b.toNat:Int)
def Cu (l:List α) (i:Int) (x:α):List α:=l.set i.toNat x
def H4 (k:IntKind) (a b:Int):Option Int:=if b=0 then none else some (k.wrap (a.tdiv b))
def I0 (a b:Int):Option Int:=if b=0 then none else some (a.tmod b)
def Tt (k:IntKind) (a b:Int):Option Int:=if 0<=b then some (a.fdiv (2 ^ (min b.toNat k.bits))) else none
def Km (s:ByteArray) (i:Int):Option UInt8:=if 0<=i then s[i.toNat]? else none
def Gt (a b:ByteArray):Option ByteArray:=if a.size+b.size<=9223372036854775807 then some (a++b) else none
def Hg (s:ByteArray) (lo hi:Int):Option ByteArray:=if 0<=lo/\lo<=hi/\hi<=s.size then some (s.extract lo.toNat hi.toNat) else none
abbrev Ac (n:Int):Int:=IntKind.i64.wrap n
abbrev Bg (n:Int):Int:=IntKind.u64.wrap n
abbrev Dl (n:Int):Int:=IntKind.u32.wrap n
abbrev wu8 (n:Int):Int:=IntKind.u8.wrap n
theorem Apm {x:α} (h:Ag l i=some x):∃n:Nat,i=n/\l[n]? = some x:=by
 unfold Ag at h;split at h
 .exact⟨i.toNat,ω,h⟩
 .cases h
section
variable {β:Type} {r:β}
variable {hi i lo:Int} {xs ys:List AV} {b n off:Nat} {K:Nat->Nat->Prop} {G:Prop} {α:Type} {l:List α} {o:Option α} {m:α->Option β}
theorem De (h:o.bind m=some r) (k:∀x,o=some x->m x=some r->G):G:=by cases o with| none=>cases h| some x=>exact k x rfl h
theorem Apn (h:o.bind m=some r) (k:∀x,o=some x->(∀y,y=x->m y=some r)->G):G:=by cases o with| none=>cases h| some x=>exact k x rfl (λy hy=>by subst hy;exact h)
theorem Apo {f:α->AV} (c:ys=l.map f) {K:Nat->AV->Prop} (h:(Ag l i).bind m=some r) (k:∀(n:Nat) (x:α),i=n->l[n]? = some x->m x=some r->K n (f x)):Vz ys i K:=by subst c;refine De h λx hx h=>?_;obtain⟨n,b,hg⟩:=Apm hx;exact .mk n (f x) b (by simp[hg]) (k n x b hg h)
theorem A15 {f:α->AV} (j:ys=l.map f) {K:Nat->Prop} {len:Nat} (g:len=l.length) (hk:b=l.length) (h:(Ag l i).bind m=some r) (k:∀(n:Nat) (x:α),i=n->l[n]? = some x->m x=some r->K n):Th len b ys i K:=by subst j;refine De h λx hx h=>?_;obtain⟨n,c,hg⟩:=Apm hx;exact .mk n (by rw[hk];simp) c (by rw[g];exact (G1.1 hg).1) (k n x c hg h)
theorem A16 {f:α->AV} (c:ys=l.map f) {K:Nat->Prop} {len:Nat} (hk:b=l.length) (h:(H3 l off len i).bind m=some r) (k:∀(n:Nat) (x:α),i=n->l[off+n]? = some x->m x=some r->K n):Th len b ys i K:=by
 subst c;refine De h λx hx h=>?_;unfold H3 at hx;split at hx
 .rename_i hc;exact .mk i.toNat (by rw[hk];simp) ω ω (k _ x ω hx h)
 .cases hx
theorem App {f:α->AV} (c:ys=l.map f) (hk:b=l.length) {m:Nat×Nat->Option β} {g:Prop} (h:(Rm n lo hi).bind m=some r) (k:∀v:Nat×Nat,m v=some r->K v.1 v.2):Adm b ys n lo hi K g:=by
 subst c;refine De h λx hx h=>?_;unfold Rm at hx;split at hx
 .rename_i hc;cases hx;exact .mk lo.toNat hi.toNat (by rw[hk];simp) ω ω ω ω ω (k _ h)
 .cases hx
theorem A17 {β:Type} (f:α->β) (xs:List α) (d:Nat) (ys:List α):Fu (xs.map f) d (ys.map f)=(Fu xs d ys).map f:=by unfold Fu;simp[map_take,map_drop]
theorem A18 {f:α->AV} {z:α} {c:AV} (j:xs=l.map f) (i:c=f z) {g len:Nat} {m:List α->Option β} {K:List AV->Prop} (hk:g=l.length) (h:(Rn l off len z).bind m=some r) (k:∀o:List α,Rn l off len z=some o->m o=some r->K (o.map f)):Aop xs g off len c K:=by
 subst j;subst hk;subst i;refine De h λx hx h=>?_;have b:=hx;unfold Rn at hx;split at hx
 .rename_i hc;cases hx;exact .mk _ ψ (by simpa using hc) (by rw[<-map_replicate,A17]) (k _ b h)
 .cases hx
theorem Apq {o:List α} {k:Nat} {z:α} (hk:k=l.length) (h:Rn l off n z=some o):k=o.length:=by
 unfold Rn at h;split at h
 .cases h;rw[Yn ω];simp;omega
 .cases h
theorem A19 {f:α->AV} (c:xs=l.map f) {len:Nat} {m:List α->Option β} {K:List AV->Prop} (hk:b=l.length) (h:(Aea l len).bind m=some r) (k:∀o:List α,m o=some r->K (o.map f)):Hs b xs (Ai6 len b (Ai7 xs len K)):=by
 subst c;subst hk;refine De h λx hx h=>?_;unfold Aea at hx;split at hx
 .rename_i hc;cases hx;exact .mk ψ (.mk hc (.mk _ (by rw[map_take]) (k _ h)))
 .cases hx
theorem Apr {f:α->AV} (c:ys=l.map f) (hk:b=l.length) {m:Nat->Option β} {g:Prop} (h:(Wa n hi).bind m=some r) (k:∀v:Nat,m v=some r->K 0 v):Adm b ys n 0 hi K g:=by
 subst c;refine De h λx hx h=>?_;unfold Wa at hx;split at hx
 .rename_i hc;cases hx;exact .mk 0 hi.toNat (by rw[hk];simp) ω ω ω ω ω (k _ h)
 .cases hx
theorem A2a {f:α->AV} (i:ys=l.map f) (hk:b=l.length) {m:(Nat×Nat)⊕Unit->Option β} {c:Prop} (h:(Ts n lo hi).bind m=some r) (k:∀v:Nat×Nat,m (.inl v)=some r->K v.1 v.2) (g:m (.inr ())=some r->c):Adm b ys n lo hi K c:=by
 subst i;refine De h λx hx h=>?_;unfold Ts at hx;split at hx
 .rename_i hc;split at hx
  .cases hx;exact .mk lo.toNat hi.toNat (by rw[hk];simp) ω ω ω ω ω (k _ h)
  .cases hx;exact .mkE lo.toNat (by rw[hk];simp) ω ω ω (g h)
 .cases hx
variable {p:AV} {q:FloatKind} {hi j lo:Int} {xs ys:List AV} {K:List AV->Prop} {a b i n:Nat} {α:Type} {l:List α} {g:List α->List AV} {m:List α->Option β} {x:α}
theorem Aps {op:BinOp} {m:Nat->Option β} {K:Nat->Prop} (h:(floatBits op q a b).bind m=some r) (k:∀c,m c=some r->K c):Adp op q a b K := De h λx hx h=>.mk x hx (k x h)
theorem Apt {z:IntKind} {m:Int->Option β} {K:Int->Prop} (h:(floatToIntVal q a z).bind m=some r) (k:∀c,m c=some r->K c):Adq q a z K := De h λx hx h=>.mk x hx (k x h)
theorem A2b {f:α->AV} (c:ys=l.map f) {K:AV->Prop} (hk:b=l.length) (hi:i=n) (hx:l[n]? = some x) (k:K (f x)):M0 b i ys K:=by subst c;subst hi;exact .mk (f x) (by rw[hk];simp) (by simp[hx]) k
theorem M7 {f:α->AV} (b:ys=l.map f) (hp:p=f x) (hi:i=n) (hj:j=(n:Int)) (k:K ((Cu l j x).map f)):V2 ys i p K:=by subst b;subst hi;subst hp;subst hj;exact .mk _ (by simp[Cu,map_set]) k
theorem Apu {f:α->AV} (hg:∀l,g l=l.map f) (b:ys=l.map f) (hp:p=f x) (hi:i=n) (hj:j=(n:Int)) (k:K (g (Cu l j x))):V2 ys i p K := M7 b hp hi hj (by rw[<-hg];exact k)
theorem Jc {k:Nat} (h:k=l.length) (j:Int) (x:α):k=(Cu l j x).length:=by simp[Cu,h]
theorem Ajq {f:α->AV} (c:ys=l.map f) (h:(F5 l lo hi).bind m=some r) (k:∀b:List α,m b=some r->K (b.map f)):N0 ys lo hi K:=by
 subst c;refine De h λx hx h=>?_;unfold F5 at hx;split at hx
 .rename_i hc;cases hx;exact .mk lo.toNat hi.toNat _ ω ω ω ζ (by rw[<-map_take,<-map_drop]) (k _ h)
 .cases hx
theorem Apv {f:α->AV} (c:ys=l.map f) (h:(F5 l lo l.length).bind m=some r) (k:∀b:List α,m b=some r->K (b.map f)):N0 ys lo ys.length K:=by
 have e:((ys.length:Nat):Int)=(l.length:Int):=by rw[c];simp
 rw[e];exact Ajq c h k
theorem A2c {f:α->AV} (hg:∀l,g l=l.map f) (c:ys=l.map f) (h:(F5 l lo hi).bind m=some r) (k:∀b:List α,m b=some r->K (g b)):N0 ys lo hi K := Ajq c h λb h=>by rw[<-hg];exact k b h
theorem A2d {f:α->AV} (hg:∀l,g l=l.map f) (c:ys=l.map f) (h:(F5 l lo l.length).bind m=some r) (k:∀b:List α,m b=some r->K (g b)):N0 ys lo ys.length K := Apv c h λb h=>by rw[<-hg];exact k b h
theorem Tu {ys:List α} {f:α->AV} {c:List AV} (q:xs=l.map f) (i:c=ys.map f) {g len:Nat} {K:List AV->Nat->Prop} {s:List AV->Nat->Nat->Prop} (hk:g=l.length) (j:len=l.length) (h:(Cd b l ys).bind m=some r) (k:∀o:List α,m o=some r->K (o.map f) o.length):N1 xs c g len b K s:=by
 subst q;subst i;subst hk;subst j;refine De h λx hx h=>?_;unfold Cd at hx;split at hx
 .rename_i hc;cases hx;exact .mk _ _ ψ rfl (by simpa using hc) ψ ψ (k _ h)
 .cases hx
theorem A2e {l:List Int} {s:ByteArray} (i:xs=l.map λn=>.val (.int .u8 n)) {c len:Nat} {m:List Int->Option β} {K:List AV->Nat->Prop} {j:List AV->Nat->Nat->Prop} (hk:c=l.length) (g:len=l.length) (h:(Cd b l (N6 s)).bind m=some r) (k:∀o:List Int,m o=some r->K (o.map λn=>.val (.int .u8 n)) o.length):N1 xs (Kj s) c len b K j:=by refine Tu (f:=λn=>.val (.int .u8 n)) i ?_ hk g h k;simp[Kj,N6]
variable {g:AV} {ys:List AV} {K:List AV->Nat->Prop} {b:Nat} {α:Type} {l:List α} {m:List α->Option β}
theorem Apw {ys:List α} {f:α->AV} {c:List AV} (g:c=ys.map f) (h:(Cd b [] ys).bind m=some r) (k:∀o:List α,m o=some r->K (o.map f) o.length):Ti c b K:=by
 subst g;refine De h λx hx h=>?_;unfold Cd at hx;split at hx
 .rename_i hc;cases hx;exact .mk _ _ (by simpa using hc) ψ ψ (k _ h)
 .cases hx
theorem A2f {g:List α->List AV} {f:α->AV} (hg:∀l,g l=l.map f) {ys:List α} {xs c:List AV} (s:xs=l.map f) (j:c=ys.map f) {i len:Nat} {u:List AV->Nat->Nat->Prop} (hk:i=l.length) (q:len=l.length) (h:(Cd b l ys).bind m=some r) (k:∀o:List α,m o=some r->K (g o) o.length):N1 xs c i len b K u := Tu s j hk q h λo h=>by rw[<-hg];exact k o h
theorem Apx {g:List α->List AV} {f:α->AV} (hg:∀l,g l=l.map f) {ys:List α} {c:List AV} (i:c=ys.map f) (h:(Cd b [] ys).bind m=some r) (k:∀o:List α,m o=some r->K (g o) o.length):Ti c b K := Apw i h λo h=>by rw[<-hg];exact k o h
theorem A2g {z:α} {f:α->AV} (i:g=f z) {len c:Int} {K:Nat->List AV->Prop} (h:(Gl b len c z).bind m=some r) (k:∀o:List α,m o=some r->K o.length (o.map f)):V1 len c b g K:=by
 subst i;refine De h λx hx h=>?_;unfold Gl at hx;split at hx
 .rename_i hc;cases hx;exact .mk _ c.toNat _ ζ ω ζ hc.2.2.1 ω ψ (k _ h)
 .cases hx
theorem Tv {z:α} {f:α->AV} (i:Hb g.cells (f z).cells) {len c:Int} {K:Nat->List AV->Prop} (h:(Gl b len c z).bind m=some r) (k:∀o:List α,m o=some r->K o.length (o.map f)):V1 len c b g K:=by
 refine De h λx hx h=>?_;unfold Gl at hx;split at hx
 .rename_i hc;cases hx;exact .mkN (f z) i _ c.toNat _ ζ ω ζ hc.2.2.1 ω ψ (k _ h)
 .cases hx
theorem A2h {f:α->AV} (b:ys=l.map f) {K:Int->Prop} (k:K (l.length:Int)):N2 ys K:=by subst b;exact .mk _ ψ k
theorem A2i {f:α->AV} (c:ys=l.map f) (hk:b=l.length) {K:Prop} (k:K):Hs b ys K:=by subst c;exact .mk (by rw[hk];simp) k
def E9 (l:List (ByteArray×α)) (s:ByteArray):Bool:=l.any λp=>s==p.1
def Ib (l:List (ByteArray×α)) (s:ByteArray) (z:α):α:=((l.find? λp=>s==p.1).map (·.2)).getD z
def Gu {α:Type}:List (ByteArray×α)->ByteArray->α->List (ByteArray×α)
 | [],s,v=>[(s,v)]
 | p::l,s,v=>bif s==p.1 then (s,v)::l else p::Gu l s v
def Bl (f:α->AV) (l:List (ByteArray×α)):List (AV×AV):=l.map λp=>(.val (.string p.1),f p.2)
theorem Ajr {α:Type} (f:α->AV) (s:ByteArray) (z:α):∀(l:List (ByteArray×α)) (i:Nat), (E9 l s=false/\Kk s (Bl f l) i=some none)\/(E9 l s=true/\∃j,Kk s (Bl f l) i=some (some (i+j,f (Ib l s z)))/\∀v,Bl f (Gu l s v)=(Bl f l).set j (.val (.string s),f v))
 | [],i=>.inl ⟨rfl,rfl⟩
 | p::l,i=>by
  cases hp:s==p.1 with
  | true=>
   refine .inr ⟨by simp[E9,hp],0,?_,λv=>?_⟩
   .simp[Bl,Kk,Ib,hp]
   .simp[Bl,Gu,hp]
  | false=>
   rcases Ajr f s z l (i+1) with⟨h1,h2⟩|⟨h1,j,h2,h3⟩
   .refine .inl ⟨by simp only[E9,any_cons,hp,Bool.false_or];exact h1,?_⟩;have:Kk s (Bl f (p::l)) i=Kk s (Bl f l) (i+1):=(by simp[Bl,Kk,hp]);rw[this,h2]
   .refine .inr ⟨by simp only[E9,any_cons,hp,Bool.false_or];exact h1,j+1,?_,λv=>?_⟩
    .have:Kk s (Bl f (p::l)) i=Kk s (Bl f l) (i+1):=(by simp[Bl,Kk,hp]);have b:Ib (p::l) s z=Ib l s z:=(by simp[Ib,hp]);rw[this,h2,b];congr 3;omega
    .have c:Bl f (Gu (p::l) s v)=(.val (.string p.1),f p.2)::Bl f (Gu l s v):=(by simp[Bl,Gu,hp]);rw[c,h3 v];rfl
variable {s:ByteArray} {a b:Int} {m:Int->Option β} {K:Int->Prop} {k:IntKind} {es:List (AV×AV)} {α:Type} {l:List (ByteArray×α)}
theorem Apy {α:Type} (f:α->AV) {s:ByteArray} {v:α}:∀{l:List (ByteArray×α)},E9 l s=false->Bl f (Gu l s v)=Bl f l++[(.val (.string s),f v)]
 | [],_=>rfl
 | p::l,h=>by simp only[E9,any_cons,Bool.or_eq_false_iff]at h;have:=Apy f (v:=v) (l:=l) h.2;simp only[Gu,h.1,cond_false];simp only[Bl,map_cons,cons_append]at this ⊢;rw[this]
theorem Tw {f:α->AV} (i:es=Bl f l) (z:α) {m b:Option β} {K:Option (Nat×AV)->Prop} (h:(bif E9 l s then m else b)=some r) (g:∀j,E9 l s=true->m=some r->K (some (j,f (Ib l s z)))) (c:E9 l s=false->b=some r->K none):Aoq s es K:=by
 subst i;rcases Ajr f s z l 0 with⟨h1,h2⟩|⟨h1,j,h2,_⟩
 .rw[h1]at h;exact .mk _ h2 (c h1 h)
 .rw[h1]at h;exact .mk _ h2 (g _ h1 h)
theorem Ro {f:α->AV} (b:es=Bl f l) {x:α} {v:AV} (hv:v=f x) {K:List (AV×AV)->Prop} (k:K (Bl f (Gu l s x))):Aor s v es K:=by
 subst b;subst hv;refine .mk _ ?_ k;unfold Adc;rcases Ajr f s x l 0 with⟨h1,h2⟩|⟨h1,j,h2,h3⟩
 .rw[h2,Apy f h1]
 .rw[h2,h3 x];simp
theorem Yx (h:(H4 k a b).bind m=some r) (f:∀c:Int,m c=some r->K c):Adi k a b K:=by
 refine De h λx hx h=>?_;unfold H4 at hx;split at hx
 .cases hx
 .rename_i hb;cases hx;exact .mk _ hb rfl (f _ h)
theorem Aec (h:(I0 a b).bind m=some r) (f:∀c:Int,m c=some r->K c):Adj a b K:=by
 refine De h λx hx h=>?_;unfold I0 at hx;split at hx
 .cases hx
 .rename_i hb;cases hx;exact .mk _ hb rfl (f _ h)
theorem Ajs (h:(Tt k a b).bind m=some r) (f:∀c:Int,m c=some r->K c):Adk k a b K:=by
 refine De h λx hx h=>?_;unfold Tt at hx;split at hx
 .rename_i hb;cases hx;exact .mk _ hb rfl (f _ h)
 .cases hx
theorem Yy {i:Int} {m:UInt8->Option β} {K:UInt8->Prop} (h:(Km s i).bind m=some r) (b:∀c:UInt8,m c=some r->K c):Adn s i K:=by
 refine De h λx hx h=>?_;unfold Km at hx;split at hx
 .exact .mk i.toNat x ω hx (b _ h)
 .cases hx
theorem Iq {a b:ByteArray} {m:ByteArray->Option β} {K:Prop} (h:(Gt a b).bind m=some r) (k:m (a++b)=some r->K):Ado (a.size+b.size) K:=by
 refine De h λx hx h=>?_;unfold Gt at hx;split at hx
 .rename_i hc;cases hx;exact .mk hc (k h)
 .cases hx
theorem Ajt {lo hi:Int} {m:ByteArray->Option β} {K:Nat->Nat->Prop} (h:(Hg s lo hi).bind m=some r) (k:∀l h',lo=((l:Nat):Int)->hi=((h':Nat):Int)->m (s.extract l h')=some r->K l h'):Adl s.size lo hi K:=by
 refine De h λx hx h=>?_;unfold Hg at hx;split at hx
 .rename_i hc;cases hx;exact .mk lo.toNat hi.toNat ω ω ω ω (k _ _ ω ω h)
 .cases hx
end
def Aed (Qn:Nat->Bx->Hp->Prop) (Qe:Nat->Nat->Bx->Hp->Prop) (Qr:Nat->Bx->Hp->Prop) (x:Ex) (n:Nat) (e:Bx) (H:Hp):Prop := match x with
 | .normal=>Qn n e H
 | .exit i=>Qe i n e H
 | .ret=>Qr n e H
def wc (P:Program) (C:Cfg) (c:Code) (Qn:Nat->Bx->Hp->Prop) (Qe:Nat->Nat->Bx->Hp->Prop) (Qr:Nat->Bx->Hp->Prop) (n:Nat) (e:Bx) (H:Hp):Prop := Dd P C.T->P.follows .mixedOrders=true->∀(F:A7) (W:World) (σ:A7) (ι:Ca) (a:Act) (w:World) (Q:Exit->Act->World->Prop), Lg a.tmps.size c=true->St σ ι H F W w->Er σ ι H e a->E8 H n -> (∀x h e' H' f g b w',Aed Qn Qe Qr x h e' H'->Le σ ι H f g H'->St f g H' F W w'->Er f g H' e' b->E8 H' h->n<=h->b.tmps.size=a.tmps.size->b.defers=a.defers->Fx (Fh c) a b->Q x.out b w')->c.wp P Q a w
section
variable {P:Program} {C:Cfg} {Qn:Nat->Bx->Hp->Prop} {Qe:Nat->Nat->Bx->Hp->Prop} {Qr:Nat->Bx->Hp->Prop} {n:Nat} {e:Bx} {H:Hp} {β:Type} {r:β}
variable {σ:A7} {a:Act} {t:Bool} {ι:Ca} {b c1 c2:Code} {fn:Func} {os:List Oper} {id:Nat} {x:Operand} {S:Type}
theorem Aju {c:Code} (h:vc P C c (Aed Qn Qe Qr) n e H):wc P C c Qn Qe Qr n e H := λj g _ _ σ ι a w Q b s i f hk=>Tl j g c _ n e H σ ι a w Q b h s i f hk
theorem Li (k:Qn n e H):wc P C .skip Qn Qe Qr n e H:=Aju k
theorem Ajv (k:Qr n e H):wc P C .ret Qn Qe Qr n e H:=Aju k
theorem Ic (k:Qe id n e H):wc P C (.exit id) Qn Qe Qr n e H:=Aju k
theorem Apz {ops:Array Oper} {b:Bool} (h:F9 (Fz P C.T C.an C.nl ops ops.toList n e H [] λn e H acc=>bif b then N5 ops.toList acc (Qn n e H) else Qn n e H)):wc P C (.region id ops b) Qn Qe Qr n e H:=by
 intro X R F W σ ι a w Q E s U M hk;have q:=Le.refl σ ι H;have s0:=s;have z:=U;have N:=M;obtain⟨L,e',H',accs,l,_,V,x,hf,c⟩:=Ajn X ops.toList 0 n e H [] _ ψ rfl M h.1;have u:=Ao9 E;cases b with
 | false=>simp only[cond_false]at l;refine wp_region ?_;have:range ops.size=range' 0 ops.toList.length:=(by rw[range_eq_range'];simp);rw[this];refine c.wpOps s0 z u ?_;intro B D J w' le s' g f j hu;exact hk .normal L e' H' B D J w' l (q.trans le) s' g hf x f j hu
 | true=>
  simp only[cond_true]at l;obtain⟨G,l⟩:=l;refine wp_region_any R ?_;have A:ops=ops.toList.toArray:=ψ;rw[A];simp only[size_toArray];refine Ai1 (accs:=accs) (e':=e') (H':=H') G ops.toList.length _ (range' 0 ops.toList.length) e H σ ι a _ (by rw[<-A];exact c) (pairwise_lt_range' ..) ?_ ψ ?_ ψ (s0.drew _) z (by rw[<-A];exact u) ?_
  .intro i;simp only[mem_range'_1,Array.getD_eq_getD_getElem?];constructor
   .rintro⟨_,h2⟩;refine⟨ω,?_⟩;have:i<ops.size:=(by simpa using h2);simp[this]
   .rintro⟨h1,_⟩;omega
  .intro k o S I;exfalso;simp only[Array.getD_eq_getD_getElem?]at I;by_cases y:k<ops.size
   .simp[y]at I
   .simp[y]at I
  .intro B D J w' le s' g f j hu;exact hk .normal L e' H' B D J w' l (q.trans le) s' g hf x f j (by rw[<-A]at hu;exact hu)
theorem Ap0 (k:F9 (Fz P C.T C.an C.nl os.toArray os n e H [] λn e H acc=>N5 os acc (Qn n e H))):wc P C (.region id os.toArray true) Qn Qe Qr n e H:=Apz k
theorem Ho (k:F9 (Fz P C.T C.an C.nl os.toArray os n e H [] λn e H _=>Qn n e H)):wc P C (.region id os.toArray false) Qn Qe Qr n e H:=Apz k
theorem Eh {c:Code} (z:List Gh) (k:gxs z n e H λn e H=>F9 (wc P C c Qn Qe Qr n e H)):wc P C c Qn Qe Qr n e H:=by intro S M F W σ ι a w Q h s R L hk;obtain⟨A,D,V,X,Y,J,b,G,l,i,N⟩:=Rl z k s R L;exact J.1 S M F W A D a w Q h G l i λx I e' H' B E U w' hq f s' q j y g u hu=> hk x I e' H' B E U w' hq (b.trans f) s' q j ω g u hu
theorem A9 (k:wc P C c1 (λn e H=>wc P C c2 Qn Qe Qr n e H) Qe Qr n e H):wc P C (.seq c1 c2) Qn Qe Qr n e H:=by intro R M F W σ ι a w Q f s he hn hk;simp only[Lg,Fe]at f;refine wp_seq (k R M F W σ ι a w _ f.1 s he hn ?_);intro x L S U y z a1 A hq c B i g q b j hu;cases x with| normal=>refine hq R M F W y z a1 A Q (by rw[b];exact f.2) B i g ?_;intro x n2 e2 H2 V X a2 Y G D Z J I N l u E;exact hk x n2 e2 H2 V X a2 Y G (c.trans D) Z J I ω (l.trans b) (u.trans j) ((hu.mono (by simp[Fh];exact λs h=>.inl h)).trans (E.mono (by simp[Fh];exact λs h=>.inr h)))| exit id=>exact hk (.exit id) L S U y z a1 A hq c B i g q b j (hu.mono (by simp[Fh];exact λs h=>.inl h))| ret=>exact hk .ret L S U y z a1 A hq c B i g q b j (hu.mono (by simp[Fh];exact λs h=>.inl h))
theorem Ajw {l:Nat} (k:Qn n e H):wc P C (.label l) Qn Qe Qr n e H:=by intro h g F W σ ι a w Q b s f c hk;exact wp_label (hk .normal n e H σ ι a w k (Le.refl _ _ _) s f c (Nat.le_refl _) rfl rfl (Fx.refl _ _))
theorem Ajx {c:Code} (k:wc P C c Qn Qe Qr n e H):wc P C (.scope c) Qn Qe Qr n e H:=by intro G D F W σ ι a w Q g s E B hk;refine wp_scope_straight (k G D F W σ ι a w _ g s E B ?_);intro x A I J q u a1 y hq b z j h i f l hu;have:=hk x A I J q u a1 y hq b z j h i f l hu;cases x <;> exact this
theorem M8 {c:Code} (k:wc P C c Qn (λi n e H=>bif Nat.beq i id then Qn n e H else Qe i n e H) Qr n e H):wc P C (.block id c) Qn Qe Qr n e H:=by
 intro L I F W σ ι a w Q E s J G hk;refine wp_block (k L I F W σ ι a w _ E s J G ?_);intro x A B D q u a1 y hq b z j g h f l hu;cases x with
 | normal=>exact hk .normal A B D q u a1 y hq b z j g h f l hu
 | exit i=>
  simp only[Ex.out,Exit.inBlock];by_cases hi:i=id
  .subst hi;rw[if_pos rfl];have:Nat.beq i i=true:=Nat.beq_refl i;simp only[Aed,this,cond_true]at hq;exact hk .normal A B D q u a1 y hq b z j g h f l hu
  .rw[if_neg hi];have:Nat.beq i id=false:=by
    cases hb:Nat.beq i id
    .rfl
    .exact (hi (Gk hb)).elim
   simp only[Aed,this,cond_false]at hq;exact hk (.exit i) A B D q u a1 y hq b z j g h f l hu
 | ret=>exact hk .ret A B D q u a1 y hq b z j g h f l hu
theorem Ap1 (b:Ao7 a.tmps.size x=true) (c:Er σ ι H e a) (hx:ev e x = .val (.bool t)):a.eval x = .bool t:=by
 have hc:=c.eval (x:=x) (λt ht=>by cases x with| tmp q=>cases ht;exact Hn b| _=>cases ht)
 rw[hx]at hc;exact hc.val_inv
theorem Aee (k:wc P C c1 Qn Qe Qr n e H) (hx:ev e x = .val (.bool true):=by exact rfl):wc P C (.cond x c1 c2) Qn Qe Qr n e H:=by intro G E F W σ ι a w Q b s q D hk;simp only[Lg,Fe]at b;refine wp_cond_true (Ap1 b.1.1 q hx) (k G E F W σ ι a w Q b.1.2 s q D ?_);intro x B I J u y a1 z hq c A j g i f l hu;exact hk x B I J u y a1 z hq c A j g i f l (hu.mono (by simp[Fh];exact λs h=>.inl h))
theorem Aef (k:wc P C c2 Qn Qe Qr n e H) (hx:ev e x = .val (.bool false):=by exact rfl):wc P C (.cond x c1 c2) Qn Qe Qr n e H:=by intro G E F W σ ι a w Q b s q D hk;simp only[Lg,Fe]at b;refine wp_cond_false (Ap1 b.1.1 q hx) (k G E F W σ ι a w Q b.2 s q D ?_);intro x B I J u y a1 z hq c A j g i f l hu;exact hk x B I J u y a1 z hq c A j g i f l (hu.mono (by simp[Fh];exact λs h=>.inr h))
theorem Ei {c:Operand} {a:Code} {m f:Option β} (h:(bif t then m else f)=some r) (h1:t=true->m=some r->wc P C a Qn Qe Qr n e H) (h2:t=false->f=some r->wc P C b Qn Qe Qr n e H) (hx:ev e c = .val (.bool t):=by exact rfl):wc P C (.cond c a b) Qn Qe Qr n e H:=by cases t with| true=>exact Aee (h1 rfl h) hx| false=>exact Aef (h2 rfl h) hx
theorem Ap2 {X:List Nat} {l:List (Nat×AV)} {h:List (Nat×Bq)} {F z:A7} {W w Y:World} {I:Ca} {a1:Act} {G:Hp} {e1:Bx} (hb:Jz n l h=true) (hn:E8 H n) (s:St σ ι H F W w) (he:Er σ ι H e a) (M:G3 e1 l) (R:G5 G (Ci H h) n n) (L:Le σ ι H z I G) (i:St z I G F W Y) (a8:Er z I G e1 a1) (aa:a1.tmps.size=a.tmps.size) (a7:Fx X a a1) : ∃A,Le σ ι H z A (Ci H h)/\St z A (Ci H h) F W Y/\Er z A (Ci H h) (Jy X e (λs=>a1.tmps.getD s undef) l) a1/\E8 (Ci H h) n:=by
 have Z:∀x,n<=x->ι x = .none:=by intro x hx;have:=s.obj x;unfold Cr at this;rw[hn x hx]at this;exact this
 have D:∀p∈h,p.1<n:=by intro p hp;unfold Jz at hb;rw[Fe,D8,D8]at hb;exact Hn (hb.2 p hp)
 have N:∀p∈l,p.2.under n=true:=by intro p hp;unfold Jz at hb;rw[Fe,D8,D8]at hb;exact hb.1 p hp
 have u:E8 (Ci H h) n:=by intro x hx;rw[Tg (λp hp e=>by have:=D p hp;omega)];exact hn x hx
 let A:Ca:=λx=>if x<n then I x else .none
 have c:∀x,x<n->A x=I x:=λx hx=>if_pos hx;have f:∀x,x<n->Ci H h x=G x:=λx hx=>((R.spec) x hx).1.symm;have J:Le σ ι H z A (Ci H h):=by
  refine⟨L.sto,λx=>?_⟩;by_cases hx:x<n
  .rw[c x hx,f x hx];exact L.obj x
  .rw[Z x ω,hn x ω];exact HLe.of_none
 have s2:St z A (Ci H h) F W Y:=by
  refine⟨i.sto,i.fra,λx=>?_,?_,i.os,i.tape,i.output,i.glo,i.drw⟩
  .by_cases hx:x<n
   .have k:=i.obj x;have B:=((R.spec) x hx).2;unfold Cr at k ⊢;rw[f x hx]at B ⊢;rw[c x hx];cases j:G x with
    | none=>rw[j]at k;exact k
    | dead=>trivial
    | cells E cs=>rw[j]at k B;obtain⟨b,Cc,g1,g2,g3,g4,g5,g6⟩:=k;refine⟨b,Cc,g1,g2,g3,g4,g5,λq cq v hq a6=>(g6 q cq v hq a6).restrict c f ?_⟩;have:=D8.1 B cq (Fi hq);exact Adv this
    | rows E sz xs=>rw[j]at k;exact k
    | map es=>rw[j]at k;exact k
   .unfold Cr;rw[u x ω];exact if_neg hx
  .intro x y b V U bx S;have hx:x<n:=by
    rcases Nat.lt_or_ge x n with hx|hx
    .exact hx
    .rw[u x hx]at V;cases V
   have hy:y<n:=by
    rcases Nat.lt_or_ge y n with hy|hy
    .exact hy
    .rw[u y hy]at U;cases U
   rw[f x hx]at V;rw[f y hy]at U;rw[c x hx]at bx;rw[c y hy]at S;exact i.inj x y b V U bx S
 refine⟨A,J,s2,?_,u⟩;intro q hq;rcases Ad2 X e (λs=>a1.tmps.getD s undef) l q with⟨p,hp,rfl,g⟩|⟨hw,g⟩|⟨hw,g⟩
 .rw[g,<-M.spec p hp];refine (a8 p.1 hq).restrict c f ?_;rw[M.spec p hp];exact N p hp
 .rw[g];exact .of_val _
 .rw[g,a7 q hw];exact (he q ω).mono J
theorem Ap3 {E:Type} {step:S->Option (S⊕E)} {s0:S} {J:E->Option β} (h:(Ak step s0).bind J=some r) (I:S->List (Nat×AV)) (hv:S->List (Nat×Bq)) (j:S->Prop) (hb:∀s,Jz n (I s) (hv s)=true) (hs:G3 e (I s0)) (hh:G5 H (Ci H (hv s0)) n n) (h0:j s0) (a8:∀(s:S) (u:Nat->Value) (K:Nat->Bx->Hp->Prop) (o:S⊕E),step s=some o->(∀x,.inr x=o->J x=some r)->(∀s' n' e' H',.inl s'=o->G3 e' (I s')->G5 H' (Ci H (hv s')) n n->j s'->K n' e' H')->j s -> wc P C b K Qe Qr n (Jy (Fh b) e u (I s)) (Ci H (hv s))):wc P C (.loop b) Qn Qe Qr n e H:=by
 intro hT hm F W σ ι a w Q aa s he hn hk;refine De h λx hx h=>?_;obtain⟨N,hN⟩:=Ad9 hx;let J':Nat->Act->World->Prop:=λk a' w'=>∃i σ' ι',(Iz step k i=some x/\j i)/\Le σ ι H σ' ι' (Ci H (hv i))/\St σ' ι' (Ci H (hv i)) F W w' /\
   Er σ' ι' (Ci H (hv i)) (Jy (Fh b) e (λs=>a'.tmps.getD s undef) (I i)) a'/\a'.tmps.size=a.tmps.size/\a'.defers=a.defers/\Fx (Fh b) a a'
 have g:∀(k:Nat) (i:S) (D:A7) (X:Ca) (H1:Hp) (e1:Bx) (a1:Act) (Z:World),(Iz step k i=some x/\j i)->G3 e1 (I i)->G5 H1 (Ci H (hv i)) n n->Le σ ι H D X H1->St D X H1 F W Z->Er D X H1 e1 a1->a1.tmps.size=a.tmps.size ->
    a1.defers=a.defers->Fx (Fh b) a a1->J' k a1 Z:=by intro k i D X H1 e1 a1 Z hi ab ad q s1 U c f l;obtain⟨Y,g1,g2,g3,_⟩:=Ap2 (hb i) hn s he ab ad q s1 U c l;exact⟨i,D,Y,hi,g1,g2,g3,c,f,l⟩
 refine Ajk J' N (g N s0 σ ι H e a w ⟨hN,h0⟩ hs hh (Le.refl _ _ _) s he rfl rfl (Fx.refl _ _)) ?_;rintro k a1 Z ⟨i,D,X,⟨hi,a7⟩,q,s1,U,c,f,l⟩;have af:E8 (Ci H (hv i)) n:=by intro y hy;have V:=hb i;unfold Jz at V;rw[Fe,D8,D8]at V;rw[Tg (λp hp e=>by have:=Hn (V.2 p hp);omega)];exact hn y hy
 cases k with
 | zero=>cases hi
 | succ k=>
  simp only[Iz]at hi;cases ho:step i with
  | none=>rw[ho]at hi;cases hi
  | some o=>
   rw[ho]at hi;refine a8 i (λs=>a1.tmps.getD s undef) (λ_ e' H'=>∃s',(Iz step k s'=some x/\j s')/\G3 e' (I s')/\G5 H' (Ci H (hv s')) n n) o ho ?_ ?_ a7 hT hm F W D X a1 Z _ (by rw[c];exact aa) s1 U af ?_
   .intro y hy;subst hy;simp only[Option.some.injEq]at hi;rw[hi];exact h
   .intro s' n' e' H' M h1 h2 h3;subst M;exact⟨s',⟨hi,h3⟩,h1,h2⟩
   .intro x n2 e2 H2 σ2 Y a2 w2 hq G s2 R a6 B z A L;cases x with| normal=>obtain⟨i',ac,M,ae⟩:=hq;exact⟨k,ω,g k i' σ2 Y H2 e2 a2 w2 ac M ae (q.trans G) s2 R (z.trans c) (A.trans f) (l.trans L)⟩| exit id=>exact hk (.exit id) n2 e2 H2 σ2 Y a2 w2 hq (q.trans G) s2 R a6 B (z.trans c) (A.trans f) (l.trans L)| ret=>exact hk .ret n2 e2 H2 σ2 Y a2 w2 hq (q.trans G) s2 R a6 B (z.trans c) (A.trans f) (l.trans L)
theorem Wb {c:Code} (J:S->Prop) (l:S->List (Nat×AV)) (hv:S->List (Nat×Bq)) (hb:∀s,Jz n (l s) (hv s)=true) (X:∀(K:Nat->Bx->Hp->Prop),(∀s U e' H',J s->G3 e' (l s)->G5 H' (Ci H (hv s)) n n->K U e' H')->wc P C c K Qe Qr n e H) (V:∀(s:S) (u:Nat->Value),J s->Qn n (Jy (Fh c) e u (l s)) (Ci H (hv s))):wc P C c Qn Qe Qr n e H:=by intro Z Y F W σ ι a w Q A s L I hk;refine X (λ_ e' H'=>∃s,J s/\G3 e' (l s)/\G5 H' (Ci H (hv s)) n n) (λs _ _ _ h1 h2 h3=>⟨s,h1,h2,h3⟩) Z Y F W σ ι a w _ A s L I ?_;intro x G M N q E a1 y hq f z g j k b h hu;cases x with| normal=>obtain⟨i,hi,B,D⟩:=hq;obtain⟨R,g1,g2,g3,g4⟩:=Ap2 (hb i) I s L B D f z g b hu;exact hk .normal n _ _ q R a1 y (V i (λs=>a1.tmps.getD s undef) hi) g1 g2 g3 g4 (Nat.le_refl _) b h hu| exit id=>exact hk (.exit id) G M N q E a1 y hq f z g j k b h hu| ret=>exact hk .ret G M N q E a1 y hq f z g j k b h hu
theorem A2j (D:Dd P C.T) (I:P.follows .mixedOrders=true) {f:FuncId} {c:Code} {args:List AV} {r:AV} (hf:P.funcs[f]? = some fn) (hb:fn.body=some c) (g:(fn.name == "runtime.NumGoroutine")=false) (b:V9 fn c args.length=true) (h:r.free=true) (hv:wc P C c (λ_ e H=>Tn C.T fn.results.toList (· = r) e H) (λ_ _ _ _=>False) (λ_ e H=>Tn C.T fn.results.toList (· = r) e H) 0 (V8 args) H0):A8 P f args r:=by
 unfold V9 at b;simp only[Fe]at b;obtain⟨⟨u,y⟩,E⟩:=b;have E:=G2 E;refine⟨⟨fn,hf,g,by rw[hb];rfl⟩,λσ F W w vs s hc=>?_⟩;have j:(vs++Array.replicate (fn.ntmps-vs.size) undef).size=fn.ntmps:=by have:=hc.1;simp;omega
 refine calls_of_wp hf hb (hv D I F W σ ι0 _ w _ (by rw[j];exact u) s (Apf hc) (λ_ _=>rfl) ?_);intro x S e' H' M N B w' hq le s' z _ _ i A _;have k:∀q∈fn.results.toList,To q<B.tmps.size:=by intro q hq';rw[i];have:=Hn (D8.1 y q hq');rw[j];exact this
 have fin:Tn C.T fn.results.toList (· = r) e' H'->B.defers = []/\∃v,(results fn B.tmps).run P w' = .ok v w'/\∃v0 l,Ending.returned v = .returned v0/\σ.le l/\St l ι0 H0 F W w'/\Conc l ι0 H0 r v0:=by intro hq;obtain⟨v,G,U,R,h1,h2,h3,L,J⟩:=A10 D s' z k hq;subst h2;exact⟨A,v,h1,v,G,rfl,A7.le_trans le.sto h3.sto,L.forget,J.to0 h⟩
 cases x with| normal=>exact fin hq| ret=>exact fin hq| exit id=>exact hq.elim
theorem A2k (fz:Bool) (V:Dd P C.T) (hm:P.follows .mixedOrders=true) {f:FuncId} {c:Code} {args:List AV} {r:AV} {B b:List Bq} (hf:P.funcs[f]? = some fn) (hb:fn.body=some c) (l:(fn.name == "runtime.NumGoroutine")=false) (j:V9 fn c args.length=true) (g:Ajm B r b=true) (hv:wc P C c (λ_ e H=>Tq C.T fz fn.results.toList r b e H) (λ_ _ _ _=>False) (λ_ e H=>Tq C.T fz fn.results.toList r b e H) B.length (V8 args) (hp B)):Bo P f args B r b:=by
 unfold V9 at j;unfold Ajm at g;simp only[Fe]at j g;obtain⟨⟨I,L⟩,X⟩:=j;obtain⟨⟨E,J⟩,N⟩:=g;have E:=G2 E;have X:=G2 X;refine⟨⟨fn,hf,l,by rw[hb];rfl⟩,λσ F W w ι vs s hc=>?_⟩;have A:(vs++Array.replicate (fn.ntmps-vs.size) undef).size=fn.ntmps:=by have:=hc.1;simp;omega
 refine calls_of_wp hf hb (hv V hm F W σ ι _ w _ (by rw[A];exact I) s (Apf hc) (λ_ h=>Rf h) ?_);intro x n' e' H' σ' Z U w' hq le s' R _ _ z S _;have D:∀q∈fn.results.toList,To q<U.tmps.size:=by intro q hq';rw[z];have:=Hn (D8.1 L q hq');rw[A];exact this
 have fin:Tq C.T fz fn.results.toList r b e' H'->U.defers = []/\∃v,(results fn U.tmps).run P w' = .ok v w'/\∃v0 G ι0,Ending.returned v = .returned v0/\Le σ ι (hp B) G ι0 (hp b)/\St G ι0 (hp b) F W w'/\Conc G ι0 (hp b) r v0:=by
  intro hq;obtain⟨v,Y,H2,h1,h2,h3,h4,h5⟩:=A11 V s' R D hq;have u:∀i,i<b.length->H2 i=hp b i:=λi hi=>by simpa using h2.spec i hi
  refine⟨S,v,h1,v,Y,(λk=>if k<b.length then Z k else .none),rfl,?_,h4.first b u N,?_⟩
  .have y:=le.trans h3;refine⟨y.sto,λk=>?_⟩;by_cases hk:k<b.length
   .rw[if_pos hk,<-u k hk];exact y.obj k
   .rw[if_neg hk,Rf ω,Rf ω];have:ι k = .none:=(by have:=s.obj k;unfold Cr at this;rw[Rf ω]at this;exact this);rw[this];exact HLe.refl _ _
  .exact h5.restrict (n:=b.length) (λh M=>if_pos M) (λh M=>(u h M).symm) J
 cases x with| normal=>exact fin hq| ret=>exact fin hq| exit id=>exact hq.elim
end
inductive I7 where
 | c0|c1|c2|c3|c4|c5|c6
def Yz (i:Int):Option I7 := if i=0 then some .c0 else if i=1 then some .c1 else if i=2 then some .c2 else if i=3 then some .c3 else if i=4 then some .c4 else if i=5 then some .c5 else if i=6 then some .c6 else none
theorem Ap4 {β:Type} {r:β} {i:Int} {m:I7->Option β} {K:Nat->Prop} (h:(Yz i).bind m=some r) (k0:i=((0:Nat):Int)->m .c0=some r->K 0) (k:i=((1:Nat):Int)->m .c1=some r->K 1) (j:i=((2:Nat):Int)->m .c2=some r->K 2) (g:i=((3:Nat):Int)->m .c3=some r->K 3) (f:i=((4:Nat):Int)->m .c4=some r->K 4) (c:i=((5:Nat):Int)->m .c5=some r->K 5) (b:i=((6:Nat):Int)->m .c6=some r->K 6):Pt 7 i K:=by
 unfold Yz at h;split at h
 .rename_i e;exact .mk 0 e δ (k0 e h)
 split at h
 .rename_i e;exact .mk 1 e δ (k e h)
 split at h
 .rename_i e;exact .mk 2 e δ (j e h)
 split at h
 .rename_i e;exact .mk 3 e δ (g e h)
 split at h
 .rename_i e;exact .mk 4 e δ (f e h)
 split at h
 .rename_i e;exact .mk 5 e δ (c e h)
 split at h
 .rename_i e;exact .mk 6 e δ (b e h)
 cases h
variable {a:Act} {P:Program} {w:World}
theorem Ap5 {id:Nat}:∀{k b:List Item},exitTo id k=some b->b.length<k.length
 | [],b,h=>by cases h
 | x::k,b,h=>by
  have ih:exitTo id k=some b->b.length<(x::k).length:=λh=>Nat.lt_succ_of_lt (Ap5 h);unfold exitTo at h;split at h
  .rename_i c k0 heq;cases heq;split at h
   .cases h;simp
   .exact ih h
  .rename_i f k0 _ heq;cases heq;exact ih h
  .rename_i heq;cases heq
theorem Ajy {m f c:Machine} (h:step P m = .next f) (h':Steps P m c):c=m\/Steps P f c:=by obtain⟨n,b⟩:=h';cases n with| zero=>left;simp only[runN,Stepped.next.injEq]at b;exact b.symm| succ n=>right;simp only[runN,h]at b;exact⟨n,b⟩
theorem Ap6 {b:Frame} {f:Act} {k c:List Item} {cs:List Frame} {w':World} (h:lone (b.at a k) cs w=lone (b.at f c) cs w'):k=c:=by simp only[lone,Machine.mk.injEq,Array.mk.injEq,List.cons.injEq,Goroutine.mk.injEq,Frame.at,Frame.mk.injEq]at h;exact h.2.1.1.1.2.2.1
def A2l:Exit->Bool
 | .normal | .exit _ | .ret=>true
 | _=>false
theorem A2m {Q:Exit->Act->World->Prop} {c:Code} (h:c.wp P (Exit.then (λD w'=>(Code.loop c).wp P (λe a w=>A2l e=true/\Q e a w) D w') Q) a w):(Code.loop c).wp P Q a w:=by
 intro b k cs;obtain⟨e,a1,i,hq,f⟩:=h b (.inLoop c::k) cs;have first:Steps P (lone (b.at a (.code (.loop c)::k)) cs w) (lone (b.at a (.code c :: .inLoop c::k)) cs w):=.one step_loop
 cases e with
 | normal=>
  obtain⟨u,a2,y,⟨s,q⟩,g⟩:=hq b k cs;have j:Steps P (lone (b.at a (.code (.loop c)::k)) cs w) (lone (b.at a1 (.code c :: .inLoop c::k)) cs i):=first.trans (Steps.trans f (.one step_inLoop));refine⟨u,a2,y,q,.of_steps j ?_⟩;cases u with
  | normal=>
   rcases Ajy step_loop g with e|e
   .have:=congrArg length (Ap6 e);simp at this
   .exact e
  | exit id=>
   intro z hk;rcases Ajy step_loop (g z hk) with e|e
   .have h1:=Ap5 hk;have h2:=congrArg length (Ap6 e);simp at h2;omega
   .exact e
  | ret=>
   obtain⟨todo,A⟩:=g;rcases Ajy step_loop A with e|e
   .simp only[lone,Machine.mk.injEq,Array.mk.injEq,List.cons.injEq,Goroutine.mk.injEq,Frame.at,Frame.mk.injEq]at e;simp at e
   .exact⟨todo,e⟩
  | goto l=>cases s
  | panic B=>cases s
  | outgrown=>cases s
 | exit id=>exact⟨_,a1,i,hq,.of_steps first (.pass (x:=.inLoop c) rfl (λ_ _=>.inl ψ) f)⟩
 | goto l=>exact⟨_,a1,i,hq,.of_steps first (.pass (x:=.inLoop c) rfl (λ_ _=>.inl ψ) f)⟩
 | ret=>exact⟨_,a1,i,hq,.of_steps first (.pass (x:=.inLoop c) rfl (λ_ _=>.inl ψ) f)⟩
 | panic B=>exact⟨_,a1,i,hq,.of_steps first (.pass (x:=.inLoop c) rfl (λ_ _=>.inl ψ) f)⟩
 | outgrown=>exact⟨_,a1,i,hq,.of_steps (b:=b) (k:=k) (cs:=cs) (e:=.outgrown) first (.pass (x:=.inLoop c) rfl (λ_ _=>.inl ψ) f)⟩
section
variable {P:Program} {C:Cfg} {Qn:Nat->Bx->Hp->Prop} {Qe:Nat->Nat->Bx->Hp->Prop} {Qr:Nat->Bx->Hp->Prop} {n:Nat} {e:Bx} {H:Hp}
theorem Y0 {c:Code} (k:wc P C c (λn e H=>wc P C (.loop c) Qn Qe Qr n e H) Qe Qr n e H):wc P C (.loop c) Qn Qe Qr n e H:=by intro R M F W σ ι a w Q l s he hn hk;refine A2m (k R M F W σ ι a w _ l s he hn ?_);intro x L S U y z a1 A hq f B h g q b i hu;cases x with| normal=>refine hq R M F W y z a1 A _ (by rw[b];exact l) B h g ?_;intro x n2 e2 H2 V X a2 Y G D Z J I N j u E;exact⟨by cases x <;> rfl,hk x n2 e2 H2 V X a2 Y G (f.trans D) Z J I ω (j.trans b) (u.trans i) (hu.trans E)⟩| exit id=>exact hk (.exit id) L S U y z a1 A hq f B h g q b i hu| ret=>exact hk .ret L S U y z a1 A hq f B h g q b i hu
def Vw (x:AV) (v:Value):Prop:=∀sz xs,x = .sl sz xs->∃p c,v = .slice p xs.length c/\(p=none->xs = [])
theorem Aeg {c:Code} (s:Nat) (k:∀v,Vw (e s) v->wc P C c Qn Qe Qr n (Ay e s (.val v)) H):wc P C c Qn Qe Qr n e H:=by
 intro z y F W σ ι a w Q f u l x hk;by_cases A:s<a.tmps.size
 .have hc:=l s A;refine k (a.tmps.getD s undef) ?_ z y F W σ ι a w Q f u ?_ x hk
  .intro sz xs hx;rw[hx]at hc;rcases hc.sl_inv.sl_inv with⟨rfl,p,cap,e⟩|⟨b,off,cap,C,E,fr,g,e,_⟩
   .exact⟨p,cap,e,λ_=>rfl⟩
   .exact⟨_,cap,e,λh=>by cases h⟩
  .intro q hq;by_cases h:q=s
   .subst h;rw[Ce];exact .of_val _
   .rw[Cq _ _ h];exact l q hq
 .have hv:∃v,Vw (e s) v:=(by cases hx:e s with| sl sz xs=>exact⟨.slice (some ⟨0,0,none⟩) xs.length 0,λj i h=>by cases h;exact⟨_,_,rfl,λh=>by cases h⟩⟩| _=>exact⟨undef,λj i h=>by cases h⟩);obtain⟨v,hv⟩:=hv;refine k v hv z y F W σ ι a w Q f u ?_ x hk;intro q hq;rw[Cq _ _ ω];exact l q hq
end
variable {F σ:A7} {ι:Ca} {H:Hp} {xs:List AV} {h h' k n sz:Nat} {W:World}
theorem St.move {w:World} (s:St σ ι H F W w) {E:TypeId} (A:E8 H n) (hh:H h = .rows E sz xs) : St σ (Ay ι n (ι h)) (Ay (Ay H h .dead) n (.rows E sz xs)) F W w/\Le σ ι H σ (Ay ι n (ι h)) (Ay (Ay H h .dead) n (.rows E sz xs)):=by
 have L:h≠n:=λe=>by rw[e,A n (Nat.le_refl _)]at hh;cases hh
 have u:ι n = .none:=by have:=s.obj n;unfold Cr at this;rw[A n (Nat.le_refl _)]at this;exact this
 have le:Le σ ι H σ (Ay ι n (ι h)) (Ay (Ay H h .dead) n (.rows E sz xs)):=by
  refine⟨A7.le_refl σ,λx=>?_⟩;by_cases e:x=n
  .subst e;rw[u,A x (Nat.le_refl _)];exact HLe.of_none
  .rw[Cq _ _ e,Cq _ _ e];by_cases g:x=h
   .subst g;rw[Ce,hh];exact⟨λ_ q=>q,λ_ q=>(by cases q),λ_ _ _ _ q=>(by cases q)⟩
   .rw[Cq _ _ g];exact HLe.refl _ _
 refine⟨⟨s.sto,s.fra,λx=>?_,λx y b k J l B=>?_,s.os,s.tape,s.output,s.glo,s.drw⟩,le⟩
 .by_cases e:x=n
  .subst e;have f:=s.obj h;unfold Cr at f ⊢;rw[hh]at f;rw[Ce,Ce];exact f
  .by_cases g:x=h
   .subst g;unfold Cr;rw[Cq _ _ e,Ce];trivial
   .have f:=s.obj x;unfold Cr at f ⊢;rw[Cq _ _ e,Cq _ _ g,Cq _ _ e];cases hx:H x with| cells T cs=>rw[hx]at f;obtain⟨b,C,g1,g2,g3,g4,g5,g6⟩:=f;exact⟨b,C,g1,g2,g3,g4,g5,λi c v q I=>(g6 i c v q I).mono le⟩| none=>rw[hx]at f;exact f| dead=>trivial| rows T z ys=>rw[hx]at f;exact f| map es=>rw[hx]at f;exact f
 .have j:∀x b,((Ay (Ay H h .dead) n (.rows E sz xs)) x).live=true->((Ay ι n (ι h)) x).block? = some b->∃y,(H y).live=true/\(ι y).block? = some b/\((x=n/\y=h)\/(x≠n/\x≠h/\y=x)):=by
   intro x b k l;by_cases e:x=n
   .subst e;rw[Ce]at l;exact⟨h,by rw[hh];rfl,l,.inl ⟨rfl,rfl⟩⟩
   .rw[Cq _ _ e]at k l;by_cases g:x=h
    .subst g;rw[Ce]at k;cases k
    .rw[Cq _ _ g]at k;exact⟨x,k,l,.inr ⟨e,g,rfl⟩⟩
  obtain⟨G,a1,a2,a3⟩:=j x b k l;obtain⟨D,b1,b2,M⟩:=j y b J B;have:=s.inj G D b a1 b1 a2 b2;rcases a3 with⟨rfl,rfl⟩|⟨c1,c2,rfl⟩ <;> rcases M with⟨d0,d1⟩|⟨d1,d2,d3⟩ <;> omega
theorem Conc.arr_mv {c:Ca} {H':Hp} {off len:Nat} {v:Value} (g:c h'=ι h) (f:H' h'=H h) (hc:Conc σ ι H (.arr h k off len) v):Conc σ c H' (.arr h' k off len) v:=by cases hc with| cc h=>cases h| arr _ _ _ _ _ i hv b=>exact .arr h' k off len v (by rw[f];exact i) (λE sz xs e=>by rw[g];exact hv E sz xs (by rw[<-f];exact e)) b
theorem A2n {ws:List Nat} {l:List (Nat×AV)} {g:List (Nat×Bq)} {J:A7} {w1:World} {L:Ca} {a a1:Act} {G I:Hp} {e e1:Bx} {sl:Nat} {T:TypeId} (hb:Jz n l g=true) (ad:E8 G n) (a7:∀x,n<=x->ι x = .none) (ac:E8 H n) (he:Er σ ι H e a) (ag:n<=h') (Y:G3 e1 l) (ab:e1 sl = .arr h' k 0 k) (hr:I h' = .rows T sz xs) (S:G5 I G n n) (X:Le σ ι H J L I) (B:St J L I F W w1) (a6:Er J L I e1 a1) (af:a1.tmps.size=a.tmps.size) (aa:Fx ws a a1) : ∃A,Le σ ι H J A (Ay G n (.rows T sz xs))/\St J A (Ay G n (.rows T sz xs)) F W w1/\Er J A (Ay G n (.rows T sz xs)) (Ay (Jy ws e (λs=>a1.tmps.getD s undef) l) sl (.arr n k 0 k)) a1/\E8 (Ay G n (.rows T sz xs)) (n+1):=by
 have Z:∀p∈l,p.2.under n=true:=by intro p hp;unfold Jz at hb;rw[Fe,D8,D8]at hb;exact hb.1 p hp
 let A:Ca:=λx=>if x<n then L x else if x=n then L h' else .none
 have i:∀x,x<n->A x=L x:=λx hx=>if_pos hx;have h:A n=L h':=by show (if n<n then _ else if n=n then _ else _)=_;rw[if_neg ω,if_pos rfl]
 have z:∀x,x<n->(Ay G n (.rows T sz xs)) x=I x:=λx hx=>by rw[Cq _ _ ω];exact ((S.spec) x hx).1.symm
 have u:(Ay G n (.rows T sz xs)) n=I h':=by rw[Ce,hr]
 have c:∀x,n<x->(Ay G n (.rows T sz xs)) x = .none:=λx hx=>by rw[Cq _ _ ω];exact ad x ω
 have V:Le σ ι H J A (Ay G n (.rows T sz xs)):=by
  refine⟨X.sto,λx=>?_⟩;by_cases hx:x<n
  .rw[i x hx,z x hx];exact X.obj x
  .rw[a7 x ω,ac x ω];exact HLe.of_none
 have s2:St J A (Ay G n (.rows T sz xs)) F W w1:=by
  refine⟨B.sto,B.fra,λx=>?_,?_,B.os,B.tape,B.output,B.glo,B.drw⟩
  .rcases Nat.lt_trichotomy x n with hx|hx|hx
   .have f:=B.obj x;have R:=((S.spec) x hx).2;unfold Cr at f ⊢;rw[z x hx,i x hx];rw[<-((S.spec) x hx).1]at R;cases D:I x with
    | none=>rw[D]at f;exact f
    | dead=>trivial
    | cells E cs=>rw[D]at f R;obtain⟨b,Cc,g1,g2,g3,g4,g5,g6⟩:=f;refine⟨b,Cc,g1,g2,g3,g4,g5,λq cq v hq a8=>(g6 q cq v hq a8).restrict i z ?_⟩;have:=D8.1 R cq (Fi hq);exact Adv this
    | rows E sz xs=>rw[D]at f;exact f
    | map es=>rw[D]at f;exact f
   .subst hx;have f:=B.obj h';unfold Cr at f ⊢;rw[u,h];rw[hr]at f ⊢;exact f
   .unfold Cr;rw[c x hx];show (if x<n then _ else if x=n then _ else _)=_;rw[if_neg ω,if_neg ω]
  .have N:∀x b,((Ay G n (.rows T sz xs)) x).live=true->(A x).block? = some b->∃y,(I y).live=true/\(L y).block? = some b/\((x=n/\y=h')\/(x<n/\y=x)):=by
    intro x b M U;rcases Nat.lt_trichotomy x n with hx|hx|hx
    .rw[z x hx]at M;rw[i x hx]at U;exact⟨x,M,U,.inr ⟨hx,rfl⟩⟩
    .subst hx;rw[u]at M;rw[h]at U;exact⟨h',M,U,.inl ⟨rfl,rfl⟩⟩
    .rw[c x hx]at M;cases M
   intro x y b M ly U ae;obtain⟨x',a1,a2,a3⟩:=N x b M U;obtain⟨y',b1,b2,b3⟩:=N y b ly ae;have:=B.inj x' y' b a1 b1 a2 b2;rcases a3 with⟨c1,c2⟩|⟨c1,c2⟩ <;> rcases b3 with⟨d1,d2⟩|⟨d1,d2⟩ <;> omega
 refine⟨A,V,s2,?_,λx hx=>c x ω⟩;intro q hq;by_cases e0:q=sl
 .subst e0;rw[Ce];have:=a6 q hq;rw[ab]at this;exact this.arr_mv h u
 .rw[Cq _ _ e0];rcases Ad2 ws e (λs=>a1.tmps.getD s undef) l q with⟨p,hp,rfl,j⟩|⟨hw,j⟩|⟨hw,j⟩
  .rw[j,<-Y.spec p hp];refine (a6 p.1 hq).restrict i z ?_;rw[Y.spec p hp];exact Z p hp
  .rw[j];exact .of_val _
  .rw[j,aa q hw];exact (he q ω).mono V
section
variable {P:Program} {C:Cfg} {Qn:Nat->Bx->Hp->Prop} {Qe:Nat->Nat->Bx->Hp->Prop} {Qr:Nat->Bx->Hp->Prop} {n:Nat} {e:Bx} {H:Hp} {β:Type} {r:β}
theorem Ap7 {S E:Type} {step:S->Option (S⊕E)} {s0:S} {J:E->Option β} {b:Code} (h:(Ak step s0).bind J=some r) (sl h0:Nat) (T:TypeId) (sz:Nat) (xs:S->List AV) (len:S->Nat) (D:S->List (Nat×AV)) (hv:S->List (Nat×Bq)) (hb:∀s,Jz n (D s) (hv s)=true) (ak:e sl = .arr h0 (len s0) 0 (len s0)) (G:H h0 = .rows T sz (xs s0)) (hs:G3 e (D s0)) (hh:G5 (Ay H h0 .dead) (Ci (Ay H h0 .dead) (hv s0)) n n) (aa:∀(s:S) (u:Nat->Value) (K:Nat->Bx->Hp->Prop) (o:S⊕E),step s=some o->(∀x,.inr x=o->J x=some r) -> (∀s' d n' e' H',.inl s'=o->G3 e' (D s')->e' sl = .arr (n+d) (len s') 0 (len s')->H' (n+d) = .rows T sz (xs s')->G5 H' (Ci (Ay H h0 .dead) (hv s')) n n->K n' e' H') -> wc P C b K Qe Qr (n+1) (Ay (Jy (Fh b) e u (D s)) sl (.arr n (len s) 0 (len s))) (Ay (Ci (Ay H h0 .dead) (hv s)) n (.rows T sz (xs s)))):wc P C (.loop b) Qn Qe Qr n e H:=by
 intro hT hm F W σ ι a w Q ac s he hn hk;refine De h λx hx h=>?_;obtain⟨N,hN⟩:=Ad9 hx;have ab:∀x,n<=x->ι x = .none:=by intro x hx;have:=s.obj x;unfold Cr at this;rw[hn x hx]at this;exact this
 have ap:h0<n:=by
  rcases Nat.lt_or_ge h0 n with q|q
  .exact q
  .rw[hn h0 q]at G;cases G
 have Z:∀i,E8 (Ci (Ay H h0 .dead) (hv i)) n:=λi y hy=>by have Y:=hb i;unfold Jz at Y;rw[Fe,D8,D8]at Y;rw[Tg (λp hp e=>by have:=Hn (Y.2 p hp);omega),Cq _ _ ω];exact hn y hy
 let Hd:S->Hp:=λi=>Ay (Ci (Ay H h0 .dead) (hv i)) n (.rows T sz (xs i))
 let J':Nat->Act->World->Prop:=λk a' w'=>∃i σ' ι',Iz step k i=some x/\Le σ ι H σ' ι' (Hd i)/\St σ' ι' (Hd i) F W w' /\
   Er σ' ι' (Hd i) (Ay (Jy (Fh b) e (λs=>a'.tmps.getD s undef) (D i)) sl (.arr n (len i) 0 (len i))) a'/\a'.tmps.size=a.tmps.size/\a'.defers=a.defers/\Fx (Fh b) a a'
 have I:∀(k d:Nat) (i:S) (L:A7) (ι1:Ca) (H1:Hp) (e1:Bx) (a1:Act) (w1:World),Iz step k i=some x->G3 e1 (D i)->e1 sl = .arr (n+d) (len i) 0 (len i)->H1 (n+d) = .rows T sz (xs i)->G5 H1 (Ci (Ay H h0 .dead) (hv i)) n n->Le σ ι H L ι1 H1->St L ι1 H1 F W w1->Er L ι1 H1 e1 a1->a1.tmps.size=a.tmps.size ->
    a1.defers=a.defers->Fx (Fh b) a a1->J' k a1 w1:=by intro k d i L ι1 H1 e1 a1 w1 hi ae ad hr ah j s1 X c f g;obtain⟨ι2,g1,g2,g3,_⟩:=A2n (hb i) (Z i) ab hn he (Nat.le_add_right n d) ae ad hr ah j s1 X c g;exact⟨i,L,ι2,hi,g1,g2,g3,c,f,g⟩
 obtain⟨sm,lm⟩:=s.move hn G;have a8:Er σ (Ay ι n (ι h0)) (Ay (Ay H h0 .dead) n (.rows T sz (xs s0))) (Ay e sl (.arr n (len s0) 0 (len s0))) a:=λq hq=>by
  by_cases e0:q=sl
  .subst e0;rw[Ce];have:=he q hq;rw[ak]at this;exact this.arr_mv (Ce _ _ _) (by rw[Ce,G])
  .rw[Cq _ _ e0];exact (he q hq).mono lm
 have aq:G3 (Ay e sl (.arr n (len s0) 0 (len s0))) (D s0)\/True:=.inr trivial;have Ajz:J' N a w:=by
  have am:∀y,y<n->(Ci (Ay H h0 .dead) (hv s0)) y=(Ay H h0 .dead) y:=λy hy=>((hh.spec) y hy).1.symm;have B:∀y,Hd s0 y=(Ay (Ay H h0 .dead) n (.rows T sz (xs s0))) y:=λy=>by
   show (Ay (Ci (Ay H h0 .dead) (hv s0)) n (.rows T sz (xs s0))) y=_;by_cases ey:y=n
   .subst ey;rw[Ce,Ce]
   .rw[Cq _ _ ey,Cq _ _ ey];rcases Nat.lt_or_ge y n with hy|hy
    .exact am y hy
    .rw[Z s0 y hy,Cq _ _ ω,hn y hy]
  have B:Hd s0=Ay (Ay H h0 .dead) n (.rows T sz (xs s0)):=funext B;refine⟨s0,σ,Ay ι n (ι h0),hN,by rw[B];exact lm,by rw[B];exact sm,?_,rfl,rfl,Fx.refl _ _⟩;rw[B];intro q hq;by_cases e0:q=sl
  .have:=a8 q hq;subst e0;rw[Ce]at this ⊢;exact this
  .have h1:=a8 q hq;rw[Cq _ _ e0]at h1 ⊢;rcases Ad2 (Fh b) e (λs=>a.tmps.getD s undef) (D s0) q with⟨p,hp,rfl,z⟩|⟨hw,z⟩|⟨hw,z⟩
   .rw[z,<-hs.spec p hp];exact h1
   .rw[z];exact .of_val _
   .rw[z];exact h1
 refine Ajk J' N Ajz ?_;rintro k a1 w1 ⟨i,L,ι1,hi,j,s1,X,c,f,g⟩;have aj:E8 (Hd i) (n+1):=λy hy=>by show (Ay (Ci (Ay H h0 .dead) (hv i)) n (.rows T sz (xs i))) y=_;rw[Cq _ _ ω];exact Z i y ω
 cases k with
 | zero=>cases hi
 | succ k=>
  simp only[Iz]at hi;cases ho:step i with
  | none=>rw[ho]at hi;cases hi
  | some o=>
   rw[ho]at hi;refine aa i (λs=>a1.tmps.getD s undef) (λ_ e' H'=>∃s' d,Iz step k s'=some x/\G3 e' (D s')/\e' sl = .arr (n+d) (len s') 0 (len s')/\H' (n+d) = .rows T sz (xs s')/\G5 H' (Ci (Ay H h0 .dead) (hv s')) n n) o ho ?_ ?_ hT hm F W L ι1 a1 w1 _ (by rw[c];exact ac) s1 X aj ?_
   .intro y hy;subst hy;simp only[Option.some.injEq]at hi;rw[hi];exact h
   .intro s' d n' e' H' U h1 h2 h3 h4;subst U;exact⟨s',d,hi,h1,h2,h3,h4⟩
   .intro x n2 e2 H2 σ2 ι2 a2 w2 hq M s2 V a7 ao l A R;cases x with| normal=>obtain⟨i',d,ag,U,a6,af,ai⟩:=hq;exact⟨k,ω,I k d i' σ2 ι2 H2 e2 a2 w2 ag U a6 af ai (j.trans M) s2 V (l.trans c) (A.trans f) (g.trans R)⟩| exit id=>exact hk (.exit id) n2 e2 H2 σ2 ι2 a2 w2 hq (j.trans M) s2 V a7 ω (l.trans c) (A.trans f) (g.trans R)| ret=>exact hk .ret n2 e2 H2 σ2 ι2 a2 w2 hq (j.trans M) s2 V a7 ω (l.trans c) (A.trans f) (g.trans R)
end
def Aeh (a b c:Int):Option (Int×Int):=bif decide (0<=a)&&decide (0<=b)&&decide (0<=c)&&decide (c<=1) then some ((a+b+c) % 18446744073709551616,(a+b+c) / 18446744073709551616) else none
variable {α:Type} {l r:List α} {cmp:α->α->Option Int}
structure Py {α:Type} (cf:α->α->Int):Prop where
 irr:∀x,¬cf x x<0
 trs:∀x y z,cf x y<0->cf y z<0->cf x z<0
 ntr:∀x y z,¬cf x y<0->¬cf y z<0->¬cf x z<0
def Y1 (cmp:α->α->Option Int) (l r:List α):Prop := ∃cf:α->α->Int,Py cf/\(∀x∈l,∀y∈l,cmp x y=some (cf x y))/\r.Perm l/\r.Pairwise (λx y=>cf x y<0)
open Classical in
noncomputable def Pz {α:Type} (cmp:α->α->Option Int) (l:List α):Option (List α) := if h:∃r,Y1 cmp l r then some (Classical.choose h) else none
theorem A2o (h:Pz cmp l=some r):Y1 cmp l r:=by
 unfold Pz at h;split at h
 .rename_i k;cases h;exact Classical.choose_spec k
 .cases h
theorem Ap8 (h:Y1 cmp l r):∃b,Pz cmp l=some b/\Y1 cmp l b:=by unfold Pz;rw[dif_pos ⟨r,h⟩];exact⟨_,rfl,Classical.choose_spec (⟨r,h⟩:∃r,Y1 cmp l r)⟩
def P1 (n:Nat) (a:List α):Option (List α×List α):=(Cd n [] a).bind λo=>some ([],o)
def M9 (n:Int):Option (List α):=bif decide (0<=n)&&decide (n<=1000000) then some [] else none
end Go.Ab
