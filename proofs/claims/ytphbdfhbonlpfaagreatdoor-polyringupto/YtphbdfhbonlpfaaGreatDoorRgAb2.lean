/- Plain laws: what the plain functions answer. -/
import Derived.Test.YtphbdfhbonlpfaaGreatDoorRgAb
open List
namespace Go.Ab
def H0:Hp:=λ_=>.none
def ι0:Cd:=λ_=>.none
def Acz (P:Program) (f:FuncId):Prop:=∃fn,P.funcs[f]? = some fn/\(fn.name == "runtime.NumGoroutine")=false/\fn.body.isNone=false
def Nw (σ:A5) (ι:Cd) (H:Hp) (args:List AV) (vs:Array Value):Prop := vs.size=args.length/\∀(i:Nat) (a:AV) (v:Value),args[i]? = some a->vs[i]? = some v->Conc σ ι H a v
def Ay (P:Program) (f:FuncId) (args:List AV) (r:AV):Prop := Acz P f/\∀(σ F:A5) (W w:World) (vs:Array Value),St σ ι0 H0 F W w->Nw σ ι0 H0 args vs -> Calls P f vs w λe w'=>∃v b,e = .returned v/\σ.le b/\St b ι0 H0 F W w'/\Conc b ι0 H0 r v
def AV.under0 (n:Nat):AV->Bool
 | .loc h _ | .mp h | .vec h _=>Nat.blt h n
 | .arr h _ _ _ | .el h _ _ _=>Nat.blt h n
 | .val _ | .sl _ _ | .ref _ | .fb _=>true
 | _=>false
def AV.under1 (n:Nat):AV->Bool
 | .loc h _ | .mp h | .vec h _=>Nat.blt h n
 | .arr h _ _ _ | .el h _ _ _=>Nat.blt h n
 | .val _ | .sl _ _ | .ref _ | .fb _=>true
 | .fn _ cs=>cs.all (AV.under0 n)
 | _=>false
def AV.under2 (n:Nat):AV->Bool
 | .agg cs=>cs.all (AV.under1 n)
 | x=>x.under1 n
def AV.under (n:Nat):AV->Bool
 | .agg cs | .fn _ cs=>cs.all (AV.under1 n)
 | .tup cs=>cs.all (AV.under2 n)
 | x=>x.under1 n
def Bn.under (n:Nat):Bn->Bool
 | .cells _ cs=>cs.all (AV.under1 n)
 | .map _=>true
 | .rows _ _ _=>true
 | .none=>true
 | .dead=>true
def Aik (es:Nat->Nat):AV->AV
 | .loc h off=>.loc (es h) off
 | .mp h=>.mp (es h)
 | .vec h k=>.vec (es h) k
 | .arr h k off len=>.arr (es h) k off len
 | .el h k i j=>.el (es h) k i j
 | x=>x
def Ox (es:Nat->Nat):AV->AV
 | .loc h off=>.loc (es h) off
 | .mp h=>.mp (es h)
 | .vec h k=>.vec (es h) k
 | .arr h k off len=>.arr (es h) k off len
 | .el h k i j=>.el (es h) k i j
 | .fn f cs=>.fn f (cs.map (Aik es))
 | x=>x
def Ail (es:Nat->Nat):AV->AV
 | .agg cs=>.agg (cs.map (Ox es))
 | x=>Ox es x
def ren (es:Nat->Nat):AV->AV
 | .agg cs=>.agg (cs.map (Ox es))
 | .tup cs=>.tup (cs.map (Ail es))
 | .fn f cs=>.fn f (cs.map (Ox es))
 | x=>Ox es x
def J0 (es:Nat->Nat):Bn->Bn
 | .cells E cs=>.cells E (cs.map (Ox es))
 | o=>o
def hp (b:List Bn):Hp:=λk=>b.getD k .none
def Bv (P:Program) (f:FuncId) (args:List AV) (h:List Bn) (r:AV) (b:List Bn):Prop := Acz P f/\∀(σ F:A5) (W w:World) (ι:Cd) (vs:Array Value),St σ ι (hp h) F W w->Nw σ ι (hp h) args vs -> Calls P f vs w λe w'=>∃v c g,e = .returned v/\Le σ ι (hp h) c g (hp b)/\St c g (hp b) F W w'/\Conc c g (hp b) r v
def Ds (n:Nat):List Nat->Nat->Nat
 | [],k=>n+k
 | h::_,0=>h
 | _::l,k+1=>Ds n l k
def Pt (n:Nat):List Nat->Bool
 | []=>true
 | h::l=>Nat.blt h n && !(l.elem h)&&Pt n l
def Fx (es:Nat->Nat):Nat->List Bn->List (Nat×Bn)
 | _,[]=>[]
 | k,o::os=>(es k,J0 es o)::Fx es (k+1) os
def Cm (es:Nat->Nat):Nat->Nat->List (Nat×Bn)
 | _,0=>[]
 | k,c+1=>(es k,.none)::Cm es (k+1) c
def Oy (H:Hp):List (Nat×Bn)->Prop
 | []=>True
 | p::l=>H p.1=p.2/\Oy H l
def Nx (n:Nat) (l:List Nat) (c:List AV) (f:List Bn) (r:AV) (b:List Bn):Bool := Pt n l&&Nat.beq f.length l.length&&Nat.ble l.length b.length&&c.all (AV.under l.length)&&f.all (Bn.under l.length)&&r.under b.length&&b.all (Bn.under b.length)
inductive Vt (xs:List AV) (i:Int) (K:Nat->AV->Prop):Prop where
 | mk (n:Nat) (x:AV) (hi:i=n) (hx:xs[n]? = some x) (k:K n x)
inductive S8 (len:Nat) (kk:Nat) (xs:List AV) (i:Int) (K:Nat->Prop):Prop where
 | mk (n:Nat) (hk:xs.length=kk) (hi:i=n) (hn:n<len) (k:K n)
inductive Pu (len:Nat) (i:Int) (K:Nat->Prop):Prop where
 | mk (n:Nat) (hi:i=n) (hn:n<len) (k:K n)
inductive Jb (k:IntKind) (n:Int) (K:Int->Prop):Prop where
 | mk (c:Int) (h:k.wrap n=c) (k:K c)
inductive Ac0 (k:IntKind) (m n:Int) (K:Int->Prop):Prop where
 | mk (c:Int) (hn:n≠0) (h:k.wrap (m.tdiv n)=c) (k:K c)
inductive Ac1 (m n:Int) (K:Int->Prop):Prop where
 | mk (c:Int) (hn:n≠0) (h:m.tmod n=c) (k:K c)
inductive Ac2 (k:IntKind) (m n:Int) (K:Int->Prop):Prop where
 | mk (c:Int) (hn:0<=n) (h:m.fdiv (2 ^ (min n.toNat k.bits))=c) (k:K c)
inductive Aim (k:IntKind) (m n:Int) (K:Int->Prop):Prop where
 | mk (c:Int) (hn:0<=n) (h:k.wrap (m*2 ^ (min n.toNat k.bits))=c) (k:K c)
inductive Ac3 (n:Nat) (lo hi:Int) (K:Nat->Nat->Prop):Prop where
 | mk (l h:Nat) (el:lo=l) (eh:hi=h) (h1:l<=h) (h2:h<=n) (k:K l h)
inductive Ny (xs:List AV) (lo hi:Int) (K:List AV->Prop):Prop where
 | mk (l h:Nat) (ys:List AV) (el:lo=l) (eh:hi=h) (h1:l<=h) (h2:h<=xs.length) (hy:(xs.take h).drop l=ys) (k:K ys)
inductive An2 (kk:Nat) (xs:List AV) (n:Nat) (lo hi:Int) (K:Nat->Nat->Prop) (KE:Prop):Prop where
 | mk (l h:Nat) (hk:xs.length=kk) (el:lo=l) (eh:hi=h) (h1:l<=h) (h2:h<=n) (h3:l=0\/l<h) (k:K l h)
 | mkE (l:Nat) (hk:xs.length=kk) (el:lo=l) (eh:hi=l) (h2:l<=n) (k:KE)
inductive Ac4 (s:ByteArray) (i:Int) (K:UInt8->Prop):Prop where
 | mk (n:Nat) (c:UInt8) (hi:i=n) (hc:s[n]? = some c) (k:K c)
inductive Ain (xs:List AV) (K:ByteArray->Prop):Prop where
 | mk (bs:List UInt8) (hx:xs=bs.map λb=>.val (.int .u8 b.toNat)) (k:K ⟨bs.toArray⟩)
inductive Ac5 (n:Nat) (K:Prop):Prop where
 | mk (h:n<=9223372036854775807) (k:K)
inductive Vu (len cap:Int) (bytes:Nat) (z:AV) (K:Nat->List AV->Prop):Prop where
 | mk (l c:Nat) (zs:List AV) (el:len=l) (ec:cap=c) (h1:l<=c) (h2:bytes*c<=281474976710656) (h3:c<=140737488355328) (hz:replicate l z=zs) (k:K l zs)
 | mkN (z':AV) (hn:Ht z.cells z'.cells) (l c:Nat) (zs:List AV) (el:len=l) (ec:cap=c) (h1:l<=c) (h2:bytes*c<=281474976710656) (h3:c<=140737488355328) (hz:replicate l z'=zs) (k:K l zs)
inductive Nz (xs ys:List AV) (kk len bytes:Nat) (K:List AV->Nat->Prop) (KP:List AV->Nat->Nat->Prop):Prop where
 | mkP (zs:List AV) (k' m:Nat) (hk:xs.length=kk) (hl:len<=kk) (hb:(xs.length+ys.length)*bytes<=140737488355328) (hz:G5 xs len ys=zs) (hk':zs.length=k') (hm:len+ys.length=m) (k:KP zs k' m)
 | mk (zs:List AV) (m:Nat) (hk:xs.length=kk) (hl:len=kk) (hb:(xs.length+ys.length)*bytes<=140737488355328) (hz:xs++ys=zs) (hm:kk+ys.length=m) (k:K zs m)
inductive Azo (ys:List AV) (K:Prop):Prop where
 | mk (hy:ys = []) (k:K)
inductive S9 (ys:List AV) (bytes:Nat) (K:List AV->Nat->Prop):Prop where
 | mk (zs:List AV) (m:Nat) (hb:ys.length*bytes<=140737488355328) (hz:ys=zs) (hm:ys.length=m) (k:K zs m)
inductive Azp (xs:List AV) (kk len k2 off2 len2 bytes:Nat) (K:List AV->Nat->Nat->Prop):Prop where
 | mk (zs:List AV) (k' m:Nat) (hk:xs.length=kk) (hl:len<=kk) (hk2:xs.length=k2) (hl2:off2+len2<=kk) (hb:(xs.length+len2)*bytes<=140737488355328) (hz:G5 xs len ((xs.drop off2).take len2)=zs) (hk':zs.length=k') (hm:len+len2=m) (k:K zs k' m)
inductive Azq (xs:List AV) (kk off len k2 off2 len2:Nat) (K:List AV->Nat->Prop):Prop where
 | mk (zs:List AV) (c:Nat) (hk:xs.length=kk) (hl:off+len<=kk) (hk2:xs.length=k2) (hl2:off2+len2<=kk) (hz:G5 xs off ((xs.drop off2).take (min len2 len))=zs) (hc:min len2 len=c) (k:K zs c)
inductive Azr (xs:List AV) (kk off len:Nat) (z:AV) (K:List AV->Prop):Prop where
 | mk (zs:List AV) (hk:xs.length=kk) (hl:off+len<=kk) (hz:G5 xs off (replicate len z)=zs) (k:K zs)
inductive An3 (a b:Nat) (K:Prop):Prop where
 | mk (h:a<=b) (k:K)
inductive An4 (xs:List AV) (n:Nat) (K:List AV->Prop):Prop where
 | mk (ys:List AV) (hy:xs.take n=ys) (k:K ys)
inductive Yn (xs:List AV) (q:Nat) (p:AV) (K:List AV->Prop):Prop where
 | mk (zs:List AV) (hz:xs.set q p=zs) (k:K zs)
inductive N0 (xs:List AV) (K:Int->Prop):Prop where
 | mk (c:Int) (hc:(xs.length:Int)=c) (k:K c)
inductive Mz (kk i:Nat) (xs:List AV) (K:AV->Prop):Prop where
 | mk (x:AV) (hk:xs.length=kk) (hx:xs[i]? = some x) (k:K x)
inductive H9 (kk:Nat) (xs:List AV) (K:Prop):Prop where
 | mk (hk:xs.length=kk) (k:K)
inductive Gc (P:Program) (n:Nat) (H:Hp) (f:FuncId) (args:List AV) (K:Eff->Nat->Prop):Prop where
 | mk (r:AV) (h:Ay P f args r) (hf:args.all AV.free=true) (k:K ⟨r,[],[]⟩ n)
 | act (l:List Nat) (largs:List AV) (hs:List Bn) (r:AV) (hs':List Bn) (h:Bv P f largs hs r hs') (ha:largs.map (ren (Ds n l))=args) (ok:Nx n l largs hs r hs'=true) (hh:Oy H (Fx (Ds n l) 0 hs))
   (k:K ⟨ren (Ds n l) r,Fx (Ds n l) 0 hs++Cm (Ds n l) l.length (hs'.length-l.length),Fx (Ds n l) 0 hs'⟩ (n+(hs'.length-l.length)))
 | rd (l:List Nat) (largs:List AV) (hs:List Bn) (r:AV) (h:Bv P f largs hs r hs) (ha:largs.map (ren (Ds n l))=args) (ok:Nx n l largs hs r hs=true) (hh:Oy H (Fx (Ds n l) 0 hs))
   (k:K ⟨ren (Ds n l) r,Fx (Ds n l) 0 hs,[]⟩ n)
inductive An5 (s:ByteArray) (es:List (AV×AV)) (K:Option (Nat×AV)->Prop):Prop where
 | mk (r:Option (Nat×AV)) (h:Kc s es 0=some r) (k:K r)
inductive Ac6 (op:BinOp) (k:FloatKind) (a b:Nat) (K:Nat->Prop):Prop where
 | mk (c:Nat) (h:floatBits op k a b=some c) (k:K c)
inductive Ac7 (k:FloatKind) (a:Nat) (q:IntKind) (K:Int->Prop):Prop where
 | mk (c:Int) (h:floatToIntVal k a q=some c) (k:K c)
inductive Azs (P:Program) (kt:TypeId) (us:List Value) (es:List (AV×AV)) (K:Option (Nat×AV)->Prop):Prop where
 | mk (r:Option (Nat×AV)) (hc:Acx P kt us) (h:Ow P kt us es 0 r) (k:K r)
inductive Azt (P:Program) (kt:TypeId) (ks:List AV) (us:List Value) (v:AV) (es:List (AV×AV)) (K:List (AV×AV)->Prop):Prop where
 | mk (es':List (AV×AV)) (hc:Acx P kt us) (h:Ow P kt us es 0 none) (he:es++[(.agg ks,v)]=es') (k:K es')
inductive An6 (s:ByteArray) (v:AV) (es:List (AV×AV)) (K:List (AV×AV)->Prop):Prop where
 | mk (es':List (AV×AV)) (h:Acv s v es=some es') (k:K es')
inductive Aio (P:Program) (t:TypeId) (us vs:List Value) (K:Bool->Prop):Prop where
 | mk (b:Bool) (h:Yk P t us vs b) (k:K b)
inductive Aip (P:Program) (t:TypeId) (f:Nat) (K:TypeId->Prop):Prop where
 | mk (ft:TypeId) (h:Aie P t f=some ft) (k:K ft)
inductive An7 (P:Program) (f:FuncId) (args:List AV) (K:AV->Prop):Prop where
 | mk (r:AV) (h:Ay P f args r) (hf:args.all AV.free=true) (k:K r)
inductive Ann where
 | frz (j:Nat)
 | std
 | own
 | ask
 | vec (m:Nat)
def M0:AV->Bool
 | .val (.slice none 0 0)=>true
 | _=>false
def Yo:AV->Bool
 | .val (.agg _)=>false
 | _=>true
def Aiq (x:AV) (K:AV->Prop):Prop := match x with
 | .val v=>K (.val v)
 | .loc h off=>K (.loc h off)
 | .arr h k off len=>K (.arr h k off len)
 | .el h k i j=>K (.el h k i j)
 | .mp h=>K (.mp h)
 | .vec h n=>K (.vec h n)
 | .ref cs=>K (.ref cs)
 | .sl sz xs=>K (.sl sz xs)
 | .agg cs=>K (.agg cs)
 | .tup cs=>K (.tup cs)
 | .fn f cs=>K (.fn f cs)
 | .fb s=>K (.fb s)
def Ra:List AV->(List AV->Prop)->Prop
 | [],K=>K []
 | x::xs,K=>Aiq x λx=>Ra xs λxs=>K (x::xs)
def Mg (x:AV) (K:AV->Prop):Prop := match x with
 | .agg cs=>Ra cs λcs=>K (.agg cs)
 | .tup cs=>Ra cs λcs=>K (.tup cs)
 | .fn f cs=>Ra cs λcs=>K (.fn f cs)
 | x=>Aiq x K
def Vv:List AV->(List AV->Prop)->Prop
 | [],K=>K []
 | x::xs,K=>Mg x λx=>Vv xs λxs=>K (x::xs)
def Air (o:Bn) (K:Bn->Prop):Prop := match o with
 | .cells E cs=>Ra cs λcs=>K (.cells E cs)
 | .rows E sz xs=>K (.rows E sz xs)
 | .map es=>K (.map es)
 | .none=>K .none
 | .dead=>K .dead
def Oz:List (Nat×Bn)->(List (Nat×Bn)->Prop)->Prop
 | [],K=>K []
 | p::l,K=>Air p.2 λo=>Oz l λl=>K ((p.1,o)::l)
def Kd:List (Nat×Bn)->(List Nat->Prop)->Prop
 | [],K=>K []
 | p::l,K=>Kd l λl=>K (p.1::l)
theorem An8 (x:AV) (K:AV->Prop):Aiq x K=K x:=by cases x <;> rfl
theorem Ac8:∀(l:List AV) (K:List AV->Prop),Ra l K=K l
 | [],_=>rfl
 | x::xs,K=>by simp only[Ra,An8,Ac8 xs]
theorem Vx (x:AV) (K:AV->Prop):Mg x K=K x:=by cases x <;> simp only[Mg,Ac8,An8]
theorem Ac9:∀(l:List AV) (K:List AV->Prop),Vv l K=K l
 | [],_=>rfl
 | x::xs,K=>by simp only[Vv,Vx,Ac9 xs]
theorem Azu (o:Bn) (K:Bn->Prop):Air o K=K o:=by cases o <;> simp only[Air,Ac8]
theorem Ais:∀(l:List (Nat×Bn)) (K:List (Nat×Bn)->Prop),Oz l K=K l
 | [],_=>rfl
 | p::l,K=>by simp only[Oz,Azu,Ais l]
theorem Ait:∀(l:List (Nat×Bn)) (K:List Nat->Prop),Kd l K=K (l.map (·.1))
 | [],_=>rfl
 | p::l,K=>by simp only[Kd,Ait l,map_cons]
def Ff (P:Program) (T:C9) (an:Nat->Ann) (n:Nat) (o:Oper) (ρ:Operand->AV) (H:Hp) (K:Eff->Nat->Prop):Prop :=
 match o.op with
 | .move x=>K ⟨ρ x,[],[]⟩ n
 | .assign x=>
  match o.dst with
  | none=>K ⟨ρ x,[],[]⟩ n
  | some d=>
   match an d with
   | .frz _=>K ⟨ρ x,[],[]⟩ n
   | .std=>K ⟨ρ x,[],[]⟩ n
   | .ask=>K ⟨ρ x,[],[]⟩ n
   | .vec _=>K ⟨ρ x,[],[]⟩ n
   | .own=>bif M0 (ρ x) then
     match T o.type with
     | some ⟨.slice e,_,_,_⟩=>
      match T e with
      | some g=>bif Nat.blt 0 g.size then K ⟨.arr n 0 0 0,[(n,.none)],[(n,.rows e g.size [])]⟩ (n+1) else False
      | none=>False
     | _=>False
    else K ⟨ρ x,[],[]⟩ n
 | .pick c a b=>
  match ρ c with
  | .val (.bool t)=>K ⟨bif t then ρ a else ρ b,[],[]⟩ n
  | _=>False
 | .alloc t=>
  match T t with
  | some i=>K ⟨.loc n 0,[(n,.none)],[(n,.cells t (i.zero.map .val))]⟩ (n+1)
  | none=>False
 | .box t x=>K ⟨.loc n 0,[(n,.none)],[(n,.cells t (ρ x).cells)]⟩ (n+1)
 | .build t parts=>
  match T t with
  | some ⟨.struct fs,_,_,z⟩=>
   match Vm fs (z.map .val) (parts.toList.map λp=>(p.1,ρ p.2)) with
   | some cs=>K ⟨.agg cs,[],[]⟩ n
   | none=>False
  | _=>False
 | .buildSlice t len parts=>
  match T t with
  | some ⟨.slice e,_,_,_⟩=>
   match T e with
   | some g=>
    bif Nat.blt 0 g.size&&(parts.toList.map (·.1)==range' 0 len)&&Nat.ble (len*g.size) 16777216&&parts.toList.all (λp=>Md g.size (ρ p.2)) then
     match an (o.dst.getD 0) with
     | .frz _=>False
     | .vec _=>False
     | .std=>Vv (parts.toList.map λp=>ρ p.2) λxs=>K ⟨.sl g.size xs,[],[]⟩ n
     | .ask=>Vv (parts.toList.map λp=>ρ p.2) λxs=>K ⟨.sl g.size xs,[],[]⟩ n
     | .own=>Vv (parts.toList.map λp=>ρ p.2) λxs=>K ⟨.arr n len 0 len,[(n,.none)],[(n,.rows e g.size xs)]⟩ (n+1)
    else False
   | none=>False
  | _=>False
 | .load t x=>
  match T t with
  | some i=>
   match ρ x with
   | .ref cs=>bif i.isAgg then (bif Nat.ble i.size cs.length then K ⟨.agg (cs.take i.size),[],[]⟩ n else False) else
     match cs with
     | c::_=>K ⟨c,[],[]⟩ n
     | []=>False
   | .loc h off=>
    match H h with
    | .cells E cs=>bif i.isAgg then (bif Nat.ble (off+i.size) cs.length then K ⟨.agg ((cs.drop off).take i.size),[(h,.cells E cs)],[]⟩ n else False) else
      match cs[off]? with
      | some c=>K ⟨c,[(h,.cells E cs)],[]⟩ n
      | none=>False
    | _=>False
   | .el h k q j=>
    match H h with
    | .rows E sz xs=>Mz k q xs λy=>bif i.isAgg then (bif Nat.ble (j+i.size) y.cells.length then K ⟨.agg ((y.cells.drop j).take i.size),[(h,.rows E sz xs)],[]⟩ n else False) else
      match y.cells[j]? with
      | some c=>K ⟨c,[(h,.rows E sz xs)],[]⟩ n
      | none=>False
    | _=>False
   | _=>False
  | none=>False
 | .store t x y=>
  match T t with
  | some i=>
   match ρ x with
   | .loc h off=>
    match H h with
    | .cells E cs=>bif Nat.beq (ρ y).cells.length i.size&&Nat.ble (off+i.size) cs.length&&(ρ y).cells.all AV.one then K ⟨.val undef,[(h,.cells E cs)],[(h,.cells E (Nu cs off (ρ y).cells))]⟩ n else False
    | _=>False
   | .el h k q j=>
    match H h with
    | .rows E sz xs=>Mz k q xs λz=>bif Nat.beq (ρ y).cells.length i.size&&Nat.blt 0 i.size&&Nat.ble (j+i.size) z.cells.length&&(ρ y).cells.all AV.cl1&&Yo z then
      Ra (ρ y).cells λys=>Mg (Yj z j ys) λp=>Yn xs q p λu=>K ⟨.val undef,[(h,.rows E sz xs)],[(h,.rows E sz u)]⟩ n else False
    | _=>False
   | _=>False
  | none=>False
 | .nilCheck x=>bif (ρ x).isPtr then K ⟨ρ x,[],[]⟩ n else False
 | .binOp op t x y _=>
  match ρ x,ρ y with
  | .val (.int k a),.val (.int I b)=>
   match op with
   | .shl=>Aim k a b λc=>K ⟨.val (.int k c),[],[]⟩ n
   | .shr=>Ac2 k a b λc=>K ⟨.val (.int k c),[],[]⟩ n
   | op=>bif decide (k=I) then
     match op with
     | .add=>Jb k (a+b) λc=>K ⟨.val (.int k c),[],[]⟩ n
     | .sub=>Jb k (a-b) λc=>K ⟨.val (.int k c),[],[]⟩ n
     | .mul=>Jb k (a*b) λc=>K ⟨.val (.int k c),[],[]⟩ n
     | .quo=>Ac0 k a b λc=>K ⟨.val (.int k c),[],[]⟩ n
     | .rem=>Ac1 a b λc=>K ⟨.val (.int k c),[],[]⟩ n
     | op=>
      match Ahu op a b with
      | some t=>K ⟨.val (.bool t),[],[]⟩ n
      | none=>
       match Ah1 op k a b with
       | some c=>K ⟨.val (.int k c),[],[]⟩ n
       | none=>False
    else False
  | .val (.bool a),.val (.bool b)=>
   match T t with
   | some ⟨.bool,_,_,_⟩=>
    match Ah2 op a b with
    | some t=>K ⟨.val (.bool t),[],[]⟩ n
    | none=>False
   | _=>False
  | .agg xs,.agg ys=>
   match Jk xs with
   | some M=>
    match Jk ys with
    | some vs=>
     match op with
     | .eql=>Aio P t M vs λb=>K ⟨.val (.bool b),[],[]⟩ n
     | .neq=>Aio P t M vs λb=>K ⟨.val (.bool !b),[],[]⟩ n
     | _=>False
    | none=>False
   | none=>False
  | .val (.float k a),.val (.float I b)=>bif decide (k=I) then Ac6 op k a b λc=>K ⟨.val (.float k c),[],[]⟩ n else False
  | .val (.string a),.val (.string b)=>
   match op with
   | .add=>Ac5 (a.size+b.size) (K ⟨.val (.string (a++b)),[],[]⟩ n)
   | op=>
    match Ah3 op a b with
    | some t=>K ⟨.val (.bool t),[],[]⟩ n
    | none=>False
  | .val (.slice p _ _),.val (.slice none _ _)=>
   match op with
   | .eql=>
    match T t with
    | some ⟨.slice _,_,_,_⟩=>K ⟨.val (.bool p.isNone),[],[]⟩ n
    | _=>False
   | _=>False
  | _,_=>False
 | .unOp op _ x=>
  match op,ρ x with
  | .not,.val (.bool b)=>K ⟨.val (.bool !b),[],[]⟩ n
  | .neg,.val (.int k m)=>Jb k (0-m) λc=>K ⟨.val (.int k c),[],[]⟩ n
  | _,_=>False
 | .convert s d x=>
  match T s,T d,ρ x with
  | some _,some ⟨.int k,_,_,_⟩,.val (.int _ m)=>Jb k m λc=>K ⟨.val (.int k c),[],[]⟩ n
  | some _,some ⟨.float k,_,_,_⟩,.val (.int _ m)=>K ⟨.val (.float k (floatOfInt k m)),[],[]⟩ n
  | some _,some ⟨.int k,_,_,_⟩,.val (.float q m)=>Ac7 q m k λc=>K ⟨.val (.int k c),[],[]⟩ n
  | some ⟨.slice e,_,_,_⟩,some ⟨.string,_,_,_⟩,.sl sz xs=>
   match T e with
   | some ⟨.int .u8,_,_,_⟩=>bif Nat.beq sz 1 then Ain xs λs=>K ⟨.val (.string s),[],[]⟩ n else False
   | _=>False
  | _,_,_=>False
 | .makeFunc (.func f) first A=>bif first.isEmpty then K ⟨.fn f (A.toList.map ρ),[],[]⟩ n else False
 | .makeSlice t x y=>
  match T t with
  | some ⟨.slice e,_,_,_⟩=>
   match T e with
   | some g=>
    match ρ x,ρ y with
    | .val (.int _ l),.val (.int _ c)=>
     match an (o.dst.getD 0) with
     | .vec m=>
      match g.zero with
      | [v]=>
       bif Nat.beq g.size 1&&Nat.ble m 16&&Nat.ble (g.bytes*m) 281474976710656&&decide (l=(m:Int))&&decide (c=(m:Int)) then
        K ⟨.vec n m,[(n,.none)],[(n,.cells e (replicate m (.val v)))]⟩ (n+1)
       else False
      | _=>False
     | _=>
     bif Nat.blt 0 g.size&&Md g.size (Gb g)&&Nat.beq (Gb g).cells.length g.zero.length&&Yo (Gb g) then
      Vu l c g.bytes (Gb g) λl u=>K ⟨.arr n l 0 l,[(n,.none)],[(n,.rows e g.size u)]⟩ (n+1)
     else False
    | _,_=>False
   | none=>False
  | _=>False
 | .slice t x lo hi none=>
  match T t with
  | some ⟨.slice e,_,_,_⟩=>
   match T e with
   | some g=>
    match ρ x with
    | .sl sz xs=>
     match Ja ρ 0 lo,Ja ρ xs.length hi with
     | some l,some h=>bif Nat.beq sz g.size then Ny xs l h λys=>K ⟨.sl sz ys,[],[]⟩ n else False
     | _,_=>False
    | .arr hd k off len=>
     match H hd with
     | .rows E sz xs=>
      match Ja ρ 0 lo,Ja ρ len hi with
      | some l,some h=>bif Nat.beq sz g.size then An2 k xs len l h (λl h=>K ⟨.arr hd k (off+l) (h-l),[(hd,.rows E sz xs)],[]⟩ n) (K ⟨.sl g.size [],[(hd,.rows E sz xs)],[]⟩ n) else False
      | _,_=>False
     | _=>False
    | _=>False
   | none=>False
  | some ⟨.string,_,_,_⟩=>
   match ρ x with
   | .val (.string s)=>
    match Ja ρ 0 lo,Ja ρ s.size hi with
    | some l,some h=>Ac3 s.size l h λl h=>K ⟨.val (.string (s.extract l h)),[],[]⟩ n
    | _,_=>False
   | _=>False
  | _=>False
 | .fieldAddr s x f=>
  match T s with
  | some ⟨.struct fs,_,_,_⟩=>
   match fs[f]? with
   | some q=>
    match ρ x with
    | .loc h off=>K ⟨.loc h (off+q.1),[],[]⟩ n
    | .ref cs=>K ⟨.ref (cs.drop q.1),[],[]⟩ n
    | .el h k m j=>
     match H h with
     | .rows E sz xs=>H9 k xs (K ⟨.el h k m (j+q.1),[(h,.rows E sz xs)],[]⟩ n)
     | _=>False
    | _=>False
   | none=>False
  | _=>False
 | .indexAddr t x y=>
  match T t with
  | some ⟨.slice e,_,_,_⟩=>
   match T e with
   | some g=>
    match ρ x,ρ y with
    | .vec h m,.val (.int _ i)=>bif Nat.beq g.size 1 then Pu m i λq=>K ⟨.loc h q,[],[]⟩ n else False
    | .sl sz xs,.val (.int _ i)=>bif Nat.beq sz g.size then Vt xs i λ_ z=>K ⟨.ref z.cells,[],[]⟩ n else False
    | .arr h k off len,.val (.int _ i)=>
     match H h with
     | .rows E sz xs=>bif Nat.beq sz g.size then S8 len k xs i λm=>K ⟨.el h k (off+m) 0,[(h,.rows E sz xs)],[]⟩ n else False
     | _=>False
    | _,_=>False
   | none=>False
  | _=>False
 | .index t x y=>
  match T t with
  | some ⟨.string,_,_,_⟩=>
   match ρ x,ρ y with
   | .val (.string s),.val (.int _ i)=>Ac4 s i λc=>K ⟨.val (.int .u8 c.toNat),[],[]⟩ n
   | _,_=>False
  | _=>False
 | .field s x f=>
  match T s with
  | some ⟨.struct fs,_,_,_⟩=>
   match fs[f]? with
   | some q=>
    match ρ x with
    | .agg cs=>Aip P s f λY=>
     match T Y with
     | some J=>bif J.isAgg then (bif Nat.ble (q.1+J.size) cs.length then K ⟨.agg ((cs.drop q.1).take J.size),[],[]⟩ n else False) else
       match cs[q.1]? with
       | some c=>K ⟨c,[],[]⟩ n
       | none=>False
     | none=>False
    | _=>False
   | none=>False
  | _=>False
 | .makeMap _ none=>K ⟨.mp n,[(n,.none)],[(n,.map [])]⟩ (n+1)
 | .lookup t x y ok=>
  match T t with
  | some ⟨.map N X,_,_,_⟩=>
   match T N with
   | some ⟨.string,_,_,_⟩=>
    match T X with
    | some J=>
     match ρ x with
     | .mp h=>
      match ρ y with
      | .val (.string s)=>
       match H h with
       | .map es=>An5 s es λr=>K ⟨Vq ok J r,[(h,.map es)],[]⟩ n
       | _=>False
      | _=>False
     | _=>False
    | none=>False
   | some ⟨.struct _,_,_,_⟩=>
    match T X with
    | some J=>
     match ρ x with
     | .mp h=>
      match ρ y with
      | .agg R=>
       match Jk R with
       | some M=>
        match H h with
        | .map es=>Azs P N M es λr=>K ⟨Vq ok J r,[(h,.map es)],[]⟩ n
        | _=>False
       | none=>False
      | _=>False
     | _=>False
    | none=>False
   | _=>False
  | _=>False
 | .mapUpdate t x y z=>
  match T t with
  | some ⟨.map N _,_,_,_⟩=>
   match T N with
   | some ⟨.string,_,_,_⟩=>
    match ρ x with
    | .mp h=>
     match ρ y with
     | .val (.string s)=>
      match H h with
      | .map es=>bif (ρ z).free1 then Mg (ρ z) λv=>An6 s v es λL=>K ⟨.val undef,[(h,.map es)],[(h,.map L)]⟩ n else False
      | _=>False
     | _=>False
    | _=>False
   | some ⟨.struct _,_,_,_⟩=>
    match ρ x with
    | .mp h=>
     match ρ y with
     | .agg R=>
      match Jk R with
      | some M=>
       match H h with
       | .map es=>bif (ρ z).free1 then Mg (ρ z) λv=>Azt P N R M v es λL=>K ⟨.val undef,[(h,.map es)],[(h,.map L)]⟩ n else False
       | _=>False
      | none=>False
     | _=>False
    | _=>False
   | _=>False
  | _=>False
 | .extract x i=>
  match ρ x with
  | .tup cs=>
   match cs[i]? with
   | some c=>K ⟨c,[],[]⟩ n
   | none=>False
  | _=>False
 | .call c=>
  match c.callee with
  | .value x=>
   match ρ x with
   | .fn f A=>
    match an (o.dst.getD 0) with
    | .frz j=>
     (match (c.args.toList.map ρ ++ A)[j]? with
     | some (.arr h k 0 len)=>
      (match H h with
      | .rows E sz xs=>H9 k xs (H9 len xs (An7 P f ((c.args.toList.map ρ ++ A).set j (.sl sz xs)) λr=>K ⟨r,[(h,.rows E sz xs)],[(h,.dead)]⟩ n))
      | _=>False)
     | _=>False)
    | _=>Gc P n H f (c.args.toList.map ρ ++ A) K
   | _=>False
  | .invoke _ _=>False
  | .builtin .len=>
   match c.args.toList,c.argTypes.toList with
   | [x],[t]=>
    match T t with
    | some ⟨.slice _,_,_,_⟩=>
     match ρ x with
     | .sl _ xs=>
      match an (o.dst.getD 0) with
      | .ask=>N0 xs λc=>K ⟨.val (.int .i64 c),[],[]⟩ n
      | _=>K ⟨.val (.int .i64 xs.length),[],[]⟩ n
     | .val (.slice _ m _)=>K ⟨.val (.int .i64 m),[],[]⟩ n
     | .vec _ m=>K ⟨.val (.int .i64 m),[],[]⟩ n
     | .arr h k _ len=>
      match H h with
      | .rows E sz xs=>H9 k xs (K ⟨.val (.int .i64 len),[(h,.rows E sz xs)],[]⟩ n)
      | _=>False
     | _=>False
    | some ⟨.string,_,_,_⟩=>
     match ρ x with
     | .val (.string s)=>K ⟨.val (.int .i64 s.size),[],[]⟩ n
     | _=>False
    | _=>False
   | _,_=>False
  | .builtin .cap=>
   match c.args.toList,c.argTypes.toList with
   | [x],[t]=>
    match T t with
    | some ⟨.slice _,_,_,_⟩=>
     match ρ x with
     | .val (.slice _ _ m)=>K ⟨.val (.int .i64 m),[],[]⟩ n
     | _=>False
    | _=>False
   | _,_=>False
  | .builtin .copy=>
   match c.args.toList,c.argTypes.toList with
   | [x,y],[t,t']=>
    match T t with
    | some ⟨.slice e,_,_,_⟩=>
     match T e with
     | some g=>
      match ρ y with
      | .arr h2 S D G=>
       match ρ x with
       | .arr h k off len=>
        match H h with
        | .rows E sz xs=>bif Nat.beq E e&&Nat.beq sz g.size&&Nat.beq h h2&&Nat.blt 0 g.size then
          Azq xs k off len S D G (λu c=>K ⟨.val (.int .i64 c),[(h,.rows e g.size xs)],[(h,.rows e g.size u)]⟩ n) else False
        | _=>False
       | .sl _ []=>
        match H h2 with
        | .rows E sz xs=>bif Nat.beq sz g.size then H9 S xs (K ⟨.val (.int .i64 0),[(h2,.rows E g.size xs)],[]⟩ n) else False
        | _=>False
       | _=>False
      | _=>False
     | none=>False
    | _=>False
   | _,_=>False
  | .builtin .clear=>
   match c.args.toList,c.argTypes.toList with
   | [x],[t]=>
    match T t with
    | some ⟨.slice e,_,_,_⟩=>
     match T e with
     | some g=>
      match ρ x with
      | .arr h k off len=>
       match H h with
       | .rows E sz xs=>bif Nat.beq E e&&Nat.beq sz g.size&&Nat.blt 0 g.size&&Md g.size (Gb g)&&Nat.beq (Gb g).cells.length g.zero.length&&Yo (Gb g) then
         Azr xs k off len (Gb g) (λu=>K ⟨.tup [],[(h,.rows e g.size xs)],[(h,.rows e g.size u)]⟩ n) else False
       | _=>False
      | .sl _ []=>K ⟨.tup [],[],[]⟩ n
      | _=>False
     | none=>False
    | _=>False
   | _,_=>False
  | .builtin .append=>
   match c.args.toList,c.argTypes.toList with
   | [x,y],[t,t']=>
    match T t,T t' with
    | some ⟨.slice e,_,_,_⟩,some ⟨.slice _,_,_,_⟩=>
     match T e with
     | some g=>
      bif Nat.blt 0 g.size&&Nat.beq g.zero.length g.size&&Nat.ble 1 g.bytes then
       match ρ y with
       | .sl sz ys=>
        bif Nat.beq sz g.size then
         match ρ x with
         | .arr h k 0 len=>
          match H h with
          | .rows E B xs=>bif Nat.beq E e&&Nat.beq B g.size then
            match an (o.dst.getD 0) with
            | .frz _=>Nz xs ys k len g.bytes (λu _=>K ⟨.sl g.size u,[(h,.rows e g.size xs)],[(h,.dead)]⟩ n) (λ_ _ _=>False)
            | _=>Nz xs ys k len g.bytes (λu m=>K ⟨.arr h m 0 m,[(h,.rows e g.size xs)],[(h,.rows e g.size u)]⟩ n) (λu I m=>K ⟨.arr h I 0 m,[(h,.rows e g.size xs)],[(h,.rows e g.size u)]⟩ n) else False
          | _=>False
         | .val (.slice none 0 0)=>S9 ys g.bytes λu m=>K ⟨.arr n m 0 m,[(n,.none)],[(n,.rows e g.size u)]⟩ (n+1)
         | .sl V U=>Azo ys (K ⟨.sl V U,[],[]⟩ n)
         | _=>False
        else False
       | .arr h2 S D G=>
        match ρ x with
        | .arr h k 0 len=>
         match H h with
         | .rows E B xs=>bif Nat.beq E e&&Nat.beq B g.size&&Nat.beq h h2 then
           Azp xs k len S D G g.bytes (λu I m=>K ⟨.arr h I 0 m,[(h,.rows e g.size xs)],[(h,.rows e g.size u)]⟩ n) else False
         | _=>False
        | _=>False
       | _=>False
      else False
     | none=>False
    | some ⟨.slice e,_,_,_⟩,some ⟨.string,_,_,_⟩=>
     match T e with
     | some g=>
      bif Nat.beq g.size 1&&Nat.beq g.zero.length g.size&&Nat.ble 1 g.bytes then
       match ρ y with
       | .val (.string s)=>
        match ρ x with
        | .arr h k 0 len=>
         match H h with
         | .rows E B xs=>bif Nat.beq E e&&Nat.beq B g.size then
           Nz xs (Kb s) k len g.bytes (λu m=>K ⟨.arr h m 0 m,[(h,.rows e g.size xs)],[(h,.rows e g.size u)]⟩ n) (λ_ _ _=>False) else False
         | _=>False
        | _=>False
       | _=>False
      else False
     | none=>False
    | _,_=>False
   | _,_=>False
  | .builtin .max=>
   match c.args.toList,c.argTypes.toList with
   | [x,y],[_,_]=>
    match ρ x,ρ y with
    | .val (.int k a),.val (.int _ b)=>K ⟨.val (.int k (if b>a then b else a)),[],[]⟩ n
    | _,_=>False
   | _,_=>False
  | .builtin .min=>
   match c.args.toList,c.argTypes.toList with
   | [x,y],[_,_]=>
    match ρ x,ρ y with
    | .val (.int k a),.val (.int _ b)=>K ⟨.val (.int k (if b<a then b else a)),[],[]⟩ n
    | _,_=>False
   | _,_=>False
  | _=>False
 | _=>False
section
variable {P:Program} {o:Oper} {ρ:Operand->AV} {a:Act} {w w':World} {next:Act->World->Prop} {Q:Exit->Act->World->Prop}
variable {F σ:A5} {r:AV} {ι:Cd} {H:Hp} {b g:List AV} {x:Operand} {v:Value} {W:World}
def Vy (σ:A5) (w:World):A5:=λb=>match σ b with|none=>w.heap[b]? | some _=>none
theorem St.lend (s:St σ ι H F W w):St σ ι0 H0 (Vy σ w) W w:=by refine⟨s.sto,λb o hb=>?_,λh=>rfl,(λh h' b c=>by cases c),s.os,s.tape,s.output,s.glo,s.drw⟩;unfold Vy at hb;cases e:σ b with| none=>rw[e]at hb;exact⟨hb,rfl⟩| some _=>rw[e]at hb;cases hb
theorem St.unlend {k:A5} (s:St σ ι H F W w) (g:σ.le k) (s':St k ι0 H0 (Vy σ w) W w'):St k ι H F W w':=by
 have key:∀b,σ b=none->∀o,w.heap[b]? = some o->w'.heap[b]? = some o/\k b=none:=by intro b hb o f;exact s'.fra b o (by unfold Vy;rw[hb];exact f)
 have le:Le σ ι H k ι H:=⟨g,λ_=>HLe.refl _ _⟩;refine⟨s'.sto,λb o hb=>?_,λh=>?_,s.inj,s'.os,s'.tape,s'.output,s'.glo,s'.drw⟩
 .obtain⟨h1,h2⟩:=s.fra b o hb;exact key b h2 o h1
 .have f:=s.obj h;unfold C2 at f ⊢;cases A:H h with
  | none=>rw[A]at f;exact f
  | dead=>trivial
  | cells E cs=>rw[A]at f;obtain⟨b,C,j,h1,h2,h3,z,D⟩:=f;obtain⟨u,l⟩:=key b h1 _ h3;exact⟨b,C,j,l,h2,u,z,λi c v x y=>(D i c v x y).mono le⟩
  | rows E sz xs=>
   rw[A]at f;obtain⟨G,z2,⟨j,J⟩|⟨b,B,C,j,h1,h2,h3,z,D,I⟩⟩:=f
   .exact⟨G,z2,.inl ⟨j,J⟩⟩
   .obtain⟨u,l⟩:=key b h1 _ h3;exact⟨G,z2,.inr ⟨b,B,C,j,l,h2,u,z,D,I.mono g⟩⟩
  | map es=>rw[A]at f;obtain⟨b,M,q,j,h1,h2,h3,z⟩:=f;obtain⟨u,l⟩:=key b h1 _ h3;exact⟨b,M,q,j,l,h2,u,z.mono g⟩
theorem Conc.of0 {x:AV} (h:Conc σ ι0 H0 x v):Conc σ ι H x v:=by induction h with| cc h=>exact .cc h| loc h off b hb=>cases hb| mp h b hb=>cases hb| vec h n b hb=>cases hb| arr h k off len v s y c=>exact (s rfl).elim| el h k i j v s y c=>exact (s rfl).elim| ref cs b off C E fr g u hc h1 z=>exact .ref cs b off C E fr g u hc h1 z| agg cs vs l _ ih=>exact .agg cs vs l ih| tup cs vs l _ ih=>exact .tup cs vs l ih| fn f q vs l _ ih=>exact .fn f q vs l ih
theorem Azv {x:AV} (h:x.free1=true) (hx:∀cs,x≠.agg cs):x.cl1=true:=by cases x <;> first|exact h|exact (hx _ rfl).elim
theorem Conc.to0 {x:AV} (hx:x.free=true) (h:Conc σ ι H x v):Conc σ ι0 H0 x v:=by
 have key:∀(cs:List AV),cs.all AV.cl1=true->∀(i:Nat) (c:AV) (u:Value),cs[i]? = some c->Conc σ ι H c u->Conc σ ι0 H0 c u:=by intro cs s i c u hc h;exact .cc (h.cc_of (Ej.1 s c (Fw hc))).1
 cases h with
 | cc h=>exact .cc h
 | loc=>cases hx
 | mp=>cases hx
 | vec=>cases hx
 | arr=>cases hx
 | el=>cases hx
 | ref cs b off C E fr g z hc h1 B=>exact .ref cs b off C E fr g z hc h1 B
 | agg cs vs l h=>exact .agg cs vs l λi c u h1 h2=>key cs hx i c u h1 (h i c u h1 h2)
 | tup cs vs l h=>refine .tup cs vs l λi c u h1 h2=>?_;have hf:=Ej.1 hx c (Fw h1);have hc:=h i c u h1 h2;cases c with| agg ds=>obtain⟨y,rfl,q,A⟩:=hc.agg_inv;exact .agg ds y q λj d v g1 g2=>key ds hf j d v g1 (A j d v g1 g2)| _=>exact .cc (hc.cc_of (Azv hf (by intro cs e;cases e))).1
 | fn f k vs l h=>exact .fn f k vs l λi c u h1 h2=>key k hx i c u h1 (h i c u h1 h2)
theorem Conc.fn_inv {f:FuncId} (h:Conc σ ι H (.fn f b) v) : ∃vs:Array Value,v = .func (.func f) #[] vs/\vs.size=b.length/\∀(i:Nat) (c:AV) (u:Value),b[i]? = some c->vs[i]? = some u->Conc σ ι H c u:=by cases h with| cc h=>cases h| fn _ _ vs g h=>exact⟨vs,rfl,g,h⟩
theorem Aiu {xs:Array Operand} {vs:Array Value} (hx:∀x∈xs.toList,Conc σ ι H (ρ x) (a.eval x)) (h:vs.size=b.length) (g:∀(i:Nat) (c:AV) (u:Value),b[i]? = some c->vs[i]? = some u->Conc σ ι H c u):Nw σ ι H (xs.toList.map ρ ++ b) (xs.map a.eval++vs):=by
 refine⟨by simp[h],λi c u h1 h2=>?_⟩;by_cases f:i<xs.size
 .rw[getElem?_append_left (by simpa using f),getElem?_map,Ha]at h1;rw[Array.getElem?_append_left (by simpa using f),Array.getElem?_map]at h2;simp[f]at h1 h2;subst h1;subst h2;exact hx _ ψ
 .rw[getElem?_append_right ζ]at h1;rw[Array.getElem?_append_right ζ]at h2;simp at h1 h2;exact g _ c u h1 h2
theorem Azw {c:Call} {f:FuncId} (G:o.op = .call c) (h:c.callee = .value x) (hx:ρ x = .fn f g) (hp:Ay P f (c.args.toList.map ρ ++ g) r) (l:(c.args.toList.map ρ ++ g).all AV.free=true):Cl P o ρ ⟨r,[],[]⟩:=by
 intro σ ι H F W w a next Q s B _ hk
 obtain⟨⟨fn,hf,k,q⟩,hp⟩:=hp;have z:=B x (by simp[G,Op.operands,Call.operands,h]);rw[hx]at z;obtain⟨vs,L,M,E⟩:=z.fn_inv;have j:Nw σ ι H (c.args.toList.map ρ ++ g) (c.args.map a.eval++vs) :=
  Aiu (λy hy=>B y (by simp only[G,Op.operands,Call.operands,h];simp at hy ⊢;exact .inr hy)) M E
 have A:(execOp a.eval o).run P w = .ok (.enter f (c.args.map a.eval++vs)) w:=by have I:(callFunc f (c.args.map a.eval++vs)).run P w = .ok (.enter f (c.args.map a.eval++vs)) w:=(by unfold callFunc;simp only[Sem.run_bind,program,Sem.run,Result.andThen_ok,hf,k,q,Bool.false_eq_true,if_false,Sem.run_pure]);simp only[execOp,G,resolve,h,L,Deferred.ofValue,invoke,Sem.run_bind,Sem.run_pure,Result.andThen_ok,Array.empty_append,I]
 unfold Oper.wp;rw[A];simp only[Oper.upon];refine (hp σ (Vy σ w) W w (c.args.map a.eval++vs) s.lend ⟨j.1,λi b u h1 h2=>(j.2 i b u h1 h2).to0 (Ej.1 l b (Fw h1))⟩).mono ?_;rintro e w' ⟨v,J,rfl,D,s',hc⟩;exact hk J ι v w' ⟨D,λ_=>HLe.refl _ _⟩ (s.unlend D s') hc.of0
theorem Azx {c:Call} {f:FuncId} {j h sz:Nat} {E:TypeId} {xs:List AV} (S:o.op = .call c) (k:c.callee = .value x) (hx:ρ x = .fn f g) (hj:(c.args.toList.map ρ ++ g)[j]? = some (.arr h xs.length 0 xs.length)) (hp:Ay P f ((c.args.toList.map ρ ++ g).set j (.sl sz xs)) r) (A:((c.args.toList.map ρ ++ g).set j (.sl sz xs)).all AV.free=true):Cl P o ρ ⟨r,[(h,.rows E sz xs)],[(h,.dead)]⟩:=by
 intro σ ι H F W w a next Q s J R hk
 have Z:H h = .rows E sz xs:=R (h,.rows E sz xs) ψ;obtain⟨⟨fn,hf,z,B⟩,hp⟩:=hp;have G:=J x (by simp[S,Op.operands,Call.operands,k]);rw[hx]at G;obtain⟨vs,hv,hl,M⟩:=G.fn_inv;have q:Nw σ ι H (c.args.toList.map ρ ++ g) (c.args.map a.eval++vs) :=
  Aiu (λy hy=>J y (by simp only[S,Op.operands,Call.operands,k];simp at hy ⊢;exact .inr hy)) hl M
 obtain⟨N,D,Y,V⟩:=s.freeze Z;have l:Nw N ι (Ba H h .dead) ((c.args.toList.map ρ ++ g).set j (.sl sz xs)) (c.args.map a.eval++vs):=by
  refine⟨by rw[length_set];exact q.1,λi b u h1 h2=>?_⟩;rw[getElem?_set]at h1;split at h1
  .rename_i U;split at h1
   .cases h1;subst U;have hc:=q.2 j _ u hj h2;have:=V 0 xs.length _ ω (hc.arr_inv Z rfl);rw[drop_zero,take_of_length_le ω]at this;exact .cc this
   .cases h1
  .exact (q.2 i b u h1 h2).mono D
 have I:(execOp a.eval o).run P w = .ok (.enter f (c.args.map a.eval++vs)) w:=by have X:(callFunc f (c.args.map a.eval++vs)).run P w = .ok (.enter f (c.args.map a.eval++vs)) w:=(by unfold callFunc;simp only[Sem.run_bind,program,Sem.run,Result.andThen_ok,hf,z,B,Bool.false_eq_true,if_false,Sem.run_pure]);simp only[execOp,S,resolve,k,hv,Deferred.ofValue,invoke,Sem.run_bind,Sem.run_pure,Result.andThen_ok,Array.empty_append,X]
 unfold Oper.wp;rw[I];simp only[Oper.upon];refine (hp N (Vy N w) W w (c.args.map a.eval++vs) Y.lend ⟨l.1,λi b u h1 h2=>(l.2 i b u h1 h2).to0 (Ej.1 A b (Fw h1))⟩).mono ?_;rintro e w' ⟨v,σ',rfl,L,s',hc⟩;exact hk σ' ι v w' (D.trans ⟨L,λ_=>HLe.refl _ _⟩) (Y.unlend L s') hc.of0
end
variable {o:Bn} {es:Nat->Nat}
theorem H4 {a b:Nat} (h:Nat.blt a b=true):a<b:=Gy h
theorem Aiv:J0 es o = .none↔o = .none:=by cases o <;> simp[J0]
theorem Ada:(J0 es o).live=o.live:=by cases o <;> rfl
theorem Aiw {E:TypeId} {sz:Nat} {xs:List AV}:J0 es o = .rows E sz xs↔o = .rows E sz xs:=by cases o <;> simp[J0]
section
variable {es:Nat->Nat} {m:Nat} {σ:A5} {ι ιl:Cd} {H Hl:Hp}
variable {x:AV} {n:Nat} {v:Value}
theorem O0 (f:∀k,k<m->ιl k=ι (es k)) (B:∀k,k<m->H (es k)=J0 es (Hl k)) (hx:x.under0 m=true):Conc σ ι H (Aik es x) v↔Conc σ ιl Hl x v:=by
 have rows:∀k,k<m->∀E sz xs,H (es k) = .rows E sz xs↔Hl k = .rows E sz xs:=λk hk E sz xs=>by rw[B k hk];exact Aiw
 have some:∀k,k<m->(H (es k)≠.none↔Hl k≠.none):=λk hk=>by rw[B k hk];exact not_congr Aiv
 constructor
 .intro h;cases x with
  | val u=>cases h with|cc h=>exact .cc h
  | sl sz xs=>cases h with|cc h=>exact .cc h
  | fb s=>cases h with|cc h=>exact .cc h
  | ref cs=>cases h with| cc h=>exact .cc h| ref cs b off C E fr g z hc h1 A=>exact .ref cs b off C E fr g z hc h1 A
  | loc k off=>have hk:=H4 hx;cases h with| cc h=>cases h| loc _ _ b hb=>exact .loc k off b (by rw[f k hk];exact hb)
  | mp k=>have hk:=H4 hx;cases h with| cc h=>cases h| mp _ b hb=>exact .mp k b (by rw[f k hk];exact hb)
  | vec k n=>have hk:=H4 hx;cases h with| cc h=>cases h| vec _ _ b hb=>exact .vec k n b (by rw[f k hk];exact hb)
  | arr k q off len=>have hk:=H4 hx;cases h with| cc h=>cases h| arr _ _ _ _ _ y l c=>exact .arr k q off len v ((some k hk).1 y) (λE sz xs e=>by rw[f k hk];exact l E sz xs ((rows k hk E sz xs).2 e)) c
  | el k q i j=>have hk:=H4 hx;cases h with| cc h=>cases h| el _ _ _ _ _ y l c=>exact .el k q i j v ((some k hk).1 y) (λE sz xs e=>by rw[f k hk];exact l E sz xs ((rows k hk E sz xs).2 e)) c
  | agg=>cases hx
  | tup=>cases hx
  | fn=>cases hx
 .intro h;cases x with
  | val u=>cases h with|cc h=>exact .cc h
  | sl sz xs=>cases h with|cc h=>exact .cc h
  | fb s=>cases h with|cc h=>exact .cc h
  | ref cs=>cases h with| cc h=>exact .cc h| ref cs b off C E fr g z hc h1 A=>exact .ref cs b off C E fr g z hc h1 A
  | loc k off=>have hk:=H4 hx;cases h with| cc h=>cases h| loc _ _ b hb=>exact .loc (es k) off b (by rw[<-f k hk];exact hb)
  | mp k=>have hk:=H4 hx;cases h with| cc h=>cases h| mp _ b hb=>exact .mp (es k) b (by rw[<-f k hk];exact hb)
  | vec k n=>have hk:=H4 hx;cases h with| cc h=>cases h| vec _ _ b hb=>exact .vec (es k) n b (by rw[<-f k hk];exact hb)
  | arr k q off len=>have hk:=H4 hx;cases h with| cc h=>cases h| arr _ _ _ _ _ y l c=>exact .arr (es k) q off len v ((some k hk).2 y) (λE sz xs e=>by rw[<-f k hk];exact l E sz xs ((rows k hk E sz xs).1 e)) c
  | el k q i j=>have hk:=H4 hx;cases h with| cc h=>cases h| el _ _ _ _ _ y l c=>exact .el (es k) q i j v ((some k hk).2 y) (λE sz xs e=>by rw[<-f k hk];exact l E sz xs ((rows k hk E sz xs).1 e)) c
  | agg=>cases hx
  | tup=>cases hx
  | fn=>cases hx
theorem I1 (b:∀k,k<m->ιl k=ι (es k)) (g:∀k,k<m->H (es k)=J0 es (Hl k)) (hx:x.under1 m=true):Conc σ ι H (Ox es x) v↔Conc σ ιl Hl x v:=by
 have cells:∀{cs:List AV},cs.all (AV.under0 m)=true->∀(i:Nat) (c:AV),cs[i]? = some c->∀u,(Conc σ ι H (Aik es c) u↔Conc σ ιl Hl c u) :=
  λq i c hc u=>O0 b g (Ej.1 q c (Fw hc));cases x with
 | fn f cs=>
  constructor
  .intro h;obtain⟨vs,rfl,l,h⟩:=h.fn_inv;exact .fn f cs vs (by simpa using l) λi c u h1 h2=>(cells hx i c h1 u).1 (h i _ u (by simp[h1]) h2)
  .intro h;obtain⟨vs,rfl,l,h⟩:=h.fn_inv;refine .fn f _ vs (by simpa using l) λi c u h1 h2=>?_;rw[getElem?_map]at h1;cases hc:cs[i]? with| none=>rw[hc]at h1;cases h1| some y=>rw[hc]at h1;cases h1;exact (cells hx i y hc u).2 (h i y u hc h2)
 | agg cs=>cases hx
 | tup cs=>cases hx
 | val u=>exact O0 (x:=(.val u)) b g hx
 | loc h off=>exact O0 (x:=(.loc h off)) b g hx
 | arr h k off len=>exact O0 (x:=(.arr h k off len)) b g hx
 | el h k i j=>exact O0 (x:=(.el h k i j)) b g hx
 | mp h=>exact O0 (x:=(.mp h)) b g hx
 | vec h n=>exact O0 (x:=(.vec h n)) b g hx
 | ref cs=>exact O0 (x:=(.ref cs)) b g hx
 | sl sz xs=>exact O0 (x:=(.sl sz xs)) b g hx
 | fb s=>exact O0 (x:=(.fb s)) b g hx
theorem Azy (h:x.under0 n=true):x.under1 n=true:=by cases x <;> first|exact h|cases h
theorem Aix (h:x.under1 n=true):x.under n=true:=by cases x with| fn f cs=>exact Ej.2 λc hc=>Azy (Ej.1 h c hc)| agg cs=>cases h| tup cs=>cases h| _=>exact h
theorem Azz (b:∀k,k<m->ιl k=ι (es k)) (g:∀k,k<m->H (es k)=J0 es (Hl k)) (hx:x.under2 m=true):Conc σ ι H (Ail es x) v↔Conc σ ιl Hl x v:=by
 have cells:∀{cs:List AV},cs.all (AV.under1 m)=true->∀(i:Nat) (c:AV),cs[i]? = some c->∀u,(Conc σ ι H (Ox es c) u↔Conc σ ιl Hl c u) :=
  λq i c hc u=>I1 b g (Ej.1 q c (Fw hc));cases x with
 | agg cs=>
  constructor
  .intro h;obtain⟨vs,rfl,l,h⟩:=h.agg_inv;exact .agg cs vs (by simpa using l) λi c u h1 h2=>(cells hx i c h1 u).1 (h i _ u (by simp[h1]) h2)
  .intro h;obtain⟨vs,rfl,l,h⟩:=h.agg_inv;refine .agg _ vs (by simpa using l) λi c u h1 h2=>?_;rw[getElem?_map]at h1;cases hc:cs[i]? with| none=>rw[hc]at h1;cases h1| some y=>rw[hc]at h1;cases h1;exact (cells hx i y hc u).2 (h i y u hc h2)
 | tup cs=>cases hx
 | fn f cs=>exact I1 (x:=(.fn f cs)) b g hx
 | val u=>exact I1 (x:=(.val u)) b g hx
 | loc h off=>exact I1 (x:=(.loc h off)) b g hx
 | arr h k off len=>exact I1 (x:=(.arr h k off len)) b g hx
 | el h k i j=>exact I1 (x:=(.el h k i j)) b g hx
 | mp h=>exact I1 (x:=(.mp h)) b g hx
 | vec h n=>exact I1 (x:=(.vec h n)) b g hx
 | ref cs=>exact I1 (x:=(.ref cs)) b g hx
 | sl sz xs=>exact I1 (x:=(.sl sz xs)) b g hx
 | fb s=>exact I1 (x:=(.fb s)) b g hx
theorem An9 (g:∀k,k<m->ιl k=ι (es k)) (q:∀k,k<m->H (es k)=J0 es (Hl k)) (hx:x.under m=true):Conc σ ι H (ren es x) v↔Conc σ ιl Hl x v:=by
 have cells:∀{cs:List AV},cs.all (AV.under1 m)=true->∀(i:Nat) (c:AV),cs[i]? = some c->∀u,(Conc σ ι H (Ox es c) u↔Conc σ ιl Hl c u) :=
  λz i c hc u=>I1 g q (Ej.1 z c (Fw hc));have b:∀{cs:List AV},cs.all (AV.under2 m)=true->∀(i:Nat) (c:AV),cs[i]? = some c->∀u,(Conc σ ι H (Ail es c) u↔Conc σ ιl Hl c u) :=
  λz i c hc u=>Azz g q (Ej.1 z c (Fw hc));cases x with
 | agg cs=>
  constructor
  .intro h;obtain⟨vs,rfl,l,h⟩:=h.agg_inv;exact .agg cs vs (by simpa using l) λi c u h1 h2=>(cells hx i c h1 u).1 (h i _ u (by simp[h1]) h2)
  .intro h;obtain⟨vs,rfl,l,h⟩:=h.agg_inv;refine .agg _ vs (by simpa using l) λi c u h1 h2=>?_;rw[getElem?_map]at h1;cases hc:cs[i]? with| none=>rw[hc]at h1;cases h1| some y=>rw[hc]at h1;cases h1;exact (cells hx i y hc u).2 (h i y u hc h2)
 | tup cs=>
  constructor
  .intro h;obtain⟨vs,rfl,l,h⟩:=h.tup_inv;exact .tup cs vs (by simpa using l) λi c u h1 h2=>(b hx i c h1 u).1 (h i _ u (by simp[h1]) h2)
  .intro h;obtain⟨vs,rfl,l,h⟩:=h.tup_inv;refine .tup _ vs (by simpa using l) λi c u h1 h2=>?_;rw[getElem?_map]at h1;cases hc:cs[i]? with| none=>rw[hc]at h1;cases h1| some y=>rw[hc]at h1;cases h1;exact (b hx i y hc u).2 (h i y u hc h2)
 | fn f cs=>
  constructor
  .intro h;obtain⟨vs,rfl,l,h⟩:=h.fn_inv;exact .fn f cs vs (by simpa using l) λi c u h1 h2=>(cells hx i c h1 u).1 (h i _ u (by simp[h1]) h2)
  .intro h;obtain⟨vs,rfl,l,h⟩:=h.fn_inv;refine .fn f _ vs (by simpa using l) λi c u h1 h2=>?_;rw[getElem?_map]at h1;cases hc:cs[i]? with| none=>rw[hc]at h1;cases h1| some y=>rw[hc]at h1;cases h1;exact (cells hx i y hc u).2 (h i y u hc h2)
 | val u=>exact I1 (x:=(.val u)) g q hx
 | loc h off=>exact I1 (x:=(.loc h off)) g q hx
 | arr h k off len=>exact I1 (x:=(.arr h k off len)) g q hx
 | el h k i j=>exact I1 (x:=(.el h k i j)) g q hx
 | mp h=>exact I1 (x:=(.mp h)) g q hx
 | vec h n=>exact I1 (x:=(.vec h n)) g q hx
 | ref cs=>exact I1 (x:=(.ref cs)) g q hx
 | sl sz xs=>exact I1 (x:=(.sl sz xs)) g q hx
 | fb s=>exact I1 (x:=(.fb s)) g q hx
theorem Aoa (A:∀k,k<m->ιl k=ι (es k)) (B:∀k,k<m->H (es k)=J0 es (Hl k)) {F G:A5} {w:World} {k:Nat} (hk:k<m) (hu:(Hl k).under m=true) (h:∀b,(Hl k).live=true->(ιl k).block? = some b->(F b=none↔G b=none)):C2 σ ι H F w (es k)↔C2 σ ιl Hl G w k:=by
 have cells:∀{cs:List AV},cs.all (AV.under1 m)=true->∀(i:Nat) (c:AV),cs[i]? = some c->∀u,(Conc σ ι H (Ox es c) u↔Conc σ ιl Hl c u) :=
  λx i c hc u=>I1 A B (Ej.1 x c (Fw hc));unfold C2;rw[B k hk,<-A k hk];cases hx:Hl k with
 | none=>exact Iff.rfl
 | dead=>exact Iff.rfl
 | map l=>
  simp only[J0];rw[hx]at h;constructor
  .rintro⟨b,M,q,f,h1,h2,h3⟩;exact⟨b,M,q,f,h1,(h b rfl (by rw[f];rfl)).1 h2,h3⟩
  .rintro⟨b,M,q,f,h1,h2,h3⟩;exact⟨b,M,q,f,h1,(h b rfl (by rw[f];rfl)).2 h2,h3⟩
 | rows E sz xs=>
  simp only[J0];rw[hx]at h;refine and_congr Iff.rfl (and_congr Iff.rfl (or_congr Iff.rfl ?_));constructor
  .rintro⟨b,j,C,f,h1,h2,h3⟩;exact⟨b,j,C,f,h1,(h b rfl (by rw[f];rfl)).1 h2,h3⟩
  .rintro⟨b,j,C,f,h1,h2,h3⟩;exact⟨b,j,C,f,h1,(h b rfl (by rw[f];rfl)).2 h2,h3⟩
 | cells E cs=>
  simp only[J0];rw[hx]at h hu;constructor
  .rintro⟨b,C,f,h1,h2,h3,z,y⟩;refine⟨b,C,f,h1,(h b rfl (by rw[f];rfl)).1 h2,h3,by simpa using z,λi c v hc s=>(cells hu i c hc v).1 (y i _ v (by simp[hc]) s)⟩
  .rintro⟨b,C,f,h1,h2,h3,z,y⟩;refine⟨b,C,f,h1,(h b rfl (by rw[f];rfl)).2 h2,h3,by simpa using z,λi c v hc s=>?_⟩;rw[getElem?_map]at hc;cases g:cs[i]? with| none=>rw[g]at hc;cases hc| some D=>rw[g]at hc;cases hc;exact (cells hu i D g v).2 (y i D v g s)
end
variable {b:List Bn} {k:Nat}
theorem Aob {n:Nat}:∀{l:List Nat} {k:Nat},Pt n l=true->k<l.length->Ds n l k<n
 | [],k,_,h=>by simp at h
 | h::l,0,b,_=>by simp only[Pt,Fr]at b;exact H4 b.1.1
 | h::l,k+1,b,hk=>by simp only[Pt,Fr]at b;exact Aob (l:=l) b.2 (by simpa using hk)
theorem Yp {n:Nat}:∀{l:List Nat} {k:Nat},l.length<=k->Ds n l k=n+(k-l.length)
 | [],k,_=>by simp[Ds]
 | h::l,0,hk=>by simp at hk
 | h::l,k+1,hk=>by simp only[Ds,length_cons];rw[Yp (l:=l) (by simpa using hk)];omega
theorem Aiy {n:Nat}:∀{l:List Nat} {k:Nat},k<l.length->Ds n l k∈l
 | [],k,h=>by simp at h
 | h::l,0,_=>by simp[Ds]
 | h::l,k+1,hk=>by simp only[Ds];exact mem_cons_of_mem _ (Aiy (by simpa using hk))
theorem Aoc {n:Nat}:∀{l:List Nat} {j k:Nat},Pt n l=true->Ds n l j=Ds n l k->j=k
 | [],j,k,_,h=>by simp only[Ds]at h;omega
 | h::l,0,0,_,_=>rfl
 | h::l,j+1,k+1,b,e=>by simp only[Pt,Fr]at b;simp only[Ds]at e;rw[Aoc (l:=l) b.2 e]
 | h::l,0,k+1,b,e=>by
  simp only[Pt,Fr]at b;simp only[Ds]at e;rcases Nat.lt_or_ge k l.length with hk|hk
  .have:=Aiy (n:=n) hk;rw[<-e]at this;simp[this]at b
  .have h1:=Yp (n:=n) hk;have h2:=H4 b.1.1;omega
 | h::l,j+1,0,b,e=>by
  simp only[Pt,Fr]at b;simp only[Ds]at e;rcases Nat.lt_or_ge j l.length with hk|hk
  .have:=Aiy (n:=n) hk;rw[e]at this;simp[this]at b
  .have h1:=Yp (n:=n) hk;have h2:=H4 b.1.1;omega
theorem Aod {es:Nat->Nat}:∀{os:List Bn} {k i:Nat} {o:Bn},os[i]? = some o->(es (k+i),J0 es o)∈Fx es k os
 | [],k,i,o,h=>by simp at h
 | p::os,k,0,o,h=>by simp at h;subst h;simp[Fx]
 | p::os,k,i+1,o,h=>by simp only[Fx];refine mem_cons_of_mem _ ?_;have:=Aod (es:=es) (k:=k+1) (i:=i) (by simpa using h);rwa [show k+(i+1)=k+1+i by omega]
theorem Adb {es:Nat->Nat}:∀{os:List Bn} {k x:Nat} {H:Hp},(∀i,i<os.length->es (k+i)≠x)->Cq H (Fx es k os) x=H x
 | [],k,x,H,h=>rfl
 | q::os,k,x,H,h=>by simp only[Fx,Cq];rw[Adb (λi hi=>by rw[show k+1+i=k+(i+1) by omega];exact h (i+1) (by simpa using hi)),Dh _ _ (Ne.symm (by simpa using h 0 ψ))]
theorem Aoe {es:Nat->Nat} (b:∀i j,es i=es j->i=j):∀{os:List Bn} {k i:Nat} {o:Bn} {H:Hp},os[i]? = some o->Cq H (Fx es k os) (es (k+i))=J0 es o
 | [],k,i,o,H,h=>by simp at h
 | q::os,k,0,o,H,h=>by simp at h;subst h;simp only[Fx,Cq];rw[Adb (λi hi e=>by have:=b _ _ e;omega)];exact Co _ _ _
 | q::os,k,i+1,o,H,h=>by simp only[Fx,Cq];rw[show k+(i+1)=k+1+i by omega];exact Aoe b (by simpa using h)
theorem Aof {es:Nat->Nat}:∀{c k i:Nat},i<c->(es (k+i),Bn.none)∈Cm es k c
 | 0,k,i,h=>ω
 | c+1,k,0,h=>by simp[Cm]
 | c+1,k,i+1,h=>by simp only[Cm];refine mem_cons_of_mem _ ?_;have:=Aof (es:=es) (c:=c) (k:=k+1) (i:=i) ω;rwa [show k+(i+1)=k+1+i by omega]
theorem Aog {es:Nat->Nat}:∀{c k:Nat} {p:Nat×Bn},p∈Cm es k c->∃i,i<c/\p=(es (k+i),Bn.none)
 | 0,k,p,h=>by simp[Cm]at h
 | c+1,k,p,h=>by
  simp only[Cm,mem_cons]at h;rcases h with rfl|h
  .exact⟨0,ω,rfl⟩
  .obtain⟨i,h1,h2⟩:=Aog h;exact⟨i+1,ω,by rw[h2,show k+(i+1)=k+1+i by omega]⟩
theorem Oy.spec {H:Hp}:∀{l:List (Nat×Bn)},Oy H l->∀p∈l,H p.1=p.2
 | [],_,p,hp=>by cases hp
 | q::l,h,p,hp=>by
  rcases mem_cons.1 hp with rfl|hp
  .exact h.1
  .exact Oy.spec h.2 p hp
theorem Yq (h:k<b.length):b[k]? = some (hp b k):=by simp[hp,h]
theorem Rb (h:b.length<=k):hp b k = .none:=by simp[hp,getElem?_eq_none h]
section
variable {P:Program} {o:Oper} {ρ:Operand->AV} {a:Act} {w w':World}
open Classical in
theorem Aoh {n:Nat} {c:Call} {x:Operand} {f:FuncId} {caps:List AV} {l:List Nat} {largs:List AV} {hs:List Bn} {r:AV} {hs':List Bn} (ho:o.op = .call c) (hcal:c.callee = .value x) (hx:ρ x = .fn f caps) (hp0:Bv P f largs hs r hs') (ha:largs.map (ren (Ds n l))=c.args.toList.map ρ ++ caps) (ok:Nx n l largs hs r hs'=true) : Cl P o ρ ⟨ren (Ds n l) r,Fx (Ds n l) 0 hs++Cm (Ds n l) l.length (hs'.length-l.length),Fx (Ds n l) 0 hs'⟩:=by
 intro σ ι H F W w a next Q s hop hrd hk
 simp only[Nx,Fr]at ok;obtain⟨⟨⟨⟨⟨⟨o1,o2⟩,o3⟩,o4⟩,o5⟩,o6⟩,o7⟩:=ok;have o2:=Gg o2;have o3:=Gy o3;generalize hes:Ds n l=es at *;have inj:∀i j,es i=es j->i=j:=λi j e=>by rw[<-hes]at e;exact Aoc o1 e
 obtain⟨⟨fn,hf,hname,hbody⟩,hpp⟩:=hp0;have hxv:=hop x (by simp[ho,Op.operands,Call.operands,hcal]);rw[hx]at hxv;obtain⟨vs,hv,hl,hcap⟩:=hxv.fn_inv;have hall:Nw σ ι H (c.args.toList.map ρ ++ caps) (c.args.map a.eval++vs) :=
  Aiu (λy hy=>hop y (by simp only[ho,Op.operands,Call.operands,hcal];simp at hy ⊢;exact .inr hy)) hl hcap
 have hrun:(execOp a.eval o).run P w = .ok (.enter f (c.args.map a.eval++vs)) w:=by have hcf:(callFunc f (c.args.map a.eval++vs)).run P w = .ok (.enter f (c.args.map a.eval++vs)) w:=(by unfold callFunc;simp only[Sem.run_bind,program,Sem.run,Result.andThen_ok,hf,hname,hbody,Bool.false_eq_true,if_false,Sem.run_pure]);simp only[execOp,ho,resolve,hcal,hv,Deferred.ofValue,invoke,Sem.run_bind,Sem.run_pure,Result.andThen_ok,Array.empty_append,hcf]
 unfold Oper.wp;rw[hrun];simp only[Oper.upon];have hgiven:∀k,k<hs.length->H (es k)=J0 es (hp hs k):=by intro k hk';have:=hrd _ (mem_append_left _ (Aod (es:=es) (k:=0) (Yq hk')));simpa using this
 have hnew:∀k,hs.length<=k->k<hs'.length->H (es k) = .none:=by intro k h1 h2;have:=hrd _ (mem_append_right _ (Aof (es:=es) (k:=l.length) (c:=hs'.length-l.length) (i:=k-l.length) ω));rwa [show l.length+(k-l.length)=k by omega]at this
 let ιl:Cd:=λk=>if k<hs.length then ι (es k) else .none
 let mine:Nat->Prop:=λb=>∃k,k<hs.length/\(hp hs k).live=true/\(ι (es k)).block? = some b
 let Fl:A5:=λb=>if σ b=none/\¬mine b then w.heap[b]? else none
 have hιl:∀k,k<hs.length->ιl k=ι (es k):=λk h=>if_pos h;have hlive:∀k,k<hs.length->(H (es k)).live=(hp hs k).live:=λk h=>by rw[hgiven k h,Ada]
 have hunder:∀k,k<hs.length->(hp hs k).under hs.length=true:=by intro k h;have:=Ej.1 o5 _ (Fw (Yq h));rw[o2];exact this
 have hFb:∀k,k<hs.length->∀b,(hp hs k).live=true->(ιl k).block? = some b->F b=none/\Fl b=none:=by intro k h b h1 h2;rw[hιl k h]at h2;exact⟨(s.block (by rw[hlive k h];exact h1) h2).2.2,if_neg (λhn=>hn.2 ⟨k,h,h1,h2⟩)⟩
 have sl:St σ ιl (hp hs) Fl W w:=by
  refine⟨s.sto,λb ob hb=>?_,λk=>?_,λk k' b h1 h2 h3 h4=>?_,s.os,s.tape,s.output,s.glo,s.drw⟩
  .by_cases hc:σ b=none/\¬mine b
   .simp only[Fl,if_pos hc]at hb;exact⟨hb,hc.1⟩
   .simp only[Fl,if_neg hc]at hb;cases hb
  .by_cases hk':k<hs.length
   .refine (Aoa (es:=es) hιl hgiven hk' (hunder k hk') (λb h1 h2=>?_)).1 (s.obj (es k));obtain⟨h3,h4⟩:=hFb k hk' b h1 h2;rw[h3,h4]
   .unfold C2;rw[Rb ω];exact if_neg hk'
  .have lt:∀k,(hp hs k).live=true->k<hs.length:=by
    intro k h;rcases Nat.lt_or_ge k hs.length with h'|h'
    .exact h'
    .rw[Rb h']at h;cases h
   have k1:=lt k h1;have k2:=lt k' h2;rw[hιl k k1]at h3;rw[hιl k' k2]at h4;exact inj _ _ (s.inj _ _ b (by rw[hlive k k1];exact h1) (by rw[hlive k' k2];exact h2) h3 h4)
 have hargs:Nw σ ιl (hp hs) largs (c.args.map a.eval++vs):=by rw[<-ha]at hall;refine⟨by simpa using hall.1,λi b u h1 h2=>?_⟩;have:=hall.2 i (ren es b) u (by simp[h1]) h2;refine (An9 (es:=es) hιl hgiven ?_).1 this;rw[o2];exact Ej.1 o4 b (Fw h1)
 refine (hpp σ Fl W w ιl (c.args.map a.eval++vs) sl hargs).mono ?_;rintro e w' ⟨v,σ',ι'l,rfl,le',s',hc'⟩;let ι':Cd:=λh=>if hh:∃k,k<hs'.length/\es k=h then ι'l hh.choose else ι h
 have hι':∀k,k<hs'.length->ι'l k=ι' (es k):=by intro k h;have hh:∃k',k' < hs'.length/\es k'=es k:=⟨k,h,rfl⟩;have:hh.choose=k:=inj _ _ hh.choose_spec.2;simp only[ι',dif_pos hh,this]
 have hιo:∀h,(∀k,k<hs'.length->es k≠h)->ι' h=ι h:=by intro h hno;exact dif_neg (λ⟨k,k1,k2⟩=>hno k k1 k2)
 have hH':∀k,k<hs'.length->Cq H (Fx es 0 hs') (es k)=J0 es (hp hs' k):=by intro k h;have:=Aoe (es:=es) inj (k:=0) (H:=H) (Yq h);simpa using this
 have hHo:∀h,(∀k,k<hs'.length->es k≠h)->Cq H (Fx es 0 hs') h=H h:=by intro h hno;exact Adb (λi hi=>by simpa using hno i hi)
 have hle2:hs.length<=hs'.length:=ω;have lel:Le σ ι H σ' ι' (Cq H (Fx es 0 hs')):=by
  refine⟨le'.sto,λh=>?_⟩;by_cases hh:∃k,k<hs'.length/\es k=h
  .obtain⟨k,hk',rfl⟩:=hh;rw[<-hι' k hk',hH' k hk'];by_cases hk2:k<hs.length
   .have q:=le'.obj k;rw[hιl k hk2]at q;rw[hgiven k hk2];refine⟨q.box,λh=>?_,λh1 E sz xs h2=>?_⟩
    .rw[Ne,Aiv]at h ⊢;exact q.some h
    .rw[Ne,Aiv]at h1;rw[Aiw]at h2;obtain⟨E0,sz0,xs0,e0,r0⟩:=q.rows h1 E sz xs h2;exact⟨E0,sz0,xs0,Aiw.2 e0,r0⟩
   .have h0:=hnew k ω hk';have:ι (es k) = .none:=(by have:=s.obj (es k);unfold C2 at this;rw[h0]at this;exact this);rw[h0,this];exact HLe.of_none
  .have hno:∀k,k<hs'.length->es k≠h:=λk h1 h2=>hh ⟨k,h1,h2⟩;rw[hιo h hno,hHo h hno];exact HLe.refl _ _
 have keep:∀b,σ b=none->¬mine b->∀ob,w.heap[b]? = some ob->w'.heap[b]? = some ob/\σ' b=none/\Fl b=some ob:=by intro b h1 h2 ob h3;have:Fl b=some ob:=(by simp only[Fl];rw[if_pos ⟨h1,h2⟩];exact h3);exact⟨(s'.fra b ob this).1,(s'.fra b ob this).2,this⟩
 have notmine:∀h b,(∀k,k<hs'.length->es k≠h)->(H h).live=true->(ι h).block? = some b->¬mine b:=by rintro h b hno h1 h2 ⟨k,k1,k2,k3⟩;exact hno k ω (s.inj _ _ b (by rw[hlive k k1];exact k2) h1 k3 h2)
 have notmineF:∀b ob,F b=some ob->¬mine b:=by rintro b ob hb ⟨k,k1,k2,k3⟩;have:=(s.block (by rw[hlive k k1];exact k2) k3).2.2;rw[this]at hb;cases hb
 have hunder':∀k,k<hs'.length->(hp hs' k).under hs'.length=true:=λk h=>Ej.1 o7 _ (Fw (Yq h));have st':St σ' ι' (Cq H (Fx es 0 hs')) F W w':=by
  refine⟨s'.sto,λb ob hb=>?_,λh=>?_,λh h' b h1 h2 h3 h4=>?_,s'.os,s'.tape,s'.output,s'.glo,s'.drw⟩
  .obtain⟨h1,h2⟩:=s.fra b ob hb;obtain⟨k1,k2,_⟩:=keep b h2 (notmineF b ob hb) ob h1;exact⟨k1,k2⟩
  .by_cases hh:∃k,k<hs'.length/\es k=h
   .obtain⟨k,hk',rfl⟩:=hh;refine (Aoa (es:=es) hι' hH' hk' (hunder' k hk') (λb h1 h2=>?_)).2 (s'.obj k);have hf0:=(s'.block h1 h2).2.2;refine⟨λ_=>hf0,λ_=>?_⟩;cases hFb:F b with| none=>rfl| some ob=>obtain⟨h3,h4⟩:=s.fra b ob hFb;have:=(keep b h4 (notmineF b ob hFb) ob h3).2.2;rw[hf0]at this;cases this
   .have hno:∀k,k<hs'.length->es k≠h:=λk h1 h2=>hh ⟨k,h1,h2⟩;have hob:=s.obj h;have hnm:=λb h1 h2=>notmine h b hno h1 h2;unfold C2 at hob ⊢;rw[hHo h hno,hιo h hno];cases hx:H h with
    | none=>rw[hx]at hob;exact hob
    | dead=>trivial
    | cells E cs=>rw[hx]at hob hnm;obtain⟨b,C,e1,h1,h2,h3,h4,h5⟩:=hob;obtain⟨k1,k2,_⟩:=keep b h1 (hnm b rfl (by rw[e1];rfl)) _ h3;exact⟨b,C,e1,k2,h2,k1,h4,λi c v x y=>(h5 i c v x y).mono lel⟩
    | rows E sz xs=>
     rw[hx]at hob hnm;obtain⟨z1,z2,⟨e1,e2⟩|⟨b,tot,C,e1,h1,h2,h3,h4,h5,h6⟩⟩:=hob
     .exact⟨z1,z2,.inl ⟨e1,e2⟩⟩
     .obtain⟨k1,k2,_⟩:=keep b h1 (hnm b rfl (by rw[e1];rfl)) _ h3;exact⟨z1,z2,.inr ⟨b,tot,C,e1,k2,h2,k1,h4,h5,h6.mono le'.sto⟩⟩
    | map l=>rw[hx]at hob hnm;obtain⟨b,M,q,e1,h1,h2,h3,h4⟩:=hob;obtain⟨k1,k2,_⟩:=keep b h1 (hnm b rfl (by rw[e1];rfl)) _ h3;exact⟨b,M,q,e1,k2,h2,k1,h4.mono le'.sto⟩
  .have Yr:∀k,k<hs'.length->∀h,(∀k,k<hs'.length->es k≠h)->(Cq H (Fx es 0 hs') (es k)).live=true->(Cq H (Fx es 0 hs') h).live=true->(ι' (es k)).block? = some b->(ι' h).block? = some b->False:=(by intro k hk' h hno g1 g2 g3 g4;rw[hH' k hk',Ada]at g1;rw[hHo h hno]at g2;rw[<-hι' k hk']at g3;rw[hιo h hno]at g4;have hf0:=(s'.block g1 g3).2.2;have hb:=s.block g2 g4;have hget:w.heap[b]? = some w.heap[b]:=(by simp[hb.1]);have:=(keep b hb.2.1 (notmine h b hno g2 g4) _ hget).2.2;rw[hf0]at this;cases this);by_cases hh:∃k,k<hs'.length/\es k=h
   .obtain⟨k,hk',rfl⟩:=hh;by_cases hh':∃k,k<hs'.length/\es k=h'
    .obtain⟨k',hk2,rfl⟩:=hh';rw[hH' k hk',Ada]at h1;rw[hH' k' hk2,Ada]at h2;rw[<-hι' k hk']at h3;rw[<-hι' k' hk2]at h4;rw[s'.inj k k' b h1 h2 h3 h4]
    .exact (Yr k hk' h' (λk h1 h2=>hh' ⟨k,h1,h2⟩) h1 h2 h3 h4).elim
   .have hno:∀k,k<hs'.length->es k≠h:=λk h1 h2=>hh ⟨k,h1,h2⟩;by_cases hh':∃k,k<hs'.length/\es k=h'
    .obtain⟨k',hk2,rfl⟩:=hh';exact (Yr k' hk2 h hno h2 h1 h4 h3).elim
    .have hno':∀k,k<hs'.length->es k≠h':=λk h1 h2=>hh' ⟨k,h1,h2⟩;rw[hHo h hno]at h1;rw[hHo h' hno']at h2;rw[hιo h hno]at h3;rw[hιo h' hno']at h4;exact s.inj h h' b h1 h2 h3 h4
 exact hk σ' ι' v w' lel st' ((An9 (es:=es) hι' hH' o6).2 hc')
end
section
variable {P:Program} {T:C9} {an:Nat->Ann} {n:Nat} {o:Oper} {ρ:Operand->AV} {H:Hp} {K:Eff->Nat->Prop}
variable {r:AV} {b:Bn} {l:List Nat} {x y:Operand} {α:Type} {t:TypeId}
theorem Gn {b:Bool} {X:Prop} (h:bif b then X else False):b=true/\X:=by cases b with| false=>exact h.elim| true=>exact⟨rfl,h⟩
theorem Adc {x:AV} (h:M0 x=true):x = .val (.slice none 0 0):=by
 unfold M0 at h;split at h
 .rfl
 .cases h
theorem Az0 {x:AV} (h:Yo x=true):∀vs,x≠.val (.agg vs):=by intro vs e;subst e;cases h
theorem Aiz {i:TI} (h1:Nat.beq (Gb i).cells.length i.zero.length=true) (h2:Yo (Gb i)=true) (h3:Md i.size (Gb i)=true):(Gb i).cells=i.zero.map .val:=by
 have _:=h1;have _:=h3
 unfold Gb at h2 ⊢;cases hd:i.d with
 | struct fs=>rfl
 | _=>
  rw[hd]at h2;cases b:i.zero with
  | nil=>rfl
  | cons v l=>
   cases l with
   | cons _ _=>rfl
   | nil=>rw[b]at h2;cases v <;> first|rfl|cases h2
theorem Re {c:Array α} {x y:α} (h:c.toList = [x,y]):c = #[x,y]:=by apply Array.ext';simpa using h
theorem Vz {c:Array α} {x:α} (h:c.toList = [x]):c = #[x]:=by apply Array.ext';simpa using h
theorem Ta {c:Call} {b:Builtin} {xs:Array Operand} {ts:Array TypeId} (h1:c.callee = .builtin b) (h2:c.args=xs) (h3:c.argTypes=ts):c = {callee:=.builtin b,args:=xs,argTypes:=ts}:=by cases c;simp_all
def F8 (H:Hp) (n:Nat):Prop:=∀m,n<=m->H m = .none
def N1 (P:Program) (o:Oper) (ρ:Operand->AV) (H:Hp) (n:Nat) (K:Eff->Nat->Prop):Prop := ∃b m,Cl P o ρ b/\(∀p∈b.rd,H p.1=p.2)/\K b m/\n<=m/\F8 (Cq H b.wr) m
theorem D1 (b:F8 H n) (h:Cl P o ρ ⟨r,[],[]⟩) (k:K ⟨r,[],[]⟩ n):N1 P o ρ H n K:=⟨_,n,h,ψ,k,Nat.le_refl _,b⟩
theorem M1 (c:F8 H n) {x:Nat} (h:Cl P o ρ ⟨r,[(x,b)],[]⟩) (hx:H x=b) (k:K ⟨r,[(x,b)],[]⟩ n):N1 P o ρ H n K := ⟨_,n,h,by simpa using hx,k,Nat.le_refl _,c⟩
theorem M2 (g:F8 H n) {x:Nat} {c:Bn} (h:Cl P o ρ ⟨r,[(x,c)],[(x,b)]⟩) (hx:H x=c) (f:c≠.none) (k:K ⟨r,[(x,c)],[(x,b)]⟩ n):N1 P o ρ H n K:=by
 refine⟨_,n,h,by simpa using hx,k,Nat.le_refl _,λm i=>?_⟩;have j:x<n:=by
  rcases Nat.lt_or_ge x n with h|h
  .exact h
  .exact (f (hx ▸ g x h)).elim
 show Ba H x b m=_;rw[Dh _ _ ω];exact g m i
theorem Pv (c:F8 H n) (h:Cl P o ρ ⟨r,[(n,.none)],[(n,b)]⟩) (k:K ⟨r,[(n,.none)],[(n,b)]⟩ (n+1)):N1 P o ρ H n K:=by refine⟨_,n+1,h,by simpa using c n (Nat.le_refl _),k,ω,λm f=>?_⟩;show Ba H n b m=_;rw[Dh _ _ ω];exact c m ω
theorem Aoi {H:Hp}:∀{l:List (Nat×Bn)},(∀p∈l,H p.1=p.2)->Cq H l=H
 | [],_=>rfl
 | p::l,h=>by
  have e:Ba H p.1 p.2=H:=by
   funext q;by_cases hq:q=p.1
   .subst hq;rw[Co];exact (h p ψ).symm
   .exact Dh _ _ hq
  show Cq (Ba H p.1 p.2) l=H;rw[e];exact Aoi λq hq=>h q (by simp[hq])
theorem Az1 {c:Call} {f:FuncId} {h:List AV} {b:List AV} {g:List Bn} (B:o.op = .call c) (j:c.callee = .value x) (hx:ρ x = .fn f h) (u:Bv P f b g r g) (ha:b.map (ren (Ds n l))=c.args.toList.map ρ ++ h) (k:Nx n l b g r g=true):Cl P o ρ ⟨ren (Ds n l) r,Fx (Ds n l) 0 g,[]⟩:=by
 intro σ ι H F W w a next Q s y i hk
 have G:g.length=l.length:=by simp only[Nx,Fr]at k;exact Gg k.1.1.1.1.1.2
 have E:g.length-l.length=0:=ω;refine Aoh B j hx u ha k σ ι H F W w a next Q s y (λp hp=>?_) (λz A v w' le s' q=>?_)
 .rw[E]at hp;rcases mem_append.1 hp with hp|hp
  .exact i p hp
  .simp[Cm]at hp
 .have D:Cq H (Fx (Ds n l) 0 g)=H:=Aoi i;dsimp only at le s' q;rw[D]at le s' q;exact hk z A v w' le s' q
theorem Az2 (j:F8 H n) {c:List AV} {f b:List Bn} (g:Nx n l c f r b=true) (u:Oy H (Fx (Ds n l) 0 f)) (h:Cl P o ρ ⟨ren (Ds n l) r,Fx (Ds n l) 0 f++Cm (Ds n l) l.length (b.length-l.length),Fx (Ds n l) 0 b⟩) (k:K ⟨ren (Ds n l) r,Fx (Ds n l) 0 f++Cm (Ds n l) l.length (b.length-l.length),Fx (Ds n l) 0 b⟩ (n+(b.length-l.length))):N1 P o ρ H n K:=by
 simp only[Nx,Fr]at g;have s:=g.1.1.1.1.1.1;have x:=Gy g.1.1.1.1.2;refine⟨_,n+(b.length-l.length),h,λp hp=>?_,k,ω,λq hq=>?_⟩
 .rcases mem_append.1 hp with hp|hp
  .exact u.spec p hp
  .obtain⟨i,hi,rfl⟩:=Aog hp;refine j _ ?_;show n<=Ds n l (l.length+i);rw[Yp ω];omega
 .show Cq H (Fx (Ds n l) 0 b) q = .none;rw[Adb (λi hi e=>?_)]
  .exact j q ω
  .rcases Nat.lt_or_ge (0+i) l.length with h1|h1
   .have:=Aob s h1;omega
   .have:=Yp (n:=n) h1;omega
theorem Az3 (l:Da P T) (g:F8 H n) (f:o.op = .load t x) (h:Ff P T an n o ρ H K):N1 P o ρ H n K:=by
 unfold Ff at h;rw[f]at h;dsimp only at h;split at h
 .rename_i i ht;split at h
  .rename_i cs hx;cases b:i.isAgg with
   | true=>rw[b]at h;simp only[cond_true]at h;obtain⟨h1,h2⟩:=Gn h;exact D1 g (Axe l f ht b hx (Gy h1)) h2
   | false=>
    rw[b]at h;simp only[cond_false]at h;split at h
    .exact D1 g (Axd l f ht b hx) h
    .exact h.elim
  .rename_i hd off hx;split at h
   .rename_i E cs s;cases b:i.isAgg with
    | true=>rw[b]at h;simp only[cond_true]at h;obtain⟨h1,h2⟩:=Gn h;exact M1 g (Axg l f ht b hx (Gy h1)) s h2
    | false=>
     rw[b]at h;simp only[cond_false]at h;split at h
     .rename_i c hc;exact M1 g (Axf l f ht b hx hc) s h
     .exact h.elim
   .exact h.elim
  .rename_i hd k q j hx;split at h
   .rename_i E sz xs s;obtain⟨y,hk,hy,h⟩:=h;cases b:i.isAgg with
    | true=>rw[b]at h;simp only[cond_true]at h;obtain⟨h1,h2⟩:=Gn h;exact M1 g (Axi l f ht b hx hk hy (Gy h1)) s h2
    | false=>
     rw[b]at h;simp only[cond_false]at h;split at h
     .rename_i c hc;exact M1 g (Axh l f ht b hx hk hy hc) s h
     .exact h.elim
   .exact h.elim
  .exact h.elim
 .exact h.elim
theorem Az4 (l:Da P T) (g:F8 H n) (c:o.op = .store t x y) (h:Ff P T an n o ρ H K):N1 P o ρ H n K:=by
 unfold Ff at h;rw[c]at h;dsimp only at h;split at h
 .rename_i i ht;split at h
  .rename_i hd off hx;split at h
   .rename_i E cs f;obtain⟨h1,h2⟩:=Gn h;simp only[Fr]at h1;exact M2 g (Axk l c ht hx (Gg h1.1.1) (Gy h1.1.2) h1.2) f (by intro e;cases e) h2
   .exact h.elim
  .rename_i hd k q j hx;split at h
   .rename_i E sz xs f;obtain⟨z,hk,s,h⟩:=h;obtain⟨h1,h2⟩:=Gn h;simp only[Fr]at h1;obtain⟨⟨⟨⟨g1,g2⟩,g3⟩,g4⟩,g5⟩:=h1;rw[Ac8,Vx]at h2;obtain⟨u,b,h2⟩:=h2;subst b;exact M2 g (Axm l c ht hx hk s (Gg g1) (Gy g2) (Gy g3) g4 (Az0 g5)) f (by intro e;cases e) h2
   .exact h.elim
  .exact h.elim
 .exact h.elim
theorem Az5 (l:Da P T) (g:F8 H n) {op:BinOp} {q:TypeId} (f:o.op = .binOp op t x y q) (h:Ff P T an n o ρ H K):N1 P o ρ H n K:=by
 unfold Ff at h;rw[f]at h;dsimp only at h;split at h
 .rename_i k a j b hx hy;split at h
  .obtain⟨c,h1,h2,h3⟩:=h;exact D1 g (Axw f hx hy h1 h2) h3
  .obtain⟨c,h1,h2,h3⟩:=h;exact D1 g (Axv f hx hy h1 h2) h3
  .replace h:=Gn h;obtain⟨hk,h⟩:=h;have hk:k=j:=(by simpa using hk);subst hk;split at h
   .obtain⟨c,h1,h2⟩:=h;exact D1 g (Axo f hx hy h1) h2
   .obtain⟨c,h1,h2⟩:=h;exact D1 g (Axp f hx hy h1) h2
   .obtain⟨c,h1,h2⟩:=h;exact D1 g (Axq f hx hy h1) h2
   .obtain⟨c,h1,h2,h3⟩:=h;exact D1 g (Axr f hx hy h1 h2) h3
   .obtain⟨c,h1,h2,h3⟩:=h;exact D1 g (Axs f hx hy h1 h2) h3
   .split at h
    .rename_i t' i;exact D1 g (Axt f hx hy i) h
    .split at h
     .rename_i c hc;exact D1 g (Axu f hx hy hc) h
     .exact h.elim
 .rename_i a b hx hy;split at h
  .rename_i A z u ht;split at h
   .rename_i t' i;exact D1 g (Axz l f ht rfl hx hy i) h
   .exact h.elim
  .exact h.elim
 .rename_i xs ys hx hy;split at h
  .rename_i s h1;split at h
   .rename_i vs h2;split at h
    .obtain⟨b,hb,h⟩:=h;exact D1 g (Anq f hx hy h1 h2 hb (.inl ⟨rfl,rfl⟩)) h
    .obtain⟨b,hb,h⟩:=h;exact D1 g (Anq f hx hy h1 h2 hb (.inr ⟨rfl,rfl⟩)) h
    .exact h.elim
   .exact h.elim
  .exact h.elim
 .rename_i k a j b hx hy;replace h:=Gn h;obtain⟨hk,h⟩:=h;have hk:k=j:=(by simpa using hk);subst hk;obtain⟨c,h1,h2⟩:=h;exact D1 g (Ax6 f hx hy h1) h2
 .rename_i a b hx hy;split at h
  .obtain⟨h1,h2⟩:=h;exact D1 g (Ax2 f hx hy h1) h2
  .split at h
   .rename_i t' i;exact D1 g (Ax1 f hx hy i) h
   .exact h.elim
 .rename_i p G E D B hx hy;split at h
  .split at h
   .rename_i M L J I ht;exact D1 g (Ax0 l f ht rfl hx hy) h
   .exact h.elim
  .exact h.elim
 .exact h.elim
theorem Az6 (u:Da P T) (q:F8 H n) {lo hi:Option Operand} (i:o.op = .slice t x lo hi none) (h:Ff P T an n o ρ H K):N1 P o ρ H n K:=by
 unfold Ff at h;rw[i]at h;dsimp only at h;split at h
 .rename_i e B A z ht;split at h
  .rename_i D he;split at h
   .rename_i sz xs hx;split at h
    .rename_i y h0 c f;replace h:=Gn h;obtain⟨g1,h⟩:=h;obtain⟨l,j,ys,el,b,h1,h2,hy,k⟩:=h;subst el;subst b;subst hy;exact D1 q (Ayo u i ht rfl he (Gg g1) hx c f h1 h2) k
    .exact h.elim
   .rename_i hd k off len hx;split at h
    .rename_i E sz xs g;split at h
     .rename_i y h0 c f;replace h:=Gn h;obtain⟨g1,h⟩:=h;cases h with| mk l j hk el b h1 h2 h3 k=>subst el;subst b;exact M1 q (Ayq u i ht rfl he (Gg g1) hx hk c f h1 h2 h3) g k| mkE l hk el b h2 k=>subst el;subst b;exact M1 q (Azc u i ht rfl he hx hk c f h2) g k
     .exact h.elim
    .exact h.elim
   .exact h.elim
  .exact h.elim
 .rename_i B A z ht;split at h
  .rename_i s hx;split at h
   .rename_i y h0 c f;obtain⟨l,j,el,b,h1,h2,k⟩:=h;subst el;subst b;exact D1 q (Ayp u i ht rfl hx c f h1 h2) k
   .exact h.elim
  .exact h.elim
 .exact h.elim
theorem Az7 (D:Da P T) (A:F8 H n) {c:Call} (u:o.op = .call c) (h:Ff P T an n o ρ H K):N1 P o ρ H n K:=by
 unfold Ff at h;rw[u]at h;dsimp only at h;split at h
 .rename_i x i;split at h
  .rename_i f ad hx;split at h
   .rename_i j ah;split at h
    .rename_i hd k len hj;split at h
     .rename_i E sz xs B;obtain⟨hk,J,r,hp,hf,h⟩:=h;subst hk;rw[<-J]at hj;exact M2 A (Azx u i hx hj hp hf) B (by intro e;cases e) h
     .exact h.elim
    .exact h.elim
   .cases h with| mk r hp hf k=>exact D1 A (Azw u i hx hp hf) k| act l U hs r ag hp ha ok B k=>exact Az2 A ok B (Aoh u i hx hp ha ok) k| rd l U hs r hp ha ok B k=>exact⟨_,n,Az1 u i hx hp ha ok,λp hp=>B.spec p hp,k,Nat.le_refl _,A⟩
  .exact h.elim
 .exact h.elim
 .rename_i i;split at h
  .rename_i x t ha z;rw[Ta i (Vz ha) (Vz z)]at u;split at h
   .rename_i e s1 Z Y ht;split at h
    .rename_i sz xs hx;split at h
     .obtain⟨c,hc,h⟩:=h;subst hc;exact D1 A (Ana D u ht rfl hx) h
     .exact D1 A (Ana D u ht rfl hx) h
    .rename_i p m cap hx;exact D1 A (Ayd D u ht rfl hx) h
    .rename_i hd m hx;exact D1 A (Ayk D u ht rfl hx) h
    .rename_i hd k off len hx;split at h
     .rename_i E sz xs B;obtain⟨hk,h⟩:=h;exact M1 A (Ayg D u ht rfl hx hk) B h
     .exact h.elim
    .exact h.elim
   .rename_i s1 Z Y ht;split at h
    .rename_i s hx;exact D1 A (Ayf D u ht rfl hx) h
    .exact h.elim
   .exact h.elim
  .exact h.elim
 .rename_i i;split at h
  .rename_i x t ha z;rw[Ta i (Vz ha) (Vz z)]at u;split at h
   .rename_i e s1 Z Y ht;split at h
    .rename_i p m cap hx;exact D1 A (Aye D u ht rfl hx) h
    .exact h.elim
   .exact h.elim
  .exact h.elim
 .rename_i i;split at h
  .rename_i x y t t' ha z;rw[Ta i (Re ha) (Re z)]at u;split at h
   .rename_i e s1 Z Y ht;split at h
    .rename_i i' he;split at h
     .rename_i h2 k2 a6 a7 hy;split at h
      .rename_i hd k off len hx;split at h
       .rename_i E sz xs B;replace h:=Gn h;obtain⟨g5,h⟩:=h;simp only[Fr]at g5;have M:=Gg g5.1.1.1;have R:=Gg g5.1.1.2;have e3:=Gg g5.1.2;have e4:0<i'.size:=Gy g5.2;subst M;subst R;subst e3;obtain⟨S,c,hk,J,X,V,I,hc,k⟩:=h;subst I;subst hc;exact M2 A (Aza D u ht rfl he e4 hx hk J hy X V) B (by intro e;cases e) k
       .exact h.elim
      .rename_i q hx;split at h
       .rename_i E sz xs B;replace h:=Gn h;obtain⟨g5,h⟩:=h;have M:=Gg g5;subst M;obtain⟨hk,k⟩:=h;exact M1 A (Azb D u ht rfl he hx hy hk) B k
       .exact h.elim
      .exact h.elim
     .exact h.elim
    .exact h.elim
   .exact h.elim
  .exact h.elim
 .rename_i i;split at h
  .rename_i x t ha z;rw[Ta i (Vz ha) (Vz z)]at u;split at h
   .rename_i e s1 Z Y ht;split at h
    .rename_i i' he;split at h
     .rename_i hd k off len hx;split at h
      .rename_i E sz xs B;replace h:=Gn h;obtain⟨g5,h⟩:=h;simp only[Fr]at g5;have M:=Gg g5.1.1.1.1.1;have R:=Gg g5.1.1.1.1.2;have e3:0<i'.size:=Gy g5.1.1.1.2;subst M;subst R;obtain⟨S,hk,J,I,k⟩:=h;subst I;exact M2 A (Azd D u ht rfl he e3 g5.1.1.2 (Aiz g5.1.2 g5.2 g5.1.1.2) hx hk J) B (by intro e;cases e) k
      .exact h.elim
     .rename_i q hx;exact D1 A (Aze D u ht rfl hx) h
     .exact h.elim
    .exact h.elim
   .exact h.elim
  .exact h.elim
 .rename_i i;split at h
  .rename_i x y t t' ha z;rw[Ta i (Re ha) (Re z)]at u;split at h
   .rename_i e s1 Z Y e' ab aa a8 ht G;split at h
    .rename_i i' he;replace h:=Gn h;obtain⟨g,h⟩:=h;simp only[Fr]at g;obtain⟨⟨g1,g2⟩,g3⟩:=g;have g1:0<i'.size:=Gy g1;have g2:=Gg g2;have g3:=Gy g3;split at h
     .rename_i sz ys hy;replace h:=Gn h;obtain⟨g4,h⟩:=h;have g4:=Gg g4;subst g4;split at h
      .rename_i hd k len hx;split at h
       .rename_i E a1 xs B;replace h:=Gn h;obtain⟨g5,h⟩:=h;simp only[Fr]at g5;have M:=Gg g5.1;have R:=Gg g5.2;subst M;subst R;split at h
        .cases h with| mk S m hk J hb I L k=>subst J;subst I;exact M2 A (Ay7 (Ani D u ht rfl G rfl he g1 g2 g3 hx hk hy hb) (by simp[hk])) B (by intro e;cases e) k| mkP S k' m hk J hb I N L k=>exact k.elim
        cases h with| mk S m hk J hb I L k=>subst J;subst I;subst L;exact M2 A (Ani D u ht rfl G rfl he g1 g2 g3 hx hk hy hb) B (by intro e;cases e) k| mkP S k' m hk J hb I N L k=>subst I;subst L;subst N;exact M2 A (Ay5 D u ht rfl G rfl he g1 g2 g3 hx hk J hy hb) B (by intro e;cases e) k
       .exact h.elim
      .rename_i hx;obtain⟨S,m,hb,I,L,k⟩:=h;subst I;subst L;exact Pv A (Ay1 D n u ht rfl G rfl he g1 g2 g3 hx hy hb) k
      .rename_i af ae hx;obtain⟨ac,k⟩:=h;subst ac;exact D1 A (Ay8 D u ht rfl G rfl he g1 hx hy) k
      .exact h.elim
     .rename_i h2 k2 a6 a7 hy;split at h
      .rename_i hd k len hx;split at h
       .rename_i E a1 xs B;replace h:=Gn h;obtain⟨g5,h⟩:=h;simp only[Fr]at g5;have M:=Gg g5.1.1;have R:=Gg g5.1.2;have e3:=Gg g5.2;subst M;subst R;subst e3;obtain⟨S,k',m,hk,J,X,V,hb,I,N,L,k⟩:=h;subst I;subst L;subst N;exact M2 A (Ay9 D u ht rfl G rfl he g1 g2 g3 hx hk J hy X V hb) B (by intro e;cases e) k
       .exact h.elim
      .exact h.elim
     .exact h.elim
    .exact h.elim
   .rename_i e s1 Z Y ab aa a8 ht G;split at h
    .rename_i i' he;replace h:=Gn h;obtain⟨g,h⟩:=h;simp only[Fr]at g;obtain⟨⟨g1,g2⟩,g3⟩:=g;have g1:=Gg g1;have g2:=Gg g2;have g3:=Gy g3;split at h
     .rename_i s hy;split at h
      .rename_i hd k len hx;split at h
       .rename_i E a1 xs B;replace h:=Gn h;obtain⟨g5,h⟩:=h;simp only[Fr]at g5;have M:=Gg g5.1;have R:=Gg g5.2;subst M;subst R;obtain⟨_,_,_,_,_,_,_,_,_,k⟩|⟨S,m,hk,J,hb,I,L,k⟩:=h
        .exact k.elim
        subst J;subst I;subst L;exact M2 A (Ay0 D u ht rfl G rfl he g1 g2 g3 hx hk hy hb) B (by intro e;cases e) k
       .exact h.elim
      .exact h.elim
     .exact h.elim
    .exact h.elim
   .exact h.elim
  .exact h.elim
 .rename_i i;split at h
  .rename_i x y t t' ha z;rw[Ta i (Re ha) (Re z)]at u;split at h
   .rename_i k a k' b hx hy;exact D1 A (Ay3 u hx hy) h
   .exact h.elim
  .exact h.elim
 .rename_i i;split at h
  .rename_i x y t t' ha z;rw[Ta i (Re ha) (Re z)]at u;split at h
   .rename_i k a k' b hx hy;exact D1 A (Ay4 u hx hy) h
   .exact h.elim
  .exact h.elim
 .exact h.elim
theorem Aoj (B:Da P T) (A:F8 H n) (h:Ff P T an n o ρ H K):N1 P o ρ H n K:=by
 cases u:o.op with
 | load t x=>exact Az3 B A u h
 | store t x y=>exact Az4 B A u h
 | binOp op t x y yt=>exact Az5 B A u h
 | call c=>exact Az7 B A u h
 | slice t x lo hi mx=>cases mx with| none=>exact Az6 B A u h| some m=>unfold Ff at h;rw[u]at h;exact h.elim
 | move x=>unfold Ff at h;rw[u]at h;exact D1 A (Aw9 u) h
 | assign x=>
  unfold Ff at h;rw[u]at h;dsimp only at h;split at h
  .exact D1 A (Vn u) h
  .split at h
   .exact D1 A (Vn u) h
   .exact D1 A (Vn u) h
   .exact D1 A (Vn u) h
   .exact D1 A (Vn u) h
   .cases hb:M0 (ρ x) with
    | false=>rw[hb]at h;exact D1 A (Vn u) h
    | true=>
     rw[hb]at h;simp only[cond_true]at h;split at h
     .rename_i e G D I ht;split at h
      .rename_i S he;replace h:=Gn h;obtain⟨g1,h⟩:=h;exact Pv A (Ay2 B n u (Adc hb) ht rfl he (Gy g1)) h
      .exact h.elim
     .exact h.elim
 | pick c a b=>
  unfold Ff at h;rw[u]at h;dsimp only at h;split at h
  .rename_i t hc;exact D1 A (Axa u hc) h
  .exact h.elim
 | alloc t=>
  unfold Ff at h;rw[u]at h;dsimp only at h;split at h
  .rename_i i ht;exact Pv A (Axb B n u ht) h
  .exact h.elim
 | box t x=>unfold Ff at h;rw[u]at h;exact Pv A (Axc n u) h
 | build t parts=>
  unfold Ff at h;rw[u]at h;dsimp only at h;split at h
  .rename_i fs G D z ht;split at h
   .rename_i cs hc;exact D1 A (Ayr B u ht rfl hc) h
   .exact h.elim
  .exact h.elim
 | buildSlice t len parts=>
  unfold Ff at h;rw[u]at h;dsimp only at h;split at h
  .rename_i e G D I ht;split at h
   .rename_i S he;replace h:=Gn h;obtain⟨g,h⟩:=h;simp only[Fr]at g;obtain⟨⟨⟨g1,g2⟩,g3⟩,g4⟩:=g;have g2:parts.toList.map (·.1)=range' 0 len:=(by simpa using g2);have g4:∀p∈parts.toList,Md S.size (ρ p.2)=true:=Ej.1 g4;split at h
    .exact h.elim
    .exact h.elim
    .rw[Ac9]at h;exact D1 A (Anf B u ht rfl he (Gy g1) g2 (Gy g3) g4) h
    .rw[Ac9]at h;exact D1 A (Anf B u ht rfl he (Gy g1) g2 (Gy g3) g4) h
    .rw[Ac9]at h;exact Pv A (Ayt B n u ht rfl he (Gy g1) g2 (Gy g3) g4) h
   .exact h.elim
  .exact h.elim
 | nilCheck x=>unfold Ff at h;rw[u]at h;dsimp only at h;replace h:=Gn h;obtain⟨g1,h⟩:=h;exact D1 A (Axn u g1) h
 | unOp op t x=>
  unfold Ff at h;rw[u]at h;dsimp only at h;split at h
  .rename_i b hx;exact D1 A (Ax3 u hx) h
  .rename_i k m hx;obtain⟨c,h1,h2⟩:=h;exact D1 A (Ax4 u hx h1) h2
  .exact h.elim
 | convert s d x=>
  unfold Ff at h;rw[u]at h;dsimp only at h;split at h
  .rename_i i k G D I L m hs hd hx;obtain⟨c,h1,h2⟩:=h;exact D1 A (Ax5 B u hs hd rfl hx h1) h2
  .rename_i v0 k0 G D I k1 m h1 h2 hx;exact D1 A (Ax7 B u h1 h2 rfl hx) h
  .rename_i v0 k0 G D I q m h1 h2 hx;obtain⟨c,g1,g2⟩:=h;exact D1 A (Ax8 B u h1 h2 rfl hx g1) g2
  .rename_i e G D I s4 s5 s6 sz xs ht hd hx;split at h
   .rename_i s7 s8 s9 he;replace h:=Gn h;obtain⟨g1,h⟩:=h;obtain⟨bs,g2,g3⟩:=h;have g1:sz=1:=Gg g1;subst g1;exact D1 A (Ayh B u ht rfl he rfl hd rfl hx g2) g3
   .exact h.elim
  .exact h.elim
 | makeFunc fn first Z=>
  cases fn with
  | func f=>
   unfold Ff at h;rw[u]at h;dsimp only at h;replace h:=Gn h;obtain⟨g1,h⟩:=h;have:first = #[]:=by simpa using g1
   subst this;exact D1 A (Ayn u) h
  | _=>unfold Ff at h;rw[u]at h;exact h.elim
 | makeSlice t x y=>
  unfold Ff at h;rw[u]at h;dsimp only at h;split at h
  .rename_i e G D I ht;split at h
   .rename_i S he;split at h
    .rename_i k l L c hx hy;split at h
     .rename_i m Y;split at h
      .rename_i v hv;replace h:=Gn h;obtain⟨g,h⟩:=h;simp only[Fr]at g;obtain⟨⟨⟨⟨g1,g2⟩,g3⟩,g4⟩,g5⟩:=g;have g4:=of_decide_eq_true g4;have g5:=of_decide_eq_true g5;subst g4;subst g5;exact Pv A (Ayu B n u ht rfl he (Gg g1) hv hx hy (Gy g3) (Gy g2)) h
      .exact h.elim
     replace h:=Gn h;obtain⟨g,h⟩:=h;simp only[Fr]at g;obtain⟨⟨⟨g1,g2⟩,g3⟩,g4⟩:=g;rcases h with⟨l',c',zs,el,ec,h1,h2,h3,R,k⟩|⟨z',V,l',c',zs,el,ec,h1,h2,h3,R,k⟩
     .subst el;subst ec;subst R;exact Pv A (Ayv B n u ht rfl he (Gy g1) hx hy h1 h2 h3 g2 (Aiz g3 g4 g2)) k
     .subst el;subst ec;subst R;exact Pv A (Ayw B z' n u ht rfl he (Gy g1) hx hy h1 h2 h3 g2 (Aiz g3 g4 g2) V) k
    .exact h.elim
   .exact h.elim
  .exact h.elim
 | fieldAddr s x f=>
  unfold Ff at h;rw[u]at h;dsimp only at h;split at h
  .rename_i fs G D I ht;split at h
   .rename_i q hf;split at h
    .rename_i hd off hx;exact D1 A (Aya B u ht rfl hf hx) h
    .rename_i cs hx;exact D1 A (Ayb B u ht rfl hf hx) h
    .rename_i hd k m j hx;split at h
     .rename_i E sz xs J;obtain⟨hk,h⟩:=h;exact M1 A (Ayc B u ht rfl hf hx hk) J h
     .exact h.elim
    .exact h.elim
   .exact h.elim
  .exact h.elim
 | indexAddr t x y=>
  unfold Ff at h;rw[u]at h;dsimp only at h;split at h
  .rename_i e G D I ht;split at h
   .rename_i S he;split at h
    .rename_i hd m k i hx hy;replace h:=Gn h;obtain⟨g1,h⟩:=h;obtain⟨q,hi,hq,L⟩:=h;subst hi;exact D1 A (Ayj B u ht rfl he (Gg g1) hx hy hq) L
    .rename_i sz xs k i hx hy;replace h:=Gn h;obtain⟨g1,h⟩:=h;obtain⟨m,z,hi,R,L⟩:=h;subst hi;exact D1 A (Ayi B u ht rfl he (Gg g1) hx hy R) L
    .rename_i hd k off len kk i hx hy;split at h
     .rename_i E sz xs J;replace h:=Gn h;obtain⟨g1,h⟩:=h;obtain⟨m,hk,hi,Y,L⟩:=h;subst hi;exact M1 A (Ayl B u ht rfl he hx hk hy Y (Gg g1)) J L
     .exact h.elim
    .exact h.elim
   .exact h.elim
  .exact h.elim
 | index t x y=>
  unfold Ff at h;rw[u]at h;dsimp only at h;split at h
  .rename_i G D I ht;split at h
   .rename_i s k i hx hy;obtain⟨m,c,hi,hc,L⟩:=h;subst hi;exact D1 A (Aym B u ht rfl hx hy hc) L
   .exact h.elim
  .exact h.elim
 | field t x f=>
  unfold Ff at h;rw[u]at h;dsimp only at h;split at h
  .rename_i fs G D I ht;split at h
   .rename_i q hq;split at h
    .rename_i cs hx;obtain⟨ft,hf,h⟩:=h;split at h
     .rename_i U he;cases M:U.isAgg with
      | true=>rw[M]at h;simp only[cond_true]at h;obtain⟨h1,h2⟩:=Gn h;exact D1 A (Anr B u ht rfl hq hf he hx (.inl ⟨M,Gy h1,rfl⟩)) h2
      | false=>
       rw[M]at h;simp only[cond_false]at h;split at h
       .rename_i c hc;exact D1 A (Anr B u ht rfl hq hf he hx (.inr ⟨M,hc⟩)) h
       .exact h.elim
     .exact h.elim
    .exact h.elim
   .exact h.elim
  .exact h.elim
 | makeMap t r=>cases r with| none=>unfold Ff at h;rw[u]at h;exact Pv A (Azf n u) h| some q=>unfold Ff at h;rw[u]at h;exact h.elim
 | lookup t x y ok=>
  unfold Ff at h;rw[u]at h;dsimp only at h;split at h
  .rename_i kt et G D I ht;split at h
   .rename_i q1 q2 q3 hk;split at h
    .rename_i U he;split at h
     .rename_i hd hx;split at h
      .rename_i s hy;split at h
       .rename_i es J;obtain⟨r,N,h⟩:=h;exact M1 A (Azg B u ht rfl hk rfl he hx hy N) J h
       .exact h.elim
      .exact h.elim
     .exact h.elim
    .exact h.elim
   .split at h
    .rename_i U he;split at h
     .rename_i hd hx;split at h
      .rename_i ks hy;split at h
       .rename_i us hu;split at h
        .rename_i es J;obtain⟨r,hc,N,h⟩:=h;exact M1 A (Azi B u ht rfl he hx hy hu hc N) J h
        .exact h.elim
       .exact h.elim
      .exact h.elim
     .exact h.elim
    .exact h.elim
   .exact h.elim
  .exact h.elim
 | mapUpdate t x y z=>
  unfold Ff at h;rw[u]at h;dsimp only at h;split at h
  .rename_i kt et G D I ht;split at h
   .rename_i q1 q2 q3 hk;split at h
    .rename_i hd hx;split at h
     .rename_i s hy;split at h
      .rename_i es J;obtain⟨g1,h⟩:=Gn h;rw[Vx]at h;obtain⟨X,N,h⟩:=h;exact M2 A (Azh B u ht rfl hk rfl hx hy g1 N) J (by intro e;cases e) h
      .exact h.elim
     .exact h.elim
    .exact h.elim
   .split at h
    .rename_i hd hx;split at h
     .rename_i ks hy;split at h
      .rename_i us hu;split at h
       .rename_i es J;obtain⟨g1,h⟩:=Gn h;rw[Vx]at h;obtain⟨X,hc,N,rfl,h⟩:=h;exact M2 A (Azj B u ht rfl hx hy hu g1 hc N) J (by intro e;cases e) h
       .exact h.elim
      .exact h.elim
     .exact h.elim
    .exact h.elim
   .exact h.elim
  .exact h.elim
 | extract x i=>
  unfold Ff at h;rw[u]at h;dsimp only at h;split at h
  .rename_i cs hx;split at h
   .rename_i c hc;exact D1 A (Ax9 u hx hc) h
   .exact h.elim
  .exact h.elim
 | _=>unfold Ff at h;rw[u]at h;exact h.elim
end
variable {σ:A5} {x:AV} {t:Bool} {ι:Cd} {H:Hp} {l:List (Nat×Nat)} {sz:Nat} {A:Prop} {v:Value}
theorem Hj {B:Prop} (h:t=true) (k:A):bif t then A else B:=by rw[h];exact k
theorem Ai0 {B:Prop} (h:t=false) (k:B):bif t then A else B:=by rw[h];exact k
abbrev Jm:=List (List Nat×List Nat)
def M3 (l:List (Nat×Nat)):Nat->List AV->List AV
 | _,[]=>[]
 | i,x::xs=>(bif M0 x then (match l.lookup i with|some sz=>.sl sz [] | none=>x) else x)::M3 l (i+1) xs
def elN (l:List (Nat×Nat)) (x:AV):AV := match x with
 | .val (.agg vs)=>.agg (M3 l 1000 (vs.toList.map .val))
 | .agg cs=>.agg (M3 l 1000 cs)
 | x=>x
def M4 (l:List (Nat×Nat)) (x:AV):AV := match l with
 | []=>x
 | p::l=> match x with
  | .sl sz xs=>bif Nat.ble 1000 p.1 then .sl sz (xs.map (elN (p::l))) else .sl sz xs
  | .agg cs=>.agg (M3 (p::l) 0 cs)
  | x=>bif M0 x then .sl p.2 [] else x
def N2 (nl:Nat->List (Nat×Nat)):Option Nat->List (Nat×Nat)
 | none=>[]
 | some d=>nl d
theorem Add (hx:M0 x=true) (h:Conc σ ι H x v):Conc σ ι H (.sl sz []) v:=by rw[Adc hx]at h;rw[h.val_inv];exact .cc (.nil sz none 0)
theorem Ai1 {l:List (Nat×Nat)}:∀{cs:List AV} {i k:Nat} {c:AV},(M3 l k cs)[i]? = some c->∃c0,cs[i]? = some c0/\(c=c0\/(M0 c0=true/\∃sz,c = .sl sz []))
 | [],i,k,c,h=>by simp[M3]at h
 | x::xs,0,k,c,h=>by
  simp only[M3,getElem?_cons_zero,Option.some.injEq]at h;refine⟨x,rfl,?_⟩;cases hx:M0 x with
  | false=>rw[hx]at h;exact .inl h.symm
  | true=>
   rw[hx]at h;simp only[cond_true]at h;split at h
   .rename_i sz _;exact .inr ⟨rfl,sz,h.symm⟩
   .exact .inl h.symm
 | x::xs,i+1,k,c,h=>by simp only[M3,getElem?_cons_succ]at h;obtain⟨c0,h1,h2⟩:=Ai1 h;exact⟨c0,by simpa using h1,h2⟩
theorem Ai2 {l:List (Nat×Nat)}:∀{cs:List AV} {k:Nat},(M3 l k cs).length=cs.length
 | [],_=>rfl
 | x::xs,k=>by simp only[M3,length_cons,Ai2]
theorem Az8:(elN l x).cells.length=x.cells.length/\∀(j:Nat) (c b:AV) (u:Value),x.cells[j]? = some c->(elN l x).cells[j]? = some b->CC σ c u->CC σ b u:=by
 have key:∀cs:List AV,(M3 l 1000 cs).length=cs.length/\∀(j:Nat) (c b:AV) (u:Value),cs[j]? = some c->(M3 l 1000 cs)[j]? = some b->CC σ c u->CC σ b u:=by
  intro cs;refine⟨Ai2,λj c b u h1 h2 h3=>?_⟩;obtain⟨c0,g1,rfl|⟨g2,sz,rfl⟩⟩:=Ai1 h2
  .rw[h1]at g1;cases g1;exact h3
  .rw[h1]at g1;cases g1;rw[Adc g2]at h3;cases h3;exact .nil sz none 0
 unfold elN;split
 .exact key _
 .exact key _
 .exact⟨rfl,λj c b u h1 h2 h3=>by rw[h1]at h2;cases h2;exact h3⟩
theorem CC.mapEl {xs:List AV} (f:AV->AV) (hf:∀x,(f x).cells.length=x.cells.length/\∀(j:Nat) (c k:AV) (u:Value),x.cells[j]? = some c->(f x).cells[j]? = some k->CC σ c u->CC σ k u) (h:CC σ (.sl sz xs) v):CC σ (.sl sz (xs.map f)) v:=by
 cases h with
 | nil sz a cap=>exact .nil sz a cap
 | sl _ b off cap _ C E fr g B D hc h1 I G s=>
  have q:(xs.map f).length=xs.length:=ψ;have l:∀(i:Nat) (y:AV) (j:Nat) (k:AV),(xs.map f)[i]? = some y->y.cells[j]? = some k->∃x c,xs[i]? = some x/\x.cells[j]? = some c/\y=f x:=(by intro i y j k g1 g2;rw[getElem?_map]at g1;cases hx:xs[i]? with| none=>rw[hx]at g1;cases g1| some x=>rw[hx]at g1;cases g1;have hj:j<x.cells.length:=(by rw[<-(hf x).1];exact (Gx.1 g2).1);exact⟨x,x.cells[j],rfl,getElem?_eq_getElem hj,rfl⟩);rw[<-q];refine .sl (xs.map f) b off cap sz C E fr g B ?_ ?_ ?_ (λi j hi hj=>I i j (by simpa using hi) hj) (by simpa using G) (by simpa using s)
  .intro i y hy;rw[getElem?_map]at hy;cases hx:xs[i]? with| none=>rw[hx]at hy;cases hy| some x=>rw[hx]at hy;cases hy;rw[(hf x).1];exact D i x hx
  .intro i y j k g1 g2;obtain⟨x,c,A,z,rfl⟩:=l i y j k g1 g2;exact (hf x).2 j c k _ z g2 (hc i x j c A z)
  .intro i y j k g1 g2;obtain⟨x,c,A,z,rfl⟩:=l i y j k g1 g2;exact h1 i x j c A z
theorem Az9 (h:Conc σ ι H x v):Conc σ ι H (M4 l x) v:=by
 unfold M4;split
 .exact h
 .split
  .rename_i _ p l _ sz xs;cases hb:Nat.ble 1000 p.1 with| false=>exact h| true=>exact .cc (h.sl_inv.mapEl _ λx=>Az8)
  .rename_i cs;obtain⟨vs,rfl,f,b⟩:=h.agg_inv;refine .agg _ vs (by rw[Ai2];exact f) λi c u h1 h2=>?_;obtain⟨c0,h3,rfl|⟨g,sz,rfl⟩⟩:=Ai1 h1
   .exact b i _ u h3 h2
   .exact Add g (b i _ u h3 h2)
  .cases hx:M0 x with| false=>exact h| true=>exact Add hx h
theorem Cl.nils {P:Program} {o:Oper} {ρ:Operand->AV} {b:Eff} (l:List (Nat×Nat)) (h:Cl P o ρ b):Cl P o ρ ⟨M4 l b.r,b.rd,b.wr⟩ := λσ ι H F W w a next Q s hx g hk=>h σ ι H F W w a next Q s hx g λc f v w' le s' hc=>hk c f v w' le s' (Az9 hc)
def K8 (e:B5) (d:Option Nat) (r:AV) (H:Hp) (b:List (Nat×Bn)) (K:B5->Hp->Prop):Prop :=
 match d with
 | none=>
  (match b with
  | []=>K e H
  | [p]=>K e (Ba H p.1 p.2)
  | p::q::l=>K e (Cq H (p::q::l)))
 | some t=>
  (match b with
  | []=>K (Ba e t r) H
  | [p]=>K (Ba e t r) (Ba H p.1 p.2)
  | p::q::l=>K (Ba e t r) (Cq H (p::q::l)))
theorem Ade (e:B5) (d:Option Nat) (r:AV) (H:Hp) (b:List (Nat×Bn)) (K:B5->Hp->Prop):K8 e d r H b K=K (put e d r) (Cq H b):=by cases d <;> cases b with| nil=>rfl| cons p l=>cases l <;> rfl
def K9 (P:Program) (T:C9) (an:Nat->Ann) (nl:Nat->List (Nat×Nat)) (ops:Array Oper):List Oper->List Nat->Nat->B5->Hp->Jm->(Nat->B5->Hp->Jm->Prop)->Prop
 | [],_,n,e,H,acc,K=>K n e H acc
 | o::os,f,n,e,H,acc,K=>
  match o.guard with
  | none=>Ff P T an n o (ev e) H λc m=>Mg (M4 (N2 nl o.dst) c.r) λr=>Oz c.wr λwr=>Kd c.rd λh=>Kd wr λg=>K8 e o.dst r H wr λe H=>K9 P T an nl ops os f m e H (acc++[(h,g)]) K
  | some p=>
   match (ops[p.1]?).bind (·.dst) with
   | none=>False
   | some s=>
    match e s with
    | .val (.bool b)=>
     match f.elem s with
     | true=>
      (match b with
      | true=>
       (match p.2 with
       | true=>Ff P T an n o (ev e) H λc m=>Mg (M4 (N2 nl o.dst) c.r) λr=>Oz c.wr λwr=>Kd c.rd λh=>Kd wr λg=>K8 e o.dst r H wr λe H=>K9 P T an nl ops os f m e H (acc++[(h,g)]) K
       | false=>K8 e o.dst (.val undef) H [] λe H=>K9 P T an nl ops os f n e H (acc++[([],[])]) K)
      | false=>
       (match p.2 with
       | true=>K8 e o.dst (.val undef) H [] λe H=>K9 P T an nl ops os f n e H (acc++[([],[])]) K
       | false=>Ff P T an n o (ev e) H λc m=>Mg (M4 (N2 nl o.dst) c.r) λr=>Oz c.wr λwr=>Kd c.rd λh=>Kd wr λg=>K8 e o.dst r H wr λe H=>K9 P T an nl ops os f m e H (acc++[(h,g)]) K))
     | false=>
      bif b then
       (match p.2 with
       | true=>Ff P T an n o (ev (Ba e s (.val (.bool true)))) H λc m=>Mg (M4 (N2 nl o.dst) c.r) λr=>Oz c.wr λwr=>Kd c.rd λh=>Kd wr λg=>K8 (Ba e s (.val (.bool true))) o.dst r H wr λe H=>K9 P T an nl ops os (s::f) m e H (acc++[(h,g)]) K
       | false=>K8 (Ba e s (.val (.bool true))) o.dst (.val undef) H [] λe H=>K9 P T an nl ops os (s::f) n e H (acc++[([],[])]) K)
      else
       (match p.2 with
       | true=>K8 (Ba e s (.val (.bool false))) o.dst (.val undef) H [] λe H=>K9 P T an nl ops os (s::f) n e H (acc++[([],[])]) K
       | false=>Ff P T an n o (ev (Ba e s (.val (.bool false)))) H λc m=>Mg (M4 (N2 nl o.dst) c.r) λr=>Oz c.wr λwr=>Kd c.rd λh=>Kd wr λg=>K8 (Ba e s (.val (.bool false))) o.dst r H wr λe H=>K9 P T an nl ops os (s::f) m e H (acc++[(h,g)]) K)
    | .val (.tuple _)=>K8 e o.dst (.val undef) H [] λe H=>K9 P T an nl ops os f n e H (acc++[([],[])]) K
    | _=>False
inductive N3 (ops:List Oper) (acc:Jm) (K:Prop):Prop where
 | mk (h:Aih ops acc=true) (k:K)
inductive Ex where
 | normal
 | exit (id:Nat)
 | ret
def H5 (e:B5):List (Nat×AV)->Prop
 | []=>True
 | p::l=>e p.1=p.2/\H5 e l
def H6 (H H':Hp):Nat->Nat->Prop
 | 0,_=>True
 | k+1,n=>(H k=H' k/\(H' k).under n=true)/\H6 H H' k n
def Kr (b:List Nat) (e:B5) (u:Nat->Value) (l:List (Nat×AV)):B5:=l.foldr (λp e=>Ba e p.1 p.2) (b.foldr (λs e=>Ba e s (.val (u s))) e)
def La (n:Nat) (b:List (Nat×AV)) (c:List (Nat×Bn)):Bool:=(b.all λp=>p.2.under n)&&c.all λp=>Nat.blt p.1 n
inductive A0a (n:Nat) (ws:List Nat) (e:B5) (H:Hp) (body:(Nat->B5->Hp->Prop)->Nat->B5->Hp->Prop):Prop where
 | mk (I:Type) (inv:I->Prop) (iv:I->List (Nat×AV)) (hv:I->List (Nat×Bn)) (m:I->Nat) (i0:I) (hb:∀i,La n (iv i) (hv i)=true)
   (h0:inv i0) (hs:H5 e (iv i0)) (hh:H6 H (Cq H (hv i0)) n n)
   (step:∀(i:I) (u:Nat->Value),inv i->body (λ_ e' H'=>∃i',inv i'/\H5 e' (iv i')/\H6 H' (Cq H (hv i')) n n/\m i' < m i) n (Kr ws e u (iv i)) (Cq H (hv i)))
def F9:Code->List Nat
 | .region _ ops _=>ops.toList.filterMap (·.dst)
 | .seq a b=>F9 a++F9 b
 | .cond _ a b=>F9 a++F9 b
 | .block _ b=>F9 b
 | .loop b=>F9 b
 | .scope b=>F9 b
 | _=>[]
def Adf:List Nat->B5->Hp->(B5->Hp->Prop)->Prop
 | [],e,H,K=>K e H
 | s::b,e,H,K=> match e s with
  | .arr h k 0 len=> match H h with
   | .rows _ sz xs=>H9 k xs (H9 len xs (Adf b (Ba e s (.sl sz xs)) (Ba H h .dead) K))
   | _=>False
  | _=>False
structure Cfg where
 T:C9
 an:Nat->Ann:=λ_=>.std
 gh:Nat->List Nat:=λ_=>[]
 nl:Nat->List (Nat×Nat):=λ_=>[]
def Aok (x:AV) (A B:Prop):Prop := match x with
 | .val (.bool t)=>bif t then A else B
 | _=>False
def vc (P:Program) (C:Cfg):Code->(Ex->Nat->B5->Hp->Prop)->Nat->B5->Hp->Prop
 | .skip,Q,n,e,H=>Q .normal n e H
 | .region id ops draw,Q,n,e,H=>Adf (C.gh id) e H λe H=> K9 P C.T C.an C.nl ops ops.toList [] n e H [] λn e H acc=>bif draw then N3 ops.toList acc (Q .normal n e H) else Q .normal n e H
 | .seq a b,Q,n,e,H=>vc P C a (λx n e H=>match x with
   | .normal=>vc P C b Q n e H
   | .exit id=>Q (.exit id) n e H
   | .ret=>Q .ret n e H) n e H
 | .cond c a b,Q,n,e,H=>Aok (ev e c) (vc P C a Q n e H) (vc P C b Q n e H)
 | .block id b,Q,n,e,H=>vc P C b (λx n e H=>match x with
   | .normal=>Q .normal n e H
   | .exit i=>bif Nat.beq i id then Q .normal n e H else Q (.exit i) n e H
   | .ret=>Q .ret n e H) n e H
 | .loop b,Q,n,e,H=>A0a n (F9 b) e H λK n e H=>vc P C b (λx n e H=>match x with
   | .normal=>K n e H
   | .exit id=>Q (.exit id) n e H
   | .ret=>Q .ret n e H) n e H
 | .exit id,Q,n,e,H=>Q (.exit id) n e H
 | .ret,Q,n,e,H=>Q .ret n e H
 | _,_,_,_,_=>False
def Aol (N:Nat) (x:Operand):Bool := match x with
 | .tmp t=>Nat.blt t N
 | _=>true
def Lb (N:Nat):Code->Bool
 | .region _ ops _=>ops.toList.all λo=>(Mf ops o).all λs=>Nat.blt s N
 | .seq a b=>Lb N a&&Lb N b
 | .cond c a b=>Aol N c&&Lb N a&&Lb N b
 | .block _ b=>Lb N b
 | .loop b=>Lb N b
 | .scope b=>Lb N b
 | _=>true
def Ex.out:Ex->Exit
 | .normal=>.normal
 | .exit id=>.exit id
 | .ret=>.ret
section
variable {P:Program} {T:C9} {an:Nat->Ann} {nl:Nat->List (Nat×Nat)} {ops:Array Oper} {F:A5} {W:World} {Q:Exit->Act->World->Prop}
theorem Adg {α:Type} {e:Nat->α} {s:Nat} {v:α} (h:e s=v):Ba e s v=e:=by subst h;exact Je e s
theorem Ai3 (L:Da P T):∀(os:List Oper) (g:List Nat) (i n:Nat) (e:B5) (H:Hp) (acc:Jm) (K:Nat->B5->Hp->Jm->Prop),ops.toList.drop i=os->acc.length=i->F8 H n->K9 P T an nl ops os g n e H acc K -> ∃f e' H' accs,K f e' H' accs/\accs.take i=acc/\accs.length=i+os.length/\n<=f/\F8 H' f/\Run P ops (λk=>accs.getD k ([],[])) (range' i os.length) e H e' H'
 | [],g,i,n,e,H,acc,K,hd,x,B,h=>⟨n,e,H,acc,h,by rw[<-x];simp,by simpa using x,Nat.le_refl _,B,.nil e H⟩
 | o::os,g,i,n,e,H,acc,K,hd,x,B,h=>by
  have M:ops[i]? = some o:=(by have:=congrArg (λl=>l[0]?) hd;simpa using this);have z:ops.toList.drop (i+1)=os:=(by have:=congrArg (drop 1) hd;simpa[drop_drop] using this);have run:∀(q:B5) (g:List Nat),Jl ops o q true->(Ff P T an n o (ev q) H λc m=>Mg (M4 (N2 nl o.dst) c.r) λr=>Oz c.wr λwr=>Kd c.rd λR=>Kd wr λN=>K8 q o.dst r H wr λe H=>K9 P T an nl ops os g m e H (acc++[(R,N)]) K) ->
    ∃f e' H' accs,K f e' H' accs/\accs.take i=acc/\accs.length=i+(o::os).length/\n<=f/\F8 H' f/\Run P ops (λk=>accs.getD k ([],[])) (range' i (o::os).length) q H e' H':=by
   intro q g hg u;obtain⟨c,m,h1,h2,h3,Z,X⟩:=Aoj L B u;simp only[Vx,Ais,Ait,Ade]at h3;obtain⟨f,e',H',accs,G,A,U,S,E,D⟩:=Ai3 L os g (i+1) m _ _ _ K z (by simp[x]) X h3;have J:accs[i]? = some (c.rd.map (·.1),c.wr.map (·.1)):=(by have Y:(accs.take (i+1))[i]? = accs[i]?:=H8 ω;rw[<-Y,A,getElem?_append_right ω];simp[x]);have y:accs.getD i ([],[])=(c.rd.map (·.1),c.wr.map (·.1)):=(by simp[getD,J]);refine⟨f,e',H',accs,G,?_,by simp only[length_cons];omega,ω,E,?_⟩
   .have:=congrArg (take i) A;rw[take_take]at this;simpa[x] using this
   .rw[length_cons,range'_succ];refine .cons o (M4 (N2 nl o.dst) c.r) c.wr ⟨M,.inl ⟨hg,_,h1.nils (N2 nl o.dst),h2,?_,?_,rfl,rfl⟩⟩ D
    .intro p hp;show p.1∈(accs.getD i ([],[])).1;rw[y];exact mem_map_of_mem hp
    .intro p hp;show p.1∈(accs.getD i ([],[])).2;rw[y];exact mem_map_of_mem hp
  have skip:∀(q:B5) (g:List Nat),Jl ops o q false->(K8 q o.dst (.val undef) H [] λe H=>K9 P T an nl ops os g n e H (acc++[([],[])]) K) ->
    ∃f e' H' accs,K f e' H' accs/\accs.take i=acc/\accs.length=i+(o::os).length/\n<=f/\F8 H' f/\Run P ops (λk=>accs.getD k ([],[])) (range' i (o::os).length) q H e' H':=by
   intro q g hg u;rw[Ade]at u;obtain⟨f,e',H',accs,G,A,U,S,E,D⟩:=Ai3 L os g (i+1) n _ _ _ K z (by simp[x]) B u;refine⟨f,e',H',accs,G,?_,by simp only[length_cons];omega,ω,E,?_⟩
   .have:=congrArg (take i) A;rw[take_take]at this;simpa[x] using this
   .rw[length_cons,range'_succ];exact .cons o (.val undef) [] ⟨M,.inr ⟨hg,rfl,rfl⟩⟩ D
  simp only[K9]at h;cases j:o.guard with
  | none=>rw[j]at h;exact run e g (by unfold Jl;rw[j]) h
  | some p=>
   rw[j]at h;simp only[]at h;cases u:(ops[p.1]?).bind (·.dst) with
   | none=>rw[u]at h;exact h.elim
   | some s=>
    rw[u]at h;simp only[]at h;split at h
    .rename_i b hb;have hg:∀on,on=(b==p.2)->Jl ops o e on:=(by intro on I;unfold Jl;rw[j];exact⟨s,.bool b,u,hb,by rw[I];cases b <;> cases p.2 <;> rfl⟩);cases hk:g.elem s with
     | true=>
      rw[hk]at h;simp only[]at h;cases b with
      | true=>cases hp:p.2 with| true=>rw[hp]at h;exact run e _ (hg true (by rw[hp];rfl)) h| false=>rw[hp]at h;exact skip e _ (hg false (by rw[hp];rfl)) h
      | false=>cases hp:p.2 with| true=>rw[hp]at h;exact skip e _ (hg false (by rw[hp];rfl)) h| false=>rw[hp]at h;exact run e _ (hg true (by rw[hp];rfl)) h
     | false=>
      rw[hk]at h;simp only[]at h;cases b with
      | true=>rw[Adg hb]at h;simp only[cond_true]at h;cases hp:p.2 with| true=>rw[hp]at h;exact run e _ (hg true (by rw[hp];rfl)) h| false=>rw[hp]at h;exact skip e _ (hg false (by rw[hp];rfl)) h
      | false=>rw[Adg hb]at h;simp only[cond_false]at h;cases hp:p.2 with| true=>rw[hp]at h;exact skip e _ (hg false (by rw[hp];rfl)) h| false=>rw[hp]at h;exact run e _ (hg true (by rw[hp];rfl)) h
    .rename_i vs V;exact skip e _ (by unfold Jl;rw[j];exact⟨s,_,u,V,rfl⟩) h
    .exact h.elim
end
section
variable {P:Program} {C:Cfg} {F:A5} {W:World}
variable {x:AV} {n:Nat}
theorem Aom {c:Code} {Q:Exit->Act->World->Prop} {a:Act} {w:World} (J:Nat->Act->World->Prop) (k0:Nat) (h0:J k0 a w) (g:∀k a w,J k a w->c.wp P (Exit.then (λq w'=>∃s,s<k/\J s q w') Q) a w):(Code.loop c).wp P Q a w:=by
 intro b u cs;have key:∀k a w,J k a w->∃e q w',Q e q w'/\Arrives P (lone (b.at a (.code c :: .inLoop c::u)) cs w) b u cs e q w':=by
  intro k;induction k using Nat.strongRecOn with
  | _ k ih=>intro a w D;obtain⟨e,j,i,hq,f⟩:=g k a w D b (.inLoop c::u) cs;cases e with| normal=>obtain⟨s,z,A⟩:=hq;obtain⟨E,G,B,y,h⟩:=ih s z j i A;exact⟨E,G,B,y,.of_steps (Steps.trans f (.one step_inLoop)) h⟩| exit id=>exact⟨_,j,i,hq,.pass (x:=.inLoop c) rfl (λ_ _=>.inl ψ) f⟩| goto l=>exact⟨_,j,i,hq,.pass (x:=.inLoop c) rfl (λ_ _=>.inl ψ) f⟩| ret=>exact⟨_,j,i,hq,.pass (x:=.inLoop c) rfl (λ_ _=>.inl ψ) f⟩| panic I=>exact⟨_,j,i,hq,.pass (x:=.inLoop c) rfl (λ_ _=>.inl ψ) f⟩| outgrown=>exact⟨_,j,i,hq,.pass (x:=.inLoop c) rfl (λ_ _=>.inl ψ) f⟩
 obtain⟨e,q,w',hq,f⟩:=key k0 a w h0;exact⟨e,q,w',hq,.of_steps (.one step_loop) f⟩
theorem A0b (h:x.under2 n=true) (hx:∀cs,x≠.agg cs):x.under1 n=true:=by cases x <;> first|exact h|exact (hx _ rfl).elim
theorem Conc.restrict {σ:A5} {ι B:Cd} {H H':Hp} (D:∀h,h<n->B h=ι h) (I:∀h,h<n->H' h=H h) {v:Value} (hx:x.under n=true) (h:Conc σ ι H x v):Conc σ B H' x v:=by
 have l:∀{x:AV} {v:Value},x.under0 n=true->Conc σ ι H x v->Conc σ B H' x v:=by intro x v hx h;cases h with| cc h=>exact .cc h| loc h off b hb=>exact .loc h off b (by rw[D h (H4 hx)];exact hb)| mp h b hb=>exact .mp h b (by rw[D h (H4 hx)];exact hb)| vec h n b hb=>exact .vec h n b (by rw[D h (H4 hx)];exact hb)| arr h k off len v J G z=>have y:=H4 hx;exact .arr h k off len v (by rw[I h y];exact J) (by rw[D h y,I h y];exact G) z| el h k i j v J G z=>have y:=H4 hx;exact .el h k i j v (by rw[I h y];exact J) (by rw[D h y,I h y];exact G) z| ref cs b off C E fr g R hc h1 S=>exact .ref cs b off C E fr g R hc h1 S| agg=>cases hx| tup=>cases hx| fn=>cases hx
 have key:∀{x:AV} {v:Value},x.under1 n=true->Conc σ ι H x v->Conc σ B H' x v:=by intro x v hx h;cases x with| fn f cs=>obtain⟨vs,rfl,A,h⟩:=h.fn_inv;exact .fn f cs vs A λi c u h1 h2=>l (Ej.1 hx c (Fw h1)) (h i c u h1 h2)| agg cs=>cases hx| tup cs=>cases hx| val u=>exact l (x:=(.val u)) hx h| loc q off=>exact l (x:=(.loc q off)) hx h| arr q k off len=>exact l (x:=(.arr q k off len)) hx h| el q k i j=>exact l (x:=(.el q k i j)) hx h| mp q=>exact l (x:=(.mp q)) hx h| vec q m=>exact l (x:=(.vec q m)) hx h| ref cs=>exact l (x:=(.ref cs)) hx h| sl sz xs=>exact l (x:=(.sl sz xs)) hx h| fb s=>exact l (x:=(.fb s)) hx h
 have cells:∀{cs:List AV},cs.all (AV.under1 n)=true->∀(i:Nat) (c:AV) (u:Value),cs[i]? = some c->Conc σ ι H c u->Conc σ B H' c u :=
  λM i c u hc h=>key (Ej.1 M c (Fw hc)) h
 cases x with
 | agg cs=>cases h with| cc h=>exact .cc h| agg _ vs A h=>exact .agg cs vs A λi c u h1 h2=>cells hx i c u h1 (h i c u h1 h2)
 | tup cs=>
  cases h with
  | cc h=>exact .cc h
  | tup _ vs A h=>refine .tup cs vs A λi c u h1 h2=>?_;have hf:=Ej.1 hx c (Fw h1);have hc:=h i c u h1 h2;cases c with| agg ds=>obtain⟨N,rfl,L,G⟩:=hc.agg_inv;exact .agg ds N L λj d v g1 g2=>cells hf j d v g1 (G j d v g1 g2)| _=>exact key (A0b hf (by intro cs e;cases e)) hc
 | fn f cs=>cases h with| cc h=>exact .cc h| fn _ _ vs A h=>exact .fn f cs vs A λi c u h1 h2=>cells hx i c u h1 (h i c u h1 h2)
 | val v=>exact key rfl h
 | loc h off=>exact key hx h
 | arr h k off len=>exact key hx h
 | el h k i j=>exact key hx h
 | mp h=>exact key hx h
 | vec h n=>exact key hx h
 | ref cs=>exact key rfl h
 | sl sz xs=>exact key rfl h
 | fb s=>exact key rfl h
theorem H6.spec {H H':Hp} {n:Nat}:∀{k:Nat},H6 H H' k n->∀h,h<k->H h=H' h/\(H' h).under n=true
 | 0,_,h,b=>ω
 | k+1,c,h,b=>by
  by_cases e:h=k
  .subst e;exact c.1
  .exact H6.spec c.2 h ω
theorem H5.spec {e:B5}:∀{l:List (Nat×AV)},H5 e l->∀p∈l,e p.1=p.2
 | [],_,p,hp=>by cases hp
 | q::l,h,p,hp=>by
  rcases mem_cons.1 hp with rfl|hp
  .exact h.1
  .exact H5.spec h.2 p hp
theorem Aon (c:List Nat) (e:B5) (u:Nat->Value) (l:List (Nat×AV)) (s:Nat):(∃p∈l,p.1=s/\Kr c e u l s=p.2)\/(s∈c/\Kr c e u l s = .val (u s))\/(s ∉ c/\Kr c e u l s=e s):=by
 have base:(s∈c/\(c.foldr (λs e=>Ba e s (.val (u s))) e) s = .val (u s))\/(s ∉ c/\(c.foldr (λs e=>Ba e s (.val (u s))) e) s=e s):=by
  induction c with
  | nil=>exact .inr ⟨ψ,rfl⟩
  | cons t c ih=>
   simp only[foldr_cons];by_cases b:s=t
   .subst b;exact .inl ⟨ψ,Co _ _ _⟩
   .rw[Dh _ _ b];rcases ih with⟨h1,h2⟩|⟨h1,h2⟩
    .exact .inl ⟨by simp[h1],h2⟩
    .exact .inr ⟨by simp[h1,b],h2⟩
 unfold Kr;induction l with
 | nil=>exact .inr base
 | cons p l ih=>
  simp only[foldr_cons];by_cases b:s=p.1
  .exact .inl ⟨p,ψ,b.symm,by rw[b];exact Co _ _ _⟩
  .rw[Dh _ _ b];rcases ih with⟨q,hq,h1,h2⟩|h|h
   .exact .inl ⟨q,by simp[hq],h1,h2⟩
   .exact .inr (.inl h)
   .exact .inr (.inr h)
theorem Aoo:∀(g:List Nat) {e:B5} {H:Hp} {K:B5->Hp->Prop} {n:Nat} {σ:A5} {ι:Cd} {a:Act} {w:World},Adf g e H K->St σ ι H F W w->Ft σ ι H e a->F8 H n -> ∃f e' H',K e' H'/\Le σ ι H f ι H'/\St f ι H' F W w/\Ft f ι H' e' a/\F8 H' n
 | [],e,H,K,n,σ,ι,a,w,h,s,he,c=>⟨σ,e,H,h,Le.refl _ _ _,s,he,c⟩
 | t::g,e,H,K,n,σ,ι,a,w,h,s,he,c=>by
  simp only[Adf]at h;split at h
  .rename_i hd k len hx;split at h
   .rename_i E sz xs l;obtain⟨hk,S,h⟩:=h;obtain⟨D,b,G,u⟩:=s.freeze l;have x:Ft D ι (Ba H hd .dead) (Ba e t (.sl sz xs)) a:=by
     intro q hq;by_cases A:q=t
     .subst A;rw[Co];have hc:=he q hq;rw[hx]at hc;have:=u 0 len _ ω (hc.arr_inv l hk);rw[drop_zero,take_of_length_le ω]at this;exact .cc this
     .rw[Dh _ _ A];exact (he q hq).mono b
    have i:F8 (Ba H hd .dead) n:=(by intro m z;have j:hd≠m:=(by intro y;subst y;have:=c hd z;rw[l]at this;cases this);rw[Dh _ _ (Ne.symm j)];exact c m z);obtain⟨B,y,R,N,M,L,J,I⟩:=Aoo g h G x i;exact⟨B,y,R,N,b.trans M,L,J,I⟩
   .exact h.elim
  .exact h.elim
theorem Aop {N:Nat} {ops:Array Oper} (h:(ops.toList.all λo=>(Mf ops o).all λs=>Nat.blt s N)=true):Acy ops N:=by intro i o c s b;rw[Ej]at h;have:=h o (by simpa using Array.mem_of_getElem? c);rw[Ej]at this;exact H4 (this s b)
theorem Tb (hT:Da P C.T) (hm:P.follows .mixedOrders=true):∀(c:Code) (Q':Ex->Nat->B5->Hp->Prop) (n:Nat) (e:B5) (H:Hp) (σ:A5) (ι:Cd) (a:Act) (w:World) (Q:Exit->Act->World->Prop), Lb a.tmps.size c=true->vc P C c Q' n e H->St σ ι H F W w->Ft σ ι H e a->F8 H n -> (∀x n' e' H' σ' ι' Z w',Q' x n' e' H'->Le σ ι H σ' ι' H'->St σ' ι' H' F W w'->Ft σ' ι' H' e' Z->F8 H' n'->n<=n'->Z.tmps.size=a.tmps.size->Z.defers=a.defers->Gi (F9 c) a Z->Q x.out Z w')->c.wp P Q a w
 | .skip,Q',n,e,H,σ,ι,a,w,Q,_,h,s,he,S,hk=>wp_skip (hk .normal n e H σ ι a w h (Le.refl _ _ _) s he S (Nat.le_refl _) rfl rfl (Gi.refl _ _))
 | .exit id,Q',n,e,H,σ,ι,a,w,Q,_,h,s,he,S,hk=>wp_exit (hk (.exit id) n e H σ ι a w h (Le.refl _ _ _) s he S (Nat.le_refl _) rfl rfl (Gi.refl _ _))
 | .ret,Q',n,e,H,σ,ι,a,w,Q,_,h,s,he,S,hk=>wp_ret (hk .ret n e H σ ι a w h (Le.refl _ _ _) s he S (Nat.le_refl _) rfl rfl (Gi.refl _ _))
 | .region id ops draw,Q',n,e,H,σ,ι,a,w,Q,u,h,s,he,S,hk=>by
  simp only[vc]at h;obtain⟨σ0,e0,b3,h,ap,s0,az,ba⟩:=Aoo _ h s he S;obtain⟨n',e',H',accs,hK,_,bh,av,hf,aj⟩:=Ai3 hT ops.toList [] 0 n e0 b3 [] _ ψ rfl ba h;have ar:=Aop u;cases draw with
  | false=>simp only[cond_false]at hK;refine wp_region ?_;have:range ops.size=range' 0 ops.toList.length:=(by rw[range_eq_range'];simp);rw[this];refine aj.wpOps s0 az ar ?_;intro σ' ι' Z w' le s' ao g l hu;exact hk .normal n' e' H' σ' ι' Z w' hK (ap.trans le) s' ao hf av g l hu
  | true=>
   simp only[cond_true]at hK;obtain⟨b9,hK⟩:=hK;refine wp_region_any hm ?_;have L:ops=ops.toList.toArray:=ψ;rw[L];simp only[size_toArray];refine Aij (accs:=accs) (e':=e') (H':=H') b9 ops.toList.length _ (range' 0 ops.toList.length) e0 b3 σ0 ι a _ (by rw[<-L];exact aj) (pairwise_lt_range' ..) ?_ ψ ?_ ψ (s0.drew _) az (by rw[<-L];exact ar) ?_
   .intro i;simp only[mem_range'_1,Array.getD_eq_getD_getElem?];constructor
    .rintro⟨_,h2⟩;refine⟨ω,?_⟩;have:i<ops.size:=(by simpa using h2);simp[this]
    .rintro⟨h1,_⟩;omega
   .intro k o bg hl;exfalso;simp only[Array.getD_eq_getD_getElem?]at hl;by_cases ah:k<ops.size
    .simp[ah]at hl
    .simp[ah]at hl
   .intro σ' ι' Z w' le s' ao g l hu;exact hk .normal n' e' H' σ' ι' Z w' hK (ap.trans le) s' ao hf av g l (by rw[<-L]at hu;exact hu)
 | .seq c1 c2,Q',n,e,H,σ,ι,a,w,Q,u,h,s,he,S,hk=>by simp only[Lb,Fr]at u;simp only[vc]at h;refine wp_seq (Tb hT hm c1 _ n e H σ ι a w _ u.1 h s he S ?_);intro x n1 L N D G a1 R hq f A j z B g l hu;cases x with| normal=>refine Tb hT hm c2 Q' n1 L N D G a1 R Q (by rw[g];exact u.2) hq A j z ?_;intro x n2 e2 H2 σ2 ι2 a2 w2 b8 U s2 ae ag ac V X ab;exact hk x n2 e2 H2 σ2 ι2 a2 w2 b8 (f.trans U) s2 ae ag ω (V.trans g) (X.trans l) ((hu.mono (by simp[F9];exact λs h=>.inl h)).trans (ab.mono (by simp[F9];exact λs h=>.inr h)))| exit id=>exact hk (.exit id) n1 L N D G a1 R hq f A j z B g l (hu.mono (by simp[F9];exact λs h=>.inl h))| ret=>exact hk .ret n1 L N D G a1 R hq f A j z B g l (hu.mono (by simp[F9];exact λs h=>.inl h))
 | .cond x c1 c2,Q',n,e,H,σ,ι,a,w,Q,u,h,s,he,S,hk=>by
  simp only[Lb,Fr]at u;simp only[vc,Aok]at h;split at h
  .rename_i t hx;have hc:=he.eval (x:=x) (λt ht=>by cases x with| tmp q=>cases ht;exact H4 u.1.1| _=>cases ht)
   rw[hx]at hc;have hv:=hc.val_inv;cases t with| true=>refine wp_cond_true hv (Tb hT hm c1 Q' n e H σ ι a w Q u.1.2 h s he S ?_);intro x n1 L N D G a1 R hq f A j z B g l hu;exact hk x n1 L N D G a1 R hq f A j z B g l (hu.mono (by simp[F9];exact λs h=>.inl h))| false=>refine wp_cond_false hv (Tb hT hm c2 Q' n e H σ ι a w Q u.2 h s he S ?_);intro x n1 L N D G a1 R hq f A j z B g l hu;exact hk x n1 L N D G a1 R hq f A j z B g l (hu.mono (by simp[F9];exact λs h=>.inr h))
  .exact h.elim
 | .block id c,Q',n,e,H,σ,ι,a,w,Q,u,h,s,he,S,hk=>by
  simp only[vc]at h;refine wp_block (Tb hT hm c _ n e H σ ι a w _ u h s he S ?_);intro x n1 L N D G a1 R hq f A j z B g l hu;cases x with
  | normal=>exact hk .normal n1 L N D G a1 R hq f A j z B g l hu
  | exit i=>
   simp only[Ex.out,Exit.inBlock];by_cases hi:i=id
   .subst hi;rw[if_pos rfl];have:Nat.beq i i=true:=Nat.beq_refl i;simp only[this,cond_true]at hq;exact hk .normal n1 L N D G a1 R hq f A j z B g l hu
   .rw[if_neg hi];have:Nat.beq i id=false:=by
     cases hb:Nat.beq i id
     .rfl
     .exact (hi (Gg hb)).elim
    simp only[this,cond_false]at hq;exact hk (.exit i) n1 L N D G a1 R hq f A j z B g l hu
  | ret=>exact hk .ret n1 L N D G a1 R hq f A j z B g l hu
 | .loop c,Q',n,e,H,σ,ι,a,w,Q,u,h,s,he,S,hk=>by
  simp only[vc]at h;obtain⟨I,aq,iv,hv,m,i0,hb,h0,b6,be,step⟩:=h;have b4:∀x,n<=x->ι x = .none:=(by intro x hx;have:=s.obj x;unfold C2 at this;rw[S x hx]at this;exact this);have am:∀i,∀p∈hv i,p.1<n:=(by intro i p hp;have:=hb i;unfold La at this;rw[Fr,Ej,Ej]at this;exact H4 (this.2 p hp));have ax:∀i,∀p∈iv i,p.2.under n=true:=(by intro i p hp;have:=hb i;unfold La at this;rw[Fr,Ej,Ej]at this;exact this.1 p hp);have ai:∀i,F8 (Cq H (hv i)) n:=(by intro i x hx;rw[Vs (λp hp e=>by have:=am i p hp;omega)];exact S x hx);let J:Nat->Act->World->Prop:=λk Z w'=>∃i σ' ι',m i=k/\aq i/\Le σ ι H σ' ι' (Cq H (hv i))/\St σ' ι' (Cq H (hv i)) F W w' /\
   Ft σ' ι' (Cq H (hv i)) (Kr (F9 c) e (λs=>Z.tmps.getD s undef) (iv i)) Z/\Z.tmps.size=a.tmps.size/\Z.defers=a.defers/\Gi (F9 c) a Z
  have a6:∀(i:I) (D:A5) (G:Cd) (N:Hp) (L:B5) (a1:Act) (R:World),aq i->H5 L (iv i)->H6 N (Cq H (hv i)) n n->Le σ ι H D G N->St D G N F W R->Ft D G N L a1->a1.tmps.size=a.tmps.size ->
    a1.defers=a.defers->Gi (F9 c) a a1->J (m i) a1 R:=by
   intro i D G N L a1 R hi au ay f A j M Y a8;let ι2:Cd:=λx=>if x<n then G x else .none
   have a7:∀x,x<n->ι2 x=G x:=λx hx=>if_pos hx;have aa:∀x,x<n->Cq H (hv i) x=N x:=λx hx=>((ay.spec) x hx).1.symm;have U:Le σ ι H D ι2 (Cq H (hv i)):=by
    refine⟨f.sto,λx=>?_⟩;by_cases hx:x<n
    .rw[a7 x hx,aa x hx];exact f.obj x
    .rw[b4 x ω,S x ω];exact HLe.of_none
   have s2:St D ι2 (Cq H (hv i)) F W R:=by
    refine⟨A.sto,A.fra,λx=>?_,?_,A.os,A.tape,A.output,A.glo,A.drw⟩
    .by_cases hx:x<n
     .have ho:=A.obj x;have ak:=((ay.spec) x hx).2;unfold C2 at ho ⊢;rw[aa x hx]at ak ⊢;rw[a7 x hx];cases af:N x with
      | none=>rw[af]at ho;exact ho
      | dead=>trivial
      | cells E cs=>rw[af]at ho ak;obtain⟨b,Cc,g1,g2,g3,g4,g5,g6⟩:=ho;refine⟨b,Cc,g1,g2,g3,g4,g5,λq cq v hq b5=>(g6 q cq v hq b5).restrict a7 aa ?_⟩;have:=Ej.1 ak cq (Fw hq);exact Aix this
      | rows E sz xs=>rw[af]at ho;exact ho
      | map es=>rw[af]at ho;exact ho
     .unfold C2;rw[ai i x ω];exact if_neg hx
    .intro x y b lx ly bx b0;have hx:x<n:=by
      rcases Nat.lt_or_ge x n with hx|hx
      .exact hx
      .rw[ai i x hx]at lx;cases lx
     have hy:y<n:=by
      rcases Nat.lt_or_ge y n with hy|hy
      .exact hy
      .rw[ai i y hy]at ly;cases ly
     rw[aa x hx]at lx;rw[aa y hy]at ly;rw[a7 x hx]at bx;rw[a7 y hy]at b0;exact A.inj x y b lx ly bx b0
   refine⟨i,D,ι2,rfl,hi,U,s2,?_,M,Y,a8⟩;intro q hq;rcases Aon (F9 c) e (λs=>a1.tmps.getD s undef) (iv i) q with⟨p,hp,rfl,ad⟩|⟨hw,ad⟩|⟨hw,ad⟩
   .rw[ad,<-au.spec p hp];refine (j p.1 hq).restrict a7 aa ?_;rw[au.spec p hp];exact ax i p hp
   .rw[ad];exact .of_val _
   .rw[ad,a8 q hw];exact (he q ω).mono U
  refine Aom J (m i0) (a6 i0 σ ι H e a w h0 b6 be (Le.refl _ _ _) s he rfl rfl (Gi.refl _ _)) ?_;rintro k a1 R ⟨i,D,G,rfl,hi,f,A,j,M,Y,a8⟩;refine Tb hT hm c _ n _ _ D G a1 R _ (by rw[M];exact u) (step i (λs=>a1.tmps.getD s undef) hi) A j (ai i) ?_;intro x n2 e2 H2 σ2 ι2 a2 w2 hq U s2 ae ag ac V X ab;cases x with| normal=>obtain⟨i',bb,b7,bf,ah⟩:=hq;exact⟨m i',ah,a6 i' σ2 ι2 H2 e2 a2 w2 bb b7 bf (f.trans U) s2 ae (V.trans M) (X.trans Y) (a8.trans ab)⟩| exit id=>exact hk (.exit id) n2 e2 H2 σ2 ι2 a2 w2 hq (f.trans U) s2 ae ag ac (V.trans M) (X.trans Y) (a8.trans ab)| ret=>exact hk .ret n2 e2 H2 σ2 ι2 a2 w2 hq (f.trans U) s2 ae ag ac (V.trans M) (X.trans Y) (a8.trans ab)
 | .rangeFunc ..,_,_,_,_,_,_,_,_,_,_,h,_,_,_,_=>by simp only[vc]at h
 | .scope _,_,_,_,_,_,_,_,_,_,_,h,_,_,_,_=>by simp only[vc]at h
 | .label _,_,_,_,_,_,_,_,_,_,_,h,_,_,_,_=>by simp only[vc]at h
 | .goto _,_,_,_,_,_,_,_,_,_,_,h,_,_,_,_=>by simp only[vc]at h
 | .refuse _,_,_,_,_,_,_,_,_,_,_,h,_,_,_,_=>by simp only[vc]at h
end
def Adh (T:C9) (e:B5) (H:Hp):ResultVar->Option AV
 | .tmp t=>some (e t)
 | .cell a t=> match e a with
  | .loc h off=> match H h with
   | .cells _ cs=> match T t with
    | some i=>bif i.isAgg then (bif Nat.ble (off+i.size) cs.length then some (.agg ((cs.drop off).take i.size)) else none) else cs[off]?
    | none=>none
   | _=>none
  | _=>none
def Adi (x:AV) (H:Hp) (K:AV->Hp->Prop):Prop := match x with
 | .arr h k 0 len=> match H h with
  | .rows _ sz xs=>H9 k xs (H9 len xs (K (.sl sz xs) (Ba H h .dead)))
  | _=>False
 | x=>K x H
def Adj:List AV->Hp->(List AV->Hp->Prop)->Prop
 | [],H,K=>K [] H
 | x::xs,H,K=>Adi x H λy H=>Adj xs H λys H=>K (y::ys) H
def fin (x:AV) (H:Hp) (K:AV->Hp->Prop):Prop := match x with
 | .agg cs=>Adj cs H λcs H=>K (.agg cs) H
 | x=>Adi x H K
def Adk:List AV->Hp->(List AV->Prop)->Prop
 | [],_,K=>K []
 | x::xs,H,K=>fin x H λy H=>Adk xs H λys=>K (y::ys)
def V1 (T:C9) (e:B5) (H:Hp):List ResultVar->Option (List AV)
 | []=>some []
 | r::rs=> match Adh T e H r with
  | none=>none
  | some x=> match V1 T e H rs with
   | none=>none
   | some xs=>some (x::xs)
def Ys:List AV->AV
 | [x]=>x
 | xs=>.tup xs
def Tc (T:C9) (b:List ResultVar) (K:AV->Prop) (e:B5) (H:Hp):Prop := match V1 T e H b with
 | none=>False
 | some xs=>Adk xs H λys=>K (Ys ys)
def V2 (args:List AV):B5:=λn=>args.getD n (.val undef)
def Td:ResultVar->Nat
 | .tmp t=>t
 | .cell a _=>a
def V3 (fn:Func) (c:Code) (k:Nat):Bool:=Lb fn.ntmps c&&(fn.results.toList.all λr=>Nat.blt (Td r) fn.ntmps)&&Nat.ble k fn.ntmps
section
variable {P:Program} {T:C9} {F:A5} {W w:World}
variable {σ:A5} {x:AV} {K:AV->Hp->Prop} {a:Act} {e:B5} {ι:Cd} {H:Hp} {v:Value}
theorem Aoq (h:Adi x H K) (s:St σ ι H F W w) (hc:Conc σ ι H x v) : ∃b y H',K y H'/\Le σ ι H b ι H'/\St b ι H' F W w/\Conc b ι H' y v:=by
 unfold Adi at h;split at h
 .rename_i hd k len;split at h
  .rename_i E sz xs g;obtain⟨hk,l,h⟩:=h;obtain⟨i,c,j,f⟩:=s.freeze g;refine⟨i,.sl sz xs,Ba H hd .dead,h,c,j,.cc ?_⟩;have:=f 0 len _ ω (hc.arr_inv g hk);rwa [drop_zero,take_of_length_le ω]at this
  .exact h.elim
 .exact⟨σ,_,H,h,Le.refl _ _ _,s,hc⟩
theorem Aor:∀{cs:List AV} {vs:List Value} {H:Hp} {K:List AV->Hp->Prop} {σ:A5} {ι:Cd},Adj cs H K->St σ ι H F W w->vs.length=cs.length->(∀(i:Nat) (c:AV) (v:Value),cs[i]? = some c->vs[i]? = some v->Conc σ ι H c v) -> ∃j ys H',K ys H'/\Le σ ι H j ι H'/\St j ι H' F W w/\vs.length=ys.length/\∀(i:Nat) (c:AV) (v:Value),ys[i]? = some c->vs[i]? = some v->Conc j ι H' c v
 | [],vs,H,K,σ,ι,h,s,g,hc=>⟨σ,[],H,h,Le.refl _ _ _,s,g,hc⟩
 | x::cs,[],H,K,σ,ι,h,s,g,hc=>by simp at g
 | x::cs,v::vs,H,K,σ,ι,h,s,g,hc=>by simp only[Adj]at h;obtain⟨B,y,D,h1,f,z,c1⟩:=Aoq h s (hc 0 x v ψ ψ);obtain⟨l,ys,A,h2,b,q,k,c2⟩:=Aor (vs:=vs) h1 z (by simpa using g) (λi c u hi hu=>(hc (i+1) c u (by simpa using hi) (by simpa using hu)).mono f);refine⟨l,y::ys,A,h2,f.trans b,q,by simp[k],λi c u hi hu=>?_⟩;cases i with| zero=>simp at hi hu;subst hi;subst hu;exact c1.mono b| succ i=>exact c2 i c u (by simpa using hi) (by simpa using hu)
theorem Aos (h:fin x H K) (s:St σ ι H F W w) (hc:Conc σ ι H x v) : ∃b y H',K y H'/\Le σ ι H b ι H'/\St b ι H' F W w/\Conc b ι H' y v:=by
 unfold fin at h;split at h
 .rename_i cs;obtain⟨vs,rfl,q,l⟩:=hc.agg_inv;obtain⟨j,ys,z,h1,f,k,g,c1⟩:=Aor (vs:=vs.toList) h s (by simpa using q) (λi c u hi hu=>l i c u hi (by simpa using hu));exact⟨j,.agg ys,z,h1,f,k,.agg ys vs (by simpa using g) (λi c u hi hu=>c1 i c u hi (by simpa using hu))⟩
 .exact Aoq h s hc
theorem Aot:∀{xs:List AV} {vs:List Value} {H:Hp} {K:List AV->Prop} {σ:A5} {ι:Cd},Adk xs H K->St σ ι H F W w->vs.length=xs.length->(∀(i:Nat) (c:AV) (v:Value),xs[i]? = some c->vs[i]? = some v->Conc σ ι H c v) -> ∃j ys H',K ys/\Le σ ι H j ι H'/\St j ι H' F W w/\vs.length=ys.length/\∀(i:Nat) (c:AV) (v:Value),ys[i]? = some c->vs[i]? = some v->Conc j ι H' c v
 | [],vs,H,K,σ,ι,h,s,g,hc=>⟨σ,[],H,h,Le.refl _ _ _,s,g,hc⟩
 | x::cs,[],H,K,σ,ι,h,s,g,hc=>by simp at g
 | x::cs,v::vs,H,K,σ,ι,h,s,g,hc=>by simp only[Adk]at h;obtain⟨B,y,D,h1,f,z,c1⟩:=Aos h s (hc 0 x v ψ ψ);obtain⟨l,ys,A,h2,b,q,k,c2⟩:=Aot (vs:=vs) h1 z (by simpa using g) (λi c u hi hu=>(hc (i+1) c u (by simpa using hi) (by simpa using hu)).mono f);refine⟨l,y::ys,A,h2,f.trans b,q,by simp[k],λi c u hi hu=>?_⟩;cases i with| zero=>simp at hi hu;subst hi;subst hu;exact c1.mono b| succ i=>exact c2 i c u (by simpa using hi) (by simpa using hu)
def Te (b:Array Value):ResultVar->Sem Value
 | .tmp t=>pure (b.getD t undef)
 | .cell a t=>do loadVar t (<-asAddr (b.getD a undef))
theorem A0c (B:Da P T) (s:St σ ι H F W w) (he:Ft σ ι H e a) {r:ResultVar} (A:Td r<a.tmps.size) (h:Adh T e H r=some x) : ∃v,(Te a.tmps r).run P w = .ok v w/\Conc σ ι H x v:=by
 cases r with
 | tmp t=>simp only[Adh]at h;cases h;exact⟨_,rfl,he t A⟩
 | cell p t=>
  simp only[Adh]at h;split at h
  .rename_i hd off hx;split at h
   .rename_i E cs J;split at h
    .rename_i i ht;have hc:=he p A;rw[hx]at hc;obtain⟨b,hb,z⟩:=hc.loc_inv;have k:=s.obj hd;unfold C2 at k;rw[J]at k;obtain⟨M,C,I,_,_,h3,L,G⟩:=k;rw[hb]at I;cases I;have h1:=Acj (B t i ht) w;cases y:i.isAgg with
     | true=>rw[y]at h h1;simp only[cond_true]at h;cases g:Nat.ble (off+i.size) cs.length with| false=>rw[g]at h;cases h| true=>rw[g]at h;cases h;have g:=Gy g;have h2:=Nv (B t i ht) w;have D:=run_loadCells_list (P:=P) w ⟨b,off,none⟩ ((C.toList.drop off).take i.size) (by intro j v hj;have f:j<i.size:=(by have:=(Gx.1 hj).1;simp at this;omega);rw[H8 f,getElem?_drop,Ha]at hj;rw[K5,Kp h3];exact hj);have q:((C.toList.drop off).take i.size).length=i.size:=ζ;rw[q]at D;refine⟨_,by simp only[Te,z,asAddr,Sem.run_bind,Sem.run_pure,Result.andThen_ok,loadVar,h1,if_true,h2,D];rfl,?_⟩;refine .agg _ _ ζ (λj c u g1 g2=>?_);have f:j<i.size:=(by have:=(Gx.1 g1).1;simp at this;omega);rw[H8 f,getElem?_drop]at g1;rw[getElem?_toArray,H8 f,getElem?_drop,Ha]at g2;exact G _ c u g1 g2
     | false=>rw[y]at h h1;simp only[cond_false]at h;have f:off<C.size:=(by rw[L];exact (Gx.1 h).1);have l:w.cell? ⟨b,off,none⟩=some C[off]:=(by rw[Kp h3];simp[f]);exact⟨C[off],by simp[Te,z,asAddr,loadVar,h1,l],G off x _ h (by simp[f])⟩
    .cases h
   .cases h
  .cases h
theorem Ai4 (j:Da P T) {e:B5} {H:Hp} {σ:A5} {ι:Cd} {a:Act} (s:St σ ι H F W w) (he:Ft σ ι H e a):∀{b:List ResultVar} {xs:List AV},(∀r∈b,Td r<a.tmps.size)->V1 T e H b=some xs -> ∃vs:List Value,(b.mapM (Te a.tmps)).run P w = .ok vs w/\vs.length=xs.length/\∀(i:Nat) (c:AV) (v:Value),xs[i]? = some c->vs[i]? = some v->Conc σ ι H c v
 | [],xs,_,h=>by simp only[V1]at h;cases h;exact⟨[],ψ,rfl,ψ⟩
 | r::b,xs,g,h=>by
  simp only[V1]at h;split at h
  .cases h
  .rename_i x hx;split at h
   .cases h
   .rename_i ys hy;cases h;obtain⟨v,h1,c1⟩:=A0c j s he (g r ψ) hx;obtain⟨vs,h2,l,c2⟩:=Ai4 j s he (λk f=>g k (by simp[f])) hy;refine⟨v::vs,by simp[mapM_cons,h1,h2],by simp[l],λi c u hi hu=>?_⟩;cases i with| zero=>simp at hi hu;subst hi;subst hu;exact c1| succ i=>exact c2 i c u (by simpa using hi) (by simpa using hu)
theorem Aou (fn:Func) (b:Array Value):results fn b=(fn.results.mapM (Te b) >>= λvs=>pure (if h:vs.size=1 then vs[0] else .tuple vs)):=by unfold results;congr 1
theorem A0d (z:Da P T) {fn:Func} {K:AV->Prop} (s:St σ ι H F W w) (he:Ft σ ι H e a) (q:∀r∈fn.results.toList,Td r<a.tmps.size) (h:Tc T fn.results.toList K e H) : ∃v f H' r,(results fn a.tmps).run P w = .ok v w/\K r/\Le σ ι H f ι H'/\St f ι H' F W w/\Conc f ι H' r v:=by
 unfold Tc at h;split at h
 .exact h.elim
 .rename_i xs hx;obtain⟨vs,h1,x,c1⟩:=Ai4 z s he q hx;obtain⟨f,ys,H',k,le,s',b,j⟩:=Aot h s x c1;have g:(fn.results.mapM (Te a.tmps)).run P w = .ok vs.toArray w:=(by rw[Array.mapM_eq_mapM_toList];simp[h1]);refine⟨if h:vs.toArray.size=1 then vs.toArray[0] else .tuple vs.toArray,f,H',Ys ys,?_,k,le,s',?_⟩
  .rw[Aou,Sem.run_bind,g];rfl
  .match ys,vs,b,j with| [y],[v],_,j=>exact j 0 y v rfl rfl| [],[],_,_=>exact .tup [] #[] rfl ψ| y::A::ys,v::l::vs,b,j=>have:¬(v::l::vs).toArray.size=1:=ψ;rw[dif_neg this];exact .tup _ _ (by simpa using b) (λi c u hi hu=>j i c u hi (by simpa using hu))| [],_::_,b,_=>simp at b| _::_,[],b,_=>simp at b| [_],_::_::_,b,_=>simp at b| _::_::_,[_],b,_=>simp at b
theorem St.forget (s:St σ ι H F W w):St σ ι0 H0 F W w := ⟨s.sto,s.fra,λ_=>rfl,(λ_ _ _ b=>by cases b),s.os,s.tape,s.output,s.glo,s.drw⟩
theorem Aov {args:List AV} {vs:Array Value} {N:Nat} (h:Nw σ ι H args vs):Ft σ ι H (V2 args) ⟨vs++Array.replicate (N-vs.size) undef,[]⟩:=by
 intro q hq;simp only[V2,Array.getD_eq_getD_getElem?];by_cases b:q<args.length
 .have hq':q<vs.size:=(by rw[h.1];exact b);rw[Array.getElem?_append_left hq'];have h1:args[q]? = some args[q]:=getElem?_eq_getElem b;have h2:vs[q]? = some vs[q]:=Array.getElem?_eq_getElem hq';have:=h.2 q _ _ h1 h2;simpa[getD,h1,h2] using this
 .rw[Array.getElem?_append_right (by rw[h.1];omega)];have h1:args[q]? = none:=getElem?_eq_none ω;have hq':q-vs.size<N-vs.size:=(by simp at hq;have:=h.1;omega);simp only[getD,h1,Option.getD_none];simp[hq'];exact .of_val undef
end
inductive Tr where
 | leaf
 | node (l:Tr) (k:Nat) (v:TI) (r:Tr)
def Tr.find:Tr->Nat->Option TI
 | .leaf,_=>none
 | .node l k v r,t=>bif Nat.beq t k then some v else bif Nat.blt t k then l.find t else r.find t
def Tr.toList:Tr->List (Nat×TI)
 | .leaf=>[]
 | .node l k v r=>l.toList++(k,v)::r.toList
theorem Tr.find_mem:∀(t:Tr) (k:Nat) (v:TI),t.find k=some v->(k,v)∈t.toList
 | .leaf,k,v,h=>by cases h
 | .node l b f r,k,v,h=>by
  simp only[Tr.find]at h;simp only[Tr.toList,mem_append,mem_cons];cases hb:Nat.beq k b with
  | true=>rw[hb]at h;simp only[cond_true]at h;cases h;rw[Gg hb];exact .inr (.inl rfl)
  | false=>rw[hb]at h;simp only[cond_false]at h;cases c:Nat.blt k b with| true=>rw[c]at h;exact .inl (Tr.find_mem l k v h)| false=>rw[c]at h;exact .inr (.inr (Tr.find_mem r k v h))
theorem Tr.ok {P:Program} {t:Tr} (h:t.toList.map (λp=>I9 P p.1)=t.toList.map (λp=>some p.2)):Da P t.find:=by intro k v hk;have b:=t.find_mem k v hk;obtain⟨i,hi⟩:=getElem?_of_mem b;have:=congrArg (λl=>l[i]?) h;simpa[hi] using this
def Adl:List AV->Hp->(List AV->Hp->Prop)->Prop
 | [],H,K=>K [] H
 | x::xs,H,K=>fin x H λy H=>Adl xs H λys H=>K (y::ys) H
def Rf (H:Hp):Nat->List Bn->Prop
 | _,[]=>True
 | k,o::os=>H k=o/\Rf H (k+1) os
def Tf (T:C9) (fz:Bool) (c:List ResultVar) (r:AV) (b:List Bn) (e:B5) (H:Hp):Prop := match V1 T e H c with
 | none=>False
 | some xs=>bif fz then Adl xs H λys H=>Ys ys=r/\Rf H 0 b else Ys xs=r/\Rf H 0 b
section
variable {P:Program} {T:C9} {F:A5} {W w:World}
variable {σ:A5} {r:AV} {ι:Cd} {H:Hp}
theorem Rf.spec {H:Hp}:∀{os:List Bn} {k:Nat},Rf H k os->∀i,i<os.length->H (k+i)=hp os i
 | [],k,_,i,hi=>by simp at hi
 | o::os,k,h,0,_=>by simpa[hp] using h.1
 | o::os,k,h,i+1,hi=>by have:=Rf.spec h.2 i (by simpa using hi);rw[show k+(i+1)=k+1+i by omega,this];simp[hp]
theorem Aow:∀{xs:List AV} {vs:List Value} {H:Hp} {K:List AV->Hp->Prop} {σ:A5} {ι:Cd},Adl xs H K->St σ ι H F W w->vs.length=xs.length->(∀(i:Nat) (c:AV) (v:Value),xs[i]? = some c->vs[i]? = some v->Conc σ ι H c v) -> ∃j ys H',K ys H'/\Le σ ι H j ι H'/\St j ι H' F W w/\vs.length=ys.length/\∀(i:Nat) (c:AV) (v:Value),ys[i]? = some c->vs[i]? = some v->Conc j ι H' c v
 | [],vs,H,K,σ,ι,h,s,g,hc=>⟨σ,[],H,h,Le.refl _ _ _,s,g,hc⟩
 | x::cs,[],H,K,σ,ι,h,s,g,hc=>by simp at g
 | x::cs,v::vs,H,K,σ,ι,h,s,g,hc=>by simp only[Adl]at h;obtain⟨B,y,D,h1,f,z,c1⟩:=Aos h s (hc 0 x v ψ ψ);obtain⟨l,ys,A,h2,b,q,k,c2⟩:=Aow (vs:=vs) h1 z (by simpa using g) (λi c u hi hu=>(hc (i+1) c u (by simpa using hi) (by simpa using hu)).mono f);refine⟨l,y::ys,A,h2,f.trans b,q,by simp[k],λi c u hi hu=>?_⟩;cases i with| zero=>simp at hi hu;subst hi;subst hu;exact c1.mono b| succ i=>exact c2 i c u (by simpa using hi) (by simpa using hu)
theorem A0e (A:Da P T) {fn:Func} {fz:Bool} {q:List Bn} {e:B5} {a:Act} (s:St σ ι H F W w) (he:Ft σ ι H e a) (l:∀r∈fn.results.toList,Td r<a.tmps.size) (h:Tf T fz fn.results.toList r q e H):∃v f H',(results fn a.tmps).run P w = .ok v w/\Rf H' 0 q/\Le σ ι H f ι H'/\St f ι H' F W w/\Conc f ι H' r v:=by
 unfold Tf at h;split at h
 .exact h.elim
 .rename_i xs hx;obtain⟨vs,h1,x,c1⟩:=Ai4 A s he l hx;have key:∃f ys H',(Ys ys=r/\Rf H' 0 q)/\Le σ ι H f ι H'/\St f ι H' F W w/\vs.length=ys.length/\∀(i:Nat) (c:AV) (v:Value),ys[i]? = some c->vs[i]? = some v->Conc f ι H' c v:=(by cases fz with| true=>exact Aow h s x c1| false=>exact⟨σ,xs,H,h,Le.refl _ _ _,s,x,c1⟩);obtain⟨f,ys,H',⟨rfl,k⟩,le,s',b,j⟩:=key;have g:(fn.results.mapM (Te a.tmps)).run P w = .ok vs.toArray w:=(by rw[Array.mapM_eq_mapM_toList];simp[h1]);refine⟨if h:vs.toArray.size=1 then vs.toArray[0] else .tuple vs.toArray,f,H',?_,k,le,s',?_⟩
  .rw[Aou,Sem.run_bind,g];rfl
  .match ys,vs,b,j with| [y],[v],_,j=>exact j 0 y v rfl rfl| [],[],_,_=>exact .tup [] #[] rfl ψ| y::B::ys,v::z::vs,b,j=>have:¬(v::z::vs).toArray.size=1:=ψ;rw[dif_neg this];exact .tup _ _ (by simpa using b) (λi c u hi hu=>j i c u hi (by simpa using hu))| [],_::_,b,_=>simp at b| _::_,[],b,_=>simp at b| [_],_::_::_,b,_=>simp at b| _::_::_,[_],b,_=>simp at b
theorem St.first (s:St σ ι H F W w) (f:List Bn) (hk:∀i,i<f.length->H i=hp f i) (hu:f.all (Bn.under f.length)=true) : St σ (λk=>if k<f.length then ι k else .none) (hp f) F W w:=by
 have B:∀h,h<f.length->(λk=>if k<f.length then ι k else Loc.none) h=ι h:=λh j=>if_pos j;have hH:∀h,h<f.length->hp f h=H h:=λh j=>(hk h j).symm;have lt:∀k,(hp f k).live=true->k<f.length:=by
  intro k h;rcases Nat.lt_or_ge k f.length with h'|h'
  .exact h'
  .rw[Rb h']at h;cases h
 refine⟨s.sto,s.fra,λk=>?_,λk u b h1 h2 h3 q=>?_,s.os,s.tape,s.output,s.glo,s.drw⟩
 .by_cases j:k<f.length
  .have g:=s.obj k;have l:=Ej.1 hu _ (Fw (Yq j));unfold C2 at g ⊢;rw[hk k j]at g;dsimp only;rw[if_pos j];cases hx:hp f k with| none=>rw[hx]at g;exact g| dead=>trivial| rows E sz xs=>rw[hx]at g;exact g| map es=>rw[hx]at g;exact g| cells E cs=>rw[hx]at g l;obtain⟨b,C,G,h1,h2,h3,q,D⟩:=g;refine⟨b,C,G,h1,h2,h3,q,λi c v x y=>?_⟩;have hc:=Ej.1 l c (Fw x);refine (D i c v x y).restrict (n:=f.length) B hH ?_;exact Aix hc
  .unfold C2;rw[Rb ω];exact if_neg j
 .have A:=lt k h1;have z:=lt u h2;rw[if_pos A]at h3;rw[if_pos z]at q;rw[hH k A]at h1;rw[hH u z]at h2;exact s.inj k u b h1 h2 h3 q
def Ai5 (c:List Bn) (r:AV) (b:List Bn):Bool:=Nat.ble c.length b.length&&r.under b.length&&b.all (Bn.under b.length)
def Sub (x y:AV):Prop:=∀(σ:A5) (ι:Cd) (H:Hp) (v:Value),Conc σ ι H x v->Conc σ ι H y v
theorem Sub.refl (x:AV):Sub x x:=λ_ _ _ _ h=>h
theorem Sub.nil (sz:Nat):Sub (.val (.slice none 0 0)) (.sl sz []):=λ_ _ _ _ h=>Add rfl h
def Rg:List AV->List AV->Prop
 | [],[]=>True
 | x::xs,y::ys=>Sub x y/\Rg xs ys
 | _,_=>False
theorem Rg.spec:∀{xs ys:List AV},Rg xs ys->xs.length=ys.length/\∀(i:Nat) (y:AV),ys[i]? = some y->∃x,xs[i]? = some x/\Sub x y
 | [],[],_=>⟨rfl,ψ⟩
 | [],_::_,h=>h.elim
 | _::_,[],h=>h.elim
 | x::xs,y::ys,h=>by obtain⟨h1,h2⟩:=Rg.spec h.2;refine⟨by simp[h1],λi z b=>?_⟩;cases i with| zero=>simp at b;subst b;exact⟨x,rfl,h.1⟩| succ i=>simpa using h2 i z (by simpa using b)
theorem Sub.agg {xs ys:List AV} (h:Rg xs ys):Sub (.agg xs) (.agg ys):=by intro σ ι H v hc;obtain⟨vs,rfl,f,b⟩:=hc.agg_inv;obtain⟨h1,h2⟩:=h.spec;refine .agg _ vs (by rw[<-h1];exact f) λi c u h3 k=>?_;obtain⟨x,j,g⟩:=h2 i c h3;exact g _ _ _ _ (b i x u j k)
theorem Ay.sub {f:FuncId} {args b:List AV} {k:AV} (h:Ay P f b r) (ha:Rg args b) (q:Sub r k):Ay P f args k:=by
 refine⟨h.1,λσ F W w vs s hc=>?_⟩;obtain⟨h1,h2⟩:=ha.spec;refine (h.2 σ F W w vs s ⟨by rw[<-h1];exact hc.1,λi a v h3 j=>?_⟩).mono ?_
 .obtain⟨x,g,c⟩:=h2 i a h3;exact c _ _ _ _ (hc.2 i x v g j)
 .rintro e w' ⟨v,l,h3,j,g,c⟩;exact⟨v,l,h3,j,g,q _ _ _ _ c⟩
theorem Bv.sub {f:FuncId} {args b:List AV} {g c:List Bn} {r:AV} (h:Bv P f b g r c) (ha:Rg args b):Bv P f args g r c:=by refine⟨h.1,λσ F W w ι vs s hc=>?_⟩;obtain⟨h1,h2⟩:=ha.spec;refine h.2 σ F W w ι vs s ⟨by rw[<-h1];exact hc.1,λi a v h3 l=>?_⟩;obtain⟨x,k,j⟩:=h2 i a h3;exact j _ _ _ _ (hc.2 i x v k l)
end
inductive Ga (K:Prop):Prop where
 | mk (k:K)
def opK (P:Program) (T:C9) (an:Nat->Ann) (nl:Nat->List (Nat×Nat)) (o:Oper) (n:Nat) (e:B5) (H:Hp) (acc:Jm) (K:Nat->B5->Hp->Jm->Prop):Prop := Ff P T an n o (ev e) H λb m=>Mg (M4 (N2 nl o.dst) b.r) λr=>Oz b.wr λwr=>Kd b.rd λf=>Kd wr λc=>K8 e o.dst r H wr λe H=>Ga (K m e H (acc++[(f,c)]))
def Yt (o:Oper) (n:Nat) (e:B5) (H:Hp) (acc:Jm) (K:Nat->B5->Hp->Jm->Prop):Prop := K8 e o.dst (.val undef) H [] λe H=>Ga (K n e H (acc++[([],[])]))
def Fy (P:Program) (T:C9) (an:Nat->Ann) (nl:Nat->List (Nat×Nat)) (ops:Array Oper):List Oper->Nat->B5->Hp->Jm->(Nat->B5->Hp->Jm->Prop)->Prop
 | [],n,e,H,acc,K=>K n e H acc
 | o::os,n,e,H,acc,K=> match o.guard with
  | none=>opK P T an nl o n e H acc λn e H acc=>Fy P T an nl ops os n e H acc K
  | some p=> match (ops[p.1]?).bind (·.dst) with
   | none=>False
   | some s=> match e s with
    | .val v=>bif S7 v==some p.2 then opK P T an nl o n e H acc λn e H acc=>Fy P T an nl ops os n e H acc K else Yt o n e H acc λn e H acc=>Fy P T an nl ops os n e H acc K
    | _=>False
section
variable {P:Program} {T:C9} {an:Nat->Ann} {nl:Nat->List (Nat×Nat)} {ops:Array Oper}
theorem Ai6 (E:Da P T):∀(os:List Oper) (i n:Nat) (e:B5) (H:Hp) (acc:Jm) (K:Nat->B5->Hp->Jm->Prop),ops.toList.drop i=os->acc.length=i->F8 H n->Fy P T an nl ops os n e H acc K -> ∃b e' H' accs,K b e' H' accs/\accs.take i=acc/\accs.length=i+os.length/\n<=b/\F8 H' b/\Run P ops (λk=>accs.getD k ([],[])) (range' i os.length) e H e' H'
 | [],i,n,e,H,acc,K,hd,j,y,h=>⟨n,e,H,acc,h,by rw[<-j];simp,by simpa using j,Nat.le_refl _,y,.nil e H⟩
 | o::os,i,n,e,H,acc,K,hd,j,y,h=>by
  have I:ops[i]? = some o:=(by have:=congrArg (λl=>l[0]?) hd;simpa using this);have u:ops.toList.drop (i+1)=os:=(by have:=congrArg (drop 1) hd;simpa[drop_drop] using this);have run:Jl ops o e true->(opK P T an nl o n e H acc λn e H acc=>Fy P T an nl ops os n e H acc K) ->
    ∃b e' H' accs,K b e' H' accs/\accs.take i=acc/\accs.length=i+(o::os).length/\n<=b/\F8 H' b/\Run P ops (λk=>accs.getD k ([],[])) (range' i (o::os).length) e H e' H':=by
   intro hg g;obtain⟨c,m,h1,h2,h3,R,M⟩:=Aoj E y g;simp only[Vx,Ais,Ait,Ade]at h3;obtain⟨b,e',H',accs,B,x,L,J,A,z⟩:=Ai6 E os (i+1) m _ _ _ K u (by simp[j]) M h3.1;have D:accs[i]? = some (c.rd.map (·.1),c.wr.map (·.1)):=(by have N:(accs.take (i+1))[i]? = accs[i]?:=H8 ω;rw[<-N,x,getElem?_append_right ω];simp[j]);have q:accs.getD i ([],[])=(c.rd.map (·.1),c.wr.map (·.1)):=(by simp[getD,D]);refine⟨b,e',H',accs,B,?_,by simp only[length_cons];omega,ω,A,?_⟩
   .have:=congrArg (take i) x;rw[take_take]at this;simpa[j] using this
   .rw[length_cons,range'_succ];refine .cons o (M4 (N2 nl o.dst) c.r) c.wr ⟨I,.inl ⟨hg,_,h1.nils (N2 nl o.dst),h2,?_,?_,rfl,rfl⟩⟩ z
    .intro p hp;show p.1∈(accs.getD i ([],[])).1;rw[q];exact mem_map_of_mem hp
    .intro p hp;show p.1∈(accs.getD i ([],[])).2;rw[q];exact mem_map_of_mem hp
  have skip:Jl ops o e false->(Yt o n e H acc λn e H acc=>Fy P T an nl ops os n e H acc K) ->
    ∃b e' H' accs,K b e' H' accs/\accs.take i=acc/\accs.length=i+(o::os).length/\n<=b/\F8 H' b/\Run P ops (λk=>accs.getD k ([],[])) (range' i (o::os).length) e H e' H':=by
   intro hg g;unfold Yt at g;rw[Ade]at g;obtain⟨b,e',H',accs,B,x,L,J,A,z⟩:=Ai6 E os (i+1) n _ _ _ K u (by simp[j]) y g.1;refine⟨b,e',H',accs,B,?_,by simp only[length_cons];omega,ω,A,?_⟩
   .have:=congrArg (take i) x;rw[take_take]at this;simpa[j] using this
   .rw[length_cons,range'_succ];exact .cons o (.val undef) [] ⟨I,.inr ⟨hg,rfl,rfl⟩⟩ z
  simp only[Fy]at h;cases f:o.guard with
  | none=>rw[f]at h;exact run (by unfold Jl;rw[f]) h
  | some p=>
   rw[f]at h;simp only[]at h;cases g:(ops[p.1]?).bind (·.dst) with
   | none=>rw[g]at h;exact h.elim
   | some s=>
    rw[g]at h;simp only[]at h;split at h
    .rename_i v G;cases hb:S7 v==some p.2 with| true=>rw[hb]at h;exact run (by unfold Jl;rw[f];exact⟨s,v,g,G,hb.symm⟩) h| false=>rw[hb]at h;exact skip (by unfold Jl;rw[f];exact⟨s,v,g,G,hb.symm⟩) h
    .exact h.elim
variable {o:Oper} {os:List Oper} {n:Nat} {e:B5} {H:Hp} {acc:Jm} {K:Nat->B5->Hp->Jm->Prop} {β:Type} {r:β}
variable {s:Nat} {p:Nat×Bool}
theorem nx (k:opK P T an nl o n e H acc λn e H acc=>Fy P T an nl ops os n e H acc K) (hg:o.guard=none:=by exact rfl):Ga (Fy P T an nl ops (o::os) n e H acc K):=.mk (by simp only[Fy,hg];exact k)
theorem M5 (k:K n e H acc):Ga (Fy P T an nl ops [] n e H acc K):=.mk k
theorem A0f (p:Nat×Bool) (s:Nat) (k:opK P T an nl o n e H acc λn e H acc=>Fy P T an nl ops os n e H acc K) (hg:o.guard=some p:=by exact rfl) (b:(ops[p.1]?).bind (·.dst)=some s:=by exact rfl) (hb:e s = .val (.bool p.2):=by exact rfl):Ga (Fy P T an nl ops (o::os) n e H acc K) :=
 .mk (by simp only[Fy,hg,b,hb,S7,BEq.rfl,cond_true];exact k)
theorem A0g (p:Nat×Bool) (s:Nat) (v:Value) (k:Yt o n e H acc λn e H acc=>Fy P T an nl ops os n e H acc K) (hg:o.guard=some p:=by exact rfl) (c:(ops[p.1]?).bind (·.dst)=some s:=by exact rfl) (hb:e s = .val v:=by exact rfl) (b:(S7 v==some p.2)=false:=by exact rfl):Ga (Fy P T an nl ops (o::os) n e H acc K) :=
 .mk (by simp only[Fy,hg,c,hb,b,cond_false];exact k)
theorem Rh (k:opK P T an nl o n e H acc λn e H acc=>Fy P T an nl ops os n e H acc K) (hg:o.guard=some p:=by exact rfl) (b:(ops[p.1]?).bind (·.dst)=some s:=by exact rfl) (hb:e s = .val (.bool p.2):=by exact rfl):Ga (Fy P T an nl ops (o::os) n e H acc K):=A0f p s k hg b hb
theorem Ri {v:Value} (k:Yt o n e H acc λn e H acc=>Fy P T an nl ops os n e H acc K) (hg:o.guard=some p:=by exact rfl) (c:(ops[p.1]?).bind (·.dst)=some s:=by exact rfl) (hb:e s = .val v:=by exact rfl) (b:(S7 v==some p.2)=false:=by exact rfl):Ga (Fy P T an nl ops (o::os) n e H acc K):=A0g p s v k hg c hb b
theorem A0h {b:Bool} {m c:Option β} {X:List Oper} (h:(bif b then m else c)=some r) (h1:b=true->m=some r->Ga (Fy P T an nl ops X n (Ba e s (.val (.bool true))) H acc K)) (h2:b=false->c=some r->Ga (Fy P T an nl ops X n (Ba e s (.val (.bool false))) H acc K)) (hb:e s = .val (.bool b):=by exact rfl):Ga (Fy P T an nl ops X n e H acc K):=by cases b with| true=>have:=h1 rfl h;rwa [Adg hb]at this| false=>have:=h2 rfl h;rwa [Adg hb]at this
end
theorem St.recell {σ:A5} {ι:Cd} {H:Hp} {F:A5} {W w:World} (s:St σ ι H F W w) (h:Nat) (E:TypeId) (cs f:List AV) (j:H h = .cells E cs) (q:f.length=cs.length) (hc:∀(i:Nat) (c k:AV) (v:Value),cs[i]? = some c->f[i]? = some k->Conc σ ι H c v->Conc σ ι H k v) : St σ ι (Ba H h (.cells E f)) F W w/\Le σ ι H σ ι (Ba H h (.cells E f)):=by
 have l:=s.obj h;unfold C2 at l;rw[j]at l;obtain⟨b,C,hb,h1,h2,h3,B,A⟩:=l;have le:Le σ ι H σ ι (Ba H h (.cells E f)):=by have:=Le.upd (ι:=ι) (H:=H) (A5.le_refl σ) h (ι h) (.cells E f) (by rw[j];exact⟨λ_ e=>e,(λ_ e=>by cases e),(λ_ _ _ _ e=>by cases e)⟩);rwa [Je]at this
 refine⟨s.touch h b (λ_ _=>rfl) (λx e=>Dh _ _ e) le (λx e=>rfl) (λ_ _=>rfl) (λo e=>by rw[h1]at e;cases e) ?_ h2 ?_ ?_ rfl rfl rfl,le⟩
 .intro x e q u;exact e (s.inj x h b q (by rw[j];rfl) u (by rw[hb];rfl))
 .intro D _ z;exact .inr ⟨by rw[j];rfl,z⟩
 .unfold C2;rw[Co];refine⟨b,C,hb,h1,h2,h3,ω,λi k v x y=>?_⟩;have hi:i<cs.length:=(by rw[<-q];exact (Gx.1 x).1);have g:cs[i]? = some cs[i]:=getElem?_eq_getElem hi;exact (hc i _ k v g x (A i _ v g y)).mono le
def Adm:AV->Option Nat
 | .loc h _=>some h
 | .vec h _=>some h
 | _=>none
inductive Gh where
 | fz (s:Nat)
 | own (s j:Nat) (e:TypeId) (sz:Nat)
 | nil (s j sz:Nat)
 | fzc (s j:Nat)
 | fzp (s:Nat)
 | fzcp (s j:Nat)
 | fzv (s:Nat)
def gxs:List Gh->Nat->B5->Hp->(Nat->B5->Hp->Prop)->Prop
 | [],n,e,H,K=>K n e H
 | .fz s::gs,n,e,H,K=> match e s with
  | .arr h k 0 len=> match H h with
   | .rows _ sz xs=>H9 k xs (H9 len xs (gxs gs n (Ba e s (.sl sz xs)) (Ba H h .dead) K))
   | _=>False
  | _=>False
 | .fzp s::gs,n,e,H,K=> match e s with
  | .arr h k 0 len=> match H h with
   | .rows _ sz xs=>H9 k xs (An3 len k (An4 xs len λys=>gxs gs n (Ba e s (.sl sz ys)) (Ba H h .dead) K))
   | _=>False
  | _=>False
 | .own s j E sz::gs,n,e,H,K=> match Adm (e s) with
  | some h=> match H h with
   | .cells T cs=> match cs[j]? with
    | some x=>bif M0 x&&Nat.blt 0 sz then gxs gs (n+1) e (Ba (Ba H n (.rows E sz [])) h (.cells T (cs.set j (.arr n 0 0 0)))) K else False
    | none=>False
   | _=>False
  | _=>False
 | .nil s j sz::gs,n,e,H,K=> match Adm (e s) with
  | some h=> match H h with
   | .cells T cs=> match cs[j]? with
    | some x=>bif M0 x then gxs gs n e (Ba H h (.cells T (cs.set j (.sl sz [])))) K else False
    | none=>False
   | _=>False
  | _=>False
 | .fzc s j::gs,n,e,H,K=> match Adm (e s) with
  | some h=> match H h with
   | .cells T cs=> match cs[j]? with
    | some (.arr h' k 0 len)=> match H h' with
     | .rows _ sz xs=>H9 k xs (H9 len xs (gxs gs n e (Ba (Ba H h' .dead) h (.cells T (cs.set j (.sl sz xs)))) K))
     | _=>False
    | _=>False
   | _=>False
  | _=>False
 | .fzcp s j::gs,n,e,H,K=> match Adm (e s) with
  | some h=> match H h with
   | .cells T cs=> match cs[j]? with
    | some (.arr h' k 0 len)=> match H h' with
     | .rows _ sz xs=>H9 k xs (An3 len k (An4 xs len λys=>gxs gs n e (Ba (Ba H h' .dead) h (.cells T (cs.set j (.sl sz ys)))) K))
     | _=>False
    | _=>False
   | _=>False
  | _=>False
 | .fzv s::gs,n,e,H,K=> match e s with
  | .vec h m=> match H h with
   | .cells _ cs=>bif cs.all AV.cl1&&Nat.beq cs.length m&&Nat.ble m 16 then gxs gs n (Ba e s (.sl 1 cs)) (Ba H h .dead) K else False
   | _=>False
  | _=>False
section
variable {F:A5} {W:World}
variable {σ:A5} {ι:Cd} {H:Hp} {h j:Nat} {E:TypeId} {w:World}
theorem Aox {cs:List AV} {i:Nat} {y c b:AV} {P:AV->AV->Prop} (h1:cs[i]? = some c) (h2:(cs.set j y)[i]? = some b) (f:P c c) (hy:i=j->P c y):P c b:=by
 rw[getElem?_set]at h2;split at h2
 .rename_i e;split at h2
  .cases h2;exact hy e.symm
  .cases h2
 .rw[h1]at h2;cases h2;exact f
theorem St.freezeVec (s:St σ ι H F W w) {cs:List AV} (L:H h = .cells E cs) (k:∀c∈cs,c.cl1=true) : ∃D,Le σ ι H D ι (Ba H h .dead)/\St D ι (Ba H h .dead) F W w/\∀v,cs.length<=140737488355328->Conc σ ι H (.vec h cs.length) v->CC D (.sl 1 cs) v:=by
 have l:=s.obj h;unfold C2 at l;rw[L]at l;obtain⟨b,C,M,p1,Z,Y,X,V⟩:=l;have A:σ.le (Ba σ b (some (.cells C E))):=by intro b' o' hb';rw[Dh _ _ (by intro e;subst e;rw[p1]at hb';cases hb')];exact hb'
 have g:Le σ ι H (Ba σ b (some (.cells C E))) ι (Ba H h .dead):=by have:=Le.upd (ι:=ι) (H:=H) A h (ι h) .dead ⟨λ_ e=>e,(λ_ e=>by cases e),(λ_ E1 U N e=>by cases e)⟩;rwa [Je]at this
 refine⟨Ba σ b (some (.cells C E)),g,?_,?_⟩
 .exact s.touch h b (λ_ _=>rfl) (λx e=>Dh _ _ e) g (λ_ _=>rfl) (λx e=>Dh _ _ e) (λo J=>by rw[Co]at J;cases J;exact Y)
   (λx e q hb=>e (s.inj x h b q (by rw[L];rfl) hb (by rw[M];rfl))) Z (λb' q hb=>by rw[Co]at q;cases q) (by unfold C2;rw[Co];trivial) rfl rfl rfl
 .intro v q hc;obtain⟨b2,B,rfl⟩:=hc.vec_inv;rw[M]at B;cases B;have f:∀c:AV,c.cl1=true->c.cells = [c]:=by
   intro c hc;cases c with
   | val v=>cases v <;> first|rfl|cases hc
   | sl=>rfl
   | _=>cases hc
  have I:∀(i:Nat) (c:AV),cs[i]? = some c->∃u,C[i]? = some u/\CC σ c u/\Fj u=true:=(by intro i c hi;have z:i<C.size:=(by rw[X];exact (Gx.1 hi).1);refine⟨C[i],by simp[z],?_⟩;exact (V i c C[i] hi (by simp[z])).cc_of (k c (Fw hi)));have:=CC.sl (σ:=Ba σ b (some (.cells C E))) cs b 0 cs.length 1 C E (0,0) (λn _=>(C[n]?).getD undef) (Co _ _ _)
   (λi x hx=>by rw[f x (k x (Fw hx))];rfl) (λi x j c hx hj=>by rw[f x (k x (Fw hx))]at hj;obtain⟨rfl,rfl⟩:=Ahv hj;obtain⟨u,y,S,_⟩:=I i _ hx;rw[y];exact S.mono A) (λi x j c hx hj=>by rw[f x (k x (Fw hx))]at hj;obtain⟨rfl,rfl⟩:=Ahv hj;obtain⟨u,y,_,R⟩:=I i _ hx;rw[y];exact R) (λi j hi hj=>by have G:j=0:=ω;subst G;rw[Nat.zero_add,Nat.mul_one,Nat.add_zero];obtain⟨u,y,_⟩:=I i cs[i] (getElem?_eq_getElem hi);rw[y];rfl) q (Nat.le_refl _);exact this
theorem Px {n:Nat} {o:Bn} (b:F8 H n) (f:H h≠.none):F8 (Ba H h o) n:=by intro m c;rw[Dh _ _ (λe=>f (by rw[<-e];exact b m c))];exact b m c
theorem Aoy {hd h' k len:Nat} {T:TypeId} {sz:Nat} {cs xs ys:List AV} (s:St σ ι H F W w) (M:H hd = .cells T cs) (hj:cs[j]? = some (.arr h' k 0 len)) (g:H h' = .rows E sz xs) (hk:xs.length=k) (X:len<=xs.length) (hy:xs.take len=ys) : ∃c,Le σ ι H c ι (Ba (Ba H h' .dead) hd (.cells T (cs.set j (.sl sz ys))))/\St c ι (Ba (Ba H h' .dead) hd (.cells T (cs.set j (.sl sz ys)))) F W w:=by
 obtain⟨c,G,D,N⟩:=s.freeze g;have J:hd≠h':=by intro B;subst B;rw[M]at g;cases g
 have f:Ba H h' .dead hd = .cells T cs:=by rw[Dh _ _ J];exact M
 have h:=s.obj hd;unfold C2 at h;rw[M]at h;obtain⟨b,C,B,g1,g2,g3,g4,g5⟩:=h;have l:∀v,C[j]? = some v->Conc c ι (Ba H h' .dead) (.sl sz ys) v:=by intro v Y;have hc:=g5 j _ v hj Y;have:=N 0 len _ ω (hc.arr_inv g hk);rw[drop_zero,hy]at this;exact .cc this
 have V:St c ι (Ba (Ba H h' .dead) hd (.cells T (cs.set j (.sl sz ys)))) F W w/\Le c ι (Ba H h' .dead) c ι (Ba (Ba H h' .dead) hd (.cells T (cs.set j (.sl sz ys)))):=by
  have I:=D.obj hd;unfold C2 at I;rw[f]at I;obtain⟨b',C',A,z,u,q,Z,U⟩:=I;rw[B]at A;cases A;rw[g3]at q;cases q;have le:Le c ι (Ba H h' .dead) c ι (Ba (Ba H h' .dead) hd (.cells T (cs.set j (.sl sz ys)))):=(by have:=Le.upd (ι:=ι) (H:=Ba H h' .dead) (A5.le_refl c) hd (ι hd) (.cells T (cs.set j (.sl sz ys))) (by rw[f];exact⟨λ_ e=>e,(λ_ e=>by cases e),(λ_ _ _ _ e=>by cases e)⟩);rwa [Je]at this);refine⟨D.touch hd b (λ_ _=>rfl) (λx e=>Dh _ _ e) le (λx e=>rfl) (λ_ _=>rfl) (λo e=>by rw[z]at e;cases e) ?_ u ?_ ?_ rfl rfl rfl,le⟩
  .intro x e X R;exact e (D.inj x hd b X (by rw[f];rfl) R (by rw[B];rfl))
  .intro b0 _ S;exact .inr ⟨by rw[f];rfl,S⟩
  .unfold C2;rw[Co];refine⟨b,C,B,z,u,g3,by simpa using g4,λi c' v x y=>?_⟩;rw[getElem?_set]at x;split at x
   .rename_i L;split at x
    .cases x;subst L;exact (l v y).mono le
    .cases x
   .exact (U i c' v x y).mono le
 exact⟨c,G.trans V.2,V.1⟩
theorem Rj:∀(z:List Gh) {n:Nat} {e:B5} {H:Hp} {K:Nat->B5->Hp->Prop} {σ:A5} {ι:Cd} {a:Act} {w:World},gxs z n e H K->St σ ι H F W w->Ft σ ι H e a->F8 H n -> ∃σ' ι' n' e' H',K n' e' H'/\Le σ ι H σ' ι' H'/\St σ' ι' H' F W w/\Ft σ' ι' H' e' a/\F8 H' n'/\n<=n'
 | [],n,e,H,K,σ,ι,a,w,h,s,he,y=>⟨σ,ι,n,e,H,h,Le.refl _ _ _,s,he,y,Nat.le_refl _⟩
 | .fz t::z,n,e,H,K,σ,ι,a,w,h,s,he,y=>by
  simp only[gxs]at h;split at h
  .rename_i hd k len hx;split at h
   .rename_i E sz xs l;obtain⟨hk,hl,h⟩:=h;obtain⟨Z,f,G,X⟩:=s.freeze l;have Y:Ft Z ι (Ba H hd .dead) (Ba e t (.sl sz xs)) a:=by
     intro q hq;by_cases A:q=t
     .subst A;rw[Co];have hc:=he q hq;rw[hx]at hc;have:=X 0 len _ ω (hc.arr_inv l hk);rw[drop_zero,take_of_length_le ω]at this;exact .cc this
     .rw[Dh _ _ A];exact (he q hq).mono f
    obtain⟨B,D,I,S,U,R,N,M,L,J,V⟩:=Rj z h G Y (Px y (by rw[l];intro e;cases e));exact⟨B,D,I,S,U,R,f.trans N,M,L,J,V⟩
   .exact h.elim
  .exact h.elim
 | .fzp t::z,n,e,H,K,σ,ι,a,w,h,s,he,y=>by
  simp only[gxs]at h;split at h
  .rename_i hd k len hx;split at h
   .rename_i E sz xs l;obtain⟨hk,hl,ys,hy,h⟩:=h;obtain⟨Z,f,G,X⟩:=s.freeze l;have Y:Ft Z ι (Ba H hd .dead) (Ba e t (.sl sz ys)) a:=by
     intro q hq;by_cases A:q=t
     .subst A;rw[Co];have hc:=he q hq;rw[hx]at hc;have:=X 0 len _ ω (hc.arr_inv l hk);rw[drop_zero,hy]at this;exact .cc this
     .rw[Dh _ _ A];exact (he q hq).mono f
    obtain⟨B,D,I,S,U,R,N,M,L,J,V⟩:=Rj z h G Y (Px y (by rw[l];intro e;cases e));exact⟨B,D,I,S,U,R,f.trans N,M,L,J,V⟩
   .exact h.elim
  .exact h.elim
 | .own t j E sz::z,n,e,H,K,σ,ι,a,w,h,s,he,y=>by
  simp only[gxs]at h;split at h
  .rename_i hd hx;split at h
   .rename_i T cs l;split at h
    .rename_i x hj;obtain⟨hb,h⟩:=Gn h;rw[Fr]at hb;have a8:hd≠n:=(by intro A;subst A;have:=y hd (Nat.le_refl _);rw[l]at this;cases this);obtain⟨s0,a6⟩:=s.newNil n (y n (Nat.le_refl _)) E sz (H4 hb.2);have a7:Ba H n (.rows E sz []) hd = .cells T cs:=(by rw[Dh _ _ a8];exact l);obtain⟨G,f⟩:=s0.recell hd T cs (cs.set j (.arr n 0 0 0)) a7 ψ (by intro i c c' v h1 h2 h3;refine Aox (P:=λa b=>Conc σ _ _ a v->Conc σ _ _ b v) h1 h2 (λh=>h) (λa1 h=>?_) h3;subst a1;rw[hj]at h1;cases h1;rw[Adc hb.1]at h;rw[h.val_inv];refine .arr _ _ _ _ _ (by rw[Co];intro e;cases e) (λE' ac ab e'=>?_) rfl;rw[Co]at e';cases e';exact⟨ψ,λ_=>by rw[Co];exact⟨rfl,rfl,rfl⟩⟩);have aa:F8 (Ba (Ba H n (.rows E sz [])) hd (.cells T (cs.set j (.arr n 0 0 0)))) (n+1):=(by refine Px ?_ (by rw[a7];intro e;cases e);intro m hm;rw[Dh _ _ ω];exact y m ω);obtain⟨B,D,I,S,U,R,N,M,L,J,V⟩:=Rj z h G (he.mono (a6.trans f)) aa;exact⟨B,D,I,S,U,R,(a6.trans f).trans N,M,L,J,ω⟩
    .exact h.elim
   .exact h.elim
  .exact h.elim
 | .nil t j sz::z,n,e,H,K,σ,ι,a,w,h,s,he,y=>by
  simp only[gxs]at h;split at h
  .rename_i hd hx;split at h
   .rename_i T cs l;split at h
    .rename_i x hj;obtain⟨hb,h⟩:=Gn h;obtain⟨G,f⟩:=s.recell hd T cs (cs.set j (.sl sz [])) l ψ (by intro i c c' v h1 h2 h3;refine Aox (P:=λa b=>Conc σ _ _ a v->Conc σ _ _ b v) h1 h2 (λh=>h) (λa1 h=>?_) h3;subst a1;rw[hj]at h1;cases h1;exact Add hb h);obtain⟨B,D,I,S,U,R,N,M,L,J,V⟩:=Rj z h G (he.mono f) (Px y (by rw[l];intro e;cases e));exact⟨B,D,I,S,U,R,f.trans N,M,L,J,V⟩
    .exact h.elim
   .exact h.elim
  .exact h.elim
 | .fzc t j::z,n,e,H,K,σ,ι,a,w,h,s,he,y=>by
  simp only[gxs]at h;split at h
  .rename_i hd hx;split at h
   .rename_i T cs l;split at h
    .rename_i h' k len hj;split at h
     .rename_i E sz xs u;obtain⟨hk,hl,h⟩:=h;obtain⟨Z,f,G⟩:=Aoy s l hj u hk ω (take_of_length_le ω);obtain⟨B,D,I,S,U,R,N,M,L,J,V⟩:=Rj z h G (he.mono f) (Px (Px y (by rw[u];intro e;cases e)) (by rw[Dh _ _ (by intro A;subst A;rw[l]at u;cases u)];rw[l];intro e;cases e));exact⟨B,D,I,S,U,R,f.trans N,M,L,J,V⟩
     .exact h.elim
    .exact h.elim
   .exact h.elim
  .exact h.elim
 | .fzcp t j::z,n,e,H,K,σ,ι,a,w,h,s,he,y=>by
  simp only[gxs]at h;split at h
  .rename_i hd hx;split at h
   .rename_i T cs l;split at h
    .rename_i h' k len hj;split at h
     .rename_i E sz xs u;obtain⟨hk,hl,ys,hy,h⟩:=h;obtain⟨Z,f,G⟩:=Aoy s l hj u hk ω (hy);obtain⟨B,D,I,S,U,R,N,M,L,J,V⟩:=Rj z h G (he.mono f) (Px (Px y (by rw[u];intro e;cases e)) (by rw[Dh _ _ (by intro A;subst A;rw[l]at u;cases u)];rw[l];intro e;cases e));exact⟨B,D,I,S,U,R,f.trans N,M,L,J,V⟩
     .exact h.elim
    .exact h.elim
   .exact h.elim
  .exact h.elim
 | .fzv t::z,n,e,H,K,σ,ι,a,w,h,s,he,y=>by
  simp only[gxs]at h;split at h
  .rename_i hd m hx;split at h
   .rename_i E cs l;obtain⟨g,h⟩:=Gn h;simp only[Fr]at g;obtain⟨⟨g1,g2⟩,g3⟩:=g;have g2:=Gg g2;have g3:=Gy g3;obtain⟨Z,f,G,X⟩:=s.freezeVec l (λc hc=>Ej.1 g1 c hc);have Y:Ft Z ι (Ba H hd .dead) (Ba e t (.sl 1 cs)) a:=by
     intro q hq;by_cases A:q=t
     .subst A;rw[Co];have hc:=he q hq;rw[hx,<-g2]at hc;exact .cc (X _ ω hc)
     .rw[Dh _ _ A];exact (he q hq).mono f
    obtain⟨B,D,I,S,U,R,N,M,L,J,V⟩:=Rj z h G Y (Px y (by rw[l];intro e;cases e));exact⟨B,D,I,S,U,R,f.trans N,M,L,J,V⟩
   .exact h.elim
  .exact h.elim
end
variable {i:Int} {n:Nat} {E S α:Type} {e:E} {l:List α} {s:S}
def J1 {S E:Type} (step:S->Option (S⊕E)):Nat->S->Option E
 | 0,_=>none
 | n+1,s=> match step s with
  | none=>none
  | some (.inl s')=>J1 step n s'
  | some (.inr e)=>some e
theorem Ai7 {S E:Type} {step:S->Option (S⊕E)}:∀{n:Nat} {s:S} {e:E},J1 step n s=some e->∀m,n<=m->J1 step m s=some e
 | 0,s,e,h,_,_=>by cases h
 | n+1,s,e,h,0,c=>ω
 | n+1,s,e,h,m+1,c=>by
  simp only[J1]at h ⊢;cases b:step s with
  | none=>rw[b]at h;cases h
  | some o=>rw[b]at h;cases o with| inl s'=>exact Ai7 (n:=n) h m ω| inr e'=>exact h
theorem Aoz {step:S->Option (S⊕E)} {m:Nat} {e':E} (h:J1 step n s=some e) (h':J1 step m s=some e'):e=e':=by have h1:=Ai7 h (max n m) ω;have h2:=Ai7 h' (max n m) ω;rw[h1]at h2;exact Option.some.inj h2
open Classical in
noncomputable def An {S E:Type} (step:S->Option (S⊕E)) (s:S):Option E := match J1 step 4096 s with
 | some e=>some e
 | none=>if h:∃n e,J1 step n s=some e then some (Classical.choose (Classical.choose_spec h)) else none
theorem Ai8 {step:S->Option (S⊕E)} (h:An step s=some e):∃n,J1 step n s=some e:=by
 unfold An at h;split at h
 .rename_i e' he;cases h;exact⟨_,he⟩
 .split at h
  .rename_i hx;cases h;exact⟨_,Classical.choose_spec (Classical.choose_spec hx)⟩
  .cases h
theorem Ai9 {step:S->Option (S⊕E)} (h:J1 step n s=some e):An step s=some e:=by
 have hx:∃n e,J1 step n s=some e:=⟨n,e,h⟩;unfold An;split
 .rename_i e' he;exact congrArg some (Aoz he h)
 rw[dif_pos hx];exact congrArg some (Aoz (Classical.choose_spec (Classical.choose_spec hx)) h)
theorem Fg {step:S->Option (S⊕E)} (h:step s=some (.inr e)):An step s=some e := Ai9 (n:=1) (by simp only[J1,h])
theorem Ks {step:S->Option (S⊕E)} {s':S} (h:step s=some (.inl s')):An step s=An step s':=by
 cases h':An step s' with
 | some e=>obtain⟨n,b⟩:=Ai8 h';exact Ai9 (n:=n+1) (by simp only[J1,h];exact b)
 | none=>
  cases c:An step s with
  | none=>rfl
  | some e=>obtain⟨n,b⟩:=Ai8 c;cases n with| zero=>cases b| succ n=>simp only[J1,h]at b;rw[Ai9 b]at h';cases h'
theorem J2 {step:S->Option (S⊕E)} (c:S->Prop) (m:S->Nat) (b:E->Prop) (f:∀s,c s->(∃s',step s=some (.inl s')/\c s'/\m s' < m s)\/(∃e,step s=some (.inr e)/\b e)) (s:S) (h0:c s):∃e,An step s=some e/\b e:=by
 generalize hk:m s=k;induction k using Nat.strongRecOn generalizing s with
 | _ k ih=>
  rcases f s h0 with⟨s',h1,h2,h3⟩|⟨e,h1,h2⟩
  .obtain⟨e,h,g⟩:=ih (m s') ω s' h2 rfl;exact⟨e,by rw[Ks h1];exact h,g⟩
  .exact⟨e,Fg h1,h2⟩
def Ag (l:List α) (i:Int):Option α:=if 0<=i then l[i.toNat]? else none
def Er (l:List α) (lo hi:Int):Option (List α):=if 0<=lo/\lo<=hi/\hi<=l.length then some ((l.take hi.toNat).drop lo.toNat) else none
def Ca (b:Nat) (xs ys:List α):Option (List α):=if (xs.length+ys.length)*b<=140737488355328 then some (xs++ys) else none
def Gz (c:Nat) (len b:Int) (z:α):Option (List α):=if 0<=len/\len<=b/\c*b.toNat<=281474976710656/\b<=140737488355328 then some (replicate len.toNat z) else none
def Lc (l:List α) (off n:Nat) (i:Int):Option α:=if 0<=i/\i<n then l[off+i.toNat]? else none
def Yu (n:Nat) (lo hi:Int):Option (Nat×Nat):=if 0<=lo/\lo<=hi/\hi<=n/\(lo=0\/lo<hi) then some (lo.toNat,hi.toNat) else none
def G0 (n:Nat) (l:List α):Option Unit:=if n=l.length then some () else none
theorem I2 {u:Unit} (h:G0 n l=some u):n=l.length:=by
 unfold G0 at h;split at h
 .assumption
 .cases h
theorem A0i (off:Nat) (h:i=n):((off:Nat):Int)+i=((off+n:Nat):Int):=ω
def Py (n:Int):Option ByteArray:=if -9223372036854775808<=n/\n<=9223372036854775807 then some ⟨(Lib.itoa n).toArray⟩ else none
def Adn (a b:Int):Option ByteArray:=bif b==10 then Py a else none
def Fk (l:List Int):List UInt8:=l.map λn=>UInt8.ofNat n.toNat
def Yv (l:List Int):Option ByteArray:=if (∀x∈l,0<=x/\x<256) then some ⟨(Fk l).toArray⟩ else none
def N4 (s:ByteArray):List Int:=s.data.toList.map λb=>(b.toNat:Int)
def Di (l:List α) (i:Int) (x:α):List α:=l.set i.toNat x
def Ia (k:IntKind) (a b:Int):Option Int:=if b=0 then none else some (k.wrap (a.tdiv b))
def I3 (a b:Int):Option Int:=if b=0 then none else some (a.tmod b)
def Yw (k:IntKind) (a b:Int):Option Int:=if 0<=b then some (a.fdiv (2 ^ (min b.toNat k.bits))) else none
def Gj (s:ByteArray) (i:Int):Option UInt8:=if 0<=i then s[i.toNat]? else none
def Gq (a b:ByteArray):Option ByteArray:=if a.size+b.size<=9223372036854775807 then some (a++b) else none
def E6 (s:ByteArray) (lo hi:Int):Option ByteArray:=if 0<=lo/\lo<=hi/\hi<=s.size then some (s.extract lo.toNat hi.toNat) else none
abbrev Aa (n:Int):Int:=IntKind.i64.wrap n
abbrev Bb (n:Int):Int:=IntKind.u64.wrap n
abbrev Cz (n:Int):Int:=IntKind.u32.wrap n
abbrev wu8 (n:Int):Int:=IntKind.u8.wrap n
theorem Ao0 {x:α} (h:Ag l i=some x):∃n:Nat,i=n/\l[n]? = some x:=by
 unfold Ag at h;split at h
 .exact⟨i.toNat,ω,h⟩
 .cases h
section
variable {β:Type} {r:β}
variable {q:FloatKind} {hi i lo:Int} {ys:List AV} {a b n:Nat} {K:Nat->Prop} {G:Prop} {α:Type} {l:List α} {o:Option α} {x:α} {m:α->Option β}
theorem Dt (h:o.bind m=some r) (k:∀x,o=some x->m x=some r->G):G:=by cases o with| none=>cases h| some x=>exact k x rfl h
theorem Ao1 (h:o.bind m=some r) (k:∀x,o=some x->(∀y,y=x->m y=some r)->G):G:=by cases o with| none=>cases h| some x=>exact k x rfl (λy hy=>by subst hy;exact h)
theorem Aja {f:α->AV} (he:ys=l.map f) {K:Nat->AV->Prop} (h:(Ag l i).bind m=some r) (k:∀(n:Nat) (x:α),i=n->l[n]? = some x->m x=some r->K n (f x)):Vt ys i K:=by subst he;refine Dt h λx hx h=>?_;obtain⟨n,b,hg⟩:=Ao0 hx;exact .mk n (f x) b (by simp[hg]) (k n x b hg h)
theorem A0j {f:α->AV} (he:ys=l.map f) {len:Nat} (g:len=l.length) (hk:b=l.length) (h:(Ag l i).bind m=some r) (k:∀(n:Nat) (x:α),i=n->l[n]? = some x->m x=some r->K n):S8 len b ys i K:=by subst he;refine Dt h λx hx h=>?_;obtain⟨n,c,hg⟩:=Ao0 hx;exact .mk n (by rw[hk];simp) c (by rw[g];exact (Gx.1 hg).1) (k n x c hg h)
theorem A0k {f:α->AV} (he:ys=l.map f) {off len:Nat} (hk:b=l.length) (h:(Lc l off len i).bind m=some r) (k:∀(n:Nat) (x:α),i=n->l[off+n]? = some x->m x=some r->K n):S8 len b ys i K:=by
 subst he;refine Dt h λx hx h=>?_;unfold Lc at hx;split at hx
 .rename_i hc;exact .mk i.toNat (by rw[hk];simp) ω ω (k _ x ω hx h)
 .cases hx
theorem A0l {f:α->AV} (he:ys=l.map f) (hk:b=l.length) {m:Nat×Nat->Option β} {K:Nat->Nat->Prop} {c:Prop} (h:(Yu n lo hi).bind m=some r) (k:∀v:Nat×Nat,m v=some r->K v.1 v.2):An2 b ys n lo hi K c:=by
 subst he;refine Dt h λx hx h=>?_;unfold Yu at hx;split at hx
 .rename_i hc;cases hx;exact .mk lo.toNat hi.toNat (by rw[hk];simp) ω ω ω ω ω (k _ h)
 .cases hx
theorem Ao2 {op:BinOp} {m:Nat->Option β} (h:(floatBits op q a b).bind m=some r) (k:∀c,m c=some r->K c):Ac6 op q a b K := Dt h λx hx h=>.mk x hx (k x h)
theorem Ao3 {z:IntKind} {m:Int->Option β} {K:Int->Prop} (h:(floatToIntVal q a z).bind m=some r) (k:∀c,m c=some r->K c):Ac7 q a z K := Dt h λx hx h=>.mk x hx (k x h)
theorem A0m {f:α->AV} (he:ys=l.map f) {i:Nat} {K:AV->Prop} (hk:b=l.length) (hi:i=n) (hx:l[n]? = some x) (k:K (f x)):Mz b i ys K:=by subst he;subst hi;exact .mk (f x) (by rw[hk];simp) (by simp[hx]) k
theorem Pz {f:α->AV} (he:ys=l.map f) {i:Nat} {j:Int} {p:AV} {K:List AV->Prop} (hp:p=f x) (hi:i=n) (hj:j=(n:Int)) (k:K ((Di l j x).map f)):Yn ys i p K:=by subst he;subst hi;subst hp;subst hj;exact .mk _ (by simp[Di,map_set]) k
theorem Jf {k:Nat} (h:k=l.length) (j:Int) (x:α):k=(Di l j x).length:=by simp[Di,h]
theorem Ajb {f:α->AV} (he:ys=l.map f) {m:List α->Option β} {K:List AV->Prop} (h:(Er l lo hi).bind m=some r) (k:∀b:List α,m b=some r->K (b.map f)):Ny ys lo hi K:=by
 subst he;refine Dt h λx hx h=>?_;unfold Er at hx;split at hx
 .rename_i hc;cases hx;exact .mk lo.toNat hi.toNat _ ω ω ω ζ (by rw[<-map_take,<-map_drop]) (k _ h)
 .cases hx
variable {g:AV} {lo:Int} {xs ys:List AV} {K:List AV->Nat->Prop} {b:Nat} {α:Type} {l:List α} {m:List α->Option β}
theorem Ao4 {f:α->AV} (he:ys=l.map f) {K:List AV->Prop} (h:(Er l lo l.length).bind m=some r) (k:∀b:List α,m b=some r->K (b.map f)):Ny ys lo ys.length K:=by
 have e:((ys.length:Nat):Int)=(l.length:Int):=by rw[he];simp
 rw[e];exact Ajb he h k
theorem A0n {g:List α->List AV} {f:α->AV} (hg:∀l,g l=l.map f) (he:ys=l.map f) {hi:Int} {K:List AV->Prop} (h:(Er l lo hi).bind m=some r) (k:∀b:List α,m b=some r->K (g b)):Ny ys lo hi K := Ajb he h λb h=>by rw[<-hg];exact k b h
theorem A0o {g:List α->List AV} {f:α->AV} (hg:∀l,g l=l.map f) (he:ys=l.map f) {K:List AV->Prop} (h:(Er l lo l.length).bind m=some r) (k:∀b:List α,m b=some r->K (g b)):Ny ys lo ys.length K := Ao4 he h λb h=>by rw[<-hg];exact k b h
theorem Tg {ys:List α} {f:α->AV} {c:List AV} (he:xs=l.map f) (i:c=ys.map f) {g len:Nat} {q:List AV->Nat->Nat->Prop} (hk:g=l.length) (j:len=l.length) (h:(Ca b l ys).bind m=some r) (k:∀o:List α,m o=some r->K (o.map f) o.length):Nz xs c g len b K q:=by
 subst he;subst i;subst hk;subst j;refine Dt h λx hx h=>?_;unfold Ca at hx;split at hx
 .rename_i hc;cases hx;exact .mk _ _ ψ rfl (by simpa using hc) ψ ψ (k _ h)
 .cases hx
theorem A0p {l:List Int} {s:ByteArray} (he:xs=l.map λn=>.val (.int .u8 n)) {c len:Nat} {m:List Int->Option β} {i:List AV->Nat->Nat->Prop} (hk:c=l.length) (g:len=l.length) (h:(Ca b l (N4 s)).bind m=some r) (k:∀o:List Int,m o=some r->K (o.map λn=>.val (.int .u8 n)) o.length):Nz xs (Kb s) c len b K i:=by refine Tg (f:=λn=>.val (.int .u8 n)) he ?_ hk g h k;simp[Kb,N4]
theorem Ao5 {ys:List α} {f:α->AV} {c:List AV} (g:c=ys.map f) (h:(Ca b [] ys).bind m=some r) (k:∀o:List α,m o=some r->K (o.map f) o.length):S9 c b K:=by
 subst g;refine Dt h λx hx h=>?_;unfold Ca at hx;split at hx
 .rename_i hc;cases hx;exact .mk _ _ (by simpa using hc) ψ ψ (k _ h)
 .cases hx
theorem A0q {g:List α->List AV} {f:α->AV} (hg:∀l,g l=l.map f) {ys:List α} {c:List AV} (he:xs=l.map f) (j:c=ys.map f) {i len:Nat} {s:List AV->Nat->Nat->Prop} (hk:i=l.length) (q:len=l.length) (h:(Ca b l ys).bind m=some r) (k:∀o:List α,m o=some r->K (g o) o.length):Nz xs c i len b K s := Tg he j hk q h λo h=>by rw[<-hg];exact k o h
theorem A0r {g:List α->List AV} {f:α->AV} (hg:∀l,g l=l.map f) {ys:List α} {c:List AV} (i:c=ys.map f) (h:(Ca b [] ys).bind m=some r) (k:∀o:List α,m o=some r->K (g o) o.length):S9 c b K := Ao5 i h λo h=>by rw[<-hg];exact k o h
theorem A0s {z:α} {f:α->AV} (i:g=f z) {len c:Int} {K:Nat->List AV->Prop} (h:(Gz b len c z).bind m=some r) (k:∀o:List α,m o=some r->K o.length (o.map f)):Vu len c b g K:=by
 subst i;refine Dt h λx hx h=>?_;unfold Gz at hx;split at hx
 .rename_i hc;cases hx;exact .mk _ c.toNat _ ζ ω ζ hc.2.2.1 ω ψ (k _ h)
 .cases hx
theorem V4 {z:α} {f:α->AV} (i:Ht g.cells (f z).cells) {len c:Int} {K:Nat->List AV->Prop} (h:(Gz b len c z).bind m=some r) (k:∀o:List α,m o=some r->K o.length (o.map f)):Vu len c b g K:=by
 refine Dt h λx hx h=>?_;unfold Gz at hx;split at hx
 .rename_i hc;cases hx;exact .mkN (f z) i _ c.toNat _ ζ ω ζ hc.2.2.1 ω ψ (k _ h)
 .cases hx
theorem Ao6 {f:α->AV} (he:ys=l.map f) {K:Int->Prop} (k:K (l.length:Int)):N0 ys K:=by subst he;exact .mk _ ψ k
theorem A0t {f:α->AV} (he:ys=l.map f) (hk:b=l.length) {K:Prop} (k:K):H9 b ys K:=by subst he;exact .mk (by rw[hk];simp) k
variable {s:ByteArray} {a b:Int} {m:Int->Option β} {K:Int->Prop} {k:IntKind} {es:List (AV×AV)} {α:Type} {l:List (ByteArray×α)}
def E7 (l:List (ByteArray×α)) (s:ByteArray):Bool:=l.any λp=>s==p.1
def Ik (l:List (ByteArray×α)) (s:ByteArray) (z:α):α:=((l.find? λp=>s==p.1).map (·.2)).getD z
def Gt {α:Type}:List (ByteArray×α)->ByteArray->α->List (ByteArray×α)
 | [],s,v=>[(s,v)]
 | p::l,s,v=>bif s==p.1 then (s,v)::l else p::Gt l s v
def Bk (f:α->AV) (l:List (ByteArray×α)):List (AV×AV):=l.map λp=>(.val (.string p.1),f p.2)
theorem Ajc {α:Type} (f:α->AV) (s:ByteArray) (z:α):∀(l:List (ByteArray×α)) (i:Nat), (E7 l s=false/\Kc s (Bk f l) i=some none)\/(E7 l s=true/\∃j,Kc s (Bk f l) i=some (some (i+j,f (Ik l s z)))/\∀v,Bk f (Gt l s v)=(Bk f l).set j (.val (.string s),f v))
 | [],i=>.inl ⟨rfl,rfl⟩
 | p::l,i=>by
  cases hp:s==p.1 with
  | true=>
   refine .inr ⟨by simp[E7,hp],0,?_,λv=>?_⟩
   .simp[Bk,Kc,Ik,hp]
   .simp[Bk,Gt,hp]
  | false=>
   rcases Ajc f s z l (i+1) with⟨h1,h2⟩|⟨h1,j,h2,h3⟩
   .refine .inl ⟨by simp only[E7,any_cons,hp,Bool.false_or];exact h1,?_⟩;have:Kc s (Bk f (p::l)) i=Kc s (Bk f l) (i+1):=(by simp[Bk,Kc,hp]);rw[this,h2]
   .refine .inr ⟨by simp only[E7,any_cons,hp,Bool.false_or];exact h1,j+1,?_,λv=>?_⟩
    .have:Kc s (Bk f (p::l)) i=Kc s (Bk f l) (i+1):=(by simp[Bk,Kc,hp]);have b:Ik (p::l) s z=Ik l s z:=(by simp[Ik,hp]);rw[this,h2,b];congr 3;omega
    .have c:Bk f (Gt (p::l) s v)=(.val (.string p.1),f p.2)::Bk f (Gt l s v):=(by simp[Bk,Gt,hp]);rw[c,h3 v];rfl
theorem Ao7 {α:Type} (f:α->AV) {s:ByteArray} {v:α}:∀{l:List (ByteArray×α)},E7 l s=false->Bk f (Gt l s v)=Bk f l++[(.val (.string s),f v)]
 | [],_=>rfl
 | p::l,h=>by simp only[E7,any_cons,Bool.or_eq_false_iff]at h;have:=Ao7 f (v:=v) (l:=l) h.2;simp only[Gt,h.1,cond_false];simp only[Bk,map_cons,cons_append]at this ⊢;rw[this]
theorem Th {f:α->AV} (he:es=Bk f l) (z:α) {m b:Option β} {K:Option (Nat×AV)->Prop} (h:(bif E7 l s then m else b)=some r) (g:∀j,E7 l s=true->m=some r->K (some (j,f (Ik l s z)))) (c:E7 l s=false->b=some r->K none):An5 s es K:=by
 subst he;rcases Ajc f s z l 0 with⟨h1,h2⟩|⟨h1,j,h2,_⟩
 .rw[h1]at h;exact .mk _ h2 (c h1 h)
 .rw[h1]at h;exact .mk _ h2 (g _ h1 h)
theorem Rk {f:α->AV} (he:es=Bk f l) {x:α} {v:AV} (b:v=f x) {K:List (AV×AV)->Prop} (k:K (Bk f (Gt l s x))):An6 s v es K:=by
 subst he;subst b;refine .mk _ ?_ k;unfold Acv;rcases Ajc f s x l 0 with⟨h1,h2⟩|⟨h1,j,h2,h3⟩
 .rw[h2,Ao7 f h1]
 .rw[h2,h3 x];simp
theorem Yx (h:(Ia k a b).bind m=some r) (f:∀c:Int,m c=some r->K c):Ac0 k a b K:=by
 refine Dt h λx hx h=>?_;unfold Ia at hx;split at hx
 .cases hx
 .rename_i hb;cases hx;exact .mk _ hb rfl (f _ h)
theorem Ado (h:(I3 a b).bind m=some r) (f:∀c:Int,m c=some r->K c):Ac1 a b K:=by
 refine Dt h λx hx h=>?_;unfold I3 at hx;split at hx
 .cases hx
 .rename_i hb;cases hx;exact .mk _ hb rfl (f _ h)
theorem Ao8 (h:(Yw k a b).bind m=some r) (f:∀c:Int,m c=some r->K c):Ac2 k a b K:=by
 refine Dt h λx hx h=>?_;unfold Yw at hx;split at hx
 .rename_i hb;cases hx;exact .mk _ hb rfl (f _ h)
 .cases hx
theorem N5 {i:Int} {m:UInt8->Option β} {K:UInt8->Prop} (h:(Gj s i).bind m=some r) (b:∀c:UInt8,m c=some r->K c):Ac4 s i K:=by
 refine Dt h λx hx h=>?_;unfold Gj at hx;split at hx
 .exact .mk i.toNat x ω hx (b _ h)
 .cases hx
variable {m:ByteArray->Option β}
theorem It {a b:ByteArray} {K:Prop} (h:(Gq a b).bind m=some r) (k:m (a++b)=some r->K):Ac5 (a.size+b.size) K:=by
 refine Dt h λx hx h=>?_;unfold Gq at hx;split at hx
 .rename_i hc;cases hx;exact .mk hc (k h)
 .cases hx
theorem Ajd {s:ByteArray} {lo hi:Int} {K:Nat->Nat->Prop} (h:(E6 s lo hi).bind m=some r) (k:∀l h',lo=((l:Nat):Int)->hi=((h':Nat):Int)->m (s.extract l h')=some r->K l h'):Ac3 s.size lo hi K:=by
 refine Dt h λx hx h=>?_;unfold E6 at hx;split at hx
 .rename_i hc;cases hx;exact .mk lo.toNat hi.toNat ω ω ω ω (k _ _ ω ω h)
 .cases hx
end
def Adp (Qn:Nat->B5->Hp->Prop) (Qe:Nat->Nat->B5->Hp->Prop) (Qr:Nat->B5->Hp->Prop) (x:Ex) (n:Nat) (e:B5) (H:Hp):Prop := match x with
 | .normal=>Qn n e H
 | .exit i=>Qe i n e H
 | .ret=>Qr n e H
def wc (P:Program) (C:Cfg) (c:Code) (Qn:Nat->B5->Hp->Prop) (Qe:Nat->Nat->B5->Hp->Prop) (Qr:Nat->B5->Hp->Prop) (n:Nat) (e:B5) (H:Hp):Prop := Da P C.T->P.follows .mixedOrders=true->∀(F:A5) (W:World) (σ:A5) (ι:Cd) (a:Act) (w:World) (Q:Exit->Act->World->Prop), Lb a.tmps.size c=true->St σ ι H F W w->Ft σ ι H e a->F8 H n -> (∀x h e' H' f g b w',Adp Qn Qe Qr x h e' H'->Le σ ι H f g H'->St f g H' F W w'->Ft f g H' e' b->F8 H' h->n<=h->b.tmps.size=a.tmps.size->b.defers=a.defers->Gi (F9 c) a b->Q x.out b w')->c.wp P Q a w
section
variable {P:Program} {C:Cfg} {Qn:Nat->B5->Hp->Prop} {Qe:Nat->Nat->B5->Hp->Prop} {Qr:Nat->B5->Hp->Prop} {n:Nat} {e:B5} {H:Hp} {β:Type} {r:β}
variable {σ:A5} {a:Act} {t:Bool} {ι:Cd} {b c1 c2:Code} {fn:Func} {os:List Oper} {id:Nat} {x:Operand} {S:Type}
theorem Aje {c:Code} (h:vc P C c (Adp Qn Qe Qr) n e H):wc P C c Qn Qe Qr n e H := λi g _ _ σ ι a w Q b s he f hk=>Tb i g c _ n e H σ ι a w Q b h s he f hk
theorem Ld (k:Qn n e H):wc P C .skip Qn Qe Qr n e H:=Aje k
theorem Ajf (k:Qr n e H):wc P C .ret Qn Qe Qr n e H:=Aje k
theorem Hk (k:Qe id n e H):wc P C (.exit id) Qn Qe Qr n e H:=Aje k
theorem Ao9 {ops:Array Oper} {b:Bool} (h:Ga (Fy P C.T C.an C.nl ops ops.toList n e H [] λn e H acc=>bif b then N3 ops.toList acc (Qn n e H) else Qn n e H)):wc P C (.region id ops b) Qn Qe Qr n e H:=by
 intro V R F W σ ι a w Q E s he M hk;have q:=Le.refl σ ι H;have s0:=s;have z:=he;have N:=M;obtain⟨L,e',H',accs,l,_,U,x,hf,c⟩:=Ai6 V ops.toList 0 n e H [] _ ψ rfl M h.1;have u:=Aop E;cases b with
 | false=>simp only[cond_false]at l;refine wp_region ?_;have:range ops.size=range' 0 ops.toList.length:=(by rw[range_eq_range'];simp);rw[this];refine c.wpOps s0 z u ?_;intro B D J w' le s' g f j hu;exact hk .normal L e' H' B D J w' l (q.trans le) s' g hf x f j hu
 | true=>
  simp only[cond_true]at l;obtain⟨G,l⟩:=l;refine wp_region_any R ?_;have A:ops=ops.toList.toArray:=ψ;rw[A];simp only[size_toArray];refine Aij (accs:=accs) (e':=e') (H':=H') G ops.toList.length _ (range' 0 ops.toList.length) e H σ ι a _ (by rw[<-A];exact c) (pairwise_lt_range' ..) ?_ ψ ?_ ψ (s0.drew _) z (by rw[<-A];exact u) ?_
  .intro i;simp only[mem_range'_1,Array.getD_eq_getD_getElem?];constructor
   .rintro⟨_,h2⟩;refine⟨ω,?_⟩;have:i<ops.size:=(by simpa using h2);simp[this]
   .rintro⟨h1,_⟩;omega
  .intro k o S I;exfalso;simp only[Array.getD_eq_getD_getElem?]at I;by_cases y:k<ops.size
   .simp[y]at I
   .simp[y]at I
  .intro B D J w' le s' g f j hu;exact hk .normal L e' H' B D J w' l (q.trans le) s' g hf x f j (by rw[<-A]at hu;exact hu)
theorem Apa (k:Ga (Fy P C.T C.an C.nl os.toArray os n e H [] λn e H acc=>N3 os acc (Qn n e H))):wc P C (.region id os.toArray true) Qn Qe Qr n e H:=Ao9 k
theorem Hb (k:Ga (Fy P C.T C.an C.nl os.toArray os n e H [] λn e H _=>Qn n e H)):wc P C (.region id os.toArray false) Qn Qe Qr n e H:=Ao9 k
theorem Ee {c:Code} (z:List Gh) (k:gxs z n e H λn e H=>Ga (wc P C c Qn Qe Qr n e H)):wc P C c Qn Qe Qr n e H:=by intro R M F W σ ι a w Q h s he L hk;obtain⟨A,D,U,V,X,J,b,G,l,i,N⟩:=Rj z k s he L;exact J.1 R M F W A D a w Q h G l i λx I e' H' B E S w' hq f s' q j y g u hu=> hk x I e' H' B E S w' hq (b.trans f) s' q j ω g u hu
theorem Az (k:wc P C c1 (λn e H=>wc P C c2 Qn Qe Qr n e H) Qe Qr n e H):wc P C (.seq c1 c2) Qn Qe Qr n e H:=by intro R M F W σ ι a w Q f s he hn hk;simp only[Lb,Fr]at f;refine wp_seq (k R M F W σ ι a w _ f.1 s he hn ?_);intro x L S U y z a1 A hq c B i g q b j hu;cases x with| normal=>refine hq R M F W y z a1 A Q (by rw[b];exact f.2) B i g ?_;intro x n2 e2 H2 V X a2 Y G D Z J I N l u E;exact hk x n2 e2 H2 V X a2 Y G (c.trans D) Z J I ω (l.trans b) (u.trans j) ((hu.mono (by simp[F9];exact λs h=>.inl h)).trans (E.mono (by simp[F9];exact λs h=>.inr h)))| exit id=>exact hk (.exit id) L S U y z a1 A hq c B i g q b j (hu.mono (by simp[F9];exact λs h=>.inl h))| ret=>exact hk .ret L S U y z a1 A hq c B i g q b j (hu.mono (by simp[F9];exact λs h=>.inl h))
theorem Ajg {l:Nat} (k:Qn n e H):wc P C (.label l) Qn Qe Qr n e H:=by intro g f F W σ ι a w Q b s he c hk;exact wp_label (hk .normal n e H σ ι a w k (Le.refl _ _ _) s he c (Nat.le_refl _) rfl rfl (Gi.refl _ _))
theorem Ajh {c:Code} (k:wc P C c Qn Qe Qr n e H):wc P C (.scope c) Qn Qe Qr n e H:=by intro E D F W σ ι a w Q g s he B hk;refine wp_scope_straight (k E D F W σ ι a w _ g s he B ?_);intro x A G I q u a1 y hq b z j h i f l hu;have:=hk x A G I q u a1 y hq b z j h i f l hu;cases x <;> exact this
theorem Lf {c:Code} (k:wc P C c Qn (λi n e H=>bif Nat.beq i id then Qn n e H else Qe i n e H) Qr n e H):wc P C (.block id c) Qn Qe Qr n e H:=by
 intro J I F W σ ι a w Q E s he G hk;refine wp_block (k J I F W σ ι a w _ E s he G ?_);intro x A B D q u a1 y hq b z j g h f l hu;cases x with
 | normal=>exact hk .normal A B D q u a1 y hq b z j g h f l hu
 | exit i=>
  simp only[Ex.out,Exit.inBlock];by_cases hi:i=id
  .subst hi;rw[if_pos rfl];have:Nat.beq i i=true:=Nat.beq_refl i;simp only[Adp,this,cond_true]at hq;exact hk .normal A B D q u a1 y hq b z j g h f l hu
  .rw[if_neg hi];have:Nat.beq i id=false:=by
    cases hb:Nat.beq i id
    .rfl
    .exact (hi (Gg hb)).elim
   simp only[Adp,this,cond_false]at hq;exact hk (.exit i) A B D q u a1 y hq b z j g h f l hu
 | ret=>exact hk .ret A B D q u a1 y hq b z j g h f l hu
theorem Apb (b:Aol a.tmps.size x=true) (he:Ft σ ι H e a) (hx:ev e x = .val (.bool t)):a.eval x = .bool t:=by
 have hc:=he.eval (x:=x) (λt ht=>by cases x with| tmp q=>cases ht;exact H4 b| _=>cases ht)
 rw[hx]at hc;exact hc.val_inv
theorem Adq (k:wc P C c1 Qn Qe Qr n e H) (hx:ev e x = .val (.bool true):=by exact rfl):wc P C (.cond x c1 c2) Qn Qe Qr n e H:=by intro E D F W σ ι a w Q b s he B hk;simp only[Lb,Fr]at b;refine wp_cond_true (Apb b.1.1 he hx) (k E D F W σ ι a w Q b.1.2 s he B ?_);intro x A G I q u a1 y hq c z j g i f l hu;exact hk x A G I q u a1 y hq c z j g i f l (hu.mono (by simp[F9];exact λs h=>.inl h))
theorem Yy (k:wc P C c2 Qn Qe Qr n e H) (hx:ev e x = .val (.bool false):=by exact rfl):wc P C (.cond x c1 c2) Qn Qe Qr n e H:=by intro E D F W σ ι a w Q b s he B hk;simp only[Lb,Fr]at b;refine wp_cond_false (Apb b.1.1 he hx) (k E D F W σ ι a w Q b.2 s he B ?_);intro x A G I q u a1 y hq c z j g i f l hu;exact hk x A G I q u a1 y hq c z j g i f l (hu.mono (by simp[F9];exact λs h=>.inr h))
theorem Dx {c:Operand} {a:Code} {m f:Option β} (h:(bif t then m else f)=some r) (h1:t=true->m=some r->wc P C a Qn Qe Qr n e H) (h2:t=false->f=some r->wc P C b Qn Qe Qr n e H) (hx:ev e c = .val (.bool t):=by exact rfl):wc P C (.cond c a b) Qn Qe Qr n e H:=by cases t with| true=>exact Adq (h1 rfl h) hx| false=>exact Yy (h2 rfl h) hx
theorem Apc {X:List Nat} {l:List (Nat×AV)} {h:List (Nat×Bn)} {F z:A5} {W w Y:World} {I:Cd} {a1:Act} {G:Hp} {e1:B5} (hb:La n l h=true) (hn:F8 H n) (s:St σ ι H F W w) (he:Ft σ ι H e a) (M:H5 e1 l) (R:H6 G (Cq H h) n n) (L:Le σ ι H z I G) (i:St z I G F W Y) (a8:Ft z I G e1 a1) (aa:a1.tmps.size=a.tmps.size) (a7:Gi X a a1) : ∃A,Le σ ι H z A (Cq H h)/\St z A (Cq H h) F W Y/\Ft z A (Cq H h) (Kr X e (λs=>a1.tmps.getD s undef) l) a1/\F8 (Cq H h) n:=by
 have Z:∀x,n<=x->ι x = .none:=by intro x hx;have:=s.obj x;unfold C2 at this;rw[hn x hx]at this;exact this
 have D:∀p∈h,p.1<n:=by intro p hp;unfold La at hb;rw[Fr,Ej,Ej]at hb;exact H4 (hb.2 p hp)
 have N:∀p∈l,p.2.under n=true:=by intro p hp;unfold La at hb;rw[Fr,Ej,Ej]at hb;exact hb.1 p hp
 have u:F8 (Cq H h) n:=by intro x hx;rw[Vs (λp hp e=>by have:=D p hp;omega)];exact hn x hx
 let A:Cd:=λx=>if x<n then I x else .none
 have c:∀x,x<n->A x=I x:=λx hx=>if_pos hx;have f:∀x,x<n->Cq H h x=G x:=λx hx=>((R.spec) x hx).1.symm;have J:Le σ ι H z A (Cq H h):=by
  refine⟨L.sto,λx=>?_⟩;by_cases hx:x<n
  .rw[c x hx,f x hx];exact L.obj x
  .rw[Z x ω,hn x ω];exact HLe.of_none
 have s2:St z A (Cq H h) F W Y:=by
  refine⟨i.sto,i.fra,λx=>?_,?_,i.os,i.tape,i.output,i.glo,i.drw⟩
  .by_cases hx:x<n
   .have k:=i.obj x;have B:=((R.spec) x hx).2;unfold C2 at k ⊢;rw[f x hx]at B ⊢;rw[c x hx];cases j:G x with
    | none=>rw[j]at k;exact k
    | dead=>trivial
    | cells E cs=>rw[j]at k B;obtain⟨b,Cc,g1,g2,g3,g4,g5,g6⟩:=k;refine⟨b,Cc,g1,g2,g3,g4,g5,λq cq v hq a6=>(g6 q cq v hq a6).restrict c f ?_⟩;have:=Ej.1 B cq (Fw hq);exact Aix this
    | rows E sz xs=>rw[j]at k;exact k
    | map es=>rw[j]at k;exact k
   .unfold C2;rw[u x ω];exact if_neg hx
  .intro x y b V U bx S;have hx:x<n:=by
    rcases Nat.lt_or_ge x n with hx|hx
    .exact hx
    .rw[u x hx]at V;cases V
   have hy:y<n:=by
    rcases Nat.lt_or_ge y n with hy|hy
    .exact hy
    .rw[u y hy]at U;cases U
   rw[f x hx]at V;rw[f y hy]at U;rw[c x hx]at bx;rw[c y hy]at S;exact i.inj x y b V U bx S
 refine⟨A,J,s2,?_,u⟩;intro q hq;rcases Aon X e (λs=>a1.tmps.getD s undef) l q with⟨p,hp,rfl,g⟩|⟨hw,g⟩|⟨hw,g⟩
 .rw[g,<-M.spec p hp];refine (a8 p.1 hq).restrict c f ?_;rw[M.spec p hp];exact N p hp
 .rw[g];exact .of_val _
 .rw[g,a7 q hw];exact (he q ω).mono J
theorem Apd {E:Type} {step:S->Option (S⊕E)} {s0:S} {J:E->Option β} (h:(An step s0).bind J=some r) (L:S->List (Nat×AV)) (B:S->List (Nat×Bn)) (j:S->Prop) (hb:∀s,La n (L s) (B s)=true) (hs:H5 e (L s0)) (hh:H6 H (Cq H (B s0)) n n) (h0:j s0) (a8:∀(s:S) (u:Nat->Value) (K:Nat->B5->Hp->Prop) (o:S⊕E),step s=some o->(∀x,.inr x=o->J x=some r)->(∀s' n' e' H',.inl s'=o->H5 e' (L s')->H6 H' (Cq H (B s')) n n->j s'->K n' e' H')->j s -> wc P C b K Qe Qr n (Kr (F9 b) e u (L s)) (Cq H (B s))):wc P C (.loop b) Qn Qe Qr n e H:=by
 intro hT hm F W σ ι a w Q aa s he hn hk;refine Dt h λx hx h=>?_;obtain⟨N,hN⟩:=Ai8 hx;let J':Nat->Act->World->Prop:=λk a' w'=>∃i σ' ι',(J1 step k i=some x/\j i)/\Le σ ι H σ' ι' (Cq H (B i))/\St σ' ι' (Cq H (B i)) F W w' /\
   Ft σ' ι' (Cq H (B i)) (Kr (F9 b) e (λs=>a'.tmps.getD s undef) (L i)) a'/\a'.tmps.size=a.tmps.size/\a'.defers=a.defers/\Gi (F9 b) a a'
 have g:∀(k:Nat) (i:S) (G:A5) (Y:Cd) (H1:Hp) (e1:B5) (a1:Act) (w1:World),(J1 step k i=some x/\j i)->H5 e1 (L i)->H6 H1 (Cq H (B i)) n n->Le σ ι H G Y H1->St G Y H1 F W w1->Ft G Y H1 e1 a1->a1.tmps.size=a.tmps.size ->
    a1.defers=a.defers->Gi (F9 b) a a1->J' k a1 w1:=by intro k i G Y H1 e1 a1 w1 hi ab ad q s1 V c f l;obtain⟨Z,g1,g2,g3,_⟩:=Apc (hb i) hn s he ab ad q s1 V c l;exact⟨i,G,Z,hi,g1,g2,g3,c,f,l⟩
 refine Aom J' N (g N s0 σ ι H e a w ⟨hN,h0⟩ hs hh (Le.refl _ _ _) s he rfl rfl (Gi.refl _ _)) ?_;rintro k a1 w1 ⟨i,G,Y,⟨hi,a7⟩,q,s1,V,c,f,l⟩;have af:F8 (Cq H (B i)) n:=by intro y hy;have X:=hb i;unfold La at X;rw[Fr,Ej,Ej]at X;rw[Vs (λp hp e=>by have:=H4 (X.2 p hp);omega)];exact hn y hy
 cases k with
 | zero=>cases hi
 | succ k=>
  simp only[J1]at hi;cases ho:step i with
  | none=>rw[ho]at hi;cases hi
  | some o=>
   rw[ho]at hi;refine a8 i (λs=>a1.tmps.getD s undef) (λ_ e' H'=>∃s',(J1 step k s'=some x/\j s')/\H5 e' (L s')/\H6 H' (Cq H (B s')) n n) o ho ?_ ?_ a7 hT hm F W G Y a1 w1 _ (by rw[c];exact aa) s1 V af ?_
   .intro y hy;subst hy;simp only[Option.some.injEq]at hi;rw[hi];exact h
   .intro s' n' e' H' R h1 h2 h3;subst R;exact⟨s',⟨hi,h3⟩,h1,h2⟩
   .intro x n2 e2 H2 σ2 Z a2 w2 hq I s2 U a6 D z A M;cases x with| normal=>obtain⟨i',ac,R,ae⟩:=hq;exact⟨k,ω,g k i' σ2 Z H2 e2 a2 w2 ac R ae (q.trans I) s2 U (z.trans c) (A.trans f) (l.trans M)⟩| exit id=>exact hk (.exit id) n2 e2 H2 σ2 Z a2 w2 hq (q.trans I) s2 U a6 D (z.trans c) (A.trans f) (l.trans M)| ret=>exact hk .ret n2 e2 H2 σ2 Z a2 w2 hq (q.trans I) s2 U a6 D (z.trans c) (A.trans f) (l.trans M)
theorem V5 {c:Code} (J:S->Prop) (l:S->List (Nat×AV)) (q:S->List (Nat×Bn)) (hb:∀s,La n (l s) (q s)=true) (X:∀(K:Nat->B5->Hp->Prop),(∀s U e' H',J s->H5 e' (l s)->H6 H' (Cq H (q s)) n n->K U e' H')->wc P C c K Qe Qr n e H) (V:∀(s:S) (u:Nat->Value),J s->Qn n (Kr (F9 c) e u (l s)) (Cq H (q s))):wc P C c Qn Qe Qr n e H:=by intro Z Y F W σ ι a w Q B s he L hk;refine X (λ_ e' H'=>∃s,J s/\H5 e' (l s)/\H6 H' (Cq H (q s)) n n) (λs _ _ _ h1 h2 h3=>⟨s,h1,h2,h3⟩) Z Y F W σ ι a w _ B s he L ?_;intro x I M N y G a1 z hq f A g j k b h hu;cases x with| normal=>obtain⟨i,hi,D,E⟩:=hq;obtain⟨R,g1,g2,g3,g4⟩:=Apc (hb i) L s he D E f A g b hu;exact hk .normal n _ _ y R a1 z (V i (λs=>a1.tmps.getD s undef) hi) g1 g2 g3 g4 (Nat.le_refl _) b h hu| exit id=>exact hk (.exit id) I M N y G a1 z hq f A g j k b h hu| ret=>exact hk .ret I M N y G a1 z hq f A g j k b h hu
theorem A0u (D:Da P C.T) (J:P.follows .mixedOrders=true) {f:FuncId} {c:Code} {args:List AV} {r:AV} (hf:P.funcs[f]? = some fn) (hb:fn.body=some c) (g:(fn.name == "runtime.NumGoroutine")=false) (b:V3 fn c args.length=true) (h:r.free=true) (I:wc P C c (λ_ e H=>Tc C.T fn.results.toList (· = r) e H) (λ_ _ _ _=>False) (λ_ e H=>Tc C.T fn.results.toList (· = r) e H) 0 (V2 args) H0):Ay P f args r:=by
 unfold V3 at b;simp only[Fr]at b;obtain⟨⟨u,y⟩,E⟩:=b;have E:=Gy E;refine⟨⟨fn,hf,g,by rw[hb];rfl⟩,λσ F W w vs s hc=>?_⟩;have j:(vs++Array.replicate (fn.ntmps-vs.size) undef).size=fn.ntmps:=by have:=hc.1;simp;omega
 refine calls_of_wp hf hb (I D J F W σ ι0 _ w _ (by rw[j];exact u) s (Aov hc) (λ_ _=>rfl) ?_);intro x U e' H' N R B w' hq le s' z _ _ i A _;have k:∀q∈fn.results.toList,Td q<B.tmps.size:=by intro q hq';rw[i];have:=H4 (Ej.1 y q hq');rw[j];exact this
 have fin:Tc C.T fn.results.toList (· = r) e' H'->B.defers = []/\∃v,(results fn B.tmps).run P w' = .ok v w'/\∃v0 l,Ending.returned v = .returned v0/\σ.le l/\St l ι0 H0 F W w'/\Conc l ι0 H0 r v0:=by intro hq;obtain⟨v,G,V,S,h1,h2,h3,M,L⟩:=A0d D s' z k hq;subst h2;exact⟨A,v,h1,v,G,rfl,A5.le_trans le.sto h3.sto,M.forget,L.to0 h⟩
 cases x with| normal=>exact fin hq| ret=>exact fin hq| exit id=>exact hq.elim
theorem A0v (fz:Bool) (V:Da P C.T) (hm:P.follows .mixedOrders=true) {f:FuncId} {c:Code} {args:List AV} {r:AV} {B b:List Bn} (hf:P.funcs[f]? = some fn) (hb:fn.body=some c) (l:(fn.name == "runtime.NumGoroutine")=false) (j:V3 fn c args.length=true) (g:Ai5 B r b=true) (hv:wc P C c (λ_ e H=>Tf C.T fz fn.results.toList r b e H) (λ_ _ _ _=>False) (λ_ e H=>Tf C.T fz fn.results.toList r b e H) B.length (V2 args) (hp B)):Bv P f args B r b:=by
 unfold V3 at j;unfold Ai5 at g;simp only[Fr]at j g;obtain⟨⟨I,L⟩,X⟩:=j;obtain⟨⟨E,J⟩,N⟩:=g;have E:=Gy E;have X:=Gy X;refine⟨⟨fn,hf,l,by rw[hb];rfl⟩,λσ F W w ι vs s hc=>?_⟩;have A:(vs++Array.replicate (fn.ntmps-vs.size) undef).size=fn.ntmps:=by have:=hc.1;simp;omega
 refine calls_of_wp hf hb (hv V hm F W σ ι _ w _ (by rw[A];exact I) s (Aov hc) (λ_ h=>Rb h) ?_);intro x n' e' H' σ' Z U w' hq le s' R _ _ z S _;have D:∀q∈fn.results.toList,Td q<U.tmps.size:=by intro q hq';rw[z];have:=H4 (Ej.1 L q hq');rw[A];exact this
 have fin:Tf C.T fz fn.results.toList r b e' H'->U.defers = []/\∃v,(results fn U.tmps).run P w' = .ok v w'/\∃v0 G ι0,Ending.returned v = .returned v0/\Le σ ι (hp B) G ι0 (hp b)/\St G ι0 (hp b) F W w'/\Conc G ι0 (hp b) r v0:=by
  intro hq;obtain⟨v,Y,H2,h1,h2,h3,h4,h5⟩:=A0e V s' R D hq;have u:∀i,i<b.length->H2 i=hp b i:=λi hi=>by simpa using h2.spec i hi
  refine⟨S,v,h1,v,Y,(λk=>if k<b.length then Z k else .none),rfl,?_,h4.first b u N,?_⟩
  .have y:=le.trans h3;refine⟨y.sto,λk=>?_⟩;by_cases hk:k<b.length
   .rw[if_pos hk,<-u k hk];exact y.obj k
   .rw[if_neg hk,Rb ω,Rb ω];have:ι k = .none:=(by have:=s.obj k;unfold C2 at this;rw[Rb ω]at this;exact this);rw[this];exact HLe.refl _ _
  .exact h5.restrict (n:=b.length) (λh M=>if_pos M) (λh M=>(u h M).symm) J
 cases x with| normal=>exact fin hq| ret=>exact fin hq| exit id=>exact hq.elim
end
inductive I7 where
 | c0|c1|c2|c3|c4|c5|c6
def Yz (i:Int):Option I7 := if i=0 then some .c0 else if i=1 then some .c1 else if i=2 then some .c2 else if i=3 then some .c3 else if i=4 then some .c4 else if i=5 then some .c5 else if i=6 then some .c6 else none
theorem Ape {β:Type} {r:β} {i:Int} {m:I7->Option β} {K:Nat->Prop} (h:(Yz i).bind m=some r) (k0:i=((0:Nat):Int)->m .c0=some r->K 0) (k:i=((1:Nat):Int)->m .c1=some r->K 1) (j:i=((2:Nat):Int)->m .c2=some r->K 2) (g:i=((3:Nat):Int)->m .c3=some r->K 3) (f:i=((4:Nat):Int)->m .c4=some r->K 4) (c:i=((5:Nat):Int)->m .c5=some r->K 5) (b:i=((6:Nat):Int)->m .c6=some r->K 6):Pu 7 i K:=by
 unfold Yz at h;split at h
 .rename_i e;exact .mk 0 e δ (k0 e h)
 split at h
 .rename_i e;exact .mk 1 e δ (k e h)
 split at h
 .rename_i e;exact .mk 2 e δ (j e h)
 split at h
 .rename_i e;exact .mk 3 e δ (g e h)
 split at h
 .rename_i e;exact .mk 4 e δ (f e h)
 split at h
 .rename_i e;exact .mk 5 e δ (c e h)
 split at h
 .rename_i e;exact .mk 6 e δ (b e h)
 cases h
variable {a:Act} {P:Program} {w:World}
theorem Apf {id:Nat}:∀{k b:List Item},exitTo id k=some b->b.length<k.length
 | [],b,h=>by cases h
 | x::k,b,h=>by
  have ih:exitTo id k=some b->b.length<(x::k).length:=λh=>Nat.lt_succ_of_lt (Apf h);unfold exitTo at h;split at h
  .rename_i c k0 heq;cases heq;split at h
   .cases h;simp
   .exact ih h
  .rename_i x0 k0 _ heq;cases heq;exact ih h
  .rename_i heq;cases heq
theorem Aji {m f c:Machine} (h:step P m = .next f) (h':Steps P m c):c=m\/Steps P f c:=by obtain⟨n,b⟩:=h';cases n with| zero=>left;simp only[runN,Stepped.next.injEq]at b;exact b.symm| succ n=>right;simp only[runN,h]at b;exact⟨n,b⟩
theorem Apg {b:Frame} {f:Act} {k c:List Item} {cs:List Frame} {w':World} (h:lone (b.at a k) cs w=lone (b.at f c) cs w'):k=c:=by simp only[lone,Machine.mk.injEq,Array.mk.injEq,List.cons.injEq,Goroutine.mk.injEq,Frame.at,Frame.mk.injEq]at h;exact h.2.1.1.1.2.2.1
def A0w:Exit->Bool
 | .normal | .exit _ | .ret=>true
 | _=>false
theorem A0x {Q:Exit->Act->World->Prop} {c:Code} (h:c.wp P (Exit.then (λD w'=>(Code.loop c).wp P (λe a w=>A0w e=true/\Q e a w) D w') Q) a w):(Code.loop c).wp P Q a w:=by
 intro b k cs;obtain⟨e,a1,i,hq,f⟩:=h b (.inLoop c::k) cs;have first:Steps P (lone (b.at a (.code (.loop c)::k)) cs w) (lone (b.at a (.code c :: .inLoop c::k)) cs w):=.one step_loop
 cases e with
 | normal=>
  obtain⟨u,a2,y,⟨s,q⟩,g⟩:=hq b k cs;have j:Steps P (lone (b.at a (.code (.loop c)::k)) cs w) (lone (b.at a1 (.code c :: .inLoop c::k)) cs i):=first.trans (Steps.trans f (.one step_inLoop));refine⟨u,a2,y,q,.of_steps j ?_⟩;cases u with
  | normal=>
   rcases Aji step_loop g with e|e
   .have:=congrArg length (Apg e);simp at this
   .exact e
  | exit id=>
   intro z hk;rcases Aji step_loop (g z hk) with e|e
   .have h1:=Apf hk;have h2:=congrArg length (Apg e);simp at h2;omega
   .exact e
  | ret=>
   obtain⟨todo,A⟩:=g;rcases Aji step_loop A with e|e
   .simp only[lone,Machine.mk.injEq,Array.mk.injEq,List.cons.injEq,Goroutine.mk.injEq,Frame.at,Frame.mk.injEq]at e;simp at e
   .exact⟨todo,e⟩
  | goto l=>cases s
  | panic B=>cases s
  | outgrown=>cases s
 | exit id=>exact⟨_,a1,i,hq,.of_steps first (.pass (x:=.inLoop c) rfl (λ_ _=>.inl ψ) f)⟩
 | goto l=>exact⟨_,a1,i,hq,.of_steps first (.pass (x:=.inLoop c) rfl (λ_ _=>.inl ψ) f)⟩
 | ret=>exact⟨_,a1,i,hq,.of_steps first (.pass (x:=.inLoop c) rfl (λ_ _=>.inl ψ) f)⟩
 | panic B=>exact⟨_,a1,i,hq,.of_steps first (.pass (x:=.inLoop c) rfl (λ_ _=>.inl ψ) f)⟩
 | outgrown=>exact⟨_,a1,i,hq,.of_steps (b:=b) (k:=k) (cs:=cs) (e:=.outgrown) first (.pass (x:=.inLoop c) rfl (λ_ _=>.inl ψ) f)⟩
section
variable {P:Program} {C:Cfg} {Qn:Nat->B5->Hp->Prop} {Qe:Nat->Nat->B5->Hp->Prop} {Qr:Nat->B5->Hp->Prop} {n:Nat} {e:B5} {H:Hp}
theorem V6 {c:Code} (k:wc P C c (λn e H=>wc P C (.loop c) Qn Qe Qr n e H) Qe Qr n e H):wc P C (.loop c) Qn Qe Qr n e H:=by intro R M F W σ ι a w Q l s he hn hk;refine A0x (k R M F W σ ι a w _ l s he hn ?_);intro x L S U y z a1 A hq f B h g q b i hu;cases x with| normal=>refine hq R M F W y z a1 A _ (by rw[b];exact l) B h g ?_;intro x n2 e2 H2 V X a2 Y G D Z J I N j u E;exact⟨by cases x <;> rfl,hk x n2 e2 H2 V X a2 Y G (f.trans D) Z J I ω (j.trans b) (u.trans i) (hu.trans E)⟩| exit id=>exact hk (.exit id) L S U y z a1 A hq f B h g q b i hu| ret=>exact hk .ret L S U y z a1 A hq f B h g q b i hu
def Vw (x:AV) (v:Value):Prop:=∀sz xs,x = .sl sz xs->∃p c,v = .slice p xs.length c/\(p=none->xs = [])
theorem Adr {c:Code} (s:Nat) (k:∀v,Vw (e s) v->wc P C c Qn Qe Qr n (Ba e s (.val v)) H):wc P C c Qn Qe Qr n e H:=by
 intro z y F W σ ι a w Q f u he x hk;by_cases A:s<a.tmps.size
 .have hc:=he s A;refine k (a.tmps.getD s undef) ?_ z y F W σ ι a w Q f u ?_ x hk
  .intro sz xs hx;rw[hx]at hc;rcases hc.sl_inv.sl_inv with⟨rfl,p,cap,e⟩|⟨b,off,cap,C,E,fr,g,e,_⟩
   .exact⟨p,cap,e,λ_=>rfl⟩
   .exact⟨_,cap,e,λh=>by cases h⟩
  .intro q hq;by_cases h:q=s
   .subst h;rw[Co];exact .of_val _
   .rw[Dh _ _ h];exact he q hq
 .have l:∃v,Vw (e s) v:=(by cases hx:e s with| sl sz xs=>exact⟨.slice (some ⟨0,0,none⟩) xs.length 0,λj i h=>by cases h;exact⟨_,_,rfl,λh=>by cases h⟩⟩| _=>exact⟨undef,λj i h=>by cases h⟩);obtain⟨v,l⟩:=l;refine k v l z y F W σ ι a w Q f u ?_ x hk;intro q hq;rw[Dh _ _ ω];exact he q hq
end
variable {α:Type} {l r:List α} {cmp:α->α->Option Int}
structure P1 {α:Type} (cf:α->α->Int):Prop where
 irr:∀x,¬cf x x<0
 trs:∀x y z,cf x y<0->cf y z<0->cf x z<0
 ntr:∀x y z,¬cf x y<0->¬cf y z<0->¬cf x z<0
def Y0 (cmp:α->α->Option Int) (l r:List α):Prop := ∃cf:α->α->Int,P1 cf/\(∀x∈l,∀y∈l,cmp x y=some (cf x y))/\r.Perm l/\r.Pairwise (λx y=>cf x y<0)
open Classical in
noncomputable def P2 {α:Type} (cmp:α->α->Option Int) (l:List α):Option (List α) := if h:∃r,Y0 cmp l r then some (Classical.choose h) else none
theorem A0y (h:P2 cmp l=some r):Y0 cmp l r:=by
 unfold P2 at h;split at h
 .rename_i k;cases h;exact Classical.choose_spec k
 .cases h
theorem Aph (h:Y0 cmp l r):∃b,P2 cmp l=some b/\Y0 cmp l b:=by unfold P2;rw[dif_pos ⟨r,h⟩];exact⟨_,rfl,Classical.choose_spec (⟨r,h⟩:∃r,Y0 cmp l r)⟩
def P3 (n:Nat) (a:List α):Option (List α×List α):=(Ca n [] a).bind λo=>some ([],o)
def M6 (n:Int):Option (List α):=bif decide (0<=n)&&decide (n<=1000000) then some [] else none
end Go.Ab
