/- Plain laws: what the plain functions answer. -/
import Derived.Test.YtohelcameomopaaGreatDoorApAb
namespace Go.Ab
def H0:Hp:=λ_=>.none
def ι0:B2:=λ_=>.none
def Z6 (P:Program) (f:FuncId):Prop:=∃fn,P.funcs[f]? = some fn/\(fn.name == "runtime.NumGoroutine")=false/\fn.body.isNone=false
def Lw (σ:Ax) (ι:B2) (H:Hp) (args:List AV) (vs:Array Value):Prop := vs.size=args.length/\∀(i:Nat) (a:AV) (v:Value),args[i]? = some a->vs[i]? = some v->Conc σ ι H a v
def Au (P:Program) (f:FuncId) (args:List AV) (r:AV):Prop := Z6 P f/\∀(σ F:Ax) (W w:World) (vs:Array Value),St σ ι0 H0 F W w->Lw σ ι0 H0 args vs -> Calls P f vs w λe w'=>∃v b,e = .returned v/\σ.le b/\St b ι0 H0 F W w'/\Conc b ι0 H0 r v
def AV.under0 (n:Nat):AV->Bool
 | .loc h _ | .mp h=>Nat.blt h n
 | .arr h _ _ _ | .el h _ _ _=>Nat.blt h n
 | .val _ | .sl _ _ | .ref _ | .fb _=>true
 | _=>false
def AV.under1 (n:Nat):AV->Bool
 | .loc h _ | .mp h=>Nat.blt h n
 | .arr h _ _ _ | .el h _ _ _=>Nat.blt h n
 | .val _ | .sl _ _ | .ref _ | .fb _=>true
 | .fn _ cs=>cs.all (AV.under0 n)
 | _=>false
def AV.under2 (n:Nat):AV->Bool
 | .agg cs=>cs.all (AV.under1 n)
 | x=>x.under1 n
def AV.under (n:Nat):AV->Bool
 | .agg cs | .fn _ cs=>cs.all (AV.under1 n)
 | .tup cs=>cs.all (AV.under2 n)
 | x=>x.under1 n
def Br.under (n:Nat):Br->Bool
 | .cells _ cs=>cs.all (AV.under1 n)
 | .map _=>true
 | .rows _ _ _=>true
 | .none=>true
 | .dead=>true
def Aew (es:Nat->Nat):AV->AV
 | .loc h off=>.loc (es h) off
 | .mp h=>.mp (es h)
 | .arr h k off len=>.arr (es h) k off len
 | .el h k i j=>.el (es h) k i j
 | x=>x
def Mx (es:Nat->Nat):AV->AV
 | .loc h off=>.loc (es h) off
 | .mp h=>.mp (es h)
 | .arr h k off len=>.arr (es h) k off len
 | .el h k i j=>.el (es h) k i j
 | .fn f cs=>.fn f (cs.map (Aew es))
 | x=>x
def Aex (es:Nat->Nat):AV->AV
 | .agg cs=>.agg (cs.map (Mx es))
 | x=>Mx es x
def ren (es:Nat->Nat):AV->AV
 | .agg cs=>.agg (cs.map (Mx es))
 | .tup cs=>.tup (cs.map (Aex es))
 | .fn f cs=>.fn f (cs.map (Mx es))
 | x=>Mx es x
def H9 (es:Nat->Nat):Br->Br
 | .cells E cs=>.cells E (cs.map (Mx es))
 | o=>o
def hp (b:List Br):Hp:=λk=>b.getD k .none
def B6 (P:Program) (f:FuncId) (args:List AV) (h:List Br) (r:AV) (b:List Br):Prop := Z6 P f/\∀(σ F:Ax) (W w:World) (ι:B2) (vs:Array Value),St σ ι (hp h) F W w->Lw σ ι (hp h) args vs -> Calls P f vs w λe w'=>∃v c g,e = .returned v/\Le σ ι (hp h) c g (hp b)/\St c g (hp b) F W w'/\Conc c g (hp b) r v
def Eb (n:Nat):List Nat->Nat->Nat
 | [],k=>n+k
 | h::_,0=>h
 | _::l,k+1=>Eb n l k
def Nv (n:Nat):List Nat->Bool
 | []=>true
 | h::l=>Nat.blt h n && !(l.elem h)&&Nv n l
def wrs (es:Nat->Nat):Nat->List Br->List (Nat×Br)
 | _,[]=>[]
 | k,o::os=>(es k,H9 es o)::wrs es (k+1) os
def Ci (es:Nat->Nat):Nat->Nat->List (Nat×Br)
 | _,0=>[]
 | k,c+1=>(es k,.none)::Ci es (k+1) c
def Qx (H:Hp):List (Nat×Br)->Prop
 | []=>True
 | p::l=>H p.1=p.2/\Qx H l
def Tm (n:Nat) (l:List Nat) (c:List AV) (f:List Br) (r:AV) (b:List Br):Bool := Nv n l&&Nat.beq f.length l.length&&Nat.ble l.length b.length&&c.all (AV.under l.length)&&f.all (Br.under l.length)&&r.under b.length&&b.all (Br.under b.length)
inductive Wf (xs:List AV) (i:Int) (K:Nat->AV->Prop):Prop where
 | mk (n:Nat) (x:AV) (hi:i=n) (hx:xs[n]? = some x) (k:K n x)
inductive Qy (len:Nat) (kk:Nat) (xs:List AV) (i:Int) (K:Nat->Prop):Prop where
 | mk (n:Nat) (hk:xs.length=kk) (hi:i=n) (hn:n<len) (k:K n)
inductive Ha (k:IntKind) (n:Int) (K:Int->Prop):Prop where
 | mk (c:Int) (h:k.wrap n=c) (k:K c)
inductive Z7 (k:IntKind) (m n:Int) (K:Int->Prop):Prop where
 | mk (c:Int) (hn:n≠0) (h:k.wrap (m.tdiv n)=c) (k:K c)
inductive Z8 (m n:Int) (K:Int->Prop):Prop where
 | mk (c:Int) (hn:n≠0) (h:m.tmod n=c) (k:K c)
inductive Z9 (k:IntKind) (m n:Int) (K:Int->Prop):Prop where
 | mk (c:Int) (hn:0<=n) (h:m.fdiv (2 ^ (min n.toNat k.bits))=c) (k:K c)
inductive Aey (k:IntKind) (m n:Int) (K:Int->Prop):Prop where
 | mk (c:Int) (hn:0<=n) (h:k.wrap (m*2 ^ (min n.toNat k.bits))=c) (k:K c)
inductive Aaa (n:Nat) (lo hi:Int) (K:Nat->Nat->Prop):Prop where
 | mk (l h:Nat) (el:lo=l) (eh:hi=h) (h1:l<=h) (h2:h<=n) (k:K l h)
inductive Qz (xs:List AV) (lo hi:Int) (K:List AV->Prop):Prop where
 | mk (l h:Nat) (ys:List AV) (el:lo=l) (eh:hi=h) (h1:l<=h) (h2:h<=xs.length) (hy:(xs.take h).drop l=ys) (k:K ys)
inductive Aab (kk:Nat) (xs:List AV) (n:Nat) (lo hi:Int) (K:Nat->Nat->Prop) (KE:Prop):Prop where
 | mk (l h:Nat) (hk:xs.length=kk) (el:lo=l) (eh:hi=h) (h1:l<=h) (h2:h<=n) (h3:l=0\/l<h) (k:K l h)
 | mkE (l:Nat) (hk:xs.length=kk) (el:lo=l) (eh:hi=l) (h2:l<=n) (k:KE)
inductive Aac (s:ByteArray) (i:Int) (K:UInt8->Prop):Prop where
 | mk (n:Nat) (c:UInt8) (hi:i=n) (hc:s[n]? = some c) (k:K c)
inductive Aad (n:Nat) (K:Prop):Prop where
 | mk (h:n<=9223372036854775807) (k:K)
inductive Tn (len cap:Int) (bytes:Nat) (z:AV) (K:Nat->List AV->Prop):Prop where
 | mk (l c:Nat) (zs:List AV) (el:len=l) (ec:cap=c) (h1:l<=c) (h2:bytes*c<=281474976710656) (h3:c<=140737488355328) (hz:List.replicate l z=zs) (k:K l zs)
 | mkN (z':AV) (hn:F2 z.cells z'.cells) (l c:Nat) (zs:List AV) (el:len=l) (ec:cap=c) (h1:l<=c) (h2:bytes*c<=281474976710656) (h3:c<=140737488355328) (hz:List.replicate l z'=zs) (k:K l zs)
inductive Lx (xs ys:List AV) (kk len bytes:Nat) (K:List AV->Nat->Prop) (KP:List AV->Nat->Nat->Prop):Prop where
 | mkP (zs:List AV) (k' m:Nat) (hk:xs.length=kk) (hl:len<=kk) (hb:(xs.length+ys.length)*bytes<=140737488355328) (hz:Dd xs len ys=zs) (hk':zs.length=k') (hm:len+ys.length=m) (k:KP zs k' m)
 | mk (zs:List AV) (m:Nat) (hk:xs.length=kk) (hl:len=kk) (hb:(xs.length+ys.length)*bytes<=140737488355328) (hz:xs++ys=zs) (hm:kk+ys.length=m) (k:K zs m)
inductive Au4 (ys:List AV) (K:Prop):Prop where
 | mk (hy:ys = []) (k:K)
inductive Q2 (ys:List AV) (bytes:Nat) (K:List AV->Nat->Prop):Prop where
 | mk (zs:List AV) (m:Nat) (hb:ys.length*bytes<=140737488355328) (hz:ys=zs) (hm:ys.length=m) (k:K zs m)
inductive Akh (xs:List AV) (kk len k2 off2 len2 bytes:Nat) (K:List AV->Nat->Nat->Prop):Prop where
 | mk (zs:List AV) (k' m:Nat) (hk:xs.length=kk) (hl:len<=kk) (hk2:xs.length=k2) (hl2:off2+len2<=kk) (hb:(xs.length+len2)*bytes<=140737488355328) (hz:Dd xs len ((xs.drop off2).take len2)=zs) (hk':zs.length=k') (hm:len+len2=m) (k:K zs k' m)
inductive Aki (xs:List AV) (kk off len k2 off2 len2:Nat) (K:List AV->Nat->Prop):Prop where
 | mk (zs:List AV) (c:Nat) (hk:xs.length=kk) (hl:off+len<=kk) (hk2:xs.length=k2) (hl2:off2+len2<=kk) (hz:Dd xs off ((xs.drop off2).take (min len2 len))=zs) (hc:min len2 len=c) (k:K zs c)
inductive Au5 (xs:List AV) (kk off len:Nat) (z:AV) (K:List AV->Prop):Prop where
 | mk (zs:List AV) (hk:xs.length=kk) (hl:off+len<=kk) (hz:Dd xs off (List.replicate len z)=zs) (k:K zs)
inductive Aez (a b:Nat) (K:Prop):Prop where
 | mk (h:a<=b) (k:K)
inductive Ae0 (xs:List AV) (n:Nat) (K:List AV->Prop):Prop where
 | mk (ys:List AV) (hy:xs.take n=ys) (k:K ys)
inductive Wg (xs:List AV) (q:Nat) (p:AV) (K:List AV->Prop):Prop where
 | mk (zs:List AV) (hz:xs.set q p=zs) (k:K zs)
inductive Ly (xs:List AV) (K:Int->Prop):Prop where
 | mk (c:Int) (hc:(xs.length:Int)=c) (k:K c)
inductive K9 (kk i:Nat) (xs:List AV) (K:AV->Prop):Prop where
 | mk (x:AV) (hk:xs.length=kk) (hx:xs[i]? = some x) (k:K x)
inductive F7 (kk:Nat) (xs:List AV) (K:Prop):Prop where
 | mk (hk:xs.length=kk) (k:K)
inductive Gc (P:Program) (n:Nat) (H:Hp) (f:FuncId) (args:List AV) (K:Eff->Nat->Prop):Prop where
 | mk (r:AV) (h:Au P f args r) (hf:args.all AV.free=true) (k:K ⟨r,[],[]⟩ n)
 | act (l:List Nat) (largs:List AV) (hs:List Br) (r:AV) (hs':List Br) (h:B6 P f largs hs r hs') (ha:largs.map (ren (Eb n l))=args) (ok:Tm n l largs hs r hs'=true) (hh:Qx H (wrs (Eb n l) 0 hs))
   (k:K ⟨ren (Eb n l) r,wrs (Eb n l) 0 hs++Ci (Eb n l) l.length (hs'.length-l.length),wrs (Eb n l) 0 hs'⟩ (n+(hs'.length-l.length)))
inductive Akj (s:ByteArray) (es:List (AV×AV)) (K:Option (Nat×AV)->Prop):Prop where
 | mk (r:Option (Nat×AV)) (h:Is s es 0=some r) (k:K r)
inductive Aae (op:BinOp) (k:FloatKind) (a b:Nat) (K:Nat->Prop):Prop where
 | mk (c:Nat) (h:floatBits op k a b=some c) (k:K c)
inductive Aaf (k:FloatKind) (a:Nat) (q:IntKind) (K:Int->Prop):Prop where
 | mk (c:Int) (h:floatToIntVal k a q=some c) (k:K c)
inductive Au6 (P:Program) (kt:TypeId) (us:List Value) (es:List (AV×AV)) (K:Option (Nat×AV)->Prop):Prop where
 | mk (r:Option (Nat×AV)) (hc:Z4 P kt us) (h:Mw P kt us es 0 r) (k:K r)
inductive Au7 (P:Program) (kt:TypeId) (ks:List AV) (us:List Value) (v:AV) (es:List (AV×AV)) (K:List (AV×AV)->Prop):Prop where
 | mk (es':List (AV×AV)) (hc:Z4 P kt us) (h:Mw P kt us es 0 none) (he:es++[(.agg ks,v)]=es') (k:K es')
inductive Akk (s:ByteArray) (v:AV) (es:List (AV×AV)) (K:List (AV×AV)->Prop):Prop where
 | mk (es':List (AV×AV)) (h:Z2 s v es=some es') (k:K es')
inductive Ae1 (P:Program) (t:TypeId) (us vs:List Value) (K:Bool->Prop):Prop where
 | mk (b:Bool) (h:Wc P t us vs b) (k:K b)
inductive Ae2 (P:Program) (t:TypeId) (f:Nat) (K:TypeId->Prop):Prop where
 | mk (ft:TypeId) (h:Aeq P t f=some ft) (k:K ft)
inductive Akl (P:Program) (f:FuncId) (args:List AV) (K:AV->Prop):Prop where
 | mk (r:AV) (h:Au P f args r) (hf:args.all AV.free=true) (k:K r)
inductive Ann where
 | frz (j:Nat)
 | std
 | own
 | ask
def La:AV->Bool
 | .val (.slice none 0 0)=>true
 | _=>false
def Wh:AV->Bool
 | .val (.agg _)=>false
 | _=>true
def Ae3 (x:AV) (K:AV->Prop):Prop := match x with
 | .val v=>K (.val v)
 | .loc h off=>K (.loc h off)
 | .arr h k off len=>K (.arr h k off len)
 | .el h k i j=>K (.el h k i j)
 | .mp h=>K (.mp h)
 | .ref cs=>K (.ref cs)
 | .sl sz xs=>K (.sl sz xs)
 | .agg cs=>K (.agg cs)
 | .tup cs=>K (.tup cs)
 | .fn f cs=>K (.fn f cs)
 | .fb s=>K (.fb s)
def Ov:List AV->(List AV->Prop)->Prop
 | [],K=>K []
 | x::xs,K=>Ae3 x λx=>Ov xs λxs=>K (x::xs)
def Kp (x:AV) (K:AV->Prop):Prop := match x with
 | .agg cs=>Ov cs λcs=>K (.agg cs)
 | .tup cs=>Ov cs λcs=>K (.tup cs)
 | .fn f cs=>Ov cs λcs=>K (.fn f cs)
 | x=>Ae3 x K
def To:List AV->(List AV->Prop)->Prop
 | [],K=>K []
 | x::xs,K=>Kp x λx=>To xs λxs=>K (x::xs)
def Ae4 (o:Br) (K:Br->Prop):Prop := match o with
 | .cells E cs=>Ov cs λcs=>K (.cells E cs)
 | .rows E sz xs=>K (.rows E sz xs)
 | .map es=>K (.map es)
 | .none=>K .none
 | .dead=>K .dead
def My:List (Nat×Br)->(List (Nat×Br)->Prop)->Prop
 | [],K=>K []
 | p::l,K=>Ae4 p.2 λo=>My l λl=>K ((p.1,o)::l)
def It:List (Nat×Br)->(List Nat->Prop)->Prop
 | [],K=>K []
 | p::l,K=>It l λl=>K (p.1::l)
theorem Akm (x:AV) (K:AV->Prop):Ae3 x K=K x:=by cases x <;> rfl
theorem Aag:∀(l:List AV) (K:List AV->Prop),Ov l K=K l
 | [],_=>rfl
 | x::xs,K=>by simp only [Ov,Akm,Aag xs]
theorem Tp (x:AV) (K:AV->Prop):Kp x K=K x:=by cases x <;> simp only [Kp,Aag,Akm]
theorem Aah:∀(l:List AV) (K:List AV->Prop),To l K=K l
 | [],_=>rfl
 | x::xs,K=>by simp only [To,Tp,Aah xs]
theorem Au8 (o:Br) (K:Br->Prop):Ae4 o K=K o:=by cases o <;> simp only [Ae4,Aag]
theorem Ae5:∀(l:List (Nat×Br)) (K:List (Nat×Br)->Prop),My l K=K l
 | [],_=>rfl
 | p::l,K=>by simp only [My,Au8,Ae5 l]
theorem Ae6:∀(l:List (Nat×Br)) (K:List Nat->Prop),It l K=K (l.map (·.1))
 | [],_=>rfl
 | p::l,K=>by simp only [It,Ae6 l,List.map_cons]
def Ee (P:Program) (T:Cx) (an:Nat->Ann) (n:Nat) (o:Oper) (ρ:Operand->AV) (H:Hp) (K:Eff->Nat->Prop):Prop :=
 match o.op with
 | .move x=>K ⟨ρ x,[],[]⟩ n
 | .assign x=>
  match o.dst with
  | none=>K ⟨ρ x,[],[]⟩ n
  | some d=>
   match an d with
   | .frz _=>K ⟨ρ x,[],[]⟩ n
   | .std=>K ⟨ρ x,[],[]⟩ n
   | .ask=>K ⟨ρ x,[],[]⟩ n
   | .own=>bif La (ρ x) then
     match T o.type with
     | some ⟨.slice e,_,_,_⟩=>
      match T e with
      | some g=>bif Nat.blt 0 g.size then K ⟨.arr n 0 0 0,[(n,.none)],[(n,.rows e g.size [])]⟩ (n+1) else False
      | none=>False
     | _=>False
    else K ⟨ρ x,[],[]⟩ n
 | .pick c a b=>
  match ρ c with
  | .val (.bool t)=>K ⟨bif t then ρ a else ρ b,[],[]⟩ n
  | _=>False
 | .alloc t=>
  match T t with
  | some i=>K ⟨.loc n 0,[(n,.none)],[(n,.cells t (i.zero.map .val))]⟩ (n+1)
  | none=>False
 | .box t x=>K ⟨.loc n 0,[(n,.none)],[(n,.cells t (ρ x).cells)]⟩ (n+1)
 | .build t parts=>
  match T t with
  | some ⟨.struct fs,_,_,z⟩=>
   match Tg fs (z.map .val) (parts.toList.map λp=>(p.1,ρ p.2)) with
   | some cs=>K ⟨.agg cs,[],[]⟩ n
   | none=>False
  | _=>False
 | .buildSlice t len parts=>
  match T t with
  | some ⟨.slice e,_,_,_⟩=>
   match T e with
   | some g=>
    bif Nat.blt 0 g.size&&(parts.toList.map (·.1)==List.range' 0 len)&&Nat.ble (len*g.size) 16777216&&parts.toList.all (λp=>Km g.size (ρ p.2)) then
     match an (o.dst.getD 0) with
     | .frz _=>False
     | .std=>To (parts.toList.map λp=>ρ p.2) λxs=>K ⟨.sl g.size xs,[],[]⟩ n
     | .ask=>To (parts.toList.map λp=>ρ p.2) λxs=>K ⟨.sl g.size xs,[],[]⟩ n
     | .own=>To (parts.toList.map λp=>ρ p.2) λxs=>K ⟨.arr n len 0 len,[(n,.none)],[(n,.rows e g.size xs)]⟩ (n+1)
    else False
   | none=>False
  | _=>False
 | .load t x=>
  match T t with
  | some i=>
   match ρ x with
   | .ref cs=>bif i.isAgg then (bif Nat.ble i.size cs.length then K ⟨.agg (cs.take i.size),[],[]⟩ n else False) else
     match cs with
     | c::_=>K ⟨c,[],[]⟩ n
     | []=>False
   | .loc h off=>
    match H h with
    | .cells E cs=>bif i.isAgg then (bif Nat.ble (off+i.size) cs.length then K ⟨.agg ((cs.drop off).take i.size),[(h,.cells E cs)],[]⟩ n else False) else
      match cs[off]? with
      | some c=>K ⟨c,[(h,.cells E cs)],[]⟩ n
      | none=>False
    | _=>False
   | .el h k q j=>
    match H h with
    | .rows E sz xs=>K9 k q xs λy=>bif i.isAgg then (bif Nat.ble (j+i.size) y.cells.length then K ⟨.agg ((y.cells.drop j).take i.size),[(h,.rows E sz xs)],[]⟩ n else False) else
      match y.cells[j]? with
      | some c=>K ⟨c,[(h,.rows E sz xs)],[]⟩ n
      | none=>False
    | _=>False
   | _=>False
  | none=>False
 | .store t x y=>
  match T t with
  | some i=>
   match ρ x with
   | .loc h off=>
    match H h with
    | .cells E cs=>bif Nat.beq (ρ y).cells.length i.size&&Nat.ble (off+i.size) cs.length&&(ρ y).cells.all AV.one then K ⟨.val undef,[(h,.cells E cs)],[(h,.cells E (Lu cs off (ρ y).cells))]⟩ n else False
    | _=>False
   | .el h k q j=>
    match H h with
    | .rows E sz xs=>K9 k q xs λz=>bif Nat.beq (ρ y).cells.length i.size&&Nat.blt 0 i.size&&Nat.ble (j+i.size) z.cells.length&&(ρ y).cells.all AV.cl1&&Wh z then
      Ov (ρ y).cells λys=>Kp (Wb z j ys) λp=>Wg xs q p λu=>K ⟨.val undef,[(h,.rows E sz xs)],[(h,.rows E sz u)]⟩ n else False
    | _=>False
   | _=>False
  | none=>False
 | .nilCheck x=>bif (ρ x).isPtr then K ⟨ρ x,[],[]⟩ n else False
 | .binOp op t x y _=>
  match ρ x,ρ y with
  | .val (.int k a),.val (.int I b)=>
   match op with
   | .shl=>Aey k a b λc=>K ⟨.val (.int k c),[],[]⟩ n
   | .shr=>Z9 k a b λc=>K ⟨.val (.int k c),[],[]⟩ n
   | op=>bif decide (k=I) then
     match op with
     | .add=>Ha k (a+b) λc=>K ⟨.val (.int k c),[],[]⟩ n
     | .sub=>Ha k (a-b) λc=>K ⟨.val (.int k c),[],[]⟩ n
     | .mul=>Ha k (a*b) λc=>K ⟨.val (.int k c),[],[]⟩ n
     | .quo=>Z7 k a b λc=>K ⟨.val (.int k c),[],[]⟩ n
     | .rem=>Z8 a b λc=>K ⟨.val (.int k c),[],[]⟩ n
     | op=>
      match Ad8 op a b with
      | some t=>K ⟨.val (.bool t),[],[]⟩ n
      | none=>
       match Aee op k a b with
       | some c=>K ⟨.val (.int k c),[],[]⟩ n
       | none=>False
    else False
  | .val (.bool a),.val (.bool b)=>
   match T t with
   | some ⟨.bool,_,_,_⟩=>
    match Aef op a b with
    | some t=>K ⟨.val (.bool t),[],[]⟩ n
    | none=>False
   | _=>False
  | .agg xs,.agg ys=>
   match Hq xs with
   | some M=>
    match Hq ys with
    | some vs=>
     match op with
     | .eql=>Ae1 P t M vs λb=>K ⟨.val (.bool b),[],[]⟩ n
     | .neq=>Ae1 P t M vs λb=>K ⟨.val (.bool !b),[],[]⟩ n
     | _=>False
    | none=>False
   | none=>False
  | .val (.float k a),.val (.float I b)=>bif decide (k=I) then Aae op k a b λc=>K ⟨.val (.float k c),[],[]⟩ n else False
  | .val (.string a),.val (.string b)=>
   match op with
   | .add=>Aad (a.size+b.size) (K ⟨.val (.string (a++b)),[],[]⟩ n)
   | op=>
    match Aeg op a b with
    | some t=>K ⟨.val (.bool t),[],[]⟩ n
    | none=>False
  | .val (.slice p _ _),.val (.slice none _ _)=>
   match op with
   | .eql=>
    match T t with
    | some ⟨.slice _,_,_,_⟩=>K ⟨.val (.bool p.isNone),[],[]⟩ n
    | _=>False
   | _=>False
  | _,_=>False
 | .unOp op _ x=>
  match op,ρ x with
  | .not,.val (.bool b)=>K ⟨.val (.bool !b),[],[]⟩ n
  | .neg,.val (.int k m)=>Ha k (0-m) λc=>K ⟨.val (.int k c),[],[]⟩ n
  | _,_=>False
 | .convert s d x=>
  match T s,T d,ρ x with
  | some _,some ⟨.int k,_,_,_⟩,.val (.int _ m)=>Ha k m λc=>K ⟨.val (.int k c),[],[]⟩ n
  | some _,some ⟨.float k,_,_,_⟩,.val (.int _ m)=>K ⟨.val (.float k (floatOfInt k m)),[],[]⟩ n
  | some _,some ⟨.int k,_,_,_⟩,.val (.float q m)=>Aaf q m k λc=>K ⟨.val (.int k c),[],[]⟩ n
  | _,_,_=>False
 | .makeFunc (.func f) first A=>bif first.isEmpty then K ⟨.fn f (A.toList.map ρ),[],[]⟩ n else False
 | .makeSlice t x y=>
  match T t with
  | some ⟨.slice e,_,_,_⟩=>
   match T e with
   | some g=>
    match ρ x,ρ y with
    | .val (.int _ l),.val (.int _ c)=>
     bif Nat.blt 0 g.size&&Km g.size (E2 g)&&Nat.beq (E2 g).cells.length g.zero.length&&Wh (E2 g) then
      Tn l c g.bytes (E2 g) λl u=>K ⟨.arr n l 0 l,[(n,.none)],[(n,.rows e g.size u)]⟩ (n+1)
     else False
    | _,_=>False
   | none=>False
  | _=>False
 | .slice t x lo hi none=>
  match T t with
  | some ⟨.slice e,_,_,_⟩=>
   match T e with
   | some g=>
    match ρ x with
    | .sl sz xs=>
     match G9 ρ 0 lo,G9 ρ xs.length hi with
     | some l,some h=>bif Nat.beq sz g.size then Qz xs l h λys=>K ⟨.sl sz ys,[],[]⟩ n else False
     | _,_=>False
    | .arr hd k off len=>
     match H hd with
     | .rows E sz xs=>
      match G9 ρ 0 lo,G9 ρ len hi with
      | some l,some h=>bif Nat.beq sz g.size then Aab k xs len l h (λl h=>K ⟨.arr hd k (off+l) (h-l),[(hd,.rows E sz xs)],[]⟩ n) (K ⟨.sl g.size [],[(hd,.rows E sz xs)],[]⟩ n) else False
      | _,_=>False
     | _=>False
    | _=>False
   | none=>False
  | some ⟨.string,_,_,_⟩=>
   match ρ x with
   | .val (.string s)=>
    match G9 ρ 0 lo,G9 ρ s.size hi with
    | some l,some h=>Aaa s.size l h λl h=>K ⟨.val (.string (s.extract l h)),[],[]⟩ n
    | _,_=>False
   | _=>False
  | _=>False
 | .fieldAddr s x f=>
  match T s with
  | some ⟨.struct fs,_,_,_⟩=>
   match fs[f]? with
   | some q=>
    match ρ x with
    | .loc h off=>K ⟨.loc h (off+q.1),[],[]⟩ n
    | .ref cs=>K ⟨.ref (cs.drop q.1),[],[]⟩ n
    | .el h k m j=>
     match H h with
     | .rows E sz xs=>F7 k xs (K ⟨.el h k m (j+q.1),[(h,.rows E sz xs)],[]⟩ n)
     | _=>False
    | _=>False
   | none=>False
  | _=>False
 | .indexAddr t x y=>
  match T t with
  | some ⟨.slice e,_,_,_⟩=>
   match T e with
   | some g=>
    match ρ x,ρ y with
    | .sl sz xs,.val (.int _ i)=>bif Nat.beq sz g.size then Wf xs i λ_ z=>K ⟨.ref z.cells,[],[]⟩ n else False
    | .arr h k off len,.val (.int _ i)=>
     match H h with
     | .rows E sz xs=>bif Nat.beq sz g.size then Qy len k xs i λm=>K ⟨.el h k (off+m) 0,[(h,.rows E sz xs)],[]⟩ n else False
     | _=>False
    | _,_=>False
   | none=>False
  | _=>False
 | .index t x y=>
  match T t with
  | some ⟨.string,_,_,_⟩=>
   match ρ x,ρ y with
   | .val (.string s),.val (.int _ i)=>Aac s i λc=>K ⟨.val (.int .u8 c.toNat),[],[]⟩ n
   | _,_=>False
  | _=>False
 | .field s x f=>
  match T s with
  | some ⟨.struct fs,_,_,_⟩=>
   match fs[f]? with
   | some q=>
    match ρ x with
    | .agg cs=>Ae2 P s f λZ=>
     match T Z with
     | some J=>bif J.isAgg then (bif Nat.ble (q.1+J.size) cs.length then K ⟨.agg ((cs.drop q.1).take J.size),[],[]⟩ n else False) else
       match cs[q.1]? with
       | some c=>K ⟨c,[],[]⟩ n
       | none=>False
     | none=>False
    | _=>False
   | none=>False
  | _=>False
 | .makeMap _ none=>K ⟨.mp n,[(n,.none)],[(n,.map [])]⟩ (n+1)
 | .lookup t x y ok=>
  match T t with
  | some ⟨.map N Y,_,_,_⟩=>
   match T N with
   | some ⟨.string,_,_,_⟩=>
    match T Y with
    | some J=>
     match ρ x with
     | .mp h=>
      match ρ y with
      | .val (.string s)=>
       match H h with
       | .map es=>Akj s es λr=>K ⟨Tj ok J r,[(h,.map es)],[]⟩ n
       | _=>False
      | _=>False
     | _=>False
    | none=>False
   | some ⟨.struct _,_,_,_⟩=>
    match T Y with
    | some J=>
     match ρ x with
     | .mp h=>
      match ρ y with
      | .agg R=>
       match Hq R with
       | some M=>
        match H h with
        | .map es=>Au6 P N M es λr=>K ⟨Tj ok J r,[(h,.map es)],[]⟩ n
        | _=>False
       | none=>False
      | _=>False
     | _=>False
    | none=>False
   | _=>False
  | _=>False
 | .mapUpdate t x y z=>
  match T t with
  | some ⟨.map N _,_,_,_⟩=>
   match T N with
   | some ⟨.string,_,_,_⟩=>
    match ρ x with
    | .mp h=>
     match ρ y with
     | .val (.string s)=>
      match H h with
      | .map es=>bif (ρ z).free1 then Kp (ρ z) λv=>Akk s v es λL=>K ⟨.val undef,[(h,.map es)],[(h,.map L)]⟩ n else False
      | _=>False
     | _=>False
    | _=>False
   | some ⟨.struct _,_,_,_⟩=>
    match ρ x with
    | .mp h=>
     match ρ y with
     | .agg R=>
      match Hq R with
      | some M=>
       match H h with
       | .map es=>bif (ρ z).free1 then Kp (ρ z) λv=>Au7 P N R M v es λL=>K ⟨.val undef,[(h,.map es)],[(h,.map L)]⟩ n else False
       | _=>False
      | none=>False
     | _=>False
    | _=>False
   | _=>False
  | _=>False
 | .extract x i=>
  match ρ x with
  | .tup cs=>
   match cs[i]? with
   | some c=>K ⟨c,[],[]⟩ n
   | none=>False
  | _=>False
 | .call c=>
  match c.callee with
  | .value x=>
   match ρ x with
   | .fn f A=>
    match an (o.dst.getD 0) with
    | .frz j=>
     (match (c.args.toList.map ρ ++ A)[j]? with
     | some (.arr h k 0 len)=>
      (match H h with
      | .rows E sz xs=>F7 k xs (F7 len xs (Akl P f ((c.args.toList.map ρ ++ A).set j (.sl sz xs)) λr=>K ⟨r,[(h,.rows E sz xs)],[(h,.dead)]⟩ n))
      | _=>False)
     | _=>False)
    | _=>Gc P n H f (c.args.toList.map ρ ++ A) K
   | _=>False
  | .invoke _ _=>False
  | .builtin .len=>
   match c.args.toList,c.argTypes.toList with
   | [x],[t]=>
    match T t with
    | some ⟨.slice _,_,_,_⟩=>
     match ρ x with
     | .sl _ xs=>
      match an (o.dst.getD 0) with
      | .ask=>Ly xs λc=>K ⟨.val (.int .i64 c),[],[]⟩ n
      | _=>K ⟨.val (.int .i64 xs.length),[],[]⟩ n
     | .val (.slice _ m _)=>K ⟨.val (.int .i64 m),[],[]⟩ n
     | .arr h k _ len=>
      match H h with
      | .rows E sz xs=>F7 k xs (K ⟨.val (.int .i64 len),[(h,.rows E sz xs)],[]⟩ n)
      | _=>False
     | _=>False
    | some ⟨.string,_,_,_⟩=>
     match ρ x with
     | .val (.string s)=>K ⟨.val (.int .i64 s.size),[],[]⟩ n
     | _=>False
    | _=>False
   | _,_=>False
  | .builtin .cap=>
   match c.args.toList,c.argTypes.toList with
   | [x],[t]=>
    match T t with
    | some ⟨.slice _,_,_,_⟩=>
     match ρ x with
     | .val (.slice _ _ m)=>K ⟨.val (.int .i64 m),[],[]⟩ n
     | _=>False
    | _=>False
   | _,_=>False
  | .builtin .copy=>
   match c.args.toList,c.argTypes.toList with
   | [x,y],[t,X]=>
    match T t with
    | some ⟨.slice e,_,_,_⟩=>
     match T e with
     | some g=>
      match ρ y with
      | .arr h2 S D G=>
       match ρ x with
       | .arr h k off len=>
        match H h with
        | .rows E sz xs=>bif Nat.beq E e&&Nat.beq sz g.size&&Nat.beq h h2&&Nat.blt 0 g.size then
          Aki xs k off len S D G (λu c=>K ⟨.val (.int .i64 c),[(h,.rows e g.size xs)],[(h,.rows e g.size u)]⟩ n) else False
        | _=>False
       | .sl _ []=>
        match H h2 with
        | .rows E sz xs=>bif Nat.beq sz g.size then F7 S xs (K ⟨.val (.int .i64 0),[(h2,.rows E g.size xs)],[]⟩ n) else False
        | _=>False
       | _=>False
      | _=>False
     | none=>False
    | _=>False
   | _,_=>False
  | .builtin .clear=>
   match c.args.toList,c.argTypes.toList with
   | [x],[t]=>
    match T t with
    | some ⟨.slice e,_,_,_⟩=>
     match T e with
     | some g=>
      match ρ x with
      | .arr h k off len=>
       match H h with
       | .rows E sz xs=>bif Nat.beq E e&&Nat.beq sz g.size&&Nat.blt 0 g.size&&Km g.size (E2 g)&&Nat.beq (E2 g).cells.length g.zero.length&&Wh (E2 g) then
         Au5 xs k off len (E2 g) (λu=>K ⟨.tup [],[(h,.rows e g.size xs)],[(h,.rows e g.size u)]⟩ n) else False
       | _=>False
      | .sl _ []=>K ⟨.tup [],[],[]⟩ n
      | _=>False
     | none=>False
    | _=>False
   | _,_=>False
  | .builtin .append=>
   match c.args.toList,c.argTypes.toList with
   | [x,y],[t,X]=>
    match T t,T X with
    | some ⟨.slice e,_,_,_⟩,some ⟨.slice _,_,_,_⟩=>
     match T e with
     | some g=>
      bif Nat.blt 0 g.size&&Nat.beq g.zero.length g.size&&Nat.ble 1 g.bytes then
       match ρ y with
       | .sl sz ys=>
        bif Nat.beq sz g.size then
         match ρ x with
         | .arr h k 0 len=>
          match H h with
          | .rows E B xs=>bif Nat.beq E e&&Nat.beq B g.size then
            Lx xs ys k len g.bytes (λu m=>K ⟨.arr h m 0 m,[(h,.rows e g.size xs)],[(h,.rows e g.size u)]⟩ n) (λu I m=>K ⟨.arr h I 0 m,[(h,.rows e g.size xs)],[(h,.rows e g.size u)]⟩ n) else False
          | _=>False
         | .val (.slice none 0 0)=>Q2 ys g.bytes λu m=>K ⟨.arr n m 0 m,[(n,.none)],[(n,.rows e g.size u)]⟩ (n+1)
         | .sl V U=>Au4 ys (K ⟨.sl V U,[],[]⟩ n)
         | _=>False
        else False
       | .arr h2 S D G=>
        match ρ x with
        | .arr h k 0 len=>
         match H h with
         | .rows E B xs=>bif Nat.beq E e&&Nat.beq B g.size&&Nat.beq h h2 then
           Akh xs k len S D G g.bytes (λu I m=>K ⟨.arr h I 0 m,[(h,.rows e g.size xs)],[(h,.rows e g.size u)]⟩ n) else False
         | _=>False
        | _=>False
       | _=>False
      else False
     | none=>False
    | some ⟨.slice e,_,_,_⟩,some ⟨.string,_,_,_⟩=>
     match T e with
     | some g=>
      bif Nat.beq g.size 1&&Nat.beq g.zero.length g.size&&Nat.ble 1 g.bytes then
       match ρ y with
       | .val (.string s)=>
        match ρ x with
        | .arr h k 0 len=>
         match H h with
         | .rows E B xs=>bif Nat.beq E e&&Nat.beq B g.size then
           Lx xs (Ir s) k len g.bytes (λu m=>K ⟨.arr h m 0 m,[(h,.rows e g.size xs)],[(h,.rows e g.size u)]⟩ n) (λ_ _ _=>False) else False
         | _=>False
        | _=>False
       | _=>False
      else False
     | none=>False
    | _,_=>False
   | _,_=>False
  | .builtin .max=>
   match c.args.toList,c.argTypes.toList with
   | [x,y],[_,_]=>
    match ρ x,ρ y with
    | .val (.int k a),.val (.int _ b)=>K ⟨.val (.int k (if b>a then b else a)),[],[]⟩ n
    | _,_=>False
   | _,_=>False
  | .builtin .min=>
   match c.args.toList,c.argTypes.toList with
   | [x,y],[_,_]=>
    match ρ x,ρ y with
    | .val (.int k a),.val (.int _ b)=>K ⟨.val (.int k (if b<a then b else a)),[],[]⟩ n
    | _,_=>False
   | _,_=>False
  | _=>False
 | _=>False
end Go.Ab
namespace Go.Ab
section
variable {P:Program} {o:Oper} {ρ:Operand->AV} {a:Act} {w w':World} {next:Act->World->Prop} {Q:Exit->Act->World->Prop}
def Tq (σ:Ax) (w:World):Ax:=λb=>match σ b with | none=>w.heap[b]? | some _=>none
theorem St.lend {σ:Ax} {ι:B2} {H:Hp} {F:Ax} {W:World} (s:St σ ι H F W w):St σ ι0 H0 (Tq σ w) W w:=by refine ⟨s.sto,λb o hb=>?_,λh=>rfl,(λh h' b c=>by cases c),s.os,s.tape,s.output,s.glo,s.drw⟩;unfold Tq at hb;cases e:σ b with| none=>rw [e] at hb; exact ⟨hb,rfl⟩| some _=>rw [e] at hb; cases hb
theorem St.unlend {σ k:Ax} {ι:B2} {H:Hp} {F:Ax} {W:World} (s:St σ ι H F W w) (g:σ.le k) (s':St k ι0 H0 (Tq σ w) W w'):St k ι H F W w':=by
 have key:∀b,σ b=none->∀o,w.heap[b]? = some o->w'.heap[b]? = some o/\k b=none:=by intro b hb o f;exact s'.fra b o (by unfold Tq; rw [hb]; exact f)
 have le:Le σ ι H k ι H:=⟨g,λ_=>HLe.refl _ _⟩;refine ⟨s'.sto,λb o hb=>?_,λh=>?_,s.inj,s'.os,s'.tape,s'.output,s'.glo,s'.drw⟩
 .obtain ⟨h1,h2⟩:=s.fra b o hb;exact key b h2 o h1
 .have f:=s.obj h;unfold Cr at f ⊢;cases A:H h with
  | none=>rw [A] at f; exact f
  | dead=>trivial
  | cells E cs=>rw [A] at f;obtain ⟨b,C,j,h1,h2,h3,z,D⟩:=f;obtain ⟨u,l⟩:=key b h1 _ h3;exact ⟨b,C,j,l,h2,u,z,λi c v x y=>(D i c v x y).mono le⟩
  | rows E sz xs=>
   rw [A] at f;obtain ⟨G,z2,⟨j,J⟩ | ⟨b,B,C,j,h1,h2,h3,z,D,I⟩⟩:=f
   .exact ⟨G,z2,.inl ⟨j,J⟩⟩
   .obtain ⟨u,l⟩:=key b h1 _ h3;exact ⟨G,z2,.inr ⟨b,B,C,j,l,h2,u,z,D,I.mono g⟩⟩
  | map es=>rw [A] at f;obtain ⟨b,M,q,j,h1,h2,h3,z⟩:=f;obtain ⟨u,l⟩:=key b h1 _ h3;exact ⟨b,M,q,j,l,h2,u,z.mono g⟩
theorem Conc.of0 {σ:Ax} {ι:B2} {H:Hp} {x:AV} {v:Value} (h:Conc σ ι0 H0 x v):Conc σ ι H x v:=by induction h with| cc h=>exact .cc h| loc h off b hb=>cases hb| mp h b hb=>cases hb| arr h k off len v s y c=>exact (s rfl).elim| el h k i j v s y c=>exact (s rfl).elim| ref cs b off C E fr g u hc h1 z=>exact .ref cs b off C E fr g u hc h1 z| agg cs vs l _ ih=>exact .agg cs vs l ih| tup cs vs l _ ih=>exact .tup cs vs l ih| fn f q vs l _ ih=>exact .fn f q vs l ih
theorem Au9 {x:AV} (h:x.free1=true) (hx:∀cs,x≠.agg cs):x.cl1=true:=by cases x <;> first | exact h | exact (hx _ rfl).elim
theorem Conc.to0 {σ:Ax} {ι:B2} {H:Hp} {x:AV} {v:Value} (hx:x.free=true) (h:Conc σ ι H x v):Conc σ ι0 H0 x v:=by
 have key:∀(cs:List AV),cs.all AV.cl1=true->∀(i:Nat) (c:AV) (u:Value),cs[i]? = some c->Conc σ ι H c u->Conc σ ι0 H0 c u:=by intro cs s i c u hc h;exact .cc (h.cc_of (List.all_eq_true.1 s c (List.mem_of_getElem? hc))).1
 cases h with
 | cc h=>exact .cc h
 | loc=>cases hx
 | mp=>cases hx
 | arr=>cases hx
 | el=>cases hx
 | ref cs b off C E fr g A hc h1 D=>exact .ref cs b off C E fr g A hc h1 D
 | agg cs vs l h=>exact .agg cs vs l λi c u h1 h2=>key cs hx i c u h1 (h i c u h1 h2)
 | tup cs vs l h=>refine .tup cs vs l λi c u h1 h2=>?_;have y:=List.all_eq_true.1 hx c (List.mem_of_getElem? h1);have hc:=h i c u h1 h2;cases c with| agg ds=>obtain ⟨z,rfl,q,B⟩:=hc.agg_inv;exact .agg ds z q λj d v g1 g2=>key ds y j d v g1 (B j d v g1 g2)| _=>exact .cc (hc.cc_of (Au9 y (by intro cs e; cases e))).1
 | fn f k vs l h=>exact .fn f k vs l λi c u h1 h2=>key k hx i c u h1 (h i c u h1 h2)
theorem Conc.fn_inv {σ:Ax} {ι:B2} {H:Hp} {f:FuncId} {b:List AV} {v:Value} (h:Conc σ ι H (.fn f b) v) : ∃vs:Array Value,v = .func (.func f) #[] vs/\vs.size=b.length/\∀(i:Nat) (c:AV) (u:Value),b[i]? = some c->vs[i]? = some u->Conc σ ι H c u:=by cases h with| cc h=>cases h| fn _ _ vs g h=>exact ⟨vs,rfl,g,h⟩
theorem Ae7 {σ:Ax} {ι:B2} {H:Hp} {xs:Array Operand} {b:List AV} {vs:Array Value} (hx:∀x∈xs.toList,Conc σ ι H (ρ x) (a.eval x)) (h:vs.size=b.length) (g:∀(i:Nat) (c:AV) (u:Value),b[i]? = some c->vs[i]? = some u->Conc σ ι H c u):Lw σ ι H (xs.toList.map ρ ++ b) (xs.map a.eval++vs):=by
 refine ⟨by simp [h],λi c u h1 h2=>?_⟩;by_cases f:i<xs.size
 .rw [List.getElem?_append_left (by simpa using f),List.getElem?_map,Array.getElem?_toList] at h1;rw [Array.getElem?_append_left (by simpa using f),Array.getElem?_map] at h2;simp [f] at h1 h2;subst h1; subst h2;exact hx _ ψ
 .rw [List.getElem?_append_right (by simp; omega)] at h1;rw [Array.getElem?_append_right (by simp; omega)] at h2;simp at h1 h2;exact g _ c u h1 h2
theorem Ava {c:Call} {x:Operand} {f:FuncId} {g:List AV} {r:AV} (G:o.op = .call c) (h:c.callee = .value x) (hx:ρ x = .fn f g) (hp:Au P f (c.args.toList.map ρ ++ g) r) (l:(c.args.toList.map ρ ++ g).all AV.free=true):Cf P o ρ ⟨r,[],[]⟩:=by
 intro σ ι H F W w a next Q s B _ hk
 obtain ⟨⟨fn,N,k,q⟩,hp⟩:=hp;have z:=B x (by simp [G,Op.operands,Call.operands,h]);rw [hx] at z;obtain ⟨vs,L,M,E⟩:=z.fn_inv;have j:Lw σ ι H (c.args.toList.map ρ ++ g) (c.args.map a.eval++vs) :=
  Ae7 (λy hy=>B y (by simp only [G,Op.operands,Call.operands,h]; simp at hy ⊢; exact .inr hy)) M E
 have A:(execOp a.eval o).run P w = .ok (.enter f (c.args.map a.eval++vs)) w:=by have I:(callFunc f (c.args.map a.eval++vs)).run P w = .ok (.enter f (c.args.map a.eval++vs)) w:=(by unfold callFunc;simp only [Sem.run_bind,program,Sem.run,Result.andThen_ok,N,k,q,Bool.false_eq_true,if_false,Sem.run_pure]);simp only [execOp,G,resolve,h,L,Deferred.ofValue,invoke,Sem.run_bind,Sem.run_pure,Result.andThen_ok,Array.empty_append,I]
 unfold Oper.wp;rw [A];simp only [Oper.upon];refine (hp σ (Tq σ w) W w (c.args.map a.eval++vs) s.lend ⟨j.1,λi b u h1 h2=>(j.2 i b u h1 h2).to0 (List.all_eq_true.1 l b (List.mem_of_getElem? h1))⟩).mono ?_;rintro e w' ⟨v,J,rfl,D,s',hc⟩;exact hk J ι v w' ⟨D,λ_=>HLe.refl _ _⟩ (s.unlend D s') hc.of0
theorem Avb {c:Call} {x:Operand} {f:FuncId} {g:List AV} {r:AV} {j h sz:Nat} {E:TypeId} {xs:List AV} (S:o.op = .call c) (k:c.callee = .value x) (hx:ρ x = .fn f g) (hj:(c.args.toList.map ρ ++ g)[j]? = some (.arr h xs.length 0 xs.length)) (hp:Au P f ((c.args.toList.map ρ ++ g).set j (.sl sz xs)) r) (A:((c.args.toList.map ρ ++ g).set j (.sl sz xs)).all AV.free=true):Cf P o ρ ⟨r,[(h,.rows E sz xs)],[(h,.dead)]⟩:=by
 intro σ ι H F W w a next Q s J R hk
 have Z:H h = .rows E sz xs:=R (h,.rows E sz xs) ψ;obtain ⟨⟨fn,hf,z,B⟩,hp⟩:=hp;have G:=J x (by simp [S,Op.operands,Call.operands,k]);rw [hx] at G;obtain ⟨vs,hv,hl,M⟩:=G.fn_inv;have q:Lw σ ι H (c.args.toList.map ρ ++ g) (c.args.map a.eval++vs) :=
  Ae7 (λy hy=>J y (by simp only [S,Op.operands,Call.operands,k]; simp at hy ⊢; exact .inr hy)) hl M
 obtain ⟨N,D,Y,V⟩:=s.freeze Z;have l:Lw N ι (A8 H h .dead) ((c.args.toList.map ρ ++ g).set j (.sl sz xs)) (c.args.map a.eval++vs):=by
  refine ⟨by rw [List.length_set]; exact q.1,λi b u h1 h2=>?_⟩;rw [List.getElem?_set] at h1;split at h1
  .rename_i U;split at h1
   .cases h1;subst U;have hc:=q.2 j _ u hj h2;have:=V 0 xs.length _ ω (hc.arr_inv Z rfl);rw [List.drop_zero,List.take_of_length_le ω] at this;exact .cc this
   .cases h1
  .exact (q.2 i b u h1 h2).mono D
 have I:(execOp a.eval o).run P w = .ok (.enter f (c.args.map a.eval++vs)) w:=by have X:(callFunc f (c.args.map a.eval++vs)).run P w = .ok (.enter f (c.args.map a.eval++vs)) w:=(by unfold callFunc;simp only [Sem.run_bind,program,Sem.run,Result.andThen_ok,hf,z,B,Bool.false_eq_true,if_false,Sem.run_pure]);simp only [execOp,S,resolve,k,hv,Deferred.ofValue,invoke,Sem.run_bind,Sem.run_pure,Result.andThen_ok,Array.empty_append,X]
 unfold Oper.wp;rw [I];simp only [Oper.upon];refine (hp N (Tq N w) W w (c.args.map a.eval++vs) Y.lend ⟨l.1,λi b u h1 h2=>(l.2 i b u h1 h2).to0 (List.all_eq_true.1 A b (List.mem_of_getElem? h1))⟩).mono ?_;rintro e w' ⟨v,σ',rfl,L,s',hc⟩;exact hk σ' ι v w' (D.trans ⟨L,λ_=>HLe.refl _ _⟩) (Y.unlend L s') hc.of0
end
end Go.Ab
namespace Go.Ab
theorem Gl {a b:Nat} (h:Nat.blt a b=true):a<b:=Nat.le_of_ble_eq_true h
theorem Ae8 {es:Nat->Nat} {o:Br}:H9 es o = .none↔o = .none:=by cases o <;> simp [H9]
theorem Aai {es:Nat->Nat} {o:Br}:(H9 es o).live=o.live:=by cases o <;> rfl
theorem Ae9 {es:Nat->Nat} {o:Br} {E:TypeId} {sz:Nat} {xs:List AV}:H9 es o = .rows E sz xs↔o = .rows E sz xs:=by cases o <;> simp [H9]
section
variable {es:Nat->Nat} {m:Nat} {σ:Ax} {ι ιl:B2} {H Hl:Hp}
theorem Nw (f:∀k,k<m->ιl k=ι (es k)) (B:∀k,k<m->H (es k)=H9 es (Hl k)) {x:AV} {v:Value} (hx:x.under0 m=true):Conc σ ι H (Aew es x) v↔Conc σ ιl Hl x v:=by
 have rows:∀k,k<m->∀E sz xs,H (es k) = .rows E sz xs↔Hl k = .rows E sz xs:=λk hk E sz xs=>by rw [B k hk]; exact Ae9
 have some:∀k,k<m->(H (es k)≠.none↔Hl k≠.none):=λk hk=>by rw [B k hk]; exact not_congr Ae8
 constructor
 .intro h;cases x with
  | val u=>cases h with | cc h=>exact .cc h
  | sl sz xs=>cases h with | cc h=>exact .cc h
  | fb s=>cases h with | cc h=>exact .cc h
  | ref cs=>cases h with| cc h=>exact .cc h| ref cs b off C E fr g z hc h1 A=>exact .ref cs b off C E fr g z hc h1 A
  | loc k off=>have hk:=Gl hx;cases h with| cc h=>cases h| loc _ _ b hb=>exact .loc k off b (by rw [f k hk]; exact hb)
  | mp k=>have hk:=Gl hx;cases h with| cc h=>cases h| mp _ b hb=>exact .mp k b (by rw [f k hk]; exact hb)
  | arr k q off len=>have hk:=Gl hx;cases h with| cc h=>cases h| arr _ _ _ _ _ y l c=>exact .arr k q off len v ((some k hk).1 y) (λE sz xs e=>by rw [f k hk]; exact l E sz xs ((rows k hk E sz xs).2 e)) c
  | el k q i j=>have hk:=Gl hx;cases h with| cc h=>cases h| el _ _ _ _ _ y l c=>exact .el k q i j v ((some k hk).1 y) (λE sz xs e=>by rw [f k hk]; exact l E sz xs ((rows k hk E sz xs).2 e)) c
  | agg=>cases hx
  | tup=>cases hx
  | fn=>cases hx
 .intro h;cases x with
  | val u=>cases h with | cc h=>exact .cc h
  | sl sz xs=>cases h with | cc h=>exact .cc h
  | fb s=>cases h with | cc h=>exact .cc h
  | ref cs=>cases h with| cc h=>exact .cc h| ref cs b off C E fr g z hc h1 A=>exact .ref cs b off C E fr g z hc h1 A
  | loc k off=>have hk:=Gl hx;cases h with| cc h=>cases h| loc _ _ b hb=>exact .loc (es k) off b (by rw [<-f k hk]; exact hb)
  | mp k=>have hk:=Gl hx;cases h with| cc h=>cases h| mp _ b hb=>exact .mp (es k) b (by rw [<-f k hk]; exact hb)
  | arr k q off len=>have hk:=Gl hx;cases h with| cc h=>cases h| arr _ _ _ _ _ y l c=>exact .arr (es k) q off len v ((some k hk).2 y) (λE sz xs e=>by rw [<-f k hk]; exact l E sz xs ((rows k hk E sz xs).1 e)) c
  | el k q i j=>have hk:=Gl hx;cases h with| cc h=>cases h| el _ _ _ _ _ y l c=>exact .el (es k) q i j v ((some k hk).2 y) (λE sz xs e=>by rw [<-f k hk]; exact l E sz xs ((rows k hk E sz xs).1 e)) c
  | agg=>cases hx
  | tup=>cases hx
  | fn=>cases hx
theorem Hi (b:∀k,k<m->ιl k=ι (es k)) (g:∀k,k<m->H (es k)=H9 es (Hl k)) {x:AV} {v:Value} (hx:x.under1 m=true):Conc σ ι H (Mx es x) v↔Conc σ ιl Hl x v:=by
 have cells:∀{cs:List AV},cs.all (AV.under0 m)=true->∀(i:Nat) (c:AV),cs[i]? = some c->∀u,(Conc σ ι H (Aew es c) u↔Conc σ ιl Hl c u) :=
  λq i c hc u=>Nw b g (List.all_eq_true.1 q c (List.mem_of_getElem? hc));cases x with
 | fn f cs=>
  constructor
  .intro h;obtain ⟨vs,rfl,l,h⟩:=h.fn_inv;exact .fn f cs vs (by simpa using l) λi c u h1 h2=>(cells hx i c h1 u).1 (h i _ u (by simp [h1]) h2)
  .intro h;obtain ⟨vs,rfl,l,h⟩:=h.fn_inv;refine .fn f _ vs (by simpa using l) λi c u h1 h2=>?_;rw [List.getElem?_map] at h1;cases hc:cs[i]? with| none=>rw [hc] at h1; cases h1| some y=>rw [hc] at h1; cases h1; exact (cells hx i y hc u).2 (h i y u hc h2)
 | agg cs=>cases hx
 | tup cs=>cases hx
 | val u=>exact Nw (x:=(.val u)) b g hx
 | loc h off=>exact Nw (x:=(.loc h off)) b g hx
 | arr h k off len=>exact Nw (x:=(.arr h k off len)) b g hx
 | el h k i j=>exact Nw (x:=(.el h k i j)) b g hx
 | mp h=>exact Nw (x:=(.mp h)) b g hx
 | ref cs=>exact Nw (x:=(.ref cs)) b g hx
 | sl sz xs=>exact Nw (x:=(.sl sz xs)) b g hx
 | fb s=>exact Nw (x:=(.fb s)) b g hx
theorem Avc {n:Nat} {x:AV} (h:x.under0 n=true):x.under1 n=true:=by cases x <;> first | exact h | cases h
theorem Afa {n:Nat} {x:AV} (h:x.under1 n=true):x.under n=true:=by cases x with| fn f cs=>exact List.all_eq_true.2 λc hc=>Avc (List.all_eq_true.1 h c hc)| agg cs=>cases h| tup cs=>cases h| _=>exact h
theorem Avd (b:∀k,k<m->ιl k=ι (es k)) (g:∀k,k<m->H (es k)=H9 es (Hl k)) {x:AV} {v:Value} (hx:x.under2 m=true):Conc σ ι H (Aex es x) v↔Conc σ ιl Hl x v:=by
 have cells:∀{cs:List AV},cs.all (AV.under1 m)=true->∀(i:Nat) (c:AV),cs[i]? = some c->∀u,(Conc σ ι H (Mx es c) u↔Conc σ ιl Hl c u) :=
  λq i c hc u=>Hi b g (List.all_eq_true.1 q c (List.mem_of_getElem? hc));cases x with
 | agg cs=>
  constructor
  .intro h;obtain ⟨vs,rfl,l,h⟩:=h.agg_inv;exact .agg cs vs (by simpa using l) λi c u h1 h2=>(cells hx i c h1 u).1 (h i _ u (by simp [h1]) h2)
  .intro h;obtain ⟨vs,rfl,l,h⟩:=h.agg_inv;refine .agg _ vs (by simpa using l) λi c u h1 h2=>?_;rw [List.getElem?_map] at h1;cases hc:cs[i]? with| none=>rw [hc] at h1; cases h1| some y=>rw [hc] at h1; cases h1; exact (cells hx i y hc u).2 (h i y u hc h2)
 | tup cs=>cases hx
 | fn f cs=>exact Hi (x:=(.fn f cs)) b g hx
 | val u=>exact Hi (x:=(.val u)) b g hx
 | loc h off=>exact Hi (x:=(.loc h off)) b g hx
 | arr h k off len=>exact Hi (x:=(.arr h k off len)) b g hx
 | el h k i j=>exact Hi (x:=(.el h k i j)) b g hx
 | mp h=>exact Hi (x:=(.mp h)) b g hx
 | ref cs=>exact Hi (x:=(.ref cs)) b g hx
 | sl sz xs=>exact Hi (x:=(.sl sz xs)) b g hx
 | fb s=>exact Hi (x:=(.fb s)) b g hx
theorem Akn (l:∀k,k<m->ιl k=ι (es k)) (q:∀k,k<m->H (es k)=H9 es (Hl k)) {x:AV} {v:Value} (hx:x.under m=true):Conc σ ι H (ren es x) v↔Conc σ ιl Hl x v:=by
 have cells:∀{cs:List AV},cs.all (AV.under1 m)=true->∀(i:Nat) (c:AV),cs[i]? = some c->∀u,(Conc σ ι H (Mx es c) u↔Conc σ ιl Hl c u) :=
  λz i c hc u=>Hi l q (List.all_eq_true.1 z c (List.mem_of_getElem? hc));have b:∀{cs:List AV},cs.all (AV.under2 m)=true->∀(i:Nat) (c:AV),cs[i]? = some c->∀u,(Conc σ ι H (Aex es c) u↔Conc σ ιl Hl c u) :=
  λz i c hc u=>Avd l q (List.all_eq_true.1 z c (List.mem_of_getElem? hc));cases x with
 | agg cs=>
  constructor
  .intro h;obtain ⟨vs,rfl,g,h⟩:=h.agg_inv;exact .agg cs vs (by simpa using g) λi c u h1 h2=>(cells hx i c h1 u).1 (h i _ u (by simp [h1]) h2)
  .intro h;obtain ⟨vs,rfl,g,h⟩:=h.agg_inv;refine .agg _ vs (by simpa using g) λi c u h1 h2=>?_;rw [List.getElem?_map] at h1;cases hc:cs[i]? with| none=>rw [hc] at h1; cases h1| some y=>rw [hc] at h1; cases h1; exact (cells hx i y hc u).2 (h i y u hc h2)
 | tup cs=>
  constructor
  .intro h;obtain ⟨vs,rfl,g,h⟩:=h.tup_inv;exact .tup cs vs (by simpa using g) λi c u h1 h2=>(b hx i c h1 u).1 (h i _ u (by simp [h1]) h2)
  .intro h;obtain ⟨vs,rfl,g,h⟩:=h.tup_inv;refine .tup _ vs (by simpa using g) λi c u h1 h2=>?_;rw [List.getElem?_map] at h1;cases hc:cs[i]? with| none=>rw [hc] at h1; cases h1| some y=>rw [hc] at h1; cases h1; exact (b hx i y hc u).2 (h i y u hc h2)
 | fn f cs=>
  constructor
  .intro h;obtain ⟨vs,rfl,g,h⟩:=h.fn_inv;exact .fn f cs vs (by simpa using g) λi c u h1 h2=>(cells hx i c h1 u).1 (h i _ u (by simp [h1]) h2)
  .intro h;obtain ⟨vs,rfl,g,h⟩:=h.fn_inv;refine .fn f _ vs (by simpa using g) λi c u h1 h2=>?_;rw [List.getElem?_map] at h1;cases hc:cs[i]? with| none=>rw [hc] at h1; cases h1| some y=>rw [hc] at h1; cases h1; exact (cells hx i y hc u).2 (h i y u hc h2)
 | val u=>exact Hi (x:=(.val u)) l q hx
 | loc h off=>exact Hi (x:=(.loc h off)) l q hx
 | arr h k off len=>exact Hi (x:=(.arr h k off len)) l q hx
 | el h k i j=>exact Hi (x:=(.el h k i j)) l q hx
 | mp h=>exact Hi (x:=(.mp h)) l q hx
 | ref cs=>exact Hi (x:=(.ref cs)) l q hx
 | sl sz xs=>exact Hi (x:=(.sl sz xs)) l q hx
 | fb s=>exact Hi (x:=(.fb s)) l q hx
theorem Ako (A:∀k,k<m->ιl k=ι (es k)) (B:∀k,k<m->H (es k)=H9 es (Hl k)) {F G:Ax} {w:World} {k:Nat} (hk:k<m) (hu:(Hl k).under m=true) (h:∀b,(Hl k).live=true->(ιl k).block? = some b->(F b=none↔G b=none)):Cr σ ι H F w (es k)↔Cr σ ιl Hl G w k:=by
 have cells:∀{cs:List AV},cs.all (AV.under1 m)=true->∀(i:Nat) (c:AV),cs[i]? = some c->∀u,(Conc σ ι H (Mx es c) u↔Conc σ ιl Hl c u) :=
  λx i c hc u=>Hi A B (List.all_eq_true.1 x c (List.mem_of_getElem? hc));unfold Cr;rw [B k hk,<-A k hk];cases hx:Hl k with
 | none=>exact Iff.rfl
 | dead=>exact Iff.rfl
 | map l=>
  simp only [H9];rw [hx] at h;constructor
  .rintro ⟨b,M,q,f,h1,h2,h3⟩;exact ⟨b,M,q,f,h1,(h b rfl (by rw [f]; rfl)).1 h2,h3⟩
  .rintro ⟨b,M,q,f,h1,h2,h3⟩;exact ⟨b,M,q,f,h1,(h b rfl (by rw [f]; rfl)).2 h2,h3⟩
 | rows E sz xs=>
  simp only [H9];rw [hx] at h;refine and_congr Iff.rfl (and_congr Iff.rfl (or_congr Iff.rfl ?_));constructor
  .rintro ⟨b,j,C,f,h1,h2,h3⟩;exact ⟨b,j,C,f,h1,(h b rfl (by rw [f]; rfl)).1 h2,h3⟩
  .rintro ⟨b,j,C,f,h1,h2,h3⟩;exact ⟨b,j,C,f,h1,(h b rfl (by rw [f]; rfl)).2 h2,h3⟩
 | cells E cs=>
  simp only [H9];rw [hx] at h hu;constructor
  .rintro ⟨b,C,f,h1,h2,h3,z,y⟩;refine ⟨b,C,f,h1,(h b rfl (by rw [f]; rfl)).1 h2,h3,by simpa using z,λi c v hc s=>(cells hu i c hc v).1 (y i _ v (by simp [hc]) s)⟩
  .rintro ⟨b,C,f,h1,h2,h3,z,y⟩;refine ⟨b,C,f,h1,(h b rfl (by rw [f]; rfl)).2 h2,h3,by simpa using z,λi c v hc s=>?_⟩;rw [List.getElem?_map] at hc;cases g:cs[i]? with| none=>rw [g] at hc; cases hc| some D=>rw [g] at hc; cases hc; exact (cells hu i D g v).2 (y i D v g s)
end
theorem Akp {n:Nat}:∀{l:List Nat} {k:Nat},Nv n l=true->k<l.length->Eb n l k<n
 | [],k,_,h=>by simp at h
 | h::l,0,b,_=>by simp only [Nv,Bool.and_eq_true] at b; exact Gl b.1.1
 | h::l,k+1,b,hk=>by simp only [Nv,Bool.and_eq_true] at b; exact Akp (l:=l) b.2 (by simpa using hk)
theorem Wi {n:Nat}:∀{l:List Nat} {k:Nat},l.length<=k->Eb n l k=n+(k-l.length)
 | [],k,_=>by simp [Eb]
 | h::l,0,hk=>by simp at hk
 | h::l,k+1,hk=>by simp only [Eb,List.length_cons]; rw [Wi (l:=l) (by simpa using hk)]; omega
theorem Afb {n:Nat}:∀{l:List Nat} {k:Nat},k<l.length->Eb n l k∈l
 | [],k,h=>by simp at h
 | h::l,0,_=>by simp [Eb]
 | h::l,k+1,hk=>by simp only [Eb]; exact List.mem_cons_of_mem _ (Afb (by simpa using hk))
theorem Akq {n:Nat}:∀{l:List Nat} {j k:Nat},Nv n l=true->Eb n l j=Eb n l k->j=k
 | [],j,k,_,h=>by simp only [Eb] at h; omega
 | h::l,0,0,_,_=>rfl
 | h::l,j+1,k+1,b,e=>by simp only [Nv,Bool.and_eq_true] at b; simp only [Eb] at e; rw [Akq (l:=l) b.2 e]
 | h::l,0,k+1,b,e=>by
  simp only [Nv,Bool.and_eq_true] at b;simp only [Eb] at e;rcases Nat.lt_or_ge k l.length with hk | hk
  .have:=Afb (n:=n) hk;rw [<-e] at this;simp [this] at b
  .have h1:=Wi (n:=n) hk;have h2:=Gl b.1.1;omega
 | h::l,j+1,0,b,e=>by
  simp only [Nv,Bool.and_eq_true] at b;simp only [Eb] at e;rcases Nat.lt_or_ge j l.length with hk | hk
  .have:=Afb (n:=n) hk;rw [e] at this;simp [this] at b
  .have h1:=Wi (n:=n) hk;have h2:=Gl b.1.1;omega
theorem Akr {es:Nat->Nat}:∀{os:List Br} {k i:Nat} {o:Br},os[i]? = some o->(es (k+i),H9 es o)∈wrs es k os
 | [],k,i,o,h=>by simp at h
 | p::os,k,0,o,h=>by simp at h; subst h; simp [wrs]
 | p::os,k,i+1,o,h=>by simp only [wrs];refine List.mem_cons_of_mem _ ?_;have:=Akr (es:=es) (k:=k+1) (i:=i) (by simpa using h);rwa [show k+(i+1)=k+1+i by omega]
theorem Aaj {es:Nat->Nat}:∀{os:List Br} {k x:Nat} {H:Hp},(∀i,i<os.length->es (k+i)≠x)->Cq H (wrs es k os) x=H x
 | [],k,x,H,h=>rfl
 | q::os,k,x,H,h=>by simp only [wrs,Cq];rw [Aaj (λi hi=>by rw [show k+1+i=k+(i+1) by omega]; exact h (i+1) (by simpa using hi)),Da _ _ (Ne.symm (by simpa using h 0 ψ))]
theorem Aks {es:Nat->Nat} (b:∀i j,es i=es j->i=j):∀{os:List Br} {k i:Nat} {o:Br} {H:Hp},os[i]? = some o->Cq H (wrs es k os) (es (k+i))=H9 es o
 | [],k,i,o,H,h=>by simp at h
 | q::os,k,0,o,H,h=>by simp at h; subst h;simp only [wrs,Cq];rw [Aaj (λi hi e=>by have:=b _ _ e; omega)];exact Co _ _ _
 | q::os,k,i+1,o,H,h=>by simp only [wrs,Cq];rw [show k+(i+1)=k+1+i by omega];exact Aks b (by simpa using h)
theorem Akt {es:Nat->Nat}:∀{c k i:Nat},i<c->(es (k+i),Br.none)∈Ci es k c
 | 0,k,i,h=>ω
 | c+1,k,0,h=>by simp [Ci]
 | c+1,k,i+1,h=>by simp only [Ci];refine List.mem_cons_of_mem _ ?_;have:=Akt (es:=es) (c:=c) (k:=k+1) (i:=i) ω;rwa [show k+(i+1)=k+1+i by omega]
theorem Aku {es:Nat->Nat}:∀{c k:Nat} {p:Nat×Br},p∈Ci es k c->∃i,i<c/\p=(es (k+i),Br.none)
 | 0,k,p,h=>by simp [Ci] at h
 | c+1,k,p,h=>by
  simp only [Ci,List.mem_cons] at h;rcases h with rfl | h
  .exact ⟨0,ω,rfl⟩
  .obtain ⟨i,h1,h2⟩:=Aku h;exact ⟨i+1,ω,by rw [h2,show k+(i+1)=k+1+i by omega]⟩
theorem Qx.spec {H:Hp}:∀{l:List (Nat×Br)},Qx H l->∀p∈l,H p.1=p.2
 | [],_,p,hp=>by cases hp
 | q::l,h,p,hp=>by
  rcases List.mem_cons.1 hp with rfl | hp
  .exact h.1
  .exact Qx.spec h.2 p hp
theorem Wj {b:List Br} {k:Nat} (h:k<b.length):b[k]? = some (hp b k):=by simp [hp,h]
theorem Ow {b:List Br} {k:Nat} (h:b.length<=k):hp b k = .none:=by simp [hp,List.getElem?_eq_none h]
section
variable {P:Program} {o:Oper} {ρ:Operand->AV} {a:Act} {w w':World}
open Classical in
theorem Ave {n:Nat} {c:Call} {x:Operand} {f:FuncId} {caps:List AV} {l:List Nat} {largs:List AV} {hs:List Br} {r:AV} {hs':List Br} (ho:o.op = .call c) (hcal:c.callee = .value x) (hx:ρ x = .fn f caps) (hp0:B6 P f largs hs r hs') (ha:largs.map (ren (Eb n l))=c.args.toList.map ρ ++ caps) (ok:Tm n l largs hs r hs'=true) : Cf P o ρ ⟨ren (Eb n l) r,wrs (Eb n l) 0 hs++Ci (Eb n l) l.length (hs'.length-l.length),wrs (Eb n l) 0 hs'⟩:=by
 intro σ ι H F W w a next Q s hop hrd hk
 simp only [Tm,Bool.and_eq_true] at ok;obtain ⟨⟨⟨⟨⟨⟨o1,o2⟩,o3⟩,o4⟩,o5⟩,o6⟩,o7⟩:=ok;have o2:=Nat.eq_of_beq_eq_true o2;have o3:=Nat.le_of_ble_eq_true o3;generalize hes:Eb n l=es at *;have inj:∀i j,es i=es j->i=j:=λi j e=>by rw [<-hes] at e; exact Akq o1 e
 obtain ⟨⟨fn,hf,hname,hbody⟩,hpp⟩:=hp0;have hxv:=hop x (by simp [ho,Op.operands,Call.operands,hcal]);rw [hx] at hxv;obtain ⟨vs,hv,hl,hcap⟩:=hxv.fn_inv;have hall:Lw σ ι H (c.args.toList.map ρ ++ caps) (c.args.map a.eval++vs) :=
  Ae7 (λy hy=>hop y (by simp only [ho,Op.operands,Call.operands,hcal]; simp at hy ⊢; exact .inr hy)) hl hcap
 have hrun:(execOp a.eval o).run P w = .ok (.enter f (c.args.map a.eval++vs)) w:=by have hcf:(callFunc f (c.args.map a.eval++vs)).run P w = .ok (.enter f (c.args.map a.eval++vs)) w:=(by unfold callFunc;simp only [Sem.run_bind,program,Sem.run,Result.andThen_ok,hf,hname,hbody,Bool.false_eq_true,if_false,Sem.run_pure]);simp only [execOp,ho,resolve,hcal,hv,Deferred.ofValue,invoke,Sem.run_bind,Sem.run_pure,Result.andThen_ok,Array.empty_append,hcf]
 unfold Oper.wp;rw [hrun];simp only [Oper.upon];have hgiven:∀k,k<hs.length->H (es k)=H9 es (hp hs k):=by intro k hk';have:=hrd _ (List.mem_append_left _ (Akr (es:=es) (k:=0) (Wj hk')));simpa using this
 have hnew:∀k,hs.length<=k->k<hs'.length->H (es k) = .none:=by intro k h1 h2;have:=hrd _ (List.mem_append_right _ (Akt (es:=es) (k:=l.length) (c:=hs'.length-l.length) (i:=k-l.length) ω));rwa [show l.length+(k-l.length)=k by omega] at this
 let ιl:B2:=λk=>if k<hs.length then ι (es k) else .none
 let mine:Nat->Prop:=λb=>∃k,k<hs.length/\(hp hs k).live=true/\(ι (es k)).block? = some b
 let Fl:Ax:=λb=>if σ b=none/\¬mine b then w.heap[b]? else none
 have hιl:∀k,k<hs.length->ιl k=ι (es k):=λk h=>if_pos h;have hlive:∀k,k<hs.length->(H (es k)).live=(hp hs k).live:=λk h=>by rw [hgiven k h,Aai]
 have hunder:∀k,k<hs.length->(hp hs k).under hs.length=true:=by intro k h;have:=List.all_eq_true.1 o5 _ (List.mem_of_getElem? (Wj h));rw [o2]; exact this
 have hFb:∀k,k<hs.length->∀b,(hp hs k).live=true->(ιl k).block? = some b->F b=none/\Fl b=none:=by intro k h b h1 h2;rw [hιl k h] at h2;exact ⟨(s.block (by rw [hlive k h]; exact h1) h2).2.2,if_neg (λhn=>hn.2 ⟨k,h,h1,h2⟩)⟩
 have sl:St σ ιl (hp hs) Fl W w:=by
  refine ⟨s.sto,λb ob hb=>?_,λk=>?_,λk k' b h1 h2 h3 h4=>?_,s.os,s.tape,s.output,s.glo,s.drw⟩
  .by_cases hc:σ b=none/\¬mine b
   .simp only [Fl,if_pos hc] at hb; exact ⟨hb,hc.1⟩
   .simp only [Fl,if_neg hc] at hb; cases hb
  .by_cases hk':k<hs.length
   .refine (Ako (es:=es) hιl hgiven hk' (hunder k hk') (λb h1 h2=>?_)).1 (s.obj (es k));obtain ⟨h3,h4⟩:=hFb k hk' b h1 h2;rw [h3,h4]
   .unfold Cr;rw [Ow ω];exact if_neg hk'
  .have lt:∀k,(hp hs k).live=true->k<hs.length:=by
    intro k h;rcases Nat.lt_or_ge k hs.length with h' | h'
    .exact h'
    .rw [Ow h'] at h; cases h
   have k1:=lt k h1;have k2:=lt k' h2;rw [hιl k k1] at h3;rw [hιl k' k2] at h4;exact inj _ _ (s.inj _ _ b (by rw [hlive k k1]; exact h1) (by rw [hlive k' k2]; exact h2) h3 h4)
 have hargs:Lw σ ιl (hp hs) largs (c.args.map a.eval++vs):=by rw [<-ha] at hall;refine ⟨by simpa using hall.1,λi b u h1 h2=>?_⟩;have:=hall.2 i (ren es b) u (by simp [h1]) h2;refine (Akn (es:=es) hιl hgiven ?_).1 this;rw [o2]; exact List.all_eq_true.1 o4 b (List.mem_of_getElem? h1)
 refine (hpp σ Fl W w ιl (c.args.map a.eval++vs) sl hargs).mono ?_;rintro e w' ⟨v,σ',ι'l,rfl,le',s',hc'⟩;let ι':B2:=λh=>if hh:∃k,k<hs'.length/\es k=h then ι'l hh.choose else ι h
 have hι':∀k,k<hs'.length->ι'l k=ι' (es k):=by intro k h;have hh:∃k',k' < hs'.length/\es k'=es k:=⟨k,h,rfl⟩;have:hh.choose=k:=inj _ _ hh.choose_spec.2;simp only [ι',dif_pos hh,this]
 have hιo:∀h,(∀k,k<hs'.length->es k≠h)->ι' h=ι h:=by intro h hno;exact dif_neg (λ⟨k,k1,k2⟩=>hno k k1 k2)
 have hH':∀k,k<hs'.length->Cq H (wrs es 0 hs') (es k)=H9 es (hp hs' k):=by intro k h;have:=Aks (es:=es) inj (k:=0) (H:=H) (Wj h);simpa using this
 have hHo:∀h,(∀k,k<hs'.length->es k≠h)->Cq H (wrs es 0 hs') h=H h:=by intro h hno;exact Aaj (λi hi=>by simpa using hno i hi)
 have hle2:hs.length<=hs'.length:=ω;have lel:Le σ ι H σ' ι' (Cq H (wrs es 0 hs')):=by
  refine ⟨le'.sto,λh=>?_⟩;by_cases hh:∃k,k<hs'.length/\es k=h
  .obtain ⟨k,hk',rfl⟩:=hh;rw [<-hι' k hk',hH' k hk'];by_cases hk2:k<hs.length
   .have q:=le'.obj k;rw [hιl k hk2] at q;rw [hgiven k hk2];refine ⟨q.box,λh=>?_,λh1 E sz xs h2=>?_⟩
    .rw [Ne,Ae8] at h ⊢; exact q.some h
    .rw [Ne,Ae8] at h1;rw [Ae9] at h2;obtain ⟨E0,sz0,xs0,e0,r0⟩:=q.rows h1 E sz xs h2;exact ⟨E0,sz0,xs0,Ae9.2 e0,r0⟩
   .have h0:=hnew k ω hk';have:ι (es k) = .none:=(by have:=s.obj (es k); unfold Cr at this; rw [h0] at this; exact this);rw [h0,this];exact HLe.of_none
  .have hno:∀k,k<hs'.length->es k≠h:=λk h1 h2=>hh ⟨k,h1,h2⟩;rw [hιo h hno,hHo h hno];exact HLe.refl _ _
 have keep:∀b,σ b=none->¬mine b->∀ob,w.heap[b]? = some ob->w'.heap[b]? = some ob/\σ' b=none/\Fl b=some ob:=by intro b h1 h2 ob h3;have:Fl b=some ob:=(by simp only [Fl]; rw [if_pos ⟨h1,h2⟩]; exact h3);exact ⟨(s'.fra b ob this).1,(s'.fra b ob this).2,this⟩
 have notmine:∀h b,(∀k,k<hs'.length->es k≠h)->(H h).live=true->(ι h).block? = some b->¬mine b:=by rintro h b hno h1 h2 ⟨k,k1,k2,k3⟩;exact hno k ω (s.inj _ _ b (by rw [hlive k k1]; exact k2) h1 k3 h2)
 have notmineF:∀b ob,F b=some ob->¬mine b:=by rintro b ob hb ⟨k,k1,k2,k3⟩;have:=(s.block (by rw [hlive k k1]; exact k2) k3).2.2;rw [this] at hb; cases hb
 have hunder':∀k,k<hs'.length->(hp hs' k).under hs'.length=true:=λk h=>List.all_eq_true.1 o7 _ (List.mem_of_getElem? (Wj h));have st':St σ' ι' (Cq H (wrs es 0 hs')) F W w':=by
  refine ⟨s'.sto,λb ob hb=>?_,λh=>?_,λh h' b h1 h2 h3 h4=>?_,s'.os,s'.tape,s'.output,s'.glo,s'.drw⟩
  .obtain ⟨h1,h2⟩:=s.fra b ob hb;obtain ⟨k1,k2,_⟩:=keep b h2 (notmineF b ob hb) ob h1;exact ⟨k1,k2⟩
  .by_cases hh:∃k,k<hs'.length/\es k=h
   .obtain ⟨k,hk',rfl⟩:=hh;refine (Ako (es:=es) hι' hH' hk' (hunder' k hk') (λb h1 h2=>?_)).2 (s'.obj k);have hf0:=(s'.block h1 h2).2.2;refine ⟨λ_=>hf0,λ_=>?_⟩;cases hFb:F b with| none=>rfl| some ob=>obtain ⟨h3,h4⟩:=s.fra b ob hFb;have:=(keep b h4 (notmineF b ob hFb) ob h3).2.2;rw [hf0] at this; cases this
   .have hno:∀k,k<hs'.length->es k≠h:=λk h1 h2=>hh ⟨k,h1,h2⟩;have hob:=s.obj h;have hnm:=λb h1 h2=>notmine h b hno h1 h2;unfold Cr at hob ⊢;rw [hHo h hno,hιo h hno];cases hx:H h with
    | none=>rw [hx] at hob; exact hob
    | dead=>trivial
    | cells E cs=>rw [hx] at hob hnm;obtain ⟨b,C,e1,h1,h2,h3,h4,h5⟩:=hob;obtain ⟨k1,k2,_⟩:=keep b h1 (hnm b rfl (by rw [e1]; rfl)) _ h3;exact ⟨b,C,e1,k2,h2,k1,h4,λi c v x y=>(h5 i c v x y).mono lel⟩
    | rows E sz xs=>
     rw [hx] at hob hnm;obtain ⟨z1,z2,⟨e1,e2⟩ | ⟨b,tot,C,e1,h1,h2,h3,h4,h5,h6⟩⟩:=hob
     .exact ⟨z1,z2,.inl ⟨e1,e2⟩⟩
     .obtain ⟨k1,k2,_⟩:=keep b h1 (hnm b rfl (by rw [e1]; rfl)) _ h3;exact ⟨z1,z2,.inr ⟨b,tot,C,e1,k2,h2,k1,h4,h5,h6.mono le'.sto⟩⟩
    | map l=>rw [hx] at hob hnm;obtain ⟨b,M,q,e1,h1,h2,h3,h4⟩:=hob;obtain ⟨k1,k2,_⟩:=keep b h1 (hnm b rfl (by rw [e1]; rfl)) _ h3;exact ⟨b,M,q,e1,k2,h2,k1,h4.mono le'.sto⟩
  .have Wk:∀k,k<hs'.length->∀h,(∀k,k<hs'.length->es k≠h)->(Cq H (wrs es 0 hs') (es k)).live=true->(Cq H (wrs es 0 hs') h).live=true->(ι' (es k)).block? = some b->(ι' h).block? = some b->False:=(by intro k hk' h hno g1 g2 g3 g4;rw [hH' k hk',Aai] at g1;rw [hHo h hno] at g2;rw [<-hι' k hk'] at g3;rw [hιo h hno] at g4;have hf0:=(s'.block g1 g3).2.2;have hb:=s.block g2 g4;have hget:w.heap[b]? = some w.heap[b]:=(by simp [hb.1]);have:=(keep b hb.2.1 (notmine h b hno g2 g4) _ hget).2.2;rw [hf0] at this; cases this);by_cases hh:∃k,k<hs'.length/\es k=h
   .obtain ⟨k,hk',rfl⟩:=hh;by_cases hh':∃k,k<hs'.length/\es k=h'
    .obtain ⟨k',hk2,rfl⟩:=hh';rw [hH' k hk',Aai] at h1;rw [hH' k' hk2,Aai] at h2;rw [<-hι' k hk'] at h3;rw [<-hι' k' hk2] at h4;rw [s'.inj k k' b h1 h2 h3 h4]
    .exact (Wk k hk' h' (λk h1 h2=>hh' ⟨k,h1,h2⟩) h1 h2 h3 h4).elim
   .have hno:∀k,k<hs'.length->es k≠h:=λk h1 h2=>hh ⟨k,h1,h2⟩;by_cases hh':∃k,k<hs'.length/\es k=h'
    .obtain ⟨k',hk2,rfl⟩:=hh';exact (Wk k' hk2 h hno h2 h1 h4 h3).elim
    .have hno':∀k,k<hs'.length->es k≠h':=λk h1 h2=>hh' ⟨k,h1,h2⟩;rw [hHo h hno] at h1;rw [hHo h' hno'] at h2;rw [hιo h hno] at h3;rw [hιo h' hno'] at h4;exact s.inj h h' b h1 h2 h3 h4
 exact hk σ' ι' v w' lel st' ((Akn (es:=es) hι' hH' o6).2 hc')
end
end Go.Ab
namespace Go.Ab
section
variable {P:Program} {T:Cx} {an:Nat->Ann} {n:Nat} {o:Oper} {ρ:Operand->AV} {H:Hp} {K:Eff->Nat->Prop}
theorem Fw {b:Bool} {X:Prop} (h:bif b then X else False):b=true/\X:=by cases b with| false=>exact h.elim| true=>exact ⟨rfl,h⟩
theorem Aak {x:AV} (h:La x=true):x = .val (.slice none 0 0):=by
 unfold La at h;split at h
 .rfl
 .cases h
theorem Avf {x:AV} (h:Wh x=true):∀vs,x≠.val (.agg vs):=by intro vs e; subst e; cases h
theorem Afc {i:TI} (h1:Nat.beq (E2 i).cells.length i.zero.length=true) (h2:Wh (E2 i)=true) (h3:Km i.size (E2 i)=true):(E2 i).cells=i.zero.map .val:=by
 have _:=h1; have _:=h3
 unfold E2 at h2 ⊢;cases hd:i.d with
 | struct fs=>rfl
 | _=>
  rw [hd] at h2;cases b:i.zero with
  | nil=>rfl
  | cons v l=>
   cases l with
   | cons _ _=>rfl
   | nil=>rw [b] at h2;cases v <;> first | rfl | cases h2
theorem Ox {α:Type} {c:Array α} {x y:α} (h:c.toList = [x,y]):c = #[x,y]:=by apply Array.ext'; simpa using h
theorem Ts {α:Type} {c:Array α} {x:α} (h:c.toList = [x]):c = #[x]:=by apply Array.ext'; simpa using h
theorem Q3 {c:Call} {b:Builtin} {xs:Array Operand} {ts:Array TypeId} (h1:c.callee = .builtin b) (h2:c.args=xs) (h3:c.argTypes=ts):c = {callee:=.builtin b,args:=xs,argTypes:=ts}:=by cases c; simp_all
def Ez (H:Hp) (n:Nat):Prop:=∀m,n<=m->H m = .none
def Lz (P:Program) (o:Oper) (ρ:Operand->AV) (H:Hp) (n:Nat) (K:Eff->Nat->Prop):Prop := ∃b m,Cf P o ρ b/\(∀p∈b.rd,H p.1=p.2)/\K b m/\n<=m/\Ez (Cq H b.wr) m
theorem Dm (b:Ez H n) {r:AV} (h:Cf P o ρ ⟨r,[],[]⟩) (k:K ⟨r,[],[]⟩ n):Lz P o ρ H n K:=⟨_,n,h,ψ,k,Nat.le_refl _,b⟩
theorem Lb (c:Ez H n) {r:AV} {x:Nat} {b:Br} (h:Cf P o ρ ⟨r,[(x,b)],[]⟩) (hx:H x=b) (k:K ⟨r,[(x,b)],[]⟩ n):Lz P o ρ H n K := ⟨_,n,h,by simpa using hx,k,Nat.le_refl _,c⟩
theorem L0 (g:Ez H n) {r:AV} {x:Nat} {c b:Br} (h:Cf P o ρ ⟨r,[(x,c)],[(x,b)]⟩) (hx:H x=c) (f:c≠.none) (k:K ⟨r,[(x,c)],[(x,b)]⟩ n):Lz P o ρ H n K:=by
 refine ⟨_,n,h,by simpa using hx,k,Nat.le_refl _,λm hm=>?_⟩;have i:x<n:=by
  rcases Nat.lt_or_ge x n with h | h
  .exact h
  .exact (f (hx ▸ g x h)).elim
 show A8 H x b m=_;rw [Da _ _ ω]; exact g m hm
theorem Oy (c:Ez H n) {r:AV} {b:Br} (h:Cf P o ρ ⟨r,[(n,.none)],[(n,b)]⟩) (k:K ⟨r,[(n,.none)],[(n,b)]⟩ (n+1)):Lz P o ρ H n K:=by refine ⟨_,n+1,h,by simpa using c n (Nat.le_refl _),k,ω,λm hm=>?_⟩;show A8 H n b m=_;rw [Da _ _ ω]; exact c m ω
theorem Avg (j:Ez H n) {l:List Nat} {c:List AV} {f b:List Br} {r:AV} (g:Tm n l c f r b=true) (u:Qx H (wrs (Eb n l) 0 f)) (h:Cf P o ρ ⟨ren (Eb n l) r,wrs (Eb n l) 0 f++Ci (Eb n l) l.length (b.length-l.length),wrs (Eb n l) 0 b⟩) (k:K ⟨ren (Eb n l) r,wrs (Eb n l) 0 f++Ci (Eb n l) l.length (b.length-l.length),wrs (Eb n l) 0 b⟩ (n+(b.length-l.length))):Lz P o ρ H n K:=by
 simp only [Tm,Bool.and_eq_true] at g;have s:=g.1.1.1.1.1.1;have x:=Nat.le_of_ble_eq_true g.1.1.1.1.2;refine ⟨_,n+(b.length-l.length),h,λp hp=>?_,k,ω,λq hq=>?_⟩
 .rcases List.mem_append.1 hp with hp | hp
  .exact u.spec p hp
  .obtain ⟨i,hi,rfl⟩:=Aku hp;refine j _ ?_;show n<=Eb n l (l.length+i);rw [Wi ω]; omega
 .show Cq H (wrs (Eb n l) 0 b) q = .none;rw [Aaj (λi hi e=>?_)]
  .exact j q ω
  .rcases Nat.lt_or_ge (0+i) l.length with h1 | h1
   .have:=Akp s h1;omega
   .have:=Wi (n:=n) h1;omega
theorem Avh (l:Cy P T) (g:Ez H n) {t:TypeId} {x:Operand} (f:o.op = .load t x) (h:Ee P T an n o ρ H K):Lz P o ρ H n K:=by
 unfold Ee at h;rw [f] at h;dsimp only at h;split at h
 .rename_i i ht;split at h
  .rename_i cs hx;cases b:i.isAgg with
   | true=>rw [b] at h;simp only [cond_true] at h;obtain ⟨h1,h2⟩:=Fw h;exact Dm g (Asx l f ht b hx (Nat.le_of_ble_eq_true h1)) h2
   | false=>
    rw [b] at h;simp only [cond_false] at h;split at h
    .exact Dm g (Asw l f ht b hx) h
    .exact h.elim
  .rename_i hd off hx;split at h
   .rename_i E cs s;cases b:i.isAgg with
    | true=>rw [b] at h;simp only [cond_true] at h;obtain ⟨h1,h2⟩:=Fw h;exact Lb g (Asz l f ht b hx (Nat.le_of_ble_eq_true h1)) s h2
    | false=>
     rw [b] at h;simp only [cond_false] at h;split at h
     .rename_i c hc;exact Lb g (Asy l f ht b hx hc) s h
     .exact h.elim
   .exact h.elim
  .rename_i hd k q j hx;split at h
   .rename_i E sz xs s;obtain ⟨y,hk,hy,h⟩:=h;cases b:i.isAgg with
    | true=>rw [b] at h;simp only [cond_true] at h;obtain ⟨h1,h2⟩:=Fw h;exact Lb g (As1 l f ht b hx hk hy (Nat.le_of_ble_eq_true h1)) s h2
    | false=>
     rw [b] at h;simp only [cond_false] at h;split at h
     .rename_i c hc;exact Lb g (As0 l f ht b hx hk hy hc) s h
     .exact h.elim
   .exact h.elim
  .exact h.elim
 .exact h.elim
theorem Avi (l:Cy P T) (g:Ez H n) {t:TypeId} {x y:Operand} (c:o.op = .store t x y) (h:Ee P T an n o ρ H K):Lz P o ρ H n K:=by
 unfold Ee at h;rw [c] at h;dsimp only at h;split at h
 .rename_i i ht;split at h
  .rename_i hd off hx;split at h
   .rename_i E cs f;obtain ⟨h1,h2⟩:=Fw h;simp only [Bool.and_eq_true] at h1;exact L0 g (As3 l c ht hx (Nat.eq_of_beq_eq_true h1.1.1) (Nat.le_of_ble_eq_true h1.1.2) h1.2) f (by intro e; cases e) h2
   .exact h.elim
  .rename_i hd k q j hx;split at h
   .rename_i E sz xs f;obtain ⟨z,hk,s,h⟩:=h;obtain ⟨h1,h2⟩:=Fw h;simp only [Bool.and_eq_true] at h1;obtain ⟨⟨⟨⟨g1,g2⟩,g3⟩,g4⟩,g5⟩:=h1;rw [Aag,Tp] at h2;obtain ⟨u,b,h2⟩:=h2;subst b;exact L0 g (As5 l c ht hx hk s (Nat.eq_of_beq_eq_true g1) (Nat.le_of_ble_eq_true g2) (Nat.le_of_ble_eq_true g3) g4 (Avf g5)) f (by intro e; cases e) h2
   .exact h.elim
  .exact h.elim
 .exact h.elim
theorem Avj (l:Cy P T) (g:Ez H n) {op:BinOp} {t q:TypeId} {x y:Operand} (f:o.op = .binOp op t x y q) (h:Ee P T an n o ρ H K):Lz P o ρ H n K:=by
 unfold Ee at h;rw [f] at h;dsimp only at h;split at h
 .rename_i k a i b hx hy;split at h
  .obtain ⟨c,h1,h2,h3⟩:=h;exact Dm g (Atf f hx hy h1 h2) h3
  .obtain ⟨c,h1,h2,h3⟩:=h;exact Dm g (Ate f hx hy h1 h2) h3
  .replace h:=Fw h; obtain ⟨hk,h⟩:=h;have hk:k=i:=(by simpa using hk);subst hk;split at h
   .obtain ⟨c,h1,h2⟩:=h; exact Dm g (As7 f hx hy h1) h2
   .obtain ⟨c,h1,h2⟩:=h; exact Dm g (As8 f hx hy h1) h2
   .obtain ⟨c,h1,h2⟩:=h; exact Dm g (As9 f hx hy h1) h2
   .obtain ⟨c,h1,h2,h3⟩:=h; exact Dm g (Ata f hx hy h1 h2) h3
   .obtain ⟨c,h1,h2,h3⟩:=h; exact Dm g (Atb f hx hy h1 h2) h3
   .split at h
    .rename_i j ht'; exact Dm g (Atc f hx hy ht') h
    .split at h
     .rename_i c hc; exact Dm g (Atd f hx hy hc) h
     .exact h.elim
 .rename_i a b hx hy;split at h
  .rename_i A z u ht;split at h
   .rename_i j ht'; exact Dm g (Ati l f ht rfl hx hy ht') h
   .exact h.elim
  .exact h.elim
 .rename_i xs ys hx hy;split at h
  .rename_i s h1;split at h
   .rename_i vs h2;split at h
    .obtain ⟨b,hb,h⟩:=h;exact Dm g (Aj6 f hx hy h1 h2 hb (.inl ⟨rfl,rfl⟩)) h
    .obtain ⟨b,hb,h⟩:=h;exact Dm g (Aj6 f hx hy h1 h2 hb (.inr ⟨rfl,rfl⟩)) h
    .exact h.elim
   .exact h.elim
  .exact h.elim
 .rename_i k a i b hx hy;replace h:=Fw h; obtain ⟨hk,h⟩:=h;have hk:k=i:=(by simpa using hk);subst hk;obtain ⟨c,h1,h2⟩:=h;exact Dm g (Atq f hx hy h1) h2
 .rename_i a b hx hy;split at h
  .obtain ⟨h1,h2⟩:=h; exact Dm g (Atm f hx hy h1) h2
  .split at h
   .rename_i j ht'; exact Dm g (Atl f hx hy ht') h
   .exact h.elim
 .rename_i p G E D B hx hy;split at h
  .split at h
   .rename_i M L J I ht; exact Dm g (Atj l f ht rfl hx hy) h
   .exact h.elim
  .exact h.elim
 .exact h.elim
theorem Avk (u:Cy P T) (q:Ez H n) {t:TypeId} {x:Operand} {lo hi:Option Operand} (i:o.op = .slice t x lo hi none) (h:Ee P T an n o ρ H K):Lz P o ρ H n K:=by
 unfold Ee at h;rw [i] at h;dsimp only at h;split at h
 .rename_i e D B A ht;split at h
  .rename_i G y;split at h
   .rename_i sz xs hx;split at h
    .rename_i z h0 c f;replace h:=Fw h; obtain ⟨g1,h⟩:=h;obtain ⟨l,j,ys,el,b,h1,h2,hy,k⟩:=h;subst el; subst b; subst hy;exact Dm q (At5 u i ht rfl y (Nat.eq_of_beq_eq_true g1) hx c f h1 h2) k
    .exact h.elim
   .rename_i hd k off len hx;split at h
    .rename_i E sz xs g;split at h
     .rename_i z h0 c f;replace h:=Fw h; obtain ⟨g1,h⟩:=h;cases h with| mk l j hk el b h1 h2 h3 k=>subst el; subst b;exact Lb q (At7 u i ht rfl y (Nat.eq_of_beq_eq_true g1) hx hk c f h1 h2 h3) g k| mkE l hk el b h2 k=>subst el; subst b;exact Lb q (Aus u i ht rfl y hx hk c f h2) g k
     .exact h.elim
    .exact h.elim
   .exact h.elim
  .exact h.elim
 .rename_i D B A ht;split at h
  .rename_i s hx;split at h
   .rename_i z h0 c f;obtain ⟨l,j,el,b,h1,h2,k⟩:=h;subst el; subst b;exact Dm q (At6 u i ht rfl hx c f h1 h2) k
   .exact h.elim
  .exact h.elim
 .exact h.elim
theorem Avl (D:Cy P T) (A:Ez H n) {c:Call} (u:o.op = .call c) (h:Ee P T an n o ρ H K):Lz P o ρ H n K:=by
 unfold Ee at h;rw [u] at h;dsimp only at h;split at h
 .rename_i x i;split at h
  .rename_i f ae hx;split at h
   .rename_i j ai;split at h
    .rename_i hd k len hj;split at h
     .rename_i E sz xs B;obtain ⟨hk,I,r,hp,hf,h⟩:=h;subst hk;rw [<-I] at hj;exact L0 A (Avb u i hx hj hp hf) B (by intro e; cases e) h
     .exact h.elim
    .exact h.elim
   .cases h with| mk r hp hf k=>exact Dm A (Ava u i hx hp hf) k| act l ac hs r ah hp ha ok B k=>exact Avg A ok B (Ave u i hx hp ha ok) k
  .exact h.elim
 .exact h.elim
 .rename_i i;split at h
  .rename_i x t ha z;rw [Q3 i (Ts ha) (Ts z)] at u;split at h
   .rename_i e Y X V ht;split at h
    .rename_i sz xs hx;split at h
     .obtain ⟨c,hc,h⟩:=h;subst hc;exact Dm A (Ajt D u ht rfl hx) h
     .exact Dm A (Ajt D u ht rfl hx) h
    .rename_i p m cap hx; exact Dm A (Atx D u ht rfl hx) h
    .rename_i hd k off len hx;split at h
     .rename_i E sz xs B;obtain ⟨hk,h⟩:=h;exact Lb A (At0 D u ht rfl hx hk) B h
     .exact h.elim
    .exact h.elim
   .rename_i Y X V ht;split at h
    .rename_i s hx; exact Dm A (Atz D u ht rfl hx) h
    .exact h.elim
   .exact h.elim
  .exact h.elim
 .rename_i i;split at h
  .rename_i x t ha z;rw [Q3 i (Ts ha) (Ts z)] at u;split at h
   .rename_i e Y X V ht;split at h
    .rename_i p m cap hx; exact Dm A (Aty D u ht rfl hx) h
    .exact h.elim
   .exact h.elim
  .exact h.elim
 .rename_i i;split at h
  .rename_i x y t t' ha z;rw [Q3 i (Ox ha) (Ox z)] at u;split at h
   .rename_i e Y X V ht;split at h
    .rename_i Z J;split at h
     .rename_i h2 k2 a6 a7 hy;split at h
      .rename_i hd k off len hx;split at h
       .rename_i E sz xs B;replace h:=Fw h; obtain ⟨g5,h⟩:=h;simp only [Bool.and_eq_true] at g5;have L:=Nat.eq_of_beq_eq_true g5.1.1.1;have M:=Nat.eq_of_beq_eq_true g5.1.1.2;have e3:=Nat.eq_of_beq_eq_true g5.1.2;have e4:0<Z.size:=Nat.le_of_ble_eq_true g5.2;subst L; subst M; subst e3;obtain ⟨U,c,hk,I,R,N,G,hc,k⟩:=h;subst G; subst hc;exact L0 A (Auq D u ht rfl J e4 hx hk I hy R N) B (by intro e; cases e) k
       .exact h.elim
      .rename_i q hx;split at h
       .rename_i E sz xs B;replace h:=Fw h; obtain ⟨g5,h⟩:=h;have L:=Nat.eq_of_beq_eq_true g5;subst L;obtain ⟨hk,k⟩:=h;exact Lb A (Aur D u ht rfl J hx hy hk) B k
       .exact h.elim
      .exact h.elim
     .exact h.elim
    .exact h.elim
   .exact h.elim
  .exact h.elim
 .rename_i i;split at h
  .rename_i x t ha z;rw [Q3 i (Ts ha) (Ts z)] at u;split at h
   .rename_i e Y X V ht;split at h
    .rename_i Z J;split at h
     .rename_i hd k off len hx;split at h
      .rename_i E sz xs B;replace h:=Fw h; obtain ⟨g5,h⟩:=h;simp only [Bool.and_eq_true] at g5;have L:=Nat.eq_of_beq_eq_true g5.1.1.1.1.1;have M:=Nat.eq_of_beq_eq_true g5.1.1.1.1.2;have e3:0<Z.size:=Nat.le_of_ble_eq_true g5.1.1.1.2;subst L; subst M;obtain ⟨U,hk,I,G,k⟩:=h;subst G;exact L0 A (Aut D u ht rfl J e3 g5.1.1.2 (Afc g5.1.2 g5.2 g5.1.1.2) hx hk I) B (by intro e; cases e) k
      .exact h.elim
     .rename_i q hx; exact Dm A (Auu D u ht rfl hx) h
     .exact h.elim
    .exact h.elim
   .exact h.elim
  .exact h.elim
 .rename_i i;split at h
  .rename_i x y t t' ha z;rw [Q3 i (Ox ha) (Ox z)] at u;split at h
   .rename_i e Y X V e' ab aa a8 ht ht';split at h
    .rename_i Z J;replace h:=Fw h; obtain ⟨g,h⟩:=h;simp only [Bool.and_eq_true] at g;obtain ⟨⟨g1,g2⟩,g3⟩:=g;have g1:0<Z.size:=Nat.le_of_ble_eq_true g1;have g2:=Nat.eq_of_beq_eq_true g2;have g3:=Nat.le_of_ble_eq_true g3;split at h
     .rename_i sz ys hy;replace h:=Fw h; obtain ⟨g4,h⟩:=h;have g4:=Nat.eq_of_beq_eq_true g4;subst g4;split at h
      .rename_i hd k len hx;split at h
       .rename_i E a1 xs B;replace h:=Fw h; obtain ⟨g5,h⟩:=h;simp only [Bool.and_eq_true] at g5;have L:=Nat.eq_of_beq_eq_true g5.1;have M:=Nat.eq_of_beq_eq_true g5.2;subst L; subst M;cases h with| mk U m hk I hb G hm k=>subst I; subst G; subst hm;exact L0 A (Aue D u ht rfl ht' rfl J g1 g2 g3 hx hk hy hb) B (by intro e; cases e) k| mkP U k' m hk I hb G S hm k=>subst G; subst hm; subst S;exact L0 A (Aum D u ht rfl ht' rfl J g1 g2 g3 hx hk I hy hb) B (by intro e; cases e) k
       .exact h.elim
      .rename_i hx;obtain ⟨U,m,hb,G,hm,k⟩:=h;subst G; subst hm;exact Oy A (Aui D n u ht rfl ht' rfl J g1 g2 g3 hx hy hb) k
      .rename_i ag af hx;obtain ⟨ad,k⟩:=h;subst ad;exact Dm A (Auo D u ht rfl ht' rfl J g1 hx hy) k
      .exact h.elim
     .rename_i h2 k2 a6 a7 hy;split at h
      .rename_i hd k len hx;split at h
       .rename_i E a1 xs B;replace h:=Fw h; obtain ⟨g5,h⟩:=h;simp only [Bool.and_eq_true] at g5;have L:=Nat.eq_of_beq_eq_true g5.1.1;have M:=Nat.eq_of_beq_eq_true g5.1.2;have e3:=Nat.eq_of_beq_eq_true g5.2;subst L; subst M; subst e3;obtain ⟨U,k',m,hk,I,R,N,hb,G,S,hm,k⟩:=h;subst G; subst hm; subst S;exact L0 A (Aup D u ht rfl ht' rfl J g1 g2 g3 hx hk I hy R N hb) B (by intro e; cases e) k
       .exact h.elim
      .exact h.elim
     .exact h.elim
    .exact h.elim
   .rename_i e Y X V ab aa a8 ht ht';split at h
    .rename_i Z J;replace h:=Fw h; obtain ⟨g,h⟩:=h;simp only [Bool.and_eq_true] at g;obtain ⟨⟨g1,g2⟩,g3⟩:=g;have g1:=Nat.eq_of_beq_eq_true g1;have g2:=Nat.eq_of_beq_eq_true g2;have g3:=Nat.le_of_ble_eq_true g3;split at h
     .rename_i s hy;split at h
      .rename_i hd k len hx;split at h
       .rename_i E a1 xs B;replace h:=Fw h; obtain ⟨g5,h⟩:=h;simp only [Bool.and_eq_true] at g5;have L:=Nat.eq_of_beq_eq_true g5.1;have M:=Nat.eq_of_beq_eq_true g5.2;subst L; subst M;obtain ⟨_,_,_,_,_,_,_,_,_,k⟩ | ⟨U,m,hk,I,hb,G,hm,k⟩:=h
        .exact k.elim
        subst I; subst G; subst hm;exact L0 A (Auh D u ht rfl ht' rfl J g1 g2 g3 hx hk hy hb) B (by intro e; cases e) k
       .exact h.elim
      .exact h.elim
     .exact h.elim
    .exact h.elim
   .exact h.elim
  .exact h.elim
 .rename_i i;split at h
  .rename_i x y t t' ha z;rw [Q3 i (Ox ha) (Ox z)] at u;split at h
   .rename_i k a k' b hx hy;exact Dm A (Auk u hx hy) h
   .exact h.elim
  .exact h.elim
 .rename_i i;split at h
  .rename_i x y t t' ha z;rw [Q3 i (Ox ha) (Ox z)] at u;split at h
   .rename_i k a k' b hx hy;exact Dm A (Aul u hx hy) h
   .exact h.elim
  .exact h.elim
 .exact h.elim
theorem Akv (B:Cy P T) (A:Ez H n) (h:Ee P T an n o ρ H K):Lz P o ρ H n K:=by
 cases u:o.op with
 | load t x=>exact Avh B A u h
 | store t x y=>exact Avi B A u h
 | binOp op t x y yt=>exact Avj B A u h
 | call c=>exact Avl B A u h
 | slice t x lo hi mx=>cases mx with| none=>exact Avk B A u h| some m=>unfold Ee at h; rw [u] at h; exact h.elim
 | move x=>unfold Ee at h; rw [u] at h; exact Dm A (Ass u) h
 | assign x=>
  unfold Ee at h; rw [u] at h; dsimp only at h;split at h
  .exact Dm A (Wa u) h
  .split at h
   .exact Dm A (Wa u) h
   .exact Dm A (Wa u) h
   .exact Dm A (Wa u) h
   .cases hb:La (ρ x) with
    | false=>rw [hb] at h; exact Dm A (Wa u) h
    | true=>
     rw [hb] at h;simp only [cond_true] at h;split at h
     .rename_i e I G J ht;split at h
      .rename_i V D;replace h:=Fw h; obtain ⟨g1,h⟩:=h;exact Oy A (Auj B n u (Aak hb) ht rfl D (Nat.le_of_ble_eq_true g1)) h
      .exact h.elim
     .exact h.elim
 | pick c a b=>
  unfold Ee at h; rw [u] at h; dsimp only at h;split at h
  .rename_i t hc; exact Dm A (Ast u hc) h
  .exact h.elim
 | alloc t=>
  unfold Ee at h; rw [u] at h; dsimp only at h;split at h
  .rename_i i ht; exact Oy A (Asu B n u ht) h
  .exact h.elim
 | box t x=>unfold Ee at h; rw [u] at h; exact Oy A (Asv n u) h
 | build t parts=>
  unfold Ee at h; rw [u] at h; dsimp only at h;split at h
  .rename_i fs I G z ht;split at h
   .rename_i cs hc; exact Dm A (At8 B u ht rfl hc) h
   .exact h.elim
  .exact h.elim
 | buildSlice t len parts=>
  unfold Ee at h; rw [u] at h; dsimp only at h;split at h
  .rename_i e I G J ht;split at h
   .rename_i V D;replace h:=Fw h; obtain ⟨g,h⟩:=h;simp only [Bool.and_eq_true] at g;obtain ⟨⟨⟨g1,g2⟩,g3⟩,g4⟩:=g;have g2:parts.toList.map (·.1)=List.range' 0 len:=(by simpa using g2);have g4:∀p∈parts.toList,Km V.size (ρ p.2)=true:=List.all_eq_true.1 g4;split at h
    .exact h.elim
    .rw [Aah] at h;exact Dm A (Ajy B u ht rfl D (Nat.le_of_ble_eq_true g1) g2 (Nat.le_of_ble_eq_true g3) g4) h
    .rw [Aah] at h;exact Dm A (Ajy B u ht rfl D (Nat.le_of_ble_eq_true g1) g2 (Nat.le_of_ble_eq_true g3) g4) h
    .rw [Aah] at h;exact Oy A (Aua B n u ht rfl D (Nat.le_of_ble_eq_true g1) g2 (Nat.le_of_ble_eq_true g3) g4) h
   .exact h.elim
  .exact h.elim
 | nilCheck x=>unfold Ee at h; rw [u] at h; dsimp only at h;replace h:=Fw h; obtain ⟨g1,h⟩:=h;exact Dm A (As6 u g1) h
 | unOp op t x=>
  unfold Ee at h; rw [u] at h; dsimp only at h;split at h
  .rename_i b hx; exact Dm A (Atn u hx) h
  .rename_i k m hx;obtain ⟨c,h1,h2⟩:=h;exact Dm A (Ato u hx h1) h2
  .exact h.elim
 | convert s d x=>
  unfold Ee at h; rw [u] at h; dsimp only at h;split at h
  .rename_i i k I G J N m hs hd hx;obtain ⟨c,h1,h2⟩:=h;exact Dm A (Atp B u hs hd rfl hx h1) h2
  .rename_i v0 k0 I G J k1 m h1 h2 hx;exact Dm A (Atr B u h1 h2 rfl hx) h
  .rename_i v0 k0 I G J q m h1 h2 hx;obtain ⟨c,g1,g2⟩:=h;exact Dm A (Ats B u h1 h2 rfl hx g1) g2
  .exact h.elim
 | makeFunc fn first a1=>
  cases fn with
  | func f=>
   unfold Ee at h; rw [u] at h; dsimp only at h;replace h:=Fw h; obtain ⟨g1,h⟩:=h;have:first = #[]:=by simpa using g1
   subst this;exact Dm A (At4 u) h
  | _=>unfold Ee at h; rw [u] at h; exact h.elim
 | makeSlice t x y=>
  unfold Ee at h; rw [u] at h; dsimp only at h;split at h
  .rename_i e I G J ht;split at h
   .rename_i V D;split at h
    .rename_i k l N c hx hy;replace h:=Fw h; obtain ⟨g,h⟩:=h;simp only [Bool.and_eq_true] at g;obtain ⟨⟨⟨g1,g2⟩,g3⟩,g4⟩:=g;rcases h with ⟨l',c',zs,el,ec,h1,h2,h3,U,k⟩ | ⟨z',Y,l',c',zs,el,ec,h1,h2,h3,U,k⟩
     .subst el; subst ec; subst U;exact Oy A (Aub B n u ht rfl D (Nat.le_of_ble_eq_true g1) hx hy h1 h2 h3 g2 (Afc g3 g4 g2)) k
     .subst el; subst ec; subst U;exact Oy A (Auc B z' n u ht rfl D (Nat.le_of_ble_eq_true g1) hx hy h1 h2 h3 g2 (Afc g3 g4 g2) Y) k
    .exact h.elim
   .exact h.elim
  .exact h.elim
 | fieldAddr s x f=>
  unfold Ee at h; rw [u] at h; dsimp only at h;split at h
  .rename_i fs I G J ht;split at h
   .rename_i q S;split at h
    .rename_i hd off hx; exact Dm A (Atu B u ht rfl S hx) h
    .rename_i cs hx; exact Dm A (Atv B u ht rfl S hx) h
    .rename_i hd k m j hx;split at h
     .rename_i E sz xs L;obtain ⟨hk,h⟩:=h;exact Lb A (Atw B u ht rfl S hx hk) L h
     .exact h.elim
    .exact h.elim
   .exact h.elim
  .exact h.elim
 | indexAddr t x y=>
  unfold Ee at h; rw [u] at h; dsimp only at h;split at h
  .rename_i e I G J ht;split at h
   .rename_i V D;split at h
    .rename_i sz xs k i hx hy;replace h:=Fw h; obtain ⟨g1,h⟩:=h;obtain ⟨m,z,hi,U,N⟩:=h;subst hi;exact Dm A (At1 B u ht rfl D (Nat.eq_of_beq_eq_true g1) hx hy U) N
    .rename_i hd k off len kk i hx hy;split at h
     .rename_i E sz xs L;replace h:=Fw h; obtain ⟨g1,h⟩:=h;obtain ⟨m,hk,hi,hm,N⟩:=h;subst hi;exact Lb A (At2 B u ht rfl D hx hk hy hm (Nat.eq_of_beq_eq_true g1)) L N
     .exact h.elim
    .exact h.elim
   .exact h.elim
  .exact h.elim
 | index t x y=>
  unfold Ee at h; rw [u] at h; dsimp only at h;split at h
  .rename_i I G J ht;split at h
   .rename_i s k i hx hy;obtain ⟨m,c,hi,hc,N⟩:=h;subst hi;exact Dm A (At3 B u ht rfl hx hy hc) N
   .exact h.elim
  .exact h.elim
 | field t x f=>
  unfold Ee at h; rw [u] at h; dsimp only at h;split at h
  .rename_i fs I G J ht;split at h
   .rename_i q hq;split at h
    .rename_i cs hx;obtain ⟨ft,S,h⟩:=h;split at h
     .rename_i X D;cases M:X.isAgg with
      | true=>rw [M] at h;simp only [cond_true] at h;obtain ⟨h1,h2⟩:=Fw h;exact Dm A (Aj7 B u ht rfl hq S D hx (.inl ⟨M,Nat.le_of_ble_eq_true h1,rfl⟩)) h2
      | false=>
       rw [M] at h;simp only [cond_false] at h;split at h
       .rename_i c hc;exact Dm A (Aj7 B u ht rfl hq S D hx (.inr ⟨M,hc⟩)) h
       .exact h.elim
     .exact h.elim
    .exact h.elim
   .exact h.elim
  .exact h.elim
 | makeMap t r=>cases r with| none=>unfold Ee at h; rw [u] at h; exact Oy A (Auv n u) h| some q=>unfold Ee at h; rw [u] at h; exact h.elim
 | lookup t x y ok=>
  unfold Ee at h; rw [u] at h; dsimp only at h;split at h
  .rename_i kt et I G J ht;split at h
   .rename_i q1 q2 q3 hk;split at h
    .rename_i X D;split at h
     .rename_i hd hx;split at h
      .rename_i s hy;split at h
       .rename_i es L;obtain ⟨r,R,h⟩:=h;exact Lb A (Auw B u ht rfl hk rfl D hx hy R) L h
       .exact h.elim
      .exact h.elim
     .exact h.elim
    .exact h.elim
   .split at h
    .rename_i X D;split at h
     .rename_i hd hx;split at h
      .rename_i ks hy;split at h
       .rename_i us hu;split at h
        .rename_i es L;obtain ⟨r,hc,R,h⟩:=h;exact Lb A (Auy B u ht rfl D hx hy hu hc R) L h
        .exact h.elim
       .exact h.elim
      .exact h.elim
     .exact h.elim
    .exact h.elim
   .exact h.elim
  .exact h.elim
 | mapUpdate t x y z=>
  unfold Ee at h; rw [u] at h; dsimp only at h;split at h
  .rename_i kt et I G J ht;split at h
   .rename_i q1 q2 q3 hk;split at h
    .rename_i hd hx;split at h
     .rename_i s hy;split at h
      .rename_i es L;obtain ⟨g1,h⟩:=Fw h;rw [Tp] at h;obtain ⟨Z,R,h⟩:=h;exact L0 A (Aux B u ht rfl hk rfl hx hy g1 R) L (by intro e; cases e) h
      .exact h.elim
     .exact h.elim
    .exact h.elim
   .split at h
    .rename_i hd hx;split at h
     .rename_i ks hy;split at h
      .rename_i us hu;split at h
       .rename_i es L;obtain ⟨g1,h⟩:=Fw h;rw [Tp] at h;obtain ⟨Z,hc,R,rfl,h⟩:=h;exact L0 A (Auz B u ht rfl hx hy hu g1 hc R) L (by intro e; cases e) h
       .exact h.elim
      .exact h.elim
     .exact h.elim
    .exact h.elim
   .exact h.elim
  .exact h.elim
 | extract x i=>
  unfold Ee at h; rw [u] at h; dsimp only at h;split at h
  .rename_i cs hx;split at h
   .rename_i c hc; exact Dm A (Att u hx hc) h
   .exact h.elim
  .exact h.elim
 | _=>unfold Ee at h; rw [u] at h; exact h.elim
end
end Go.Ab
namespace Go.Ab
theorem E3 {t:Bool} {A B:Prop} (h:t=true) (k:A):bif t then A else B:=by rw [h]; exact k
theorem Afd {t:Bool} {A B:Prop} (h:t=false) (k:B):bif t then A else B:=by rw [h]; exact k
abbrev Hs:=List (List Nat×List Nat)
def Lc (l:List (Nat×Nat)):Nat->List AV->List AV
 | _,[]=>[]
 | i,x::xs=>(bif La x then (match l.lookup i with | some sz=>.sl sz [] | none=>x) else x)::Lc l (i+1) xs
def elN (l:List (Nat×Nat)) (x:AV):AV := match x with
 | .val (.agg vs)=>.agg (Lc l 1000 (vs.toList.map .val))
 | .agg cs=>.agg (Lc l 1000 cs)
 | x=>x
def Ld (l:List (Nat×Nat)) (x:AV):AV := match l with
 | []=>x
 | p::l=> match x with
  | .sl sz xs=>bif Nat.ble 1000 p.1 then .sl sz (xs.map (elN (p::l))) else .sl sz xs
  | .agg cs=>.agg (Lc (p::l) 0 cs)
  | x=>bif La x then .sl p.2 [] else x
def L1 (nl:Nat->List (Nat×Nat)):Option Nat->List (Nat×Nat)
 | none=>[]
 | some d=>nl d
theorem Aal {σ:Ax} {ι:B2} {H:Hp} {x:AV} {v:Value} {sz:Nat} (hx:La x=true) (h:Conc σ ι H x v):Conc σ ι H (.sl sz []) v:=by rw [Aak hx] at h;rw [h.val_inv];exact .cc (.nil sz none 0)
theorem Afe {l:List (Nat×Nat)}:∀{cs:List AV} {i k:Nat} {c:AV},(Lc l k cs)[i]? = some c->∃b,cs[i]? = some b/\(c=b\/(La b=true/\∃sz,c = .sl sz []))
 | [],i,k,c,h=>by simp [Lc] at h
 | x::xs,0,k,c,h=>by
  simp only [Lc,List.getElem?_cons_zero,Option.some.injEq] at h;refine ⟨x,rfl,?_⟩;cases hx:La x with
  | false=>rw [hx] at h; exact .inl h.symm
  | true=>
   rw [hx] at h;simp only [cond_true] at h;split at h
   .rename_i sz _; exact .inr ⟨rfl,sz,h.symm⟩
   .exact .inl h.symm
 | x::xs,i+1,k,c,h=>by simp only [Lc,List.getElem?_cons_succ] at h;obtain ⟨b,h1,h2⟩:=Afe h;exact ⟨b,by simpa using h1,h2⟩
theorem Aff {l:List (Nat×Nat)}:∀{cs:List AV} {k:Nat},(Lc l k cs).length=cs.length
 | [],_=>rfl
 | x::xs,k=>by simp only [Lc,List.length_cons,Aff]
theorem Avm {l:List (Nat×Nat)} {σ:Ax} {x:AV}:(elN l x).cells.length=x.cells.length/\∀(j:Nat) (c b:AV) (u:Value),x.cells[j]? = some c->(elN l x).cells[j]? = some b->CC σ c u->CC σ b u:=by
 have key:∀cs:List AV,(Lc l 1000 cs).length=cs.length/\∀(j:Nat) (c b:AV) (u:Value),cs[j]? = some c->(Lc l 1000 cs)[j]? = some b->CC σ c u->CC σ b u:=by
  intro cs;refine ⟨Aff,λj c b u h1 h2 h3=>?_⟩;obtain ⟨f,g1,rfl | ⟨g2,sz,rfl⟩⟩:=Afe h2
  .rw [h1] at g1; cases g1; exact h3
  .rw [h1] at g1; cases g1;rw [Aak g2] at h3;cases h3;exact .nil sz none 0
 unfold elN;split
 .exact key _
 .exact key _
 .exact ⟨rfl,λj c b u h1 h2 h3=>by rw [h1] at h2; cases h2; exact h3⟩
theorem CC.mapEl {σ:Ax} {sz:Nat} {xs:List AV} {v:Value} (f:AV->AV) (B:∀x,(f x).cells.length=x.cells.length/\∀(j:Nat) (c k:AV) (u:Value),x.cells[j]? = some c->(f x).cells[j]? = some k->CC σ c u->CC σ k u) (h:CC σ (.sl sz xs) v):CC σ (.sl sz (xs.map f)) v:=by
 cases h with
 | nil sz a cap=>exact .nil sz a cap
 | sl _ b off cap _ C E fr g D G hc h1 J I s=>
  have q:(xs.map f).length=xs.length:=ψ;have l:∀(i:Nat) (y:AV) (j:Nat) (k:AV),(xs.map f)[i]? = some y->y.cells[j]? = some k->∃x c,xs[i]? = some x/\x.cells[j]? = some c/\y=f x:=(by intro i y j k g1 g2;rw [List.getElem?_map] at g1;cases hx:xs[i]? with| none=>rw [hx] at g1; cases g1| some x=>rw [hx] at g1; cases g1;have hj:j<x.cells.length:=(by rw [<-(B x).1]; exact (List.getElem?_eq_some_iff.1 g2).1);exact ⟨x,x.cells[j],rfl,List.getElem?_eq_getElem hj,rfl⟩);rw [<-q];refine .sl (xs.map f) b off cap sz C E fr g D ?_ ?_ ?_ (λi j hi hj=>J i j (by simpa using hi) hj) (by simpa using I) (by simpa using s)
  .intro i y hy;rw [List.getElem?_map] at hy;cases hx:xs[i]? with| none=>rw [hx] at hy; cases hy| some x=>rw [hx] at hy; cases hy; rw [(B x).1]; exact G i x hx
  .intro i y j k g1 g2;obtain ⟨x,c,A,z,rfl⟩:=l i y j k g1 g2;exact (B x).2 j c k _ z g2 (hc i x j c A z)
  .intro i y j k g1 g2;obtain ⟨x,c,A,z,rfl⟩:=l i y j k g1 g2;exact h1 i x j c A z
theorem Avn {l:List (Nat×Nat)} {σ:Ax} {ι:B2} {H:Hp} {x:AV} {v:Value} (h:Conc σ ι H x v):Conc σ ι H (Ld l x) v:=by
 unfold Ld;split
 .exact h
 .split
  .rename_i _ p l _ sz xs;cases hb:Nat.ble 1000 p.1 with| false=>exact h| true=>exact .cc (h.sl_inv.mapEl _ λx=>Avm)
  .rename_i cs;obtain ⟨vs,rfl,f,b⟩:=h.agg_inv;refine .agg _ vs (by rw [Aff]; exact f) λi c u h1 h2=>?_;obtain ⟨j,h3,rfl | ⟨g,sz,rfl⟩⟩:=Afe h1
   .exact b i _ u h3 h2
   .exact Aal g (b i _ u h3 h2)
  .cases hx:La x with| false=>exact h| true=>exact Aal hx h
theorem Cf.nils {P:Program} {o:Oper} {ρ:Operand->AV} {b:Eff} (l:List (Nat×Nat)) (h:Cf P o ρ b):Cf P o ρ ⟨Ld l b.r,b.rd,b.wr⟩ := λσ ι H F W w a next Q s hx g hk=>h σ ι H F W w a next Q s hx g λc f v w' le s' hc=>hk c f v w' le s' (Avn hc)
def Jh (e:B1) (d:Option Nat) (r:AV) (H:Hp) (b:List (Nat×Br)) (K:B1->Hp->Prop):Prop :=
 match d with
 | none=>
  (match b with
  | []=>K e H
  | [p]=>K e (A8 H p.1 p.2)
  | p::q::l=>K e (Cq H (p::q::l)))
 | some t=>
  (match b with
  | []=>K (A8 e t r) H
  | [p]=>K (A8 e t r) (A8 H p.1 p.2)
  | p::q::l=>K (A8 e t r) (Cq H (p::q::l)))
theorem Aam (e:B1) (d:Option Nat) (r:AV) (H:Hp) (b:List (Nat×Br)) (K:B1->Hp->Prop):Jh e d r H b K=K (put e d r) (Cq H b):=by cases d <;> cases b with| nil=>rfl| cons p l=>cases l <;> rfl
def Ji (P:Program) (T:Cx) (an:Nat->Ann) (nl:Nat->List (Nat×Nat)) (ops:Array Oper):List Oper->List Nat->Nat->B1->Hp->Hs->(Nat->B1->Hp->Hs->Prop)->Prop
 | [],_,n,e,H,acc,K=>K n e H acc
 | o::os,f,n,e,H,acc,K=>
  match o.guard with
  | none=>Ee P T an n o (ev e) H λc m=>Kp (Ld (L1 nl o.dst) c.r) λr=>My c.wr λwr=>It c.rd λh=>It wr λg=>Jh e o.dst r H wr λe H=>Ji P T an nl ops os f m e H (acc++[(h,g)]) K
  | some p=>
   match (ops[p.1]?).bind (·.dst) with
   | none=>False
   | some s=>
    match e s with
    | .val (.bool b)=>
     match f.elem s with
     | true=>
      (match b with
      | true=>
       (match p.2 with
       | true=>Ee P T an n o (ev e) H λc m=>Kp (Ld (L1 nl o.dst) c.r) λr=>My c.wr λwr=>It c.rd λh=>It wr λg=>Jh e o.dst r H wr λe H=>Ji P T an nl ops os f m e H (acc++[(h,g)]) K
       | false=>Jh e o.dst (.val undef) H [] λe H=>Ji P T an nl ops os f n e H (acc++[([],[])]) K)
      | false=>
       (match p.2 with
       | true=>Jh e o.dst (.val undef) H [] λe H=>Ji P T an nl ops os f n e H (acc++[([],[])]) K
       | false=>Ee P T an n o (ev e) H λc m=>Kp (Ld (L1 nl o.dst) c.r) λr=>My c.wr λwr=>It c.rd λh=>It wr λg=>Jh e o.dst r H wr λe H=>Ji P T an nl ops os f m e H (acc++[(h,g)]) K))
     | false=>
      bif b then
       (match p.2 with
       | true=>Ee P T an n o (ev (A8 e s (.val (.bool true)))) H λc m=>Kp (Ld (L1 nl o.dst) c.r) λr=>My c.wr λwr=>It c.rd λh=>It wr λg=>Jh (A8 e s (.val (.bool true))) o.dst r H wr λe H=>Ji P T an nl ops os (s::f) m e H (acc++[(h,g)]) K
       | false=>Jh (A8 e s (.val (.bool true))) o.dst (.val undef) H [] λe H=>Ji P T an nl ops os (s::f) n e H (acc++[([],[])]) K)
      else
       (match p.2 with
       | true=>Jh (A8 e s (.val (.bool false))) o.dst (.val undef) H [] λe H=>Ji P T an nl ops os (s::f) n e H (acc++[([],[])]) K
       | false=>Ee P T an n o (ev (A8 e s (.val (.bool false)))) H λc m=>Kp (Ld (L1 nl o.dst) c.r) λr=>My c.wr λwr=>It c.rd λh=>It wr λg=>Jh (A8 e s (.val (.bool false))) o.dst r H wr λe H=>Ji P T an nl ops os (s::f) m e H (acc++[(h,g)]) K)
    | .val (.tuple _)=>Jh e o.dst (.val undef) H [] λe H=>Ji P T an nl ops os f n e H (acc++[([],[])]) K
    | _=>False
inductive L2 (ops:List Oper) (acc:Hs) (K:Prop):Prop where
 | mk (h:Aet ops acc=true) (k:K)
inductive Ex where
 | normal
 | exit (id:Nat)
 | ret
def Gm (e:B1):List (Nat×AV)->Prop
 | []=>True
 | p::l=>e p.1=p.2/\Gm e l
def Gn (H H':Hp):Nat->Nat->Prop
 | 0,_=>True
 | k+1,n=>(H k=H' k/\(H' k).under n=true)/\Gn H H' k n
def J2 (b:List Nat) (e:B1) (u:Nat->Value) (l:List (Nat×AV)):B1:=l.foldr (λp e=>A8 e p.1 p.2) (b.foldr (λs e=>A8 e s (.val (u s))) e)
def Kq (n:Nat) (b:List (Nat×AV)) (c:List (Nat×Br)):Bool:=(b.all λp=>p.2.under n)&&c.all λp=>Nat.blt p.1 n
inductive Avo (n:Nat) (ws:List Nat) (e:B1) (H:Hp) (body:(Nat->B1->Hp->Prop)->Nat->B1->Hp->Prop):Prop where
 | mk (I:Type) (inv:I->Prop) (iv:I->List (Nat×AV)) (hv:I->List (Nat×Br)) (m:I->Nat) (i0:I) (hb:∀i,Kq n (iv i) (hv i)=true)
   (h0:inv i0) (hs:Gm e (iv i0)) (hh:Gn H (Cq H (hv i0)) n n)
   (step:∀(i:I) (u:Nat->Value),inv i->body (λ_ e' H'=>∃i',inv i'/\Gm e' (iv i')/\Gn H' (Cq H (hv i')) n n/\m i' < m i) n (J2 ws e u (iv i)) (Cq H (hv i)))
def Fb:Code->List Nat
 | .region _ ops _=>ops.toList.filterMap (·.dst)
 | .seq a b=>Fb a++Fb b
 | .cond _ a b=>Fb a++Fb b
 | .block _ b=>Fb b
 | .loop b=>Fb b
 | .scope b=>Fb b
 | _=>[]
def Aan:List Nat->B1->Hp->(B1->Hp->Prop)->Prop
 | [],e,H,K=>K e H
 | s::b,e,H,K=> match e s with
  | .arr h k 0 len=> match H h with
   | .rows _ sz xs=>F7 k xs (F7 len xs (Aan b (A8 e s (.sl sz xs)) (A8 H h .dead) K))
   | _=>False
  | _=>False
structure Cfg where
 T:Cx
 an:Nat->Ann:=λ_=>.std
 gh:Nat->List Nat:=λ_=>[]
 nl:Nat->List (Nat×Nat):=λ_=>[]
def Akw (x:AV) (A B:Prop):Prop := match x with
 | .val (.bool t)=>bif t then A else B
 | _=>False
def vc (P:Program) (C:Cfg):Code->(Ex->Nat->B1->Hp->Prop)->Nat->B1->Hp->Prop
 | .skip,Q,n,e,H=>Q .normal n e H
 | .region id ops draw,Q,n,e,H=>Aan (C.gh id) e H λe H=> Ji P C.T C.an C.nl ops ops.toList [] n e H [] λn e H acc=>bif draw then L2 ops.toList acc (Q .normal n e H) else Q .normal n e H
 | .seq a b,Q,n,e,H=>vc P C a (λx n e H=>match x with
   | .normal=>vc P C b Q n e H
   | .exit id=>Q (.exit id) n e H
   | .ret=>Q .ret n e H) n e H
 | .cond c a b,Q,n,e,H=>Akw (ev e c) (vc P C a Q n e H) (vc P C b Q n e H)
 | .block id b,Q,n,e,H=>vc P C b (λx n e H=>match x with
   | .normal=>Q .normal n e H
   | .exit i=>bif Nat.beq i id then Q .normal n e H else Q (.exit i) n e H
   | .ret=>Q .ret n e H) n e H
 | .loop b,Q,n,e,H=>Avo n (Fb b) e H λK n e H=>vc P C b (λx n e H=>match x with
   | .normal=>K n e H
   | .exit id=>Q (.exit id) n e H
   | .ret=>Q .ret n e H) n e H
 | .exit id,Q,n,e,H=>Q (.exit id) n e H
 | .ret,Q,n,e,H=>Q .ret n e H
 | _,_,_,_,_=>False
def Akx (N:Nat) (x:Operand):Bool := match x with
 | .tmp t=>Nat.blt t N
 | _=>true
def Jj (N:Nat):Code->Bool
 | .region _ ops _=>ops.toList.all λo=>(Ko ops o).all λs=>Nat.blt s N
 | .seq a b=>Jj N a&&Jj N b
 | .cond c a b=>Akx N c&&Jj N a&&Jj N b
 | .block _ b=>Jj N b
 | .loop b=>Jj N b
 | .scope b=>Jj N b
 | _=>true
def Ex.out:Ex->Exit
 | .normal=>.normal
 | .exit id=>.exit id
 | .ret=>.ret
section
variable {P:Program} {T:Cx} {an:Nat->Ann} {nl:Nat->List (Nat×Nat)} {ops:Array Oper} {F:Ax} {W:World} {Q:Exit->Act->World->Prop}
theorem Aao {α:Type} {e:Nat->α} {s:Nat} {v:α} (h:e s=v):A8 e s v=e:=by subst h; exact Ho e s
theorem Afg (M:Cy P T):∀(os:List Oper) (g:List Nat) (i n:Nat) (e:B1) (H:Hp) (acc:Hs) (K:Nat->B1->Hp->Hs->Prop),ops.toList.drop i=os->acc.length=i->Ez H n->Ji P T an nl ops os g n e H acc K -> ∃f e' H' accs,K f e' H' accs/\accs.take i=acc/\accs.length=i+os.length/\n<=f/\Ez H' f/\Run P ops (λk=>accs.getD k ([],[])) (List.range' i os.length) e H e' H'
 | [],g,i,n,e,H,acc,K,hd,y,D,h=>⟨n,e,H,acc,h,by rw [<-y]; simp,by simpa using y,Nat.le_refl _,D,.nil e H⟩
 | o::os,g,i,n,e,H,acc,K,hd,y,D,h=>by
  have N:ops[i]? = some o:=(by have:=congrArg (λl=>l[0]?) hd;simpa using this);have A:ops.toList.drop (i+1)=os:=(by have:=congrArg (List.drop 1) hd;simpa [List.drop_drop] using this);have run:∀(u:B1) (g:List Nat),Hr ops o u true->(Ee P T an n o (ev u) H λc m=>Kp (Ld (L1 nl o.dst) c.r) λr=>My c.wr λwr=>It c.rd λS=>It wr λR=>Jh u o.dst r H wr λe H=>Ji P T an nl ops os g m e H (acc++[(S,R)]) K) ->
    ∃f e' H' accs,K f e' H' accs/\accs.take i=acc/\accs.length=i+(o::os).length/\n<=f/\Ez H' f/\Run P ops (λk=>accs.getD k ([],[])) (List.range' i (o::os).length) u H e' H':=by
   intro u g j x;obtain ⟨c,m,h1,h2,h3,h4,Y⟩:=Akv M D x;simp only [Tp,Ae5,Ae6,Aam] at h3;obtain ⟨f,e',H',accs,I,B,V,U,G,E⟩:=Afg M os g (i+1) m _ _ _ K A (by simp [y]) Y h3;have L:accs[i]? = some (c.rd.map (·.1),c.wr.map (·.1)):=(by have Z:(accs.take (i+1))[i]? = accs[i]?:=List.getElem?_take_of_lt ω;rw [<-Z,B,List.getElem?_append_right ω];simp [y]);have z:accs.getD i ([],[])=(c.rd.map (·.1),c.wr.map (·.1)):=(by simp [List.getD,L]);refine ⟨f,e',H',accs,I,?_,by simp only [List.length_cons]; omega,ω,G,?_⟩
   .have:=congrArg (List.take i) B;rw [List.take_take] at this;simpa [y] using this
   .rw [List.length_cons,List.range'_succ];refine .cons o (Ld (L1 nl o.dst) c.r) c.wr ⟨N,.inl ⟨j,_,h1.nils (L1 nl o.dst),h2,?_,?_,rfl,rfl⟩⟩ E
    .intro p hp; show p.1∈(accs.getD i ([],[])).1; rw [z]; exact List.mem_map_of_mem hp
    .intro p hp; show p.1∈(accs.getD i ([],[])).2; rw [z]; exact List.mem_map_of_mem hp
  have skip:∀(u:B1) (g:List Nat),Hr ops o u false->(Jh u o.dst (.val undef) H [] λe H=>Ji P T an nl ops os g n e H (acc++[([],[])]) K) ->
    ∃f e' H' accs,K f e' H' accs/\accs.take i=acc/\accs.length=i+(o::os).length/\n<=f/\Ez H' f/\Run P ops (λk=>accs.getD k ([],[])) (List.range' i (o::os).length) u H e' H':=by
   intro u g j x;rw [Aam] at x;obtain ⟨f,e',H',accs,I,B,V,U,G,E⟩:=Afg M os g (i+1) n _ _ _ K A (by simp [y]) D x;refine ⟨f,e',H',accs,I,?_,by simp only [List.length_cons]; omega,ω,G,?_⟩
   .have:=congrArg (List.take i) B;rw [List.take_take] at this;simpa [y] using this
   .rw [List.length_cons,List.range'_succ];exact .cons o (.val undef) [] ⟨N,.inr ⟨j,rfl,rfl⟩⟩ E
  simp only [Ji] at h;cases q:o.guard with
  | none=>rw [q] at h;exact run e g (by unfold Hr; rw [q]) h
  | some p=>
   rw [q] at h;simp only [] at h;cases x:(ops[p.1]?).bind (·.dst) with
   | none=>rw [x] at h; exact h.elim
   | some s=>
    rw [x] at h;simp only [] at h;split at h
    .rename_i b hb;have j:∀on,on=(b==p.2)->Hr ops o e on:=(by intro on J;unfold Hr; rw [q];exact ⟨s,.bool b,x,hb,by rw [J]; cases b <;> cases p.2 <;> rfl⟩);cases hk:g.elem s with
     | true=>
      rw [hk] at h;simp only [] at h;cases b with
      | true=>cases hp:p.2 with| true=>rw [hp] at h; exact run e _ (j true (by rw [hp]; rfl)) h| false=>rw [hp] at h; exact skip e _ (j false (by rw [hp]; rfl)) h
      | false=>cases hp:p.2 with| true=>rw [hp] at h; exact skip e _ (j false (by rw [hp]; rfl)) h| false=>rw [hp] at h; exact run e _ (j true (by rw [hp]; rfl)) h
     | false=>
      rw [hk] at h;simp only [] at h;cases b with
      | true=>rw [Aao hb] at h;simp only [cond_true] at h;cases hp:p.2 with| true=>rw [hp] at h; exact run e _ (j true (by rw [hp]; rfl)) h| false=>rw [hp] at h; exact skip e _ (j false (by rw [hp]; rfl)) h
      | false=>rw [Aao hb] at h;simp only [cond_false] at h;cases hp:p.2 with| true=>rw [hp] at h; exact skip e _ (j false (by rw [hp]; rfl)) h| false=>rw [hp] at h; exact run e _ (j true (by rw [hp]; rfl)) h
    .rename_i vs X;exact skip e _ (by unfold Hr; rw [q]; exact ⟨s,_,x,X,rfl⟩) h
    .exact h.elim
end
end Go.Ab
namespace Go.Ab
section
variable {P:Program} {C:Cfg} {F:Ax} {W:World}
theorem Aky {c:Code} {Q:Exit->Act->World->Prop} {a:Act} {w:World} (J:Nat->Act->World->Prop) (k0:Nat) (h0:J k0 a w) (g:∀k a w,J k a w->c.wp P (Exit.then (λq w'=>∃s,s<k/\J s q w') Q) a w):(Code.loop c).wp P Q a w:=by
 intro b u cs;have key:∀k a w,J k a w->∃e q w',Q e q w'/\Arrives P (lone (b.at a (.code c :: .inLoop c::u)) cs w) b u cs e q w':=by
  intro k;induction k using Nat.strongRecOn with
  | _ k ih=>intro a w D;obtain ⟨e,j,i,hq,f⟩:=g k a w D b (.inLoop c::u) cs;cases e with| normal=>obtain ⟨s,z,A⟩:=hq;obtain ⟨E,G,B,y,h⟩:=ih s z j i A;exact ⟨E,G,B,y,.of_steps (Steps.trans f (.one step_inLoop)) h⟩| exit id=>exact ⟨_,j,i,hq,.pass (x:=.inLoop c) rfl (λ_ _=>.inl ψ) f⟩| goto l=>exact ⟨_,j,i,hq,.pass (x:=.inLoop c) rfl (λ_ _=>.inl ψ) f⟩| ret=>exact ⟨_,j,i,hq,.pass (x:=.inLoop c) rfl (λ_ _=>.inl ψ) f⟩| panic I=>exact ⟨_,j,i,hq,.pass (x:=.inLoop c) rfl (λ_ _=>.inl ψ) f⟩| outgrown=>exact ⟨_,j,i,hq,.pass (x:=.inLoop c) rfl (λ_ _=>.inl ψ) f⟩
 obtain ⟨e,q,w',hq,f⟩:=key k0 a w h0;exact ⟨e,q,w',hq,.of_steps (.one step_loop) f⟩
theorem Avp {n:Nat} {x:AV} (h:x.under2 n=true) (hx:∀cs,x≠.agg cs):x.under1 n=true:=by cases x <;> first | exact h | exact (hx _ rfl).elim
theorem Conc.restrict {σ:Ax} {ι B:B2} {H H':Hp} {n:Nat} (G:∀h,h<n->B h=ι h) (I:∀h,h<n->H' h=H h) {x:AV} {v:Value} (hx:x.under n=true) (h:Conc σ ι H x v):Conc σ B H' x v:=by
 have l:∀{x:AV} {v:Value},x.under0 n=true->Conc σ ι H x v->Conc σ B H' x v:=by intro x v hx h;cases h with| cc h=>exact .cc h| loc h off b hb=>exact .loc h off b (by rw [G h (Gl hx)]; exact hb)| mp h b hb=>exact .mp h b (by rw [G h (Gl hx)]; exact hb)| arr h k off len v J D z=>have y:=Gl hx;exact .arr h k off len v (by rw [I h y]; exact J) (by rw [G h y,I h y]; exact D) z| el h k i j v J D z=>have y:=Gl hx;exact .el h k i j v (by rw [I h y]; exact J) (by rw [G h y,I h y]; exact D) z| ref cs b off C E fr g S hc h1 U=>exact .ref cs b off C E fr g S hc h1 U| agg=>cases hx| tup=>cases hx| fn=>cases hx
 have key:∀{x:AV} {v:Value},x.under1 n=true->Conc σ ι H x v->Conc σ B H' x v:=by intro x v hx h;cases x with| fn f cs=>obtain ⟨vs,rfl,A,h⟩:=h.fn_inv;exact .fn f cs vs A λi c u h1 h2=>l (List.all_eq_true.1 hx c (List.mem_of_getElem? h1)) (h i c u h1 h2)| agg cs=>cases hx| tup cs=>cases hx| val u=>exact l (x:=(.val u)) hx h| loc q off=>exact l (x:=(.loc q off)) hx h| arr q k off len=>exact l (x:=(.arr q k off len)) hx h| el q k i j=>exact l (x:=(.el q k i j)) hx h| mp q=>exact l (x:=(.mp q)) hx h| ref cs=>exact l (x:=(.ref cs)) hx h| sl sz xs=>exact l (x:=(.sl sz xs)) hx h| fb s=>exact l (x:=(.fb s)) hx h
 have cells:∀{cs:List AV},cs.all (AV.under1 n)=true->∀(i:Nat) (c:AV) (u:Value),cs[i]? = some c->Conc σ ι H c u->Conc σ B H' c u :=
  λM i c u hc h=>key (List.all_eq_true.1 M c (List.mem_of_getElem? hc)) h
 cases x with
 | agg cs=>cases h with| cc h=>exact .cc h| agg _ vs A h=>exact .agg cs vs A λi c u h1 h2=>cells hx i c u h1 (h i c u h1 h2)
 | tup cs=>
  cases h with
  | cc h=>exact .cc h
  | tup _ vs A h=>refine .tup cs vs A λi c u h1 h2=>?_;have N:=List.all_eq_true.1 hx c (List.mem_of_getElem? h1);have hc:=h i c u h1 h2;cases c with| agg ds=>obtain ⟨R,rfl,L,D⟩:=hc.agg_inv;exact .agg ds R L λj d v g1 g2=>cells N j d v g1 (D j d v g1 g2)| _=>exact key (Avp N (by intro cs e; cases e)) hc
 | fn f cs=>cases h with| cc h=>exact .cc h| fn _ _ vs A h=>exact .fn f cs vs A λi c u h1 h2=>cells hx i c u h1 (h i c u h1 h2)
 | val v=>exact key rfl h
 | loc h off=>exact key hx h
 | arr h k off len=>exact key hx h
 | el h k i j=>exact key hx h
 | mp h=>exact key hx h
 | ref cs=>exact key rfl h
 | sl sz xs=>exact key rfl h
 | fb s=>exact key rfl h
theorem Gn.spec {H H':Hp} {n:Nat}:∀{k:Nat},Gn H H' k n->∀h,h<k->H h=H' h/\(H' h).under n=true
 | 0,_,h,b=>ω
 | k+1,c,h,b=>by
  by_cases e:h=k
  .subst e; exact c.1
  .exact Gn.spec c.2 h ω
theorem Gm.spec {e:B1}:∀{l:List (Nat×AV)},Gm e l->∀p∈l,e p.1=p.2
 | [],_,p,hp=>by cases hp
 | q::l,h,p,hp=>by
  rcases List.mem_cons.1 hp with rfl | hp
  .exact h.1
  .exact Gm.spec h.2 p hp
theorem Akz (c:List Nat) (e:B1) (u:Nat->Value) (l:List (Nat×AV)) (s:Nat):(∃p∈l,p.1=s/\J2 c e u l s=p.2)\/(s∈c/\J2 c e u l s = .val (u s))\/(s ∉ c/\J2 c e u l s=e s):=by
 have base:(s∈c/\(c.foldr (λs e=>A8 e s (.val (u s))) e) s = .val (u s))\/(s ∉ c/\(c.foldr (λs e=>A8 e s (.val (u s))) e) s=e s):=by
  induction c with
  | nil=>exact .inr ⟨ψ,rfl⟩
  | cons t c ih=>
   simp only [List.foldr_cons];by_cases b:s=t
   .subst b; exact .inl ⟨ψ,Co _ _ _⟩
   .rw [Da _ _ b];rcases ih with ⟨h1,h2⟩ | ⟨h1,h2⟩
    .exact .inl ⟨by simp [h1],h2⟩
    .exact .inr ⟨by simp [h1,b],h2⟩
 unfold J2;induction l with
 | nil=>exact .inr base
 | cons p l ih=>
  simp only [List.foldr_cons];by_cases b:s=p.1
  .exact .inl ⟨p,ψ,b.symm,by rw [b]; exact Co _ _ _⟩
  .rw [Da _ _ b];rcases ih with ⟨q,hq,h1,h2⟩ | h | h
   .exact .inl ⟨q,by simp [hq],h1,h2⟩
   .exact .inr (.inl h)
   .exact .inr (.inr h)
theorem Ak0:∀(i:List Nat) {e:B1} {H:Hp} {K:B1->Hp->Prop} {n:Nat} {σ:Ax} {ι:B2} {a:Act} {w:World},Aan i e H K->St σ ι H F W w->Eo σ ι H e a->Ez H n -> ∃g e' H',K e' H'/\Le σ ι H g ι H'/\St g ι H' F W w/\Eo g ι H' e' a/\Ez H' n
 | [],e,H,K,n,σ,ι,a,w,h,s,f,c=>⟨σ,e,H,h,Le.refl _ _ _,s,f,c⟩
 | t::i,e,H,K,n,σ,ι,a,w,h,s,f,c=>by
  simp only [Aan] at h;split at h
  .rename_i hd k len hx;split at h
   .rename_i E sz xs u;obtain ⟨hk,S,h⟩:=h;obtain ⟨D,b,G,x⟩:=s.freeze u;have y:Eo D ι (A8 H hd .dead) (A8 e t (.sl sz xs)) a:=by
     intro q hq;by_cases A:q=t
     .subst A;rw [Co];have hc:=f q hq;rw [hx] at hc;have:=x 0 len _ ω (hc.arr_inv u hk);rw [List.drop_zero,List.take_of_length_le ω] at this;exact .cc this
     .rw [Da _ _ A]; exact (f q hq).mono b
    have j:Ez (A8 H hd .dead) n:=(by intro m hm;have l:hd≠m:=(by intro z; subst z;have:=c hd hm; rw [u] at this; cases this);rw [Da _ _ (Ne.symm l)]; exact c m hm);obtain ⟨B,z,R,N,M,L,J,I⟩:=Ak0 i h G y j;exact ⟨B,z,R,N,b.trans M,L,J,I⟩
   .exact h.elim
  .exact h.elim
theorem Ak1 {N:Nat} {ops:Array Oper} (h:(ops.toList.all λo=>(Ko ops o).all λs=>Nat.blt s N)=true):Z5 ops N:=by intro i o c s b;rw [List.all_eq_true] at h;have:=h o (by simpa using Array.mem_of_getElem? c);rw [List.all_eq_true] at this;exact Gl (this s b)
theorem Q4 (hT:Cy P C.T) (hm:P.follows .mixedOrders=true):∀(c:Code) (Q':Ex->Nat->B1->Hp->Prop) (n:Nat) (e:B1) (H:Hp) (σ:Ax) (ι:B2) (a:Act) (w:World) (Q:Exit->Act->World->Prop), Jj a.tmps.size c=true->vc P C c Q' n e H->St σ ι H F W w->Eo σ ι H e a->Ez H n -> (∀x n' e' H' σ' ι' a' w',Q' x n' e' H'->Le σ ι H σ' ι' H'->St σ' ι' H' F W w'->Eo σ' ι' H' e' a'->Ez H' n'->n<=n'->a'.tmps.size=a.tmps.size->a'.defers=a.defers->Fa (Fb c) a a'->Q x.out a' w')->c.wp P Q a w
 | .skip,Q',n,e,H,σ,ι,a,w,Q,_,h,s,U,S,hk=>wp_skip (hk .normal n e H σ ι a w h (Le.refl _ _ _) s U S (Nat.le_refl _) rfl rfl (Fa.refl _ _))
 | .exit id,Q',n,e,H,σ,ι,a,w,Q,_,h,s,U,S,hk=>wp_exit (hk (.exit id) n e H σ ι a w h (Le.refl _ _ _) s U S (Nat.le_refl _) rfl rfl (Fa.refl _ _))
 | .ret,Q',n,e,H,σ,ι,a,w,Q,_,h,s,U,S,hk=>wp_ret (hk .ret n e H σ ι a w h (Le.refl _ _ _) s U S (Nat.le_refl _) rfl rfl (Fa.refl _ _))
 | .region id ops draw,Q',n,e,H,σ,ι,a,w,Q,u,h,s,U,S,hk=>by
  simp only [vc] at h;obtain ⟨σ0,e0,b3,h,ap,s0,az,ba⟩:=Ak0 _ h s U S;obtain ⟨n',e',H',accs,hK,_,bh,av,hf,aj⟩:=Afg hT ops.toList [] 0 n e0 b3 [] _ ψ rfl ba h;have ar:=Ak1 u;cases draw with
  | false=>simp only [cond_false] at hK;refine wp_region ?_;have:List.range ops.size=List.range' 0 ops.toList.length:=(by rw [List.range_eq_range']; simp);rw [this];refine aj.wpOps s0 az ar ?_;intro σ' ι' a' w' le s' ao g l hu;exact hk .normal n' e' H' σ' ι' a' w' hK (ap.trans le) s' ao hf av g l hu
  | true=>
   simp only [cond_true] at hK;obtain ⟨b9,hK⟩:=hK;refine wp_region_any hm ?_;have L:ops=ops.toList.toArray:=ψ;rw [L];simp only [List.size_toArray];refine Aev (accs:=accs) (e':=e') (H':=H') b9 ops.toList.length _ (List.range' 0 ops.toList.length) e0 b3 σ0 ι a _ (by rw [<-L]; exact aj) (List.pairwise_lt_range' ..) ?_ ψ ?_ ψ (s0.drew _) az (by rw [<-L]; exact ar) ?_
   .intro i;simp only [List.mem_range'_1,Array.getD_eq_getD_getElem?];constructor
    .rintro ⟨_,h2⟩;refine ⟨ω,?_⟩;have:i<ops.size:=(by simpa using h2);simp [this]
    .rintro ⟨h1,_⟩; omega
   .intro k o bg hl;exfalso;simp only [Array.getD_eq_getD_getElem?] at hl;by_cases ah:k<ops.size
    .simp [ah] at hl
    .simp [ah] at hl
   .intro σ' ι' a' w' le s' ao g l hu;exact hk .normal n' e' H' σ' ι' a' w' hK (ap.trans le) s' ao hf av g l (by rw [<-L] at hu; exact hu)
 | .seq c1 c2,Q',n,e,H,σ,ι,a,w,Q,u,h,s,U,S,hk=>by simp only [Jj,Bool.and_eq_true] at u;simp only [vc] at h;refine wp_seq (Q4 hT hm c1 _ n e H σ ι a w _ u.1 h s U S ?_);intro x n1 L N D G a1 R hq f A j z B g l hu;cases x with| normal=>refine Q4 hT hm c2 Q' n1 L N D G a1 R Q (by rw [g]; exact u.2) hq A j z ?_;intro x n2 e2 H2 σ2 ι2 a2 w2 b8 V s2 ae ag ac X Y ab;exact hk x n2 e2 H2 σ2 ι2 a2 w2 b8 (f.trans V) s2 ae ag ω (X.trans g) (Y.trans l) ((hu.mono (by simp [Fb]; exact λs h=>.inl h)).trans (ab.mono (by simp [Fb]; exact λs h=>.inr h)))| exit id=>exact hk (.exit id) n1 L N D G a1 R hq f A j z B g l (hu.mono (by simp [Fb]; exact λs h=>.inl h))| ret=>exact hk .ret n1 L N D G a1 R hq f A j z B g l (hu.mono (by simp [Fb]; exact λs h=>.inl h))
 | .cond x c1 c2,Q',n,e,H,σ,ι,a,w,Q,u,h,s,U,S,hk=>by
  simp only [Jj,Bool.and_eq_true] at u;simp only [vc,Akw] at h;split at h
  .rename_i t hx;have hc:=U.eval (x:=x) (λt ht=>by cases x with| tmp q=>cases ht; exact Gl u.1.1| _=>cases ht)
   rw [hx] at hc;have hv:=hc.val_inv;cases t with| true=>refine wp_cond_true hv (Q4 hT hm c1 Q' n e H σ ι a w Q u.1.2 h s U S ?_);intro x n1 L N D G a1 R hq f A j z B g l hu;exact hk x n1 L N D G a1 R hq f A j z B g l (hu.mono (by simp [Fb]; exact λs h=>.inl h))| false=>refine wp_cond_false hv (Q4 hT hm c2 Q' n e H σ ι a w Q u.2 h s U S ?_);intro x n1 L N D G a1 R hq f A j z B g l hu;exact hk x n1 L N D G a1 R hq f A j z B g l (hu.mono (by simp [Fb]; exact λs h=>.inr h))
  .exact h.elim
 | .block id c,Q',n,e,H,σ,ι,a,w,Q,u,h,s,U,S,hk=>by
  simp only [vc] at h;refine wp_block (Q4 hT hm c _ n e H σ ι a w _ u h s U S ?_);intro x n1 L N D G a1 R hq f A j z B g l hu;cases x with
  | normal=>exact hk .normal n1 L N D G a1 R hq f A j z B g l hu
  | exit i=>
   simp only [Ex.out,Exit.inBlock];by_cases hi:i=id
   .subst hi;rw [if_pos rfl];have:Nat.beq i i=true:=Nat.beq_refl i;simp only [this,cond_true] at hq;exact hk .normal n1 L N D G a1 R hq f A j z B g l hu
   .rw [if_neg hi];have:Nat.beq i id=false:=by
     cases hb:Nat.beq i id
     .rfl
     .exact (hi (Nat.eq_of_beq_eq_true hb)).elim
    simp only [this,cond_false] at hq;exact hk (.exit i) n1 L N D G a1 R hq f A j z B g l hu
  | ret=>exact hk .ret n1 L N D G a1 R hq f A j z B g l hu
 | .loop c,Q',n,e,H,σ,ι,a,w,Q,u,h,s,U,S,hk=>by
  simp only [vc] at h;obtain ⟨I,aq,iv,hv,m,i0,hb,h0,b6,be,step⟩:=h;have b4:∀x,n<=x->ι x = .none:=(by intro x hx;have:=s.obj x; unfold Cr at this; rw [S x hx] at this; exact this);have am:∀i,∀p∈hv i,p.1<n:=(by intro i p hp;have:=hb i;unfold Kq at this;rw [Bool.and_eq_true,List.all_eq_true,List.all_eq_true] at this;exact Gl (this.2 p hp));have ax:∀i,∀p∈iv i,p.2.under n=true:=(by intro i p hp;have:=hb i;unfold Kq at this;rw [Bool.and_eq_true,List.all_eq_true,List.all_eq_true] at this;exact this.1 p hp);have ai:∀i,Ez (Cq H (hv i)) n:=(by intro i x hx;rw [Tl (λp hp e=>by have:=am i p hp; omega)]; exact S x hx);let J:Nat->Act->World->Prop:=λk a' w'=>∃i σ' ι',m i=k/\aq i/\Le σ ι H σ' ι' (Cq H (hv i))/\St σ' ι' (Cq H (hv i)) F W w' /\
   Eo σ' ι' (Cq H (hv i)) (J2 (Fb c) e (λs=>a'.tmps.getD s undef) (iv i)) a'/\a'.tmps.size=a.tmps.size/\a'.defers=a.defers/\Fa (Fb c) a a'
  have a6:∀(i:I) (D:Ax) (G:B2) (N:Hp) (L:B1) (a1:Act) (R:World),aq i->Gm L (iv i)->Gn N (Cq H (hv i)) n n->Le σ ι H D G N->St D G N F W R->Eo D G N L a1->a1.tmps.size=a.tmps.size ->
    a1.defers=a.defers->Fa (Fb c) a a1->J (m i) a1 R:=by
   intro i D G N L a1 R hi au ay f A j M Z a8;let ι2:B2:=λx=>if x<n then G x else .none
   have a7:∀x,x<n->ι2 x=G x:=λx hx=>if_pos hx;have aa:∀x,x<n->Cq H (hv i) x=N x:=λx hx=>((ay.spec) x hx).1.symm;have V:Le σ ι H D ι2 (Cq H (hv i)):=by
    refine ⟨f.sto,λx=>?_⟩;by_cases hx:x<n
    .rw [a7 x hx,aa x hx]; exact f.obj x
    .rw [b4 x ω,S x ω]; exact HLe.of_none
   have s2:St D ι2 (Cq H (hv i)) F W R:=by
    refine ⟨A.sto,A.fra,λx=>?_,?_,A.os,A.tape,A.output,A.glo,A.drw⟩
    .by_cases hx:x<n
     .have ho:=A.obj x;have ak:=((ay.spec) x hx).2;unfold Cr at ho ⊢;rw [aa x hx] at ak ⊢;rw [a7 x hx];cases af:N x with
      | none=>rw [af] at ho; exact ho
      | dead=>trivial
      | cells E cs=>rw [af] at ho ak;obtain ⟨b,Cc,g1,g2,g3,g4,g5,g6⟩:=ho;refine ⟨b,Cc,g1,g2,g3,g4,g5,λq cq v hq b5=>(g6 q cq v hq b5).restrict a7 aa ?_⟩;have:=List.all_eq_true.1 ak cq (List.mem_of_getElem? hq);exact Afa this
      | rows E sz xs=>rw [af] at ho; exact ho
      | map es=>rw [af] at ho; exact ho
     .unfold Cr;rw [ai i x ω];exact if_neg hx
    .intro x y b lx ly bx b0;have hx:x<n:=by
      rcases Nat.lt_or_ge x n with hx | hx
      .exact hx
      .rw [ai i x hx] at lx; cases lx
     have hy:y<n:=by
      rcases Nat.lt_or_ge y n with hy | hy
      .exact hy
      .rw [ai i y hy] at ly; cases ly
     rw [aa x hx] at lx; rw [aa y hy] at ly;rw [a7 x hx] at bx; rw [a7 y hy] at b0;exact A.inj x y b lx ly bx b0
   refine ⟨i,D,ι2,rfl,hi,V,s2,?_,M,Z,a8⟩;intro q hq;rcases Akz (Fb c) e (λs=>a1.tmps.getD s undef) (iv i) q with ⟨p,hp,rfl,ad⟩ | ⟨hw,ad⟩ | ⟨hw,ad⟩
   .rw [ad,<-au.spec p hp];refine (j p.1 hq).restrict a7 aa ?_;rw [au.spec p hp]; exact ax i p hp
   .rw [ad]; exact .of_val _
   .rw [ad,a8 q hw]; exact (U q ω).mono V
  refine Aky J (m i0) (a6 i0 σ ι H e a w h0 b6 be (Le.refl _ _ _) s U rfl rfl (Fa.refl _ _)) ?_;rintro k a1 R ⟨i,D,G,rfl,hi,f,A,j,M,Z,a8⟩;refine Q4 hT hm c _ n _ _ D G a1 R _ (by rw [M]; exact u) (step i (λs=>a1.tmps.getD s undef) hi) A j (ai i) ?_;intro x n2 e2 H2 σ2 ι2 a2 w2 hq V s2 ae ag ac X Y ab;cases x with| normal=>obtain ⟨i',bb,b7,bf,ah⟩:=hq;exact ⟨m i',ah,a6 i' σ2 ι2 H2 e2 a2 w2 bb b7 bf (f.trans V) s2 ae (X.trans M) (Y.trans Z) (a8.trans ab)⟩| exit id=>exact hk (.exit id) n2 e2 H2 σ2 ι2 a2 w2 hq (f.trans V) s2 ae ag ac (X.trans M) (Y.trans Z) (a8.trans ab)| ret=>exact hk .ret n2 e2 H2 σ2 ι2 a2 w2 hq (f.trans V) s2 ae ag ac (X.trans M) (Y.trans Z) (a8.trans ab)
 | .rangeFunc ..,_,_,_,_,_,_,_,_,_,_,h,_,_,_,_=>by simp only [vc] at h
 | .scope _,_,_,_,_,_,_,_,_,_,_,h,_,_,_,_=>by simp only [vc] at h
 | .label _,_,_,_,_,_,_,_,_,_,_,h,_,_,_,_=>by simp only [vc] at h
 | .goto _,_,_,_,_,_,_,_,_,_,_,h,_,_,_,_=>by simp only [vc] at h
 | .refuse _,_,_,_,_,_,_,_,_,_,_,h,_,_,_,_=>by simp only [vc] at h
end
end Go.Ab
namespace Go.Ab
def Aap (T:Cx) (e:B1) (H:Hp):ResultVar->Option AV
 | .tmp t=>some (e t)
 | .cell a t=> match e a with
  | .loc h off=> match H h with
   | .cells _ cs=> match T t with
    | some i=>bif i.isAgg then (bif Nat.ble (off+i.size) cs.length then some (.agg ((cs.drop off).take i.size)) else none) else cs[off]?
    | none=>none
   | _=>none
  | _=>none
def Aaq (x:AV) (H:Hp) (K:AV->Hp->Prop):Prop := match x with
 | .arr h k 0 len=> match H h with
  | .rows _ sz xs=>F7 k xs (F7 len xs (K (.sl sz xs) (A8 H h .dead)))
  | _=>False
 | x=>K x H
def Aar:List AV->Hp->(List AV->Hp->Prop)->Prop
 | [],H,K=>K [] H
 | x::xs,H,K=>Aaq x H λy H=>Aar xs H λys H=>K (y::ys) H
def fin (x:AV) (H:Hp) (K:AV->Hp->Prop):Prop := match x with
 | .agg cs=>Aar cs H λcs H=>K (.agg cs) H
 | x=>Aaq x H K
def Aas:List AV->Hp->(List AV->Prop)->Prop
 | [],_,K=>K []
 | x::xs,H,K=>fin x H λy H=>Aas xs H λys=>K (y::ys)
def Tt (T:Cx) (e:B1) (H:Hp):List ResultVar->Option (List AV)
 | []=>some []
 | r::rs=> match Aap T e H r with
  | none=>none
  | some x=> match Tt T e H rs with
   | none=>none
   | some xs=>some (x::xs)
def Wl:List AV->AV
 | [x]=>x
 | xs=>.tup xs
def Q5 (T:Cx) (b:List ResultVar) (K:AV->Prop) (e:B1) (H:Hp):Prop := match Tt T e H b with
 | none=>False
 | some xs=>Aas xs H λys=>K (Wl ys)
def Tu (args:List AV):B1:=λn=>args.getD n (.val undef)
def Q6:ResultVar->Nat
 | .tmp t=>t
 | .cell a _=>a
def Tv (fn:Func) (c:Code) (k:Nat):Bool:=Jj fn.ntmps c&&(fn.results.toList.all λr=>Nat.blt (Q6 r) fn.ntmps)&&Nat.ble k fn.ntmps
section
variable {P:Program} {T:Cx} {F:Ax} {W w:World}
theorem Ak2 {x:AV} {H:Hp} {K:AV->Hp->Prop} {σ:Ax} {ι:B2} {v:Value} (h:Aaq x H K) (s:St σ ι H F W w) (hc:Conc σ ι H x v) : ∃b y H',K y H'/\Le σ ι H b ι H'/\St b ι H' F W w/\Conc b ι H' y v:=by
 unfold Aaq at h;split at h
 .rename_i hd k len;split at h
  .rename_i E sz xs g;obtain ⟨hk,l,h⟩:=h;obtain ⟨i,c,j,f⟩:=s.freeze g;refine ⟨i,.sl sz xs,A8 H hd .dead,h,c,j,.cc ?_⟩;have:=f 0 len _ ω (hc.arr_inv g hk);rwa [List.drop_zero,List.take_of_length_le ω] at this
  .exact h.elim
 .exact ⟨σ,_,H,h,Le.refl _ _ _,s,hc⟩
theorem Ak3:∀{cs:List AV} {vs:List Value} {H:Hp} {K:List AV->Hp->Prop} {σ:Ax} {ι:B2},Aar cs H K->St σ ι H F W w->vs.length=cs.length->(∀(i:Nat) (c:AV) (v:Value),cs[i]? = some c->vs[i]? = some v->Conc σ ι H c v) -> ∃j ys H',K ys H'/\Le σ ι H j ι H'/\St j ι H' F W w/\vs.length=ys.length/\∀(i:Nat) (c:AV) (v:Value),ys[i]? = some c->vs[i]? = some v->Conc j ι H' c v
 | [],vs,H,K,σ,ι,h,s,g,hc=>⟨σ,[],H,h,Le.refl _ _ _,s,g,hc⟩
 | x::cs,[],H,K,σ,ι,h,s,g,hc=>by simp at g
 | x::cs,v::vs,H,K,σ,ι,h,s,g,hc=>by simp only [Aar] at h;obtain ⟨E,y,G,h1,f,z,B⟩:=Ak2 h s (hc 0 x v ψ ψ);obtain ⟨l,ys,D,h2,b,q,k,A⟩:=Ak3 (vs:=vs) h1 z (by simpa using g) (λi c u hi hu=>(hc (i+1) c u (by simpa using hi) (by simpa using hu)).mono f);refine ⟨l,y::ys,D,h2,f.trans b,q,by simp [k],λi c u hi hu=>?_⟩;cases i with| zero=>simp at hi hu; subst hi; subst hu; exact B.mono b| succ i=>exact A i c u (by simpa using hi) (by simpa using hu)
theorem Ak4 {x:AV} {H:Hp} {K:AV->Hp->Prop} {σ:Ax} {ι:B2} {v:Value} (h:fin x H K) (s:St σ ι H F W w) (hc:Conc σ ι H x v) : ∃b y H',K y H'/\Le σ ι H b ι H'/\St b ι H' F W w/\Conc b ι H' y v:=by
 unfold fin at h;split at h
 .rename_i cs;obtain ⟨vs,rfl,q,l⟩:=hc.agg_inv;obtain ⟨j,ys,A,h1,f,k,g,z⟩:=Ak3 (vs:=vs.toList) h s (by simpa using q) (λi c u hi hu=>l i c u hi (by simpa using hu));exact ⟨j,.agg ys,A,h1,f,k,.agg ys vs (by simpa using g) (λi c u hi hu=>z i c u hi (by simpa using hu))⟩
 .exact Ak2 h s hc
theorem Ak5:∀{xs:List AV} {vs:List Value} {H:Hp} {K:List AV->Prop} {σ:Ax} {ι:B2},Aas xs H K->St σ ι H F W w->vs.length=xs.length->(∀(i:Nat) (c:AV) (v:Value),xs[i]? = some c->vs[i]? = some v->Conc σ ι H c v) -> ∃j ys H',K ys/\Le σ ι H j ι H'/\St j ι H' F W w/\vs.length=ys.length/\∀(i:Nat) (c:AV) (v:Value),ys[i]? = some c->vs[i]? = some v->Conc j ι H' c v
 | [],vs,H,K,σ,ι,h,s,g,hc=>⟨σ,[],H,h,Le.refl _ _ _,s,g,hc⟩
 | x::cs,[],H,K,σ,ι,h,s,g,hc=>by simp at g
 | x::cs,v::vs,H,K,σ,ι,h,s,g,hc=>by simp only [Aas] at h;obtain ⟨E,y,G,h1,f,z,B⟩:=Ak4 h s (hc 0 x v ψ ψ);obtain ⟨l,ys,D,h2,b,q,k,A⟩:=Ak5 (vs:=vs) h1 z (by simpa using g) (λi c u hi hu=>(hc (i+1) c u (by simpa using hi) (by simpa using hu)).mono f);refine ⟨l,y::ys,D,h2,f.trans b,q,by simp [k],λi c u hi hu=>?_⟩;cases i with| zero=>simp at hi hu; subst hi; subst hu; exact B.mono b| succ i=>exact A i c u (by simpa using hi) (by simpa using hu)
def Q7 (b:Array Value):ResultVar->Sem Value
 | .tmp t=>pure (b.getD t undef)
 | .cell a t=>do loadVar t (<-asAddr (b.getD a undef))
theorem Avq (D:Cy P T) {e:B1} {H:Hp} {σ:Ax} {ι:B2} {a:Act} (s:St σ ι H F W w) (B:Eo σ ι H e a) {r:ResultVar} {x:AV} (A:Q6 r<a.tmps.size) (h:Aap T e H r=some x) : ∃v,(Q7 a.tmps r).run P w = .ok v w/\Conc σ ι H x v:=by
 cases r with
 | tmp t=>simp only [Aap] at h; cases h;exact ⟨_,rfl,B t A⟩
 | cell p t=>
  simp only [Aap] at h;split at h
  .rename_i hd off hx;split at h
   .rename_i E cs L;split at h
    .rename_i i ht;have hc:=B p A;rw [hx] at hc;obtain ⟨b,hb,z⟩:=hc.loc_inv;have k:=s.obj hd;unfold Cr at k; rw [L] at k;obtain ⟨N,C,J,_,_,h3,M,I⟩:=k;rw [hb] at J; cases J;have h1:=Zs (D t i ht) w;cases y:i.isAgg with
     | true=>rw [y] at h h1;simp only [cond_true] at h;cases g:Nat.ble (off+i.size) cs.length with| false=>rw [g] at h; cases h| true=>rw [g] at h; cases h;have g:=Nat.le_of_ble_eq_true g;have h2:=Lv (D t i ht) w;have G:=run_loadCells_list (P:=P) w ⟨b,off,none⟩ ((C.toList.drop off).take i.size) (by intro j v hj;have f:j<i.size:=(by have:=(List.getElem?_eq_some_iff.1 hj).1; simp at this; omega);rw [List.getElem?_take_of_lt f,List.getElem?_drop,Array.getElem?_toList] at hj;rw [J1,Je h3]; exact hj);have q:((C.toList.drop off).take i.size).length=i.size:=(by simp; omega);rw [q] at G;refine ⟨_,by simp only [Q7,z,asAddr,Sem.run_bind,Sem.run_pure,Result.andThen_ok,loadVar,h1,if_true,h2,G]; rfl,?_⟩;refine .agg _ _ (by simp; omega) (λj c u g1 g2=>?_);have f:j<i.size:=(by have:=(List.getElem?_eq_some_iff.1 g1).1; simp at this; omega);rw [List.getElem?_take_of_lt f,List.getElem?_drop] at g1;rw [List.getElem?_toArray,List.getElem?_take_of_lt f,List.getElem?_drop,Array.getElem?_toList] at g2;exact I _ c u g1 g2
     | false=>rw [y] at h h1;simp only [cond_false] at h;have f:off<C.size:=(by rw [M]; exact (List.getElem?_eq_some_iff.1 h).1);have l:w.cell? ⟨b,off,none⟩=some C[off]:=(by rw [Je h3]; simp [f]);exact ⟨C[off],by simp [Q7,z,asAddr,loadVar,h1,l],I off x _ h (by simp [f])⟩
    .cases h
   .cases h
  .cases h
theorem Afh (k:Cy P T) {e:B1} {H:Hp} {σ:Ax} {ι:B2} {a:Act} (s:St σ ι H F W w) (j:Eo σ ι H e a):∀{b:List ResultVar} {xs:List AV},(∀r∈b,Q6 r<a.tmps.size)->Tt T e H b=some xs -> ∃vs:List Value,(b.mapM (Q7 a.tmps)).run P w = .ok vs w/\vs.length=xs.length/\∀(i:Nat) (c:AV) (v:Value),xs[i]? = some c->vs[i]? = some v->Conc σ ι H c v
 | [],xs,_,h=>by simp only [Tt] at h; cases h;exact ⟨[],ψ,rfl,ψ⟩
 | r::b,xs,g,h=>by
  simp only [Tt] at h;split at h
  .cases h
  .rename_i x hx;split at h
   .cases h
   .rename_i ys hy;cases h;obtain ⟨v,h1,z⟩:=Avq k s j (g r ψ) hx;obtain ⟨vs,h2,q,y⟩:=Afh k s j (λl f=>g l (by simp [f])) hy;refine ⟨v::vs,by simp [List.mapM_cons,h1,h2],by simp [q],λi c u hi hu=>?_⟩;cases i with| zero=>simp at hi hu; subst hi; subst hu; exact z| succ i=>exact y i c u (by simpa using hi) (by simpa using hu)
theorem Ak6 (fn:Func) (b:Array Value):results fn b=(fn.results.mapM (Q7 b) >>= λvs=>pure (if h:vs.size=1 then vs[0] else .tuple vs)):=by unfold results;congr 1
theorem Avr (A:Cy P T) {fn:Func} {K:AV->Prop} {e:B1} {H:Hp} {σ:Ax} {ι:B2} {a:Act} (s:St σ ι H F W w) (z:Eo σ ι H e a) (q:∀r∈fn.results.toList,Q6 r<a.tmps.size) (h:Q5 T fn.results.toList K e H) : ∃v f H' r,(results fn a.tmps).run P w = .ok v w/\K r/\Le σ ι H f ι H'/\St f ι H' F W w/\Conc f ι H' r v:=by
 unfold Q5 at h;split at h
 .exact h.elim
 .rename_i xs hx;obtain ⟨vs,h1,x,B⟩:=Afh A s z q hx;obtain ⟨f,ys,H',k,le,s',b,j⟩:=Ak5 h s x B;have g:(fn.results.mapM (Q7 a.tmps)).run P w = .ok vs.toArray w:=(by rw [Array.mapM_eq_mapM_toList];simp [h1]);refine ⟨if h:vs.toArray.size=1 then vs.toArray[0] else .tuple vs.toArray,f,H',Wl ys,?_,k,le,s',?_⟩
  .rw [Ak6,Sem.run_bind,g]; rfl
  .match ys,vs,b,j with| [y],[v],_,j=>exact j 0 y v rfl rfl| [],[],_,_=>exact .tup [] #[] rfl ψ| y::D::ys,v::l::vs,b,j=>have:¬(v::l::vs).toArray.size=1:=ψ;rw [dif_neg this];exact .tup _ _ (by simpa using b) (λi c u hi hu=>j i c u hi (by simpa using hu))| [],_::_,b,_=>simp at b| _::_,[],b,_=>simp at b| [_],_::_::_,b,_=>simp at b| _::_::_,[_],b,_=>simp at b
theorem St.forget {σ:Ax} {ι:B2} {H:Hp} (s:St σ ι H F W w):St σ ι0 H0 F W w := ⟨s.sto,s.fra,λ_=>rfl,(λ_ _ _ b=>by cases b),s.os,s.tape,s.output,s.glo,s.drw⟩
theorem Ak7 {σ:Ax} {ι:B2} {H:Hp} {args:List AV} {vs:Array Value} {N:Nat} (h:Lw σ ι H args vs):Eo σ ι H (Tu args) ⟨vs++Array.replicate (N-vs.size) undef,[]⟩:=by
 intro q hq;simp only [Tu,Array.getD_eq_getD_getElem?];by_cases b:q<args.length
 .have hq':q<vs.size:=(by rw [h.1]; exact b);rw [Array.getElem?_append_left hq'];have h1:args[q]? = some args[q]:=List.getElem?_eq_getElem b;have h2:vs[q]? = some vs[q]:=Array.getElem?_eq_getElem hq';have:=h.2 q _ _ h1 h2;simpa [List.getD,h1,h2] using this
 .rw [Array.getElem?_append_right (by rw [h.1]; omega)];have h1:args[q]? = none:=List.getElem?_eq_none ω;have hq':q-vs.size<N-vs.size:=(by simp at hq;have:=h.1;omega);simp only [List.getD,h1,Option.getD_none];simp [hq'];exact .of_val undef
end
end Go.Ab
namespace Go.Ab
inductive Tr where
 | leaf
 | node (l:Tr) (k:Nat) (v:TI) (r:Tr)
def Tr.find:Tr->Nat->Option TI
 | .leaf,_=>none
 | .node l k v r,t=>bif Nat.beq t k then some v else bif Nat.blt t k then l.find t else r.find t
def Tr.toList:Tr->List (Nat×TI)
 | .leaf=>[]
 | .node l k v r=>l.toList++(k,v)::r.toList
theorem Tr.find_mem:∀(t:Tr) (k:Nat) (v:TI),t.find k=some v->(k,v)∈t.toList
 | .leaf,k,v,h=>by cases h
 | .node l b f r,k,v,h=>by
  simp only [Tr.find] at h;simp only [Tr.toList,List.mem_append,List.mem_cons];cases hb:Nat.beq k b with
  | true=>rw [hb] at h; simp only [cond_true] at h; cases h;rw [Nat.eq_of_beq_eq_true hb];exact .inr (.inl rfl)
  | false=>rw [hb] at h; simp only [cond_false] at h;cases c:Nat.blt k b with| true=>rw [c] at h; exact .inl (Tr.find_mem l k v h)| false=>rw [c] at h; exact .inr (.inr (Tr.find_mem r k v h))
theorem Tr.ok {P:Program} {t:Tr} (h:t.toList.map (λp=>G8 P p.1)=t.toList.map (λp=>some p.2)):Cy P t.find:=by intro k v hk;have hm:=t.find_mem k v hk;obtain ⟨i,hi⟩:=List.getElem?_of_mem hm;have:=congrArg (λl=>l[i]?) h;simpa [hi] using this
end Go.Ab
namespace Go.Ab
def Aat:List AV->Hp->(List AV->Hp->Prop)->Prop
 | [],H,K=>K [] H
 | x::xs,H,K=>fin x H λy H=>Aat xs H λys H=>K (y::ys) H
def Oz (H:Hp):Nat->List Br->Prop
 | _,[]=>True
 | k,o::os=>H k=o/\Oz H (k+1) os
def Q8 (T:Cx) (fz:Bool) (c:List ResultVar) (r:AV) (b:List Br) (e:B1) (H:Hp):Prop := match Tt T e H c with
 | none=>False
 | some xs=>bif fz then Aat xs H λys H=>Wl ys=r/\Oz H 0 b else Wl xs=r/\Oz H 0 b
section
variable {P:Program} {T:Cx} {F:Ax} {W w:World}
theorem Oz.spec {H:Hp}:∀{os:List Br} {k:Nat},Oz H k os->∀i,i<os.length->H (k+i)=hp os i
 | [],k,_,i,hi=>by simp at hi
 | o::os,k,h,0,_=>by simpa [hp] using h.1
 | o::os,k,h,i+1,hi=>by have:=Oz.spec h.2 i (by simpa using hi);rw [show k+(i+1)=k+1+i by omega,this];simp [hp]
theorem Ak8:∀{xs:List AV} {vs:List Value} {H:Hp} {K:List AV->Hp->Prop} {σ:Ax} {ι:B2},Aat xs H K->St σ ι H F W w->vs.length=xs.length->(∀(i:Nat) (c:AV) (v:Value),xs[i]? = some c->vs[i]? = some v->Conc σ ι H c v) -> ∃j ys H',K ys H'/\Le σ ι H j ι H'/\St j ι H' F W w/\vs.length=ys.length/\∀(i:Nat) (c:AV) (v:Value),ys[i]? = some c->vs[i]? = some v->Conc j ι H' c v
 | [],vs,H,K,σ,ι,h,s,g,hc=>⟨σ,[],H,h,Le.refl _ _ _,s,g,hc⟩
 | x::cs,[],H,K,σ,ι,h,s,g,hc=>by simp at g
 | x::cs,v::vs,H,K,σ,ι,h,s,g,hc=>by simp only [Aat] at h;obtain ⟨E,y,G,h1,f,z,B⟩:=Ak4 h s (hc 0 x v ψ ψ);obtain ⟨l,ys,D,h2,b,q,k,A⟩:=Ak8 (vs:=vs) h1 z (by simpa using g) (λi c u hi hu=>(hc (i+1) c u (by simpa using hi) (by simpa using hu)).mono f);refine ⟨l,y::ys,D,h2,f.trans b,q,by simp [k],λi c u hi hu=>?_⟩;cases i with| zero=>simp at hi hu; subst hi; subst hu; exact B.mono b| succ i=>exact A i c u (by simpa using hi) (by simpa using hu)
theorem Avs (D:Cy P T) {fn:Func} {fz:Bool} {r:AV} {q:List Br} {e:B1} {H:Hp} {σ:Ax} {ι:B2} {a:Act} (s:St σ ι H F W w) (B:Eo σ ι H e a) (l:∀r∈fn.results.toList,Q6 r<a.tmps.size) (h:Q8 T fz fn.results.toList r q e H):∃v f H',(results fn a.tmps).run P w = .ok v w/\Oz H' 0 q/\Le σ ι H f ι H'/\St f ι H' F W w/\Conc f ι H' r v:=by
 unfold Q8 at h;split at h
 .exact h.elim
 .rename_i xs hx;obtain ⟨vs,h1,x,z⟩:=Afh D s B l hx;have key:∃f ys H',(Wl ys=r/\Oz H' 0 q)/\Le σ ι H f ι H'/\St f ι H' F W w/\vs.length=ys.length/\∀(i:Nat) (c:AV) (v:Value),ys[i]? = some c->vs[i]? = some v->Conc f ι H' c v:=(by cases fz with| true=>exact Ak8 h s x z| false=>exact ⟨σ,xs,H,h,Le.refl _ _ _,s,x,z⟩);obtain ⟨f,ys,H',⟨rfl,k⟩,le,s',b,j⟩:=key;have g:(fn.results.mapM (Q7 a.tmps)).run P w = .ok vs.toArray w:=(by rw [Array.mapM_eq_mapM_toList];simp [h1]);refine ⟨if h:vs.toArray.size=1 then vs.toArray[0] else .tuple vs.toArray,f,H',?_,k,le,s',?_⟩
  .rw [Ak6,Sem.run_bind,g]; rfl
  .match ys,vs,b,j with| [y],[v],_,j=>exact j 0 y v rfl rfl| [],[],_,_=>exact .tup [] #[] rfl ψ| y::E::ys,v::A::vs,b,j=>have:¬(v::A::vs).toArray.size=1:=ψ;rw [dif_neg this];exact .tup _ _ (by simpa using b) (λi c u hi hu=>j i c u hi (by simpa using hu))| [],_::_,b,_=>simp at b| _::_,[],b,_=>simp at b| [_],_::_::_,b,_=>simp at b| _::_::_,[_],b,_=>simp at b
theorem St.first {σ:Ax} {ι:B2} {H:Hp} (s:St σ ι H F W w) (f:List Br) (hk:∀i,i<f.length->H i=hp f i) (hu:f.all (Br.under f.length)=true) : St σ (λk=>if k<f.length then ι k else .none) (hp f) F W w:=by
 have B:∀h,h<f.length->(λk=>if k<f.length then ι k else Loc.none) h=ι h:=λh j=>if_pos j;have hH:∀h,h<f.length->hp f h=H h:=λh j=>(hk h j).symm;have lt:∀k,(hp f k).live=true->k<f.length:=by
  intro k h;rcases Nat.lt_or_ge k f.length with h' | h'
  .exact h'
  .rw [Ow h'] at h; cases h
 refine ⟨s.sto,s.fra,λk=>?_,λk u b h1 h2 h3 q=>?_,s.os,s.tape,s.output,s.glo,s.drw⟩
 .by_cases j:k<f.length
  .have g:=s.obj k;have l:=List.all_eq_true.1 hu _ (List.mem_of_getElem? (Wj j));unfold Cr at g ⊢;rw [hk k j] at g;dsimp only;rw [if_pos j];cases hx:hp f k with| none=>rw [hx] at g; exact g| dead=>trivial| rows E sz xs=>rw [hx] at g; exact g| map es=>rw [hx] at g; exact g| cells E cs=>rw [hx] at g l;obtain ⟨b,C,G,h1,h2,h3,q,D⟩:=g;refine ⟨b,C,G,h1,h2,h3,q,λi c v x y=>?_⟩;have hc:=List.all_eq_true.1 l c (List.mem_of_getElem? x);refine (D i c v x y).restrict (n:=f.length) B hH ?_;exact Afa hc
  .unfold Cr;rw [Ow ω];exact if_neg j
 .have A:=lt k h1;have z:=lt u h2;rw [if_pos A] at h3;rw [if_pos z] at q;rw [hH k A] at h1;rw [hH u z] at h2;exact s.inj k u b h1 h2 h3 q
def Afi (c:List Br) (r:AV) (b:List Br):Bool:=Nat.ble c.length b.length&&r.under b.length&&b.all (Br.under b.length)
def Sub (x y:AV):Prop:=∀(σ:Ax) (ι:B2) (H:Hp) (v:Value),Conc σ ι H x v->Conc σ ι H y v
theorem Sub.refl (x:AV):Sub x x:=λ_ _ _ _ h=>h
theorem Sub.nil (sz:Nat):Sub (.val (.slice none 0 0)) (.sl sz []):=λ_ _ _ _ h=>Aal rfl h
def O0:List AV->List AV->Prop
 | [],[]=>True
 | x::xs,y::ys=>Sub x y/\O0 xs ys
 | _,_=>False
theorem O0.spec:∀{xs ys:List AV},O0 xs ys->xs.length=ys.length/\∀(i:Nat) (y:AV),ys[i]? = some y->∃x,xs[i]? = some x/\Sub x y
 | [],[],_=>⟨rfl,ψ⟩
 | [],_::_,h=>h.elim
 | _::_,[],h=>h.elim
 | x::xs,y::ys,h=>by obtain ⟨h1,h2⟩:=O0.spec h.2;refine ⟨by simp [h1],λi z b=>?_⟩;cases i with| zero=>simp at b; subst b; exact ⟨x,rfl,h.1⟩| succ i=>simpa using h2 i z (by simpa using b)
theorem Sub.agg {xs ys:List AV} (h:O0 xs ys):Sub (.agg xs) (.agg ys):=by intro σ ι H v hc;obtain ⟨vs,rfl,f,b⟩:=hc.agg_inv;obtain ⟨h1,h2⟩:=h.spec;refine .agg _ vs (by rw [<-h1]; exact f) λi c u h3 k=>?_;obtain ⟨x,j,g⟩:=h2 i c h3;exact g _ _ _ _ (b i x u j k)
theorem Au.sub {f:FuncId} {args b:List AV} {r k:AV} (h:Au P f b r) (ha:O0 args b) (q:Sub r k):Au P f args k:=by
 refine ⟨h.1,λσ F W w vs s hc=>?_⟩;obtain ⟨h1,h2⟩:=ha.spec;refine (h.2 σ F W w vs s ⟨by rw [<-h1]; exact hc.1,λi a v h3 j=>?_⟩).mono ?_
 .obtain ⟨x,g,c⟩:=h2 i a h3;exact c _ _ _ _ (hc.2 i x v g j)
 .rintro e w' ⟨v,l,h3,j,g,c⟩;exact ⟨v,l,h3,j,g,q _ _ _ _ c⟩
theorem B6.sub {f:FuncId} {args b:List AV} {g c:List Br} {r:AV} (h:B6 P f b g r c) (ha:O0 args b):B6 P f args g r c:=by refine ⟨h.1,λσ F W w ι vs s hc=>?_⟩;obtain ⟨h1,h2⟩:=ha.spec;refine h.2 σ F W w ι vs s ⟨by rw [<-h1]; exact hc.1,λi a v h3 l=>?_⟩;obtain ⟨x,k,j⟩:=h2 i a h3;exact j _ _ _ _ (hc.2 i x v k l)
end
end Go.Ab
namespace Go.Ab
inductive E4 (K:Prop):Prop where
 | mk (k:K)
def opK (P:Program) (T:Cx) (an:Nat->Ann) (nl:Nat->List (Nat×Nat)) (o:Oper) (n:Nat) (e:B1) (H:Hp) (acc:Hs) (K:Nat->B1->Hp->Hs->Prop):Prop := Ee P T an n o (ev e) H λb m=>Kp (Ld (L1 nl o.dst) b.r) λr=>My b.wr λwr=>It b.rd λf=>It wr λc=>Jh e o.dst r H wr λe H=>E4 (K m e H (acc++[(f,c)]))
def Wm (o:Oper) (n:Nat) (e:B1) (H:Hp) (acc:Hs) (K:Nat->B1->Hp->Hs->Prop):Prop := Jh e o.dst (.val undef) H [] λe H=>E4 (K n e H (acc++[([],[])]))
def Et (P:Program) (T:Cx) (an:Nat->Ann) (nl:Nat->List (Nat×Nat)) (ops:Array Oper):List Oper->Nat->B1->Hp->Hs->(Nat->B1->Hp->Hs->Prop)->Prop
 | [],n,e,H,acc,K=>K n e H acc
 | o::os,n,e,H,acc,K=> match o.guard with
  | none=>opK P T an nl o n e H acc λn e H acc=>Et P T an nl ops os n e H acc K
  | some p=> match (ops[p.1]?).bind (·.dst) with
   | none=>False
   | some s=> match e s with
    | .val v=>bif Qw v==some p.2 then opK P T an nl o n e H acc λn e H acc=>Et P T an nl ops os n e H acc K else Wm o n e H acc λn e H acc=>Et P T an nl ops os n e H acc K
    | _=>False
section
variable {P:Program} {T:Cx} {an:Nat->Ann} {nl:Nat->List (Nat×Nat)} {ops:Array Oper}
theorem Afj (G:Cy P T):∀(os:List Oper) (i n:Nat) (e:B1) (H:Hp) (acc:Hs) (K:Nat->B1->Hp->Hs->Prop),ops.toList.drop i=os->acc.length=i->Ez H n->Et P T an nl ops os n e H acc K -> ∃b e' H' accs,K b e' H' accs/\accs.take i=acc/\accs.length=i+os.length/\n<=b/\Ez H' b/\Run P ops (λk=>accs.getD k ([],[])) (List.range' i os.length) e H e' H'
 | [],i,n,e,H,acc,K,hd,j,y,h=>⟨n,e,H,acc,h,by rw [<-j]; simp,by simpa using j,Nat.le_refl _,y,.nil e H⟩
 | o::os,i,n,e,H,acc,K,hd,j,y,h=>by
  have J:ops[i]? = some o:=(by have:=congrArg (λl=>l[0]?) hd;simpa using this);have u:ops.toList.drop (i+1)=os:=(by have:=congrArg (List.drop 1) hd;simpa [List.drop_drop] using this);have run:Hr ops o e true->(opK P T an nl o n e H acc λn e H acc=>Et P T an nl ops os n e H acc K) ->
    ∃b e' H' accs,K b e' H' accs/\accs.take i=acc/\accs.length=i+(o::os).length/\n<=b/\Ez H' b/\Run P ops (λk=>accs.getD k ([],[])) (List.range' i (o::os).length) e H e' H':=by
   intro D g;obtain ⟨c,m,h1,h2,h3,S,N⟩:=Akv G y g;simp only [Tp,Ae5,Ae6,Aam] at h3;obtain ⟨b,e',H',accs,B,x,M,L,A,z⟩:=Afj G os (i+1) m _ _ _ K u (by simp [j]) N h3.1;have E:accs[i]? = some (c.rd.map (·.1),c.wr.map (·.1)):=(by have R:(accs.take (i+1))[i]? = accs[i]?:=List.getElem?_take_of_lt ω;rw [<-R,x,List.getElem?_append_right ω];simp [j]);have q:accs.getD i ([],[])=(c.rd.map (·.1),c.wr.map (·.1)):=(by simp [List.getD,E]);refine ⟨b,e',H',accs,B,?_,by simp only [List.length_cons]; omega,ω,A,?_⟩
   .have:=congrArg (List.take i) x;rw [List.take_take] at this;simpa [j] using this
   .rw [List.length_cons,List.range'_succ];refine .cons o (Ld (L1 nl o.dst) c.r) c.wr ⟨J,.inl ⟨D,_,h1.nils (L1 nl o.dst),h2,?_,?_,rfl,rfl⟩⟩ z
    .intro p hp; show p.1∈(accs.getD i ([],[])).1; rw [q]; exact List.mem_map_of_mem hp
    .intro p hp; show p.1∈(accs.getD i ([],[])).2; rw [q]; exact List.mem_map_of_mem hp
  have skip:Hr ops o e false->(Wm o n e H acc λn e H acc=>Et P T an nl ops os n e H acc K) ->
    ∃b e' H' accs,K b e' H' accs/\accs.take i=acc/\accs.length=i+(o::os).length/\n<=b/\Ez H' b/\Run P ops (λk=>accs.getD k ([],[])) (List.range' i (o::os).length) e H e' H':=by
   intro D g;unfold Wm at g;rw [Aam] at g;obtain ⟨b,e',H',accs,B,x,M,L,A,z⟩:=Afj G os (i+1) n _ _ _ K u (by simp [j]) y g.1;refine ⟨b,e',H',accs,B,?_,by simp only [List.length_cons]; omega,ω,A,?_⟩
   .have:=congrArg (List.take i) x;rw [List.take_take] at this;simpa [j] using this
   .rw [List.length_cons,List.range'_succ];exact .cons o (.val undef) [] ⟨J,.inr ⟨D,rfl,rfl⟩⟩ z
  simp only [Et] at h;cases f:o.guard with
  | none=>rw [f] at h;exact run (by unfold Hr; rw [f]) h
  | some p=>
   rw [f] at h;simp only [] at h;cases g:(ops[p.1]?).bind (·.dst) with
   | none=>rw [g] at h; exact h.elim
   | some s=>
    rw [g] at h;simp only [] at h;split at h
    .rename_i v I;cases hb:Qw v==some p.2 with| true=>rw [hb] at h; exact run (by unfold Hr; rw [f]; exact ⟨s,v,g,I,hb.symm⟩) h| false=>rw [hb] at h; exact skip (by unfold Hr; rw [f]; exact ⟨s,v,g,I,hb.symm⟩) h
    .exact h.elim
variable {o:Oper} {os:List Oper} {n:Nat} {e:B1} {H:Hp} {acc:Hs} {K:Nat->B1->Hp->Hs->Prop} {β:Type} {r:β}
theorem nx (k:opK P T an nl o n e H acc λn e H acc=>Et P T an nl ops os n e H acc K) (b:o.guard=none:=by exact rfl):E4 (Et P T an nl ops (o::os) n e H acc K):=.mk (by simp only [Et,b]; exact k)
theorem Lf (k:K n e H acc):E4 (Et P T an nl ops [] n e H acc K):=.mk k
theorem Avt (p:Nat×Bool) (s:Nat) (k:opK P T an nl o n e H acc λn e H acc=>Et P T an nl ops os n e H acc K) (c:o.guard=some p:=by exact rfl) (b:(ops[p.1]?).bind (·.dst)=some s:=by exact rfl) (hb:e s = .val (.bool p.2):=by exact rfl):E4 (Et P T an nl ops (o::os) n e H acc K) :=
 .mk (by simp only [Et,c,b,hb,Qw,BEq.rfl,cond_true]; exact k)
theorem Avu (p:Nat×Bool) (s:Nat) (v:Value) (k:Wm o n e H acc λn e H acc=>Et P T an nl ops os n e H acc K) (f:o.guard=some p:=by exact rfl) (c:(ops[p.1]?).bind (·.dst)=some s:=by exact rfl) (hb:e s = .val v:=by exact rfl) (b:(Qw v==some p.2)=false:=by exact rfl):E4 (Et P T an nl ops (o::os) n e H acc K) :=
 .mk (by simp only [Et,f,c,hb,b,cond_false]; exact k)
theorem O1 {p:Nat×Bool} {s:Nat} (k:opK P T an nl o n e H acc λn e H acc=>Et P T an nl ops os n e H acc K) (c:o.guard=some p:=by exact rfl) (b:(ops[p.1]?).bind (·.dst)=some s:=by exact rfl) (hb:e s = .val (.bool p.2):=by exact rfl):E4 (Et P T an nl ops (o::os) n e H acc K):=Avt p s k c b hb
theorem O2 {p:Nat×Bool} {s:Nat} {v:Value} (k:Wm o n e H acc λn e H acc=>Et P T an nl ops os n e H acc K) (f:o.guard=some p:=by exact rfl) (c:(ops[p.1]?).bind (·.dst)=some s:=by exact rfl) (hb:e s = .val v:=by exact rfl) (b:(Qw v==some p.2)=false:=by exact rfl):E4 (Et P T an nl ops (o::os) n e H acc K):=Avu p s v k f c hb b
theorem Avv {s:Nat} {b:Bool} {m c:Option β} {X:List Oper} (h:(bif b then m else c)=some r) (h1:b=true->m=some r->E4 (Et P T an nl ops X n (A8 e s (.val (.bool true))) H acc K)) (h2:b=false->c=some r->E4 (Et P T an nl ops X n (A8 e s (.val (.bool false))) H acc K)) (hb:e s = .val (.bool b):=by exact rfl):E4 (Et P T an nl ops X n e H acc K):=by cases b with| true=>have:=h1 rfl h; rwa [Aao hb] at this| false=>have:=h2 rfl h; rwa [Aao hb] at this
end
end Go.Ab
namespace Go.Ab
theorem St.recell {σ:Ax} {ι:B2} {H:Hp} {F:Ax} {W w:World} (s:St σ ι H F W w) (h:Nat) (E:TypeId) (cs f:List AV) (j:H h = .cells E cs) (q:f.length=cs.length) (hc:∀(i:Nat) (c k:AV) (v:Value),cs[i]? = some c->f[i]? = some k->Conc σ ι H c v->Conc σ ι H k v) : St σ ι (A8 H h (.cells E f)) F W w/\Le σ ι H σ ι (A8 H h (.cells E f)):=by
 have l:=s.obj h;unfold Cr at l;rw [j] at l;obtain ⟨b,C,hb,h1,h2,h3,B,A⟩:=l;have le:Le σ ι H σ ι (A8 H h (.cells E f)):=by have:=Le.upd (ι:=ι) (H:=H) (Ax.le_refl σ) h (ι h) (.cells E f) (by rw [j]; exact ⟨λ_ e=>e,(λ_ e=>by cases e),(λ_ _ _ _ e=>by cases e)⟩);rwa [Ho] at this
 refine ⟨s.touch h b (λ_ _=>rfl) (λx e=>Da _ _ e) le (λx e=>rfl) (λ_ _=>rfl) (λo e=>by rw [h1] at e; cases e) ?_ h2 ?_ ?_ rfl rfl rfl,le⟩
 .intro x e q u;exact e (s.inj x h b q (by rw [j]; rfl) u (by rw [hb]; rfl))
 .intro D _ z;exact .inr ⟨by rw [j]; rfl,z⟩
 .unfold Cr;rw [Co];refine ⟨b,C,hb,h1,h2,h3,ω,λi k v x y=>?_⟩;have hi:i<cs.length:=(by rw [<-q]; exact (List.getElem?_eq_some_iff.1 x).1);have g:cs[i]? = some cs[i]:=List.getElem?_eq_getElem hi;exact (hc i _ k v g x (A i _ v g y)).mono le
inductive Gh where
 | fz (s:Nat)
 | own (s j:Nat) (e:TypeId) (sz:Nat)
 | nil (s j sz:Nat)
 | fzc (s j:Nat)
 | fzp (s:Nat)
 | fzcp (s j:Nat)
def gxs:List Gh->Nat->B1->Hp->(Nat->B1->Hp->Prop)->Prop
 | [],n,e,H,K=>K n e H
 | .fz s::gs,n,e,H,K=> match e s with
  | .arr h k 0 len=> match H h with
   | .rows _ sz xs=>F7 k xs (F7 len xs (gxs gs n (A8 e s (.sl sz xs)) (A8 H h .dead) K))
   | _=>False
  | _=>False
 | .fzp s::gs,n,e,H,K=> match e s with
  | .arr h k 0 len=> match H h with
   | .rows _ sz xs=>F7 k xs (Aez len k (Ae0 xs len λys=>gxs gs n (A8 e s (.sl sz ys)) (A8 H h .dead) K))
   | _=>False
  | _=>False
 | .own s j E sz::gs,n,e,H,K=> match e s with
  | .loc h _=> match H h with
   | .cells T cs=> match cs[j]? with
    | some x=>bif La x&&Nat.blt 0 sz then gxs gs (n+1) e (A8 (A8 H n (.rows E sz [])) h (.cells T (cs.set j (.arr n 0 0 0)))) K else False
    | none=>False
   | _=>False
  | _=>False
 | .nil s j sz::gs,n,e,H,K=> match e s with
  | .loc h _=> match H h with
   | .cells T cs=> match cs[j]? with
    | some x=>bif La x then gxs gs n e (A8 H h (.cells T (cs.set j (.sl sz [])))) K else False
    | none=>False
   | _=>False
  | _=>False
 | .fzc s j::gs,n,e,H,K=> match e s with
  | .loc h _=> match H h with
   | .cells T cs=> match cs[j]? with
    | some (.arr h' k 0 len)=> match H h' with
     | .rows _ sz xs=>F7 k xs (F7 len xs (gxs gs n e (A8 (A8 H h' .dead) h (.cells T (cs.set j (.sl sz xs)))) K))
     | _=>False
    | _=>False
   | _=>False
  | _=>False
 | .fzcp s j::gs,n,e,H,K=> match e s with
  | .loc h _=> match H h with
   | .cells T cs=> match cs[j]? with
    | some (.arr h' k 0 len)=> match H h' with
     | .rows _ sz xs=>F7 k xs (Aez len k (Ae0 xs len λys=>gxs gs n e (A8 (A8 H h' .dead) h (.cells T (cs.set j (.sl sz ys)))) K))
     | _=>False
    | _=>False
   | _=>False
  | _=>False
section
variable {F:Ax} {W:World}
theorem Ak9 {cs:List AV} {j i:Nat} {y c b:AV} {P:AV->AV->Prop} (h1:cs[i]? = some c) (h2:(cs.set j y)[i]? = some b) (f:P c c) (hy:i=j->P c y):P c b:=by
 rw [List.getElem?_set] at h2;split at h2
 .rename_i e;split at h2
  .cases h2; exact hy e.symm
  .cases h2
 .rw [h1] at h2; cases h2; exact f
theorem O3 {H:Hp} {n h:Nat} {o:Br} (b:Ez H n) (c:H h≠.none):Ez (A8 H h o) n:=by intro m hm;rw [Da _ _ (λe=>c (by rw [<-e]; exact b m hm))]; exact b m hm
theorem Ala {σ:Ax} {ι:B2} {w:World} {H:Hp} {hd h' j k len:Nat} {T E:TypeId} {sz:Nat} {cs xs ys:List AV} (s:St σ ι H F W w) (M:H hd = .cells T cs) (hj:cs[j]? = some (.arr h' k 0 len)) (g:H h' = .rows E sz xs) (hk:xs.length=k) (X:len<=xs.length) (hy:xs.take len=ys) : ∃c,Le σ ι H c ι (A8 (A8 H h' .dead) hd (.cells T (cs.set j (.sl sz ys))))/\St c ι (A8 (A8 H h' .dead) hd (.cells T (cs.set j (.sl sz ys)))) F W w:=by
 obtain ⟨c,G,D,N⟩:=s.freeze g;have J:hd≠h':=by intro B; subst B; rw [M] at g; cases g
 have f:A8 H h' .dead hd = .cells T cs:=by rw [Da _ _ J]; exact M
 have h:=s.obj hd;unfold Cr at h; rw [M] at h;obtain ⟨b,C,B,g1,g2,g3,g4,g5⟩:=h;have l:∀v,C[j]? = some v->Conc c ι (A8 H h' .dead) (.sl sz ys) v:=by intro v Y;have hc:=g5 j _ v hj Y;have:=N 0 len _ ω (hc.arr_inv g hk);rw [List.drop_zero,hy] at this;exact .cc this
 have V:St c ι (A8 (A8 H h' .dead) hd (.cells T (cs.set j (.sl sz ys)))) F W w/\Le c ι (A8 H h' .dead) c ι (A8 (A8 H h' .dead) hd (.cells T (cs.set j (.sl sz ys)))):=by
  have I:=D.obj hd;unfold Cr at I; rw [f] at I;obtain ⟨b',C',A,z,u,q,Z,U⟩:=I;rw [B] at A; cases A;rw [g3] at q; cases q;have le:Le c ι (A8 H h' .dead) c ι (A8 (A8 H h' .dead) hd (.cells T (cs.set j (.sl sz ys)))):=(by have:=Le.upd (ι:=ι) (H:=A8 H h' .dead) (Ax.le_refl c) hd (ι hd) (.cells T (cs.set j (.sl sz ys))) (by rw [f]; exact ⟨λ_ e=>e,(λ_ e=>by cases e),(λ_ _ _ _ e=>by cases e)⟩);rwa [Ho] at this);refine ⟨D.touch hd b (λ_ _=>rfl) (λx e=>Da _ _ e) le (λx e=>rfl) (λ_ _=>rfl) (λo e=>by rw [z] at e; cases e) ?_ u ?_ ?_ rfl rfl rfl,le⟩
  .intro x e X R;exact e (D.inj x hd b X (by rw [f]; rfl) R (by rw [B]; rfl))
  .intro b0 _ S;exact .inr ⟨by rw [f]; rfl,S⟩
  .unfold Cr;rw [Co];refine ⟨b,C,B,z,u,g3,by simpa using g4,λi c' v x y=>?_⟩;rw [List.getElem?_set] at x;split at x
   .rename_i L;split at x
    .cases x; subst L; exact (l v y).mono le
    .cases x
   .exact (U i c' v x y).mono le
 exact ⟨c,G.trans V.2,V.1⟩
theorem Q9:∀(z:List Gh) {n:Nat} {e:B1} {H:Hp} {K:Nat->B1->Hp->Prop} {σ:Ax} {ι:B2} {a:Act} {w:World},gxs z n e H K->St σ ι H F W w->Eo σ ι H e a->Ez H n -> ∃σ' ι' n' e' H',K n' e' H'/\Le σ ι H σ' ι' H'/\St σ' ι' H' F W w/\Eo σ' ι' H' e' a/\Ez H' n'/\n<=n'
 | [],n,e,H,K,σ,ι,a,w,h,s,y,u=>⟨σ,ι,n,e,H,h,Le.refl _ _ _,s,y,u,Nat.le_refl _⟩
 | .fz t::z,n,e,H,K,σ,ι,a,w,h,s,y,u=>by
  simp only [gxs] at h;split at h
  .rename_i hd k len hx;split at h
   .rename_i E sz xs g;obtain ⟨hk,hl,h⟩:=h;obtain ⟨σ1,f,D,Y⟩:=s.freeze g;have Z:Eo σ1 ι (A8 H hd .dead) (A8 e t (.sl sz xs)) a:=by
     intro q hq;by_cases S:q=t
     .subst S;rw [Co];have hc:=y q hq;rw [hx] at hc;have:=Y 0 len _ ω (hc.arr_inv g hk);rw [List.drop_zero,List.take_of_length_le ω] at this;exact .cc this
     .rw [Da _ _ S]; exact (y q hq).mono f
    obtain ⟨A,B,G,R,U,N,M,L,J,I,V⟩:=Q9 z h D Z (O3 u (by rw [g]; intro e; cases e));exact ⟨A,B,G,R,U,N,f.trans M,L,J,I,V⟩
   .exact h.elim
  .exact h.elim
 | .fzp t::z,n,e,H,K,σ,ι,a,w,h,s,y,u=>by
  simp only [gxs] at h;split at h
  .rename_i hd k len hx;split at h
   .rename_i E sz xs g;obtain ⟨hk,hl,ys,hy,h⟩:=h;obtain ⟨σ1,f,D,Y⟩:=s.freeze g;have Z:Eo σ1 ι (A8 H hd .dead) (A8 e t (.sl sz ys)) a:=by
     intro q hq;by_cases S:q=t
     .subst S;rw [Co];have hc:=y q hq;rw [hx] at hc;have:=Y 0 len _ ω (hc.arr_inv g hk);rw [List.drop_zero,hy] at this;exact .cc this
     .rw [Da _ _ S]; exact (y q hq).mono f
    obtain ⟨A,B,G,R,U,N,M,L,J,I,V⟩:=Q9 z h D Z (O3 u (by rw [g]; intro e; cases e));exact ⟨A,B,G,R,U,N,f.trans M,L,J,I,V⟩
   .exact h.elim
  .exact h.elim
 | .own t j E sz::z,n,e,H,K,σ,ι,a,w,h,s,y,u=>by
  simp only [gxs] at h;split at h
  .rename_i hd off hx;split at h
   .rename_i T cs g;split at h
    .rename_i x hj;obtain ⟨hb,h⟩:=Fw h;rw [Bool.and_eq_true] at hb;have a7:hd≠n:=(by intro S; subst S;have:=u hd (Nat.le_refl _); rw [g] at this; cases this);obtain ⟨s0,a1⟩:=s.newNil n (u n (Nat.le_refl _)) E sz (Gl hb.2);have a6:A8 H n (.rows E sz []) hd = .cells T cs:=(by rw [Da _ _ a7]; exact g);obtain ⟨D,f⟩:=s0.recell hd T cs (cs.set j (.arr n 0 0 0)) a6 ψ (by intro i c c' v h1 h2 h3;refine Ak9 (P:=λa b=>Conc σ _ _ a v->Conc σ _ _ b v) h1 h2 (λh=>h) (λX h=>?_) h3;subst X;rw [hj] at h1; cases h1;rw [Aak hb.1] at h;rw [h.val_inv];refine .arr _ _ _ _ _ (by rw [Co]; intro e; cases e) (λE' ab aa e'=>?_) rfl;rw [Co] at e'; cases e';exact ⟨ψ,λ_=>by rw [Co]; exact ⟨rfl,rfl,rfl⟩⟩);have a8:Ez (A8 (A8 H n (.rows E sz [])) hd (.cells T (cs.set j (.arr n 0 0 0)))) (n+1):=(by refine O3 ?_ (by rw [a6]; intro e; cases e);intro m hm;rw [Da _ _ ω]; exact u m ω);obtain ⟨A,B,G,R,U,N,M,L,J,I,V⟩:=Q9 z h D (y.mono (a1.trans f)) a8;exact ⟨A,B,G,R,U,N,(a1.trans f).trans M,L,J,I,ω⟩
    .exact h.elim
   .exact h.elim
  .exact h.elim
 | .nil t j sz::z,n,e,H,K,σ,ι,a,w,h,s,y,u=>by
  simp only [gxs] at h;split at h
  .rename_i hd off hx;split at h
   .rename_i T cs g;split at h
    .rename_i x hj;obtain ⟨hb,h⟩:=Fw h;obtain ⟨D,f⟩:=s.recell hd T cs (cs.set j (.sl sz [])) g ψ (by intro i c c' v h1 h2 h3;refine Ak9 (P:=λa b=>Conc σ _ _ a v->Conc σ _ _ b v) h1 h2 (λh=>h) (λX h=>?_) h3;subst X;rw [hj] at h1; cases h1;exact Aal hb h);obtain ⟨A,B,G,R,U,N,M,L,J,I,V⟩:=Q9 z h D (y.mono f) (O3 u (by rw [g]; intro e; cases e));exact ⟨A,B,G,R,U,N,f.trans M,L,J,I,V⟩
    .exact h.elim
   .exact h.elim
  .exact h.elim
 | .fzc t j::z,n,e,H,K,σ,ι,a,w,h,s,y,u=>by
  simp only [gxs] at h;split at h
  .rename_i hd off hx;split at h
   .rename_i T cs g;split at h
    .rename_i h' k len hj;split at h
     .rename_i E sz xs l;obtain ⟨hk,hl,h⟩:=h;obtain ⟨σ1,f,D⟩:=Ala s g hj l hk ω (List.take_of_length_le ω);obtain ⟨A,B,G,R,U,N,M,L,J,I,V⟩:=Q9 z h D (y.mono f) (O3 (O3 u (by rw [l]; intro e; cases e)) (by rw [Da _ _ (by intro S; subst S; rw [g] at l; cases l)]; rw [g]; intro e; cases e));exact ⟨A,B,G,R,U,N,f.trans M,L,J,I,V⟩
     .exact h.elim
    .exact h.elim
   .exact h.elim
  .exact h.elim
 | .fzcp t j::z,n,e,H,K,σ,ι,a,w,h,s,y,u=>by
  simp only [gxs] at h;split at h
  .rename_i hd off hx;split at h
   .rename_i T cs g;split at h
    .rename_i h' k len hj;split at h
     .rename_i E sz xs l;obtain ⟨hk,hl,ys,hy,h⟩:=h;obtain ⟨σ1,f,D⟩:=Ala s g hj l hk ω (hy);obtain ⟨A,B,G,R,U,N,M,L,J,I,V⟩:=Q9 z h D (y.mono f) (O3 (O3 u (by rw [l]; intro e; cases e)) (by rw [Da _ _ (by intro S; subst S; rw [g] at l; cases l)]; rw [g]; intro e; cases e));exact ⟨A,B,G,R,U,N,f.trans M,L,J,I,V⟩
     .exact h.elim
    .exact h.elim
   .exact h.elim
  .exact h.elim
end
end Go.Ab
namespace Go.Ab
def Ia {S E:Type} (step:S->Option (S⊕E)):Nat->S->Option E
 | 0,_=>none
 | n+1,s=> match step s with
  | none=>none
  | some (.inl s')=>Ia step n s'
  | some (.inr e)=>some e
theorem Afk {S E:Type} {step:S->Option (S⊕E)}:∀{n:Nat} {s:S} {e:E},Ia step n s=some e->∀m,n<=m->Ia step m s=some e
 | 0,s,e,h,_,_=>by cases h
 | n+1,s,e,h,0,hm=>ω
 | n+1,s,e,h,m+1,hm=>by
  simp only [Ia] at h ⊢;cases b:step s with
  | none=>rw [b] at h; cases h
  | some o=>rw [b] at h;cases o with| inl s'=>exact Afk (n:=n) h m ω| inr e'=>exact h
theorem Alb {S E:Type} {step:S->Option (S⊕E)} {n m:Nat} {s:S} {e e':E} (h:Ia step n s=some e) (h':Ia step m s=some e'):e=e':=by have h1:=Afk h (max n m) ω;have h2:=Afk h' (max n m) ω;rw [h1] at h2; exact Option.some.inj h2
open Classical in
noncomputable def Al {S E:Type} (step:S->Option (S⊕E)) (s:S):Option E := match Ia step 4096 s with
 | some e=>some e
 | none=>if h:∃n e,Ia step n s=some e then some (Classical.choose (Classical.choose_spec h)) else none
theorem Afl {S E:Type} {step:S->Option (S⊕E)} {s:S} {e:E} (h:Al step s=some e):∃n,Ia step n s=some e:=by
 unfold Al at h;split at h
 .rename_i e' b;cases h;exact ⟨_,b⟩
 .split at h
  .rename_i hx;cases h;exact ⟨_,Classical.choose_spec (Classical.choose_spec hx)⟩
  .cases h
theorem Afm {S E:Type} {step:S->Option (S⊕E)} {s:S} {e:E} {n:Nat} (h:Ia step n s=some e):Al step s=some e:=by
 have hx:∃n e,Ia step n s=some e:=⟨n,e,h⟩;unfold Al;split
 .rename_i e' b;exact congrArg some (Alb b h)
 rw [dif_pos hx];exact congrArg some (Alb (Classical.choose_spec (Classical.choose_spec hx)) h)
theorem Cz {S E:Type} {step:S->Option (S⊕E)} {s:S} {e:E} (h:step s=some (.inr e)):Al step s=some e := Afm (n:=1) (by simp only [Ia,h])
theorem Ft {S E:Type} {step:S->Option (S⊕E)} {s s':S} (h:step s=some (.inl s')):Al step s=Al step s':=by
 cases h':Al step s' with
 | some e=>obtain ⟨n,b⟩:=Afl h';exact Afm (n:=n+1) (by simp only [Ia,h]; exact b)
 | none=>
  cases c:Al step s with
  | none=>rfl
  | some e=>obtain ⟨n,b⟩:=Afl c;cases n with| zero=>cases b| succ n=>simp only [Ia,h] at b;rw [Afm b] at h'; cases h'
theorem Ib {S E:Type} {step:S->Option (S⊕E)} (c:S->Prop) (m:S->Nat) (b:E->Prop) (f:∀s,c s->(∃s',step s=some (.inl s')/\c s'/\m s' < m s)\/(∃e,step s=some (.inr e)/\b e)) (s:S) (h0:c s):∃e,Al step s=some e/\b e:=by
 generalize hk:m s=k;induction k using Nat.strongRecOn generalizing s with
 | _ k ih=>
  rcases f s h0 with ⟨s',h1,h2,h3⟩ | ⟨e,h1,h2⟩
  .obtain ⟨e,h,g⟩:=ih (m s') ω s' h2 rfl;exact ⟨e,by rw [Ft h1]; exact h,g⟩
  .exact ⟨e,Cz h1,h2⟩
def Ae {α:Type} (l:List α) (i:Int):Option α:=if 0<=i then l[i.toNat]? else none
def Fy {α:Type} (l:List α) (lo hi:Int):Option (List α):=if 0<=lo/\lo<=hi/\hi<=l.length then some ((l.take hi.toNat).drop lo.toNat) else none
def Ca {α:Type} (b:Nat) (xs ys:List α):Option (List α):=if (xs.length+ys.length)*b<=140737488355328 then some (xs++ys) else none
def Fj {α:Type} (c:Nat) (len b:Int) (z:α):Option (List α):=if 0<=len/\len<=b/\c*b.toNat<=281474976710656/\b<=140737488355328 then some (List.replicate len.toNat z) else none
def Ep {α:Type} (l:List α) (off n:Nat) (i:Int):Option α:=if 0<=i/\i<n then l[off+i.toNat]? else none
def Gt (n:Nat) (lo hi:Int):Option (Nat×Nat):=if 0<=lo/\lo<=hi/\hi<=n/\(lo=0\/lo<hi) then some (lo.toNat,hi.toNat) else none
def Kr {α:Type} (b:Nat) (xs:List α) (n:Nat) (ys:List α):Option (List α×Nat):=if n<=xs.length/\(xs.length+ys.length)*b<=140737488355328 then some (Dd xs n ys,n+ys.length) else none
def Ra {α:Type} (c:Nat) (xs:List α) (n b f:Nat):Option (List α×Nat):=if n<=xs.length/\b+f<=xs.length/\(xs.length+f)*c<=140737488355328 then some (Dd xs n ((xs.drop b).take f),n+f) else none
def Jk {α:Type} (xs:List α) (off n b c:Nat):Option (List α):=if off+n<=xs.length/\b+c<=xs.length then some (Dd xs off ((xs.drop b).take (min c n))) else none
def Iu {α:Type} (xs:List α) (n:Nat):Option (List α):=if n<=xs.length then some (xs.take n) else none
def O4 (n:Nat) (hi:Int):Option Nat:=if 0<=hi/\hi<=n then some hi.toNat else none
def Hb (n:Nat) (lo hi:Int):Option ((Nat×Nat)⊕Unit):=if 0<=lo/\lo<=hi/\hi<=n then (if lo=0\/lo<hi then some (.inl (lo.toNat,hi.toNat)) else some (.inr ())) else none
def Gd {α:Type} (n:Nat) (l:List α):Option Unit:=if n=l.length then some () else none
theorem Jl {α:Type} {n:Nat} {l:List α} {u:Unit} (h:Gd n l=some u):n=l.length:=by
 unfold Gd at h;split at h
 .assumption
 .cases h
theorem Rb (off:Nat) {i:Int} {n:Nat} (h:i=n):((off:Nat):Int)+i=((off+n:Nat):Int):=ω
def Nx (n:Int):Option ByteArray:=if -9223372036854775808<=n/\n<=9223372036854775807 then some ⟨(Lib.itoa n).toArray⟩ else none
def Aau (a b:Int):Option ByteArray:=bif b==10 then Nx a else none
def Eh (l:List Int):List UInt8:=l.map λn=>UInt8.ofNat n.toNat
def Wn (l:List Int):Option ByteArray:=if (∀x∈l,0<=x/\x<256) then some ⟨(Eh l).toArray⟩ else none
def L3 (s:ByteArray):List Int:=s.data.toList.map λb=>(b.toNat:Int)
def B9 {α:Type} (l:List α) (i:Int) (x:α):List α:=l.set i.toNat x
def Fk (k:IntKind) (a b:Int):Option Int:=if b=0 then none else some (k.wrap (a.tdiv b))
def Gp (a b:Int):Option Int:=if b=0 then none else some (a.tmod b)
def Wo (k:IntKind) (a b:Int):Option Int:=if 0<=b then some (a.fdiv (2 ^ (min b.toNat k.bits))) else none
def Fc (s:ByteArray) (i:Int):Option UInt8:=if 0<=i then s[i.toNat]? else none
def Fg (a b:ByteArray):Option ByteArray:=if a.size+b.size<=9223372036854775807 then some (a++b) else none
def Ec (s:ByteArray) (lo hi:Int):Option ByteArray:=if 0<=lo/\lo<=hi/\hi<=s.size then some (s.extract lo.toNat hi.toNat) else none
abbrev Aa (n:Int):Int:=IntKind.i64.wrap n
abbrev Az (n:Int):Int:=IntKind.u64.wrap n
abbrev Cl (n:Int):Int:=IntKind.u32.wrap n
abbrev wu8 (n:Int):Int:=IntKind.u8.wrap n
theorem Alc {α:Type} {l:List α} {i:Int} {x:α} (h:Ae l i=some x):∃n:Nat,i=n/\l[n]? = some x:=by
 unfold Ae at h;split at h
 .exact ⟨i.toNat,ω,h⟩
 .cases h
section
variable {β:Type} {r:β}
theorem Df {α:Type} {o:Option α} {m:α->Option β} {G:Prop} (h:o.bind m=some r) (k:∀x,o=some x->m x=some r->G):G:=by cases o with| none=>cases h| some x=>exact k x rfl h
theorem Mz {α:Type} {o:Option α} {m:α->Option β} {G:Prop} (h:o.bind m=some r) (k:∀x,o=some x->(∀y,y=x->m y=some r)->G):G:=by cases o with| none=>cases h| some x=>exact k x rfl (λy hy=>by subst hy; exact h)
theorem Ald {α:Type} {l:List α} {f:α->AV} {ys:List AV} (g:ys=l.map f) {i:Int} {m:α->Option β} {K:Nat->AV->Prop} (h:(Ae l i).bind m=some r) (k:∀(n:Nat) (x:α),i=n->l[n]? = some x->m x=some r->K n (f x)):Wf ys i K:=by subst g;refine Df h λx hx h=>?_;obtain ⟨n,b,c⟩:=Alc hx;exact .mk n (f x) b (by simp [c]) (k n x b c h)
theorem Avw {α:Type} {l:List α} {f:α->AV} {ys:List AV} (q:ys=l.map f) {i:Int} {m:α->Option β} {K:Nat->Prop} {len b:Nat} (j:len=l.length) (hk:b=l.length) (h:(Ae l i).bind m=some r) (k:∀(n:Nat) (x:α),i=n->l[n]? = some x->m x=some r->K n):Qy len b ys i K:=by subst q;refine Df h λx hx h=>?_;obtain ⟨n,c,g⟩:=Alc hx;exact .mk n (by rw [hk]; simp) c (by rw [j]; exact (List.getElem?_eq_some_iff.1 g).1) (k n x c g h)
theorem Avx {α:Type} {l:List α} {f:α->AV} {ys:List AV} (c:ys=l.map f) {i:Int} {m:α->Option β} {K:Nat->Prop} {off len b:Nat} (hk:b=l.length) (h:(Ep l off len i).bind m=some r) (k:∀(n:Nat) (x:α),i=n->l[off+n]? = some x->m x=some r->K n):Qy len b ys i K:=by
 subst c;refine Df h λx hx h=>?_;unfold Ep at hx;split at hx
 .rename_i hc;exact .mk i.toNat (by rw [hk]; simp) ω ω (k _ x ω hx h)
 .cases hx
theorem Iv {α:Type} {l:List α} {f:α->AV} {ys:List AV} (c:ys=l.map f) {b n:Nat} (hk:b=l.length) {lo hi:Int} {m:Nat×Nat->Option β} {K:Nat->Nat->Prop} {g:Prop} (h:(Gt n lo hi).bind m=some r) (k:∀v:Nat×Nat,m v=some r->K v.1 v.2):Aab b ys n lo hi K g:=by
 subst c;refine Df h λx hx h=>?_;unfold Gt at hx;split at hx
 .rename_i hc;cases hx;exact .mk lo.toNat hi.toNat (by rw [hk]; simp) ω ω ω ω ω (k _ h)
 .cases hx
theorem Afn {α β:Type} (f:α->β) (xs:List α) (d:Nat) (ys:List α):Dd (xs.map f) d (ys.map f)=(Dd xs d ys).map f:=by unfold Dd;simp [List.map_take,List.map_drop]
theorem Tw {α:Type} {l ys:List α} {f:α->AV} {xs c:List AV} (q:xs=l.map f) (j:c=ys.map f) {b g len:Nat} {m:List α×Nat->Option β} {K:List AV->Nat->Prop} {i:List AV->Nat->Nat->Prop} (hk:g=l.length) (h:(Kr b l len ys).bind m=some r) (k:∀o:List α×Nat,m o=some r->i (o.1.map f) o.1.length o.2):Lx xs c g len b K i:=by
 subst q; subst j; subst hk;refine Df h λx hx h=>?_;unfold Kr at hx;split at hx
 .rename_i hc;cases hx;exact .mkP _ _ _ ψ (by simpa using hc.1) (by simpa using hc.2) (Afn f l len ys) ψ ψ (k _ h)
 .cases hx
theorem Afo {α:Type} {l:List α} {f:α->AV} {xs:List AV} (s:xs=l.map f) {b j len q c g:Nat} {m:List α×Nat->Option β} {K:List AV->Nat->Nat->Prop} (hk:j=l.length) (i:q=l.length) (h:(Ra b l len c g).bind m=some r) (k:∀o:List α×Nat,m o=some r->K (o.1.map f) o.1.length o.2):Akh xs j len q c g b K:=by
 subst s; subst hk; subst i;refine Df h λx hx h=>?_;unfold Ra at hx;split at hx
 .rename_i hc;cases hx;exact .mk _ _ _ ψ (by simpa using hc.1) ψ (by simpa using hc.2.1) (by simpa using hc.2.2) (by rw [<-List.map_drop,<-List.map_take,Afn]) ψ rfl (k _ h)
 .cases hx
theorem O5 {α:Type} {l:List α} {f:α->AV} {xs:List AV} (s:xs=l.map f) {j off len q c b:Nat} {m:List α->Option β} {K:List AV->Nat->Prop} (hk:j=l.length) (i:q=l.length) (h:(Jk l off len c b).bind m=some r) (k:∀o:List α,Jk l off len c b=some o->m o=some r->K (o.map f) (min b len)):Aki xs j off len q c b K:=by
 subst s; subst hk; subst i;refine Df h λx hx h=>?_;have g:=hx;unfold Jk at hx;split at hx
 .rename_i hc;cases hx;exact .mk _ _ ψ (by simpa using hc.1) ψ (by simpa using hc.2) (by rw [<-List.map_drop,<-List.map_take,Afn]) rfl (k _ g h)
 .cases hx
theorem O6 {α:Type} {l o:List α} {k off n b c:Nat} (hk:k=l.length) (h:Jk l off n b c=some o):k=o.length:=by
 unfold Jk at h;split at h
 .rename_i hc;cases h;rw [Nu ω]; simp; omega
 .cases h
theorem Wp {α:Type} {l:List α} {f:α->AV} {xs:List AV} (c:xs=l.map f) {b len:Nat} {m:List α->Option β} {K:List AV->Prop} (hk:b=l.length) (h:(Iu l len).bind m=some r) (k:∀o:List α,m o=some r->K (o.map f)):F7 b xs (Aez len b (Ae0 xs len K)):=by
 subst c; subst hk;refine Df h λx hx h=>?_;unfold Iu at hx;split at hx
 .rename_i hc;cases hx;exact .mk ψ (.mk hc (.mk _ (by rw [List.map_take]) (k _ h)))
 .cases hx
theorem Afp {α:Type} {l:List α} {f:α->AV} {ys:List AV} (c:ys=l.map f) {b n:Nat} (hk:b=l.length) {hi:Int} {m:Nat->Option β} {K:Nat->Nat->Prop} {g:Prop} (h:(O4 n hi).bind m=some r) (k:∀v:Nat,m v=some r->K 0 v):Aab b ys n 0 hi K g:=by
 subst c;refine Df h λx hx h=>?_;unfold O4 at hx;split at hx
 .rename_i hc;cases hx;exact .mk 0 hi.toNat (by rw [hk]; simp) ω ω ω ω ω (k _ h)
 .cases hx
theorem L5 {α:Type} {l:List α} {f:α->AV} {ys:List AV} (i:ys=l.map f) {b n:Nat} (hk:b=l.length) {lo hi:Int} {m:(Nat×Nat)⊕Unit->Option β} {K:Nat->Nat->Prop} {c:Prop} (h:(Hb n lo hi).bind m=some r) (k:∀v:Nat×Nat,m (.inl v)=some r->K v.1 v.2) (g:m (.inr ())=some r->c):Aab b ys n lo hi K c:=by
 subst i;refine Df h λx hx h=>?_;unfold Hb at hx;split at hx
 .rename_i hc;split at hx
  .cases hx;exact .mk lo.toNat hi.toNat (by rw [hk]; simp) ω ω ω ω ω (k _ h)
  .cases hx;exact .mkE lo.toNat (by rw [hk]; simp) ω ω ω (g h)
 .cases hx
theorem Ale {op:BinOp} {q:FloatKind} {a b:Nat} {m:Nat->Option β} {K:Nat->Prop} (h:(floatBits op q a b).bind m=some r) (k:∀c,m c=some r->K c):Aae op q a b K := Df h λx hx h=>.mk x hx (k x h)
theorem Alf {q:FloatKind} {a:Nat} {z:IntKind} {m:Int->Option β} {K:Int->Prop} (h:(floatToIntVal q a z).bind m=some r) (k:∀c,m c=some r->K c):Aaf q a z K := Df h λx hx h=>.mk x hx (k x h)
theorem Avy {α:Type} {l:List α} {f:α->AV} {ys:List AV} (c:ys=l.map f) {n i b:Nat} {x:α} {K:AV->Prop} (hk:b=l.length) (hi:i=n) (hx:l[n]? = some x) (k:K (f x)):K9 b i ys K:=by subst c; subst hi;exact .mk (f x) (by rw [hk]; simp) (by simp [hx]) k
theorem G1 {α:Type} {l:List α} {f:α->AV} {ys:List AV} (b:ys=l.map f) {n i:Nat} {j:Int} {x:α} {p:AV} {K:List AV->Prop} (hp:p=f x) (hi:i=n) (hj:j=(n:Int)) (k:K ((B9 l j x).map f)):Wg ys i p K:=by subst b; subst hi; subst hp; subst hj;exact .mk _ (by simp [B9,List.map_set]) k
theorem El {α:Type} {l:List α} {k:Nat} (h:k=l.length) (j:Int) (x:α):k=(B9 l j x).length:=by simp [B9,h]
theorem Alg {α:Type} {l:List α} {f:α->AV} {ys:List AV} (c:ys=l.map f) {lo hi:Int} {m:List α->Option β} {K:List AV->Prop} (h:(Fy l lo hi).bind m=some r) (k:∀b:List α,m b=some r->K (b.map f)):Qz ys lo hi K:=by
 subst c;refine Df h λx hx h=>?_;unfold Fy at hx;split at hx
 .rename_i hc;cases hx;exact .mk lo.toNat hi.toNat _ ω ω ω (by simp; omega) (by rw [<-List.map_take,<-List.map_drop]) (k _ h)
 .cases hx
theorem Avz {α:Type} {l:List α} {f:α->AV} {ys:List AV} (c:ys=l.map f) {lo:Int} {m:List α->Option β} {K:List AV->Prop} (h:(Fy l lo l.length).bind m=some r) (k:∀b:List α,m b=some r->K (b.map f)):Qz ys lo ys.length K:=by
 have e:((ys.length:Nat):Int)=(l.length:Int):=by rw [c]; simp
 rw [e];exact Alg c h k
theorem Afq {α:Type} {l ys:List α} {f:α->AV} {xs c:List AV} (q:xs=l.map f) (i:c=ys.map f) {b g len:Nat} {m:List α->Option β} {K:List AV->Nat->Prop} {s:List AV->Nat->Nat->Prop} (hk:g=l.length) (j:len=l.length) (h:(Ca b l ys).bind m=some r) (k:∀o:List α,m o=some r->K (o.map f) o.length):Lx xs c g len b K s:=by
 subst q; subst i; subst hk; subst j;refine Df h λx hx h=>?_;unfold Ca at hx;split at hx
 .rename_i hc;cases hx;exact .mk _ _ ψ rfl (by simpa using hc) ψ ψ (k _ h)
 .cases hx
theorem Av0 {l:List Int} {s:ByteArray} {xs:List AV} (i:xs=l.map λn=>.val (.int .u8 n)) {b c len:Nat} {m:List Int->Option β} {K:List AV->Nat->Prop} {j:List AV->Nat->Nat->Prop} (hk:c=l.length) (g:len=l.length) (h:(Ca b l (L3 s)).bind m=some r) (k:∀o:List Int,m o=some r->K (o.map λn=>.val (.int .u8 n)) o.length):Lx xs (Ir s) c len b K j:=by refine Afq (f:=λn=>.val (.int .u8 n)) i ?_ hk g h k;simp [Ir,L3]
theorem Afr {α:Type} {ys:List α} {f:α->AV} {c:List AV} (g:c=ys.map f) {b:Nat} {m:List α->Option β} {K:List AV->Nat->Prop} (h:(Ca b [] ys).bind m=some r) (k:∀o:List α,m o=some r->K (o.map f) o.length):Q2 c b K:=by
 subst g;refine Df h λx hx h=>?_;unfold Ca at hx;split at hx
 .rename_i hc;cases hx;exact .mk _ _ (by simpa using hc) ψ ψ (k _ h)
 .cases hx
theorem Av1 {α:Type} {g:List α->List AV} {f:α->AV} (s:∀l,g l=l.map f) {l ys:List α} {xs c:List AV} (u:xs=l.map f) (j:c=ys.map f) {b i len:Nat} {m:List α->Option β} {K:List AV->Nat->Prop} {x:List AV->Nat->Nat->Prop} (hk:i=l.length) (q:len=l.length) (h:(Ca b l ys).bind m=some r) (k:∀o:List α,m o=some r->K (g o) o.length):Lx xs c i len b K x := Afq u j hk q h λo h=>by rw [<-s]; exact k o h
theorem Av2 {α:Type} {g:List α->List AV} {f:α->AV} (j:∀l,g l=l.map f) {ys:List α} {c:List AV} (i:c=ys.map f) {b:Nat} {m:List α->Option β} {K:List AV->Nat->Prop} (h:(Ca b [] ys).bind m=some r) (k:∀o:List α,m o=some r->K (g o) o.length):Q2 c b K := Afr i h λo h=>by rw [<-j]; exact k o h
theorem Av3 {α:Type} {z:α} {f:α->AV} {g:AV} (i:g=f z) {len c:Int} {b:Nat} {m:List α->Option β} {K:Nat->List AV->Prop} (h:(Fj b len c z).bind m=some r) (k:∀o:List α,m o=some r->K o.length (o.map f)):Tn len c b g K:=by
 subst i;refine Df h λx hx h=>?_;unfold Fj at hx;split at hx
 .rename_i hc;cases hx;exact .mk _ c.toNat _ (by simp; omega) ω (by simp; omega) hc.2.2.1 ω ψ (k _ h)
 .cases hx
theorem Tx {α:Type} {z:α} {f:α->AV} {g:AV} (i:F2 g.cells (f z).cells) {len c:Int} {b:Nat} {m:List α->Option β} {K:Nat->List AV->Prop} (h:(Fj b len c z).bind m=some r) (k:∀o:List α,m o=some r->K o.length (o.map f)):Tn len c b g K:=by
 refine Df h λx hx h=>?_;unfold Fj at hx;split at hx
 .rename_i hc;cases hx;exact .mkN (f z) i _ c.toNat _ (by simp; omega) ω (by simp; omega) hc.2.2.1 ω ψ (k _ h)
 .cases hx
theorem Alh {α:Type} {l:List α} {f:α->AV} {ys:List AV} (b:ys=l.map f) {K:Int->Prop} (k:K (l.length:Int)):Ly ys K:=by subst b; exact .mk _ ψ k
theorem Av4 {α:Type} {l:List α} {f:α->AV} {ys:List AV} (c:ys=l.map f) {b:Nat} (hk:b=l.length) {K:Prop} (k:K):F7 b ys K:=by subst c; exact .mk (by rw [hk]; simp) k
def Fd {α:Type} (l:List (ByteArray×α)) (s:ByteArray):Bool:=l.any λp=>s==p.1
def Ht {α:Type} (l:List (ByteArray×α)) (s:ByteArray) (z:α):α:=((l.find? λp=>s==p.1).map (·.2)).getD z
def Fp {α:Type}:List (ByteArray×α)->ByteArray->α->List (ByteArray×α)
 | [],s,v=>[(s,v)]
 | p::l,s,v=>bif s==p.1 then (s,v)::l else p::Fp l s v
def Bl {α:Type} (f:α->AV) (l:List (ByteArray×α)):List (AV×AV):=l.map λp=>(.val (.string p.1),f p.2)
theorem Afs {α:Type} (f:α->AV) (s:ByteArray) (z:α):∀(l:List (ByteArray×α)) (i:Nat), (Fd l s=false/\Is s (Bl f l) i=some none)\/(Fd l s=true/\∃j,Is s (Bl f l) i=some (some (i+j,f (Ht l s z)))/\∀v,Bl f (Fp l s v)=(Bl f l).set j (.val (.string s),f v))
 | [],i=>.inl ⟨rfl,rfl⟩
 | p::l,i=>by
  cases hp:s==p.1 with
  | true=>
   refine .inr ⟨by simp [Fd,hp],0,?_,λv=>?_⟩
   .simp [Bl,Is,Ht,hp]
   .simp [Bl,Fp,hp]
  | false=>
   rcases Afs f s z l (i+1) with ⟨h1,h2⟩ | ⟨h1,j,h2,h3⟩
   .refine .inl ⟨by simp only [Fd,List.any_cons,hp,Bool.false_or]; exact h1,?_⟩;have:Is s (Bl f (p::l)) i=Is s (Bl f l) (i+1):=(by simp [Bl,Is,hp]);rw [this,h2]
   .refine .inr ⟨by simp only [Fd,List.any_cons,hp,Bool.false_or]; exact h1,j+1,?_,λv=>?_⟩
    .have:Is s (Bl f (p::l)) i=Is s (Bl f l) (i+1):=(by simp [Bl,Is,hp]);have b:Ht (p::l) s z=Ht l s z:=(by simp [Ht,hp]);rw [this,h2,b]; congr 3; omega
    .have c:Bl f (Fp (p::l) s v)=(.val (.string p.1),f p.2)::Bl f (Fp l s v):=(by simp [Bl,Fp,hp]);rw [c,h3 v]; rfl
theorem Ali {α:Type} (f:α->AV) {s:ByteArray} {v:α}:∀{l:List (ByteArray×α)},Fd l s=false->Bl f (Fp l s v)=Bl f l++[(.val (.string s),f v)]
 | [],_=>rfl
 | p::l,h=>by simp only [Fd,List.any_cons,Bool.or_eq_false_iff] at h;have:=Ali f (v:=v) (l:=l) h.2;simp only [Fp,h.1,cond_false];simp only [Bl,List.map_cons,List.cons_append] at this ⊢;rw [this]
theorem Ty {α:Type} {f:α->AV} {l:List (ByteArray×α)} {es:List (AV×AV)} (i:es=Bl f l) (z:α) {s:ByteArray} {m b:Option β} {K:Option (Nat×AV)->Prop} (h:(bif Fd l s then m else b)=some r) (g:∀j,Fd l s=true->m=some r->K (some (j,f (Ht l s z)))) (c:Fd l s=false->b=some r->K none):Akj s es K:=by
 subst i;rcases Afs f s z l 0 with ⟨h1,h2⟩ | ⟨h1,j,h2,_⟩
 .rw [h1] at h; exact .mk _ h2 (c h1 h)
 .rw [h1] at h; exact .mk _ h2 (g _ h1 h)
theorem Re {α:Type} {f:α->AV} {l:List (ByteArray×α)} {es:List (AV×AV)} (c:es=Bl f l) {s:ByteArray} {x:α} {v:AV} (b:v=f x) {K:List (AV×AV)->Prop} (k:K (Bl f (Fp l s x))):Akk s v es K:=by
 subst c; subst b;refine .mk _ ?_ k;unfold Z2;rcases Afs f s x l 0 with ⟨h1,h2⟩ | ⟨h1,j,h2,h3⟩
 .rw [h2,Ali f h1]
 .rw [h2,h3 x]; simp
theorem Wq {k:IntKind} {a b:Int} {m:Int->Option β} {K:Int->Prop} (h:(Fk k a b).bind m=some r) (f:∀c:Int,m c=some r->K c):Z7 k a b K:=by
 refine Df h λx hx h=>?_;unfold Fk at hx;split at hx
 .cases hx
 .rename_i hb; cases hx; exact .mk _ hb rfl (f _ h)
theorem Aav {a b:Int} {m:Int->Option β} {K:Int->Prop} (h:(Gp a b).bind m=some r) (f:∀c:Int,m c=some r->K c):Z8 a b K:=by
 refine Df h λx hx h=>?_;unfold Gp at hx;split at hx
 .cases hx
 .rename_i hb; cases hx; exact .mk _ hb rfl (f _ h)
theorem Alj {k:IntKind} {a b:Int} {m:Int->Option β} {K:Int->Prop} (h:(Wo k a b).bind m=some r) (f:∀c:Int,m c=some r->K c):Z9 k a b K:=by
 refine Df h λx hx h=>?_;unfold Wo at hx;split at hx
 .rename_i hb; cases hx; exact .mk _ hb rfl (f _ h)
 .cases hx
theorem L6 {s:ByteArray} {i:Int} {m:UInt8->Option β} {K:UInt8->Prop} (h:(Fc s i).bind m=some r) (b:∀c:UInt8,m c=some r->K c):Aac s i K:=by
 refine Df h λx hx h=>?_;unfold Fc at hx;split at hx
 .exact .mk i.toNat x ω hx (b _ h)
 .cases hx
theorem Gu {a b:ByteArray} {m:ByteArray->Option β} {K:Prop} (h:(Fg a b).bind m=some r) (k:m (a++b)=some r->K):Aad (a.size+b.size) K:=by
 refine Df h λx hx h=>?_;unfold Fg at hx;split at hx
 .rename_i hc; cases hx; exact .mk hc (k h)
 .cases hx
theorem Aft {s:ByteArray} {lo hi:Int} {m:ByteArray->Option β} {K:Nat->Nat->Prop} (h:(Ec s lo hi).bind m=some r) (k:∀l h',lo=((l:Nat):Int)->hi=((h':Nat):Int)->m (s.extract l h')=some r->K l h'):Aaa s.size lo hi K:=by
 refine Df h λx hx h=>?_;unfold Ec at hx;split at hx
 .rename_i hc;cases hx;exact .mk lo.toNat hi.toNat ω ω ω ω (k _ _ ω ω h)
 .cases hx
end
def Aaw (Qn:Nat->B1->Hp->Prop) (Qe:Nat->Nat->B1->Hp->Prop) (Qr:Nat->B1->Hp->Prop) (x:Ex) (n:Nat) (e:B1) (H:Hp):Prop := match x with
 | .normal=>Qn n e H
 | .exit i=>Qe i n e H
 | .ret=>Qr n e H
def wc (P:Program) (C:Cfg) (c:Code) (Qn:Nat->B1->Hp->Prop) (Qe:Nat->Nat->B1->Hp->Prop) (Qr:Nat->B1->Hp->Prop) (n:Nat) (e:B1) (H:Hp):Prop := Cy P C.T->P.follows .mixedOrders=true->∀(F:Ax) (W:World) (σ:Ax) (ι:B2) (a:Act) (w:World) (Q:Exit->Act->World->Prop), Jj a.tmps.size c=true->St σ ι H F W w->Eo σ ι H e a->Ez H n -> (∀x h e' H' f g b w',Aaw Qn Qe Qr x h e' H'->Le σ ι H f g H'->St f g H' F W w'->Eo f g H' e' b->Ez H' h->n<=h->b.tmps.size=a.tmps.size->b.defers=a.defers->Fa (Fb c) a b->Q x.out b w')->c.wp P Q a w
section
variable {P:Program} {C:Cfg} {Qn:Nat->B1->Hp->Prop} {Qe:Nat->Nat->B1->Hp->Prop} {Qr:Nat->B1->Hp->Prop} {n:Nat} {e:B1} {H:Hp} {β:Type} {r:β}
theorem Afu {c:Code} (h:vc P C c (Aaw Qn Qe Qr) n e H):wc P C c Qn Qe Qr n e H := λi hm _ _ σ ι a w Q b s g f hk=>Q4 i hm c _ n e H σ ι a w Q b h s g f hk
theorem Hu (k:Qn n e H):wc P C .skip Qn Qe Qr n e H:=Afu k
theorem Afv (k:Qr n e H):wc P C .ret Qn Qe Qr n e H:=Afu k
theorem E5 {id:Nat} (k:Qe id n e H):wc P C (.exit id) Qn Qe Qr n e H:=Afu k
theorem Alk {id:Nat} {ops:Array Oper} {b:Bool} (h:E4 (Et P C.T C.an C.nl ops ops.toList n e H [] λn e H acc=>bif b then L2 ops.toList acc (Qn n e H) else Qn n e H)):wc P C (.region id ops b) Qn Qe Qr n e H:=by
 intro X hm F W σ ι a w Q E s U M hk;have q:=Le.refl σ ι H;have s0:=s;have z:=U;have R:=M;obtain ⟨L,e',H',accs,l,_,V,x,N,c⟩:=Afj X ops.toList 0 n e H [] _ ψ rfl M h.1;have u:=Ak1 E;cases b with
 | false=>simp only [cond_false] at l;refine wp_region ?_;have:List.range ops.size=List.range' 0 ops.toList.length:=(by rw [List.range_eq_range']; simp);rw [this];refine c.wpOps s0 z u ?_;intro B D J w' le s' g f j hu;exact hk .normal L e' H' B D J w' l (q.trans le) s' g N x f j hu
 | true=>
  simp only [cond_true] at l;obtain ⟨G,l⟩:=l;refine wp_region_any hm ?_;have A:ops=ops.toList.toArray:=ψ;rw [A];simp only [List.size_toArray];refine Aev (accs:=accs) (e':=e') (H':=H') G ops.toList.length _ (List.range' 0 ops.toList.length) e H σ ι a _ (by rw [<-A]; exact c) (List.pairwise_lt_range' ..) ?_ ψ ?_ ψ (s0.drew _) z (by rw [<-A]; exact u) ?_
  .intro i;simp only [List.mem_range'_1,Array.getD_eq_getD_getElem?];constructor
   .rintro ⟨_,h2⟩;refine ⟨ω,?_⟩;have:i<ops.size:=(by simpa using h2);simp [this]
   .rintro ⟨h1,_⟩; omega
  .intro k o S I;exfalso;simp only [Array.getD_eq_getD_getElem?] at I;by_cases y:k<ops.size
   .simp [y] at I
   .simp [y] at I
  .intro B D J w' le s' g f j hu;exact hk .normal L e' H' B D J w' l (q.trans le) s' g N x f j (by rw [<-A] at hu; exact hu)
theorem All {id:Nat} {os:List Oper} (k:E4 (Et P C.T C.an C.nl os.toArray os n e H [] λn e H acc=>L2 os acc (Qn n e H))):wc P C (.region id os.toArray true) Qn Qe Qr n e H:=Alk k
theorem Bu {id:Nat} {os:List Oper} (k:E4 (Et P C.T C.an C.nl os.toArray os n e H [] λn e H _=>Qn n e H)):wc P C (.region id os.toArray false) Qn Qe Qr n e H:=Alk k
theorem Dc {c:Code} (z:List Gh) (k:gxs z n e H λn e H=>E4 (wc P C c Qn Qe Qr n e H)):wc P C c Qn Qe Qr n e H:=by intro R hm F W σ ι a w Q h s N L hk;obtain ⟨A,D,U,V,X,J,b,G,l,i,M⟩:=Q9 z k s N L;exact J.1 R hm F W A D a w Q h G l i λx I e' H' B E S w' hq f s' q j y g u hu=> hk x I e' H' B E S w' hq (b.trans f) s' q j ω g u hu
theorem Aq {U S:Code} (k:wc P C U (λn e H=>wc P C S Qn Qe Qr n e H) Qe Qr n e H):wc P C (.seq U S) Qn Qe Qr n e H:=by intro N hm F W σ ι a w Q f s he hn hk;simp only [Jj,Bool.and_eq_true] at f;refine wp_seq (k N hm F W σ ι a w _ f.1 s he hn ?_);intro x L R V y z a1 A hq c B i g q b j hu;cases x with| normal=>refine hq N hm F W y z a1 A Q (by rw [b]; exact f.2) B i g ?_;intro x n2 e2 H2 X Y a2 Z G D s2 J I M l u E;exact hk x n2 e2 H2 X Y a2 Z G (c.trans D) s2 J I ω (l.trans b) (u.trans j) ((hu.mono (by simp [Fb]; exact λs h=>.inl h)).trans (E.mono (by simp [Fb]; exact λs h=>.inr h)))| exit id=>exact hk (.exit id) L R V y z a1 A hq c B i g q b j (hu.mono (by simp [Fb]; exact λs h=>.inl h))| ret=>exact hk .ret L R V y z a1 A hq c B i g q b j (hu.mono (by simp [Fb]; exact λs h=>.inl h))
theorem Afw {l:Nat} (k:Qn n e H):wc P C (.label l) Qn Qe Qr n e H:=by intro g hm F W σ ι a w Q b s f c hk;exact wp_label (hk .normal n e H σ ι a w k (Le.refl _ _ _) s f c (Nat.le_refl _) rfl rfl (Fa.refl _ _))
theorem Afx {c:Code} (k:wc P C c Qn Qe Qr n e H):wc P C (.scope c) Qn Qe Qr n e H:=by intro E hm F W σ ι a w Q g s D B hk;refine wp_scope_straight (k E hm F W σ ι a w _ g s D B ?_);intro x A G I q u a1 y hq b z j h i f l hu;have:=hk x A G I q u a1 y hq b z j h i f l hu;cases x <;> exact this
theorem Jm {id:Nat} {c:Code} (k:wc P C c Qn (λi n e H=>bif Nat.beq i id then Qn n e H else Qe i n e H) Qr n e H):wc P C (.block id c) Qn Qe Qr n e H:=by
 intro J hm F W σ ι a w Q E s I G hk;refine wp_block (k J hm F W σ ι a w _ E s I G ?_);intro x A B D q u a1 y hq b z j g h f l hu;cases x with
 | normal=>exact hk .normal A B D q u a1 y hq b z j g h f l hu
 | exit i=>
  simp only [Ex.out,Exit.inBlock];by_cases hi:i=id
  .subst hi;rw [if_pos rfl];have:Nat.beq i i=true:=Nat.beq_refl i;simp only [Aaw,this,cond_true] at hq;exact hk .normal A B D q u a1 y hq b z j g h f l hu
  .rw [if_neg hi];have:Nat.beq i id=false:=by
    cases hb:Nat.beq i id
    .rfl
    .exact (hi (Nat.eq_of_beq_eq_true hb)).elim
   simp only [Aaw,this,cond_false] at hq;exact hk (.exit i) A B D q u a1 y hq b z j g h f l hu
 | ret=>exact hk .ret A B D q u a1 y hq b z j g h f l hu
theorem Alm {x:Operand} {σ:Ax} {ι:B2} {a:Act} {t:Bool} (b:Akx a.tmps.size x=true) (c:Eo σ ι H e a) (hx:ev e x = .val (.bool t)):a.eval x = .bool t:=by
 have hc:=c.eval (x:=x) (λt ht=>by cases x with| tmp q=>cases ht; exact Gl b| _=>cases ht)
 rw [hx] at hc;exact hc.val_inv
theorem Aax {x:Operand} {u J:Code} (k:wc P C u Qn Qe Qr n e H) (hx:ev e x = .val (.bool true):=by exact rfl):wc P C (.cond x u J) Qn Qe Qr n e H:=by intro G hm F W σ ι a w Q b s q E hk;simp only [Jj,Bool.and_eq_true] at b;refine wp_cond_true (Alm b.1.1 q hx) (k G hm F W σ ι a w Q b.1.2 s q E ?_);intro x D I L y z a1 A hq c B j g i f l hu;exact hk x D I L y z a1 A hq c B j g i f l (hu.mono (by simp [Fb]; exact λs h=>.inl h))
theorem O7 {x:Operand} {J u:Code} (k:wc P C u Qn Qe Qr n e H) (hx:ev e x = .val (.bool false):=by exact rfl):wc P C (.cond x J u) Qn Qe Qr n e H:=by intro G hm F W σ ι a w Q b s q E hk;simp only [Jj,Bool.and_eq_true] at b;refine wp_cond_false (Alm b.1.1 q hx) (k G hm F W σ ι a w Q b.2 s q E ?_);intro x D I L y z a1 A hq c B j g i f l hu;exact hk x D I L y z a1 A hq c B j g i f l (hu.mono (by simp [Fb]; exact λs h=>.inr h))
theorem Ao {c:Operand} {a b:Code} {t:Bool} {m f:Option β} (h:(bif t then m else f)=some r) (h1:t=true->m=some r->wc P C a Qn Qe Qr n e H) (h2:t=false->f=some r->wc P C b Qn Qe Qr n e H) (hx:ev e c = .val (.bool t):=by exact rfl):wc P C (.cond c a b) Qn Qe Qr n e H:=by cases t with| true=>exact Aax (h1 rfl h) hx| false=>exact O7 (h2 rfl h) hx
theorem Aln {X:List Nat} {l:List (Nat×AV)} {h:List (Nat×Br)} {F σ z:Ax} {W w Y:World} {ι I:B2} {a a1:Act} {G:Hp} {e1:B1} (hb:Kq n l h=true) (hn:Ez H n) (s:St σ ι H F W w) (he:Eo σ ι H e a) (M:Gm e1 l) (R:Gn G (Cq H h) n n) (L:Le σ ι H z I G) (i:St z I G F W Y) (a8:Eo z I G e1 a1) (aa:a1.tmps.size=a.tmps.size) (a7:Fa X a a1) : ∃A,Le σ ι H z A (Cq H h)/\St z A (Cq H h) F W Y/\Eo z A (Cq H h) (J2 X e (λs=>a1.tmps.getD s undef) l) a1/\Ez (Cq H h) n:=by
 have Z:∀x,n<=x->ι x = .none:=by intro x hx;have:=s.obj x; unfold Cr at this; rw [hn x hx] at this; exact this
 have D:∀p∈h,p.1<n:=by intro p hp;unfold Kq at hb;rw [Bool.and_eq_true,List.all_eq_true,List.all_eq_true] at hb;exact Gl (hb.2 p hp)
 have N:∀p∈l,p.2.under n=true:=by intro p hp;unfold Kq at hb;rw [Bool.and_eq_true,List.all_eq_true,List.all_eq_true] at hb;exact hb.1 p hp
 have u:Ez (Cq H h) n:=by intro x hx;rw [Tl (λp hp e=>by have:=D p hp; omega)]; exact hn x hx
 let A:B2:=λx=>if x<n then I x else .none
 have c:∀x,x<n->A x=I x:=λx hx=>if_pos hx;have f:∀x,x<n->Cq H h x=G x:=λx hx=>((R.spec) x hx).1.symm;have J:Le σ ι H z A (Cq H h):=by
  refine ⟨L.sto,λx=>?_⟩;by_cases hx:x<n
  .rw [c x hx,f x hx]; exact L.obj x
  .rw [Z x ω,hn x ω]; exact HLe.of_none
 have s2:St z A (Cq H h) F W Y:=by
  refine ⟨i.sto,i.fra,λx=>?_,?_,i.os,i.tape,i.output,i.glo,i.drw⟩
  .by_cases hx:x<n
   .have k:=i.obj x;have B:=((R.spec) x hx).2;unfold Cr at k ⊢;rw [f x hx] at B ⊢;rw [c x hx];cases j:G x with
    | none=>rw [j] at k; exact k
    | dead=>trivial
    | cells E cs=>rw [j] at k B;obtain ⟨b,Cc,g1,g2,g3,g4,g5,g6⟩:=k;refine ⟨b,Cc,g1,g2,g3,g4,g5,λq cq v hq a6=>(g6 q cq v hq a6).restrict c f ?_⟩;have:=List.all_eq_true.1 B cq (List.mem_of_getElem? hq);exact Afa this
    | rows E sz xs=>rw [j] at k; exact k
    | map es=>rw [j] at k; exact k
   .unfold Cr;rw [u x ω];exact if_neg hx
  .intro x y b V U bx S;have hx:x<n:=by
    rcases Nat.lt_or_ge x n with hx | hx
    .exact hx
    .rw [u x hx] at V; cases V
   have hy:y<n:=by
    rcases Nat.lt_or_ge y n with hy | hy
    .exact hy
    .rw [u y hy] at U; cases U
   rw [f x hx] at V; rw [f y hy] at U;rw [c x hx] at bx; rw [c y hy] at S;exact i.inj x y b V U bx S
 refine ⟨A,J,s2,?_,u⟩;intro q hq;rcases Akz X e (λs=>a1.tmps.getD s undef) l q with ⟨p,hp,rfl,g⟩ | ⟨hw,g⟩ | ⟨hw,g⟩
 .rw [g,<-M.spec p hp];refine (a8 p.1 hq).restrict c f ?_;rw [M.spec p hp]; exact N p hp
 .rw [g]; exact .of_val _
 .rw [g,a7 q hw]; exact (he q ω).mono J
theorem Alo {S E:Type} {step:S->Option (S⊕E)} {s0:S} {J:E->Option β} {b:Code} (h:(Al step s0).bind J=some r) (L:S->List (Nat×AV)) (B:S->List (Nat×Br)) (j:S->Prop) (hb:∀s,Kq n (L s) (B s)=true) (hs:Gm e (L s0)) (hh:Gn H (Cq H (B s0)) n n) (h0:j s0) (a8:∀(s:S) (u:Nat->Value) (K:Nat->B1->Hp->Prop) (o:S⊕E),step s=some o->(∀x,.inr x=o->J x=some r)->(∀s' n' e' H',.inl s'=o->Gm e' (L s')->Gn H' (Cq H (B s')) n n->j s'->K n' e' H')->j s -> wc P C b K Qe Qr n (J2 (Fb b) e u (L s)) (Cq H (B s))):wc P C (.loop b) Qn Qe Qr n e H:=by
 intro hT hm F W σ ι a w Q aa s he hn hk;refine Df h λx hx h=>?_;obtain ⟨N,hN⟩:=Afl hx;let J':Nat->Act->World->Prop:=λk a' w'=>∃i σ' ι',(Ia step k i=some x/\j i)/\Le σ ι H σ' ι' (Cq H (B i))/\St σ' ι' (Cq H (B i)) F W w' /\
   Eo σ' ι' (Cq H (B i)) (J2 (Fb b) e (λs=>a'.tmps.getD s undef) (L i)) a'/\a'.tmps.size=a.tmps.size/\a'.defers=a.defers/\Fa (Fb b) a a'
 have g:∀(k:Nat) (i:S) (G:Ax) (Y:B2) (H1:Hp) (e1:B1) (a1:Act) (w1:World),(Ia step k i=some x/\j i)->Gm e1 (L i)->Gn H1 (Cq H (B i)) n n->Le σ ι H G Y H1->St G Y H1 F W w1->Eo G Y H1 e1 a1->a1.tmps.size=a.tmps.size ->
    a1.defers=a.defers->Fa (Fb b) a a1->J' k a1 w1:=by intro k i G Y H1 e1 a1 w1 hi ab ad q s1 V c f l;obtain ⟨Z,g1,g2,g3,_⟩:=Aln (hb i) hn s he ab ad q s1 V c l;exact ⟨i,G,Z,hi,g1,g2,g3,c,f,l⟩
 refine Aky J' N (g N s0 σ ι H e a w ⟨hN,h0⟩ hs hh (Le.refl _ _ _) s he rfl rfl (Fa.refl _ _)) ?_;rintro k a1 w1 ⟨i,G,Y,⟨hi,a7⟩,q,s1,V,c,f,l⟩;have af:Ez (Cq H (B i)) n:=by intro y hy;have X:=hb i;unfold Kq at X;rw [Bool.and_eq_true,List.all_eq_true,List.all_eq_true] at X;rw [Tl (λp hp e=>by have:=Gl (X.2 p hp); omega)]; exact hn y hy
 cases k with
 | zero=>cases hi
 | succ k=>
  simp only [Ia] at hi;cases ho:step i with
  | none=>rw [ho] at hi; cases hi
  | some o=>
   rw [ho] at hi;refine a8 i (λs=>a1.tmps.getD s undef) (λ_ e' H'=>∃s',(Ia step k s'=some x/\j s')/\Gm e' (L s')/\Gn H' (Cq H (B s')) n n) o ho ?_ ?_ a7 hT hm F W G Y a1 w1 _ (by rw [c]; exact aa) s1 V af ?_
   .intro y hy; subst hy;simp only [Option.some.injEq] at hi;rw [hi]; exact h
   .intro s' n' e' H' R h1 h2 h3;subst R;exact ⟨s',⟨hi,h3⟩,h1,h2⟩
   .intro x n2 e2 H2 σ2 Z a2 w2 hq I s2 U a6 D z A M;cases x with| normal=>obtain ⟨i',ac,R,ae⟩:=hq;exact ⟨k,ω,g k i' σ2 Z H2 e2 a2 w2 ac R ae (q.trans I) s2 U (z.trans c) (A.trans f) (l.trans M)⟩| exit id=>exact hk (.exit id) n2 e2 H2 σ2 Z a2 w2 hq (q.trans I) s2 U a6 D (z.trans c) (A.trans f) (l.trans M)| ret=>exact hk .ret n2 e2 H2 σ2 Z a2 w2 hq (q.trans I) s2 U a6 D (z.trans c) (A.trans f) (l.trans M)
theorem J3 {S:Type} {c:Code} (J:S->Prop) (l:S->List (Nat×AV)) (q:S->List (Nat×Br)) (hb:∀s,Kq n (l s) (q s)=true) (Y:∀(K:Nat->B1->Hp->Prop),(∀s V e' H',J s->Gm e' (l s)->Gn H' (Cq H (q s)) n n->K V e' H')->wc P C c K Qe Qr n e H) (X:∀(s:S) (u:Nat->Value),J s->Qn n (J2 (Fb c) e u (l s)) (Cq H (q s))):wc P C c Qn Qe Qr n e H:=by intro Z hm F W σ ι a w Q B s M L hk;refine Y (λ_ e' H'=>∃s,J s/\Gm e' (l s)/\Gn H' (Cq H (q s)) n n) (λs _ _ _ h1 h2 h3=>⟨s,h1,h2,h3⟩) Z hm F W σ ι a w _ B s M L ?_;intro x I N R y G a1 z hq f A g j k b h hu;cases x with| normal=>obtain ⟨i,hi,D,E⟩:=hq;obtain ⟨U,g1,g2,g3,g4⟩:=Aln (hb i) L s M D E f A g b hu;exact hk .normal n _ _ y U a1 z (X i (λs=>a1.tmps.getD s undef) hi) g1 g2 g3 g4 (Nat.le_refl _) b h hu| exit id=>exact hk (.exit id) I N R y G a1 z hq f A g j k b h hu| ret=>exact hk .ret I N R y G a1 z hq f A g j k b h hu
theorem Av5 (E:Cy P C.T) (hm:P.follows .mixedOrders=true) {f:FuncId} {fn:Func} {c:Code} {args:List AV} {r:AV} (D:P.funcs[f]? = some fn) (hb:fn.body=some c) (g:(fn.name == "runtime.NumGoroutine")=false) (b:Tv fn c args.length=true) (h:r.free=true) (J:wc P C c (λ_ e H=>Q5 C.T fn.results.toList (· = r) e H) (λ_ _ _ _=>False) (λ_ e H=>Q5 C.T fn.results.toList (· = r) e H) 0 (Tu args) H0):Au P f args r:=by
 unfold Tv at b;simp only [Bool.and_eq_true] at b;obtain ⟨⟨u,y⟩,G⟩:=b;have G:=Nat.le_of_ble_eq_true G;refine ⟨⟨fn,D,g,by rw [hb]; rfl⟩,λσ F W w vs s hc=>?_⟩;have j:(vs++Array.replicate (fn.ntmps-vs.size) undef).size=fn.ntmps:=by have:=hc.1;simp; omega
 refine calls_of_wp D hb (J E hm F W σ ι0 _ w _ (by rw [j]; exact u) s (Ak7 hc) (λ_ _=>rfl) ?_);intro x U e' H' N R B w' hq le s' z _ _ i A _;have k:∀q∈fn.results.toList,Q6 q<B.tmps.size:=by intro q hq';rw [i];have:=Gl (List.all_eq_true.1 y q hq');rw [j]; exact this
 have fin:Q5 C.T fn.results.toList (· = r) e' H'->B.defers = []/\∃v,(results fn B.tmps).run P w' = .ok v w'/\∃v0 l,Ending.returned v = .returned v0/\σ.le l/\St l ι0 H0 F W w'/\Conc l ι0 H0 r v0:=by intro hq;obtain ⟨v,I,V,S,h1,h2,h3,M,L⟩:=Avr E s' z k hq;subst h2;exact ⟨A,v,h1,v,I,rfl,Ax.le_trans le.sto h3.sto,M.forget,L.to0 h⟩
 cases x with| normal=>exact fin hq| ret=>exact fin hq| exit id=>exact hq.elim
theorem Av6 (fz:Bool) (X:Cy P C.T) (hm:P.follows .mixedOrders=true) {f:FuncId} {fn:Func} {c:Code} {args:List AV} {r:AV} {B b:List Br} (V:P.funcs[f]? = some fn) (hb:fn.body=some c) (l:(fn.name == "runtime.NumGoroutine")=false) (j:Tv fn c args.length=true) (g:Afi B r b=true) (hv:wc P C c (λ_ e H=>Q8 C.T fz fn.results.toList r b e H) (λ_ _ _ _=>False) (λ_ e H=>Q8 C.T fz fn.results.toList r b e H) B.length (Tu args) (hp B)):B6 P f args B r b:=by
 unfold Tv at j;unfold Afi at g;simp only [Bool.and_eq_true] at j g;obtain ⟨⟨I,L⟩,Y⟩:=j;obtain ⟨⟨E,J⟩,N⟩:=g;have E:=Nat.le_of_ble_eq_true E;have Y:=Nat.le_of_ble_eq_true Y;refine ⟨⟨fn,V,l,by rw [hb]; rfl⟩,λσ F W w ι vs s hc=>?_⟩;have A:(vs++Array.replicate (fn.ntmps-vs.size) undef).size=fn.ntmps:=by have:=hc.1;simp; omega
 refine calls_of_wp V hb (hv X hm F W σ ι _ w _ (by rw [A]; exact I) s (Ak7 hc) (λ_ h=>Ow h) ?_);intro x n' e' H' σ' ι' U w' hq le s' R _ _ z S _;have D:∀q∈fn.results.toList,Q6 q<U.tmps.size:=by intro q hq';rw [z];have:=Gl (List.all_eq_true.1 L q hq');rw [A]; exact this
 have fin:Q8 C.T fz fn.results.toList r b e' H'->U.defers = []/\∃v,(results fn U.tmps).run P w' = .ok v w'/\∃v0 G ι0,Ending.returned v = .returned v0/\Le σ ι (hp B) G ι0 (hp b)/\St G ι0 (hp b) F W w'/\Conc G ι0 (hp b) r v0:=by
  intro hq;obtain ⟨v,Z,H2,h1,h2,h3,h4,h5⟩:=Avs X s' R D hq;have u:∀i,i<b.length->H2 i=hp b i:=λi hi=>by simpa using h2.spec i hi
  refine ⟨S,v,h1,v,Z,(λk=>if k<b.length then ι' k else .none),rfl,?_,h4.first b u N,?_⟩
  .have y:=le.trans h3;refine ⟨y.sto,λk=>?_⟩;by_cases hk:k<b.length
   .rw [if_pos hk,<-u k hk]; exact y.obj k
   .rw [if_neg hk,Ow ω,Ow ω];have:ι k = .none:=(by have:=s.obj k; unfold Cr at this; rw [Ow ω] at this; exact this);rw [this]; exact HLe.refl _ _
  .exact h5.restrict (n:=b.length) (λh M=>if_pos M) (λh M=>(u h M).symm) J
 cases x with| normal=>exact fin hq| ret=>exact fin hq| exit id=>exact hq.elim
end
end Go.Ab
namespace Go.Ab
theorem Alp {id:Nat}:∀{k b:List Item},exitTo id k=some b->b.length<k.length
 | [],b,h=>by cases h
 | x::k,b,h=>by
  have ih:exitTo id k=some b->b.length<(x::k).length:=λh=>Nat.lt_succ_of_lt (Alp h);unfold exitTo at h;split at h
  .rename_i c k0 heq;cases heq;split at h
   .cases h; simp
   .exact ih h
  .rename_i f k0 _ heq;cases heq; exact ih h
  .rename_i heq; cases heq
theorem Afy {P:Program} {m f c:Machine} (h:step P m = .next f) (h':Steps P m c):c=m\/Steps P f c:=by obtain ⟨n,b⟩:=h';cases n with| zero=>left; simp only [runN,Stepped.next.injEq] at b; exact b.symm| succ n=>right; simp only [runN,h] at b; exact ⟨n,b⟩
theorem Alq {b:Frame} {a f:Act} {k c:List Item} {cs:List Frame} {w w':World} (h:lone (b.at a k) cs w=lone (b.at f c) cs w'):k=c:=by simp only [lone,Machine.mk.injEq,Array.mk.injEq,List.cons.injEq,Goroutine.mk.injEq,Frame.at,Frame.mk.injEq] at h;exact h.2.1.1.1.2.2.1
def Av7:Exit->Bool
 | .normal | .exit _ | .ret=>true
 | _=>false
theorem Av8 {P:Program} {Q:Exit->Act->World->Prop} {a:Act} {w:World} {c:Code} (h:c.wp P (Exit.then (λD w'=>(Code.loop c).wp P (λe a w=>Av7 e=true/\Q e a w) D w') Q) a w):(Code.loop c).wp P Q a w:=by
 intro b k cs;obtain ⟨e,a1,i,hq,f⟩:=h b (.inLoop c::k) cs;have first:Steps P (lone (b.at a (.code (.loop c)::k)) cs w) (lone (b.at a (.code c :: .inLoop c::k)) cs w):=.one step_loop
 cases e with
 | normal=>
  obtain ⟨u,a2,y,⟨s,q⟩,g⟩:=hq b k cs;have j:Steps P (lone (b.at a (.code (.loop c)::k)) cs w) (lone (b.at a1 (.code c :: .inLoop c::k)) cs i):=first.trans (Steps.trans f (.one step_inLoop));refine ⟨u,a2,y,q,.of_steps j ?_⟩;cases u with
  | normal=>
   rcases Afy step_loop g with e | e
   .have:=congrArg List.length (Alq e); simp at this
   .exact e
  | exit id=>
   intro z hk;rcases Afy step_loop (g z hk) with e | e
   .have h1:=Alp hk;have h2:=congrArg List.length (Alq e); simp at h2; omega
   .exact e
  | ret=>
   obtain ⟨todo,A⟩:=g;rcases Afy step_loop A with e | e
   .simp only [lone,Machine.mk.injEq,Array.mk.injEq,List.cons.injEq,Goroutine.mk.injEq,Frame.at,Frame.mk.injEq] at e;simp at e
   .exact ⟨todo,e⟩
  | goto l=>cases s
  | panic B=>cases s
  | outgrown=>cases s
 | exit id=>exact ⟨_,a1,i,hq,.of_steps first (.pass (x:=.inLoop c) rfl (λ_ _=>.inl ψ) f)⟩
 | goto l=>exact ⟨_,a1,i,hq,.of_steps first (.pass (x:=.inLoop c) rfl (λ_ _=>.inl ψ) f)⟩
 | ret=>exact ⟨_,a1,i,hq,.of_steps first (.pass (x:=.inLoop c) rfl (λ_ _=>.inl ψ) f)⟩
 | panic B=>exact ⟨_,a1,i,hq,.of_steps first (.pass (x:=.inLoop c) rfl (λ_ _=>.inl ψ) f)⟩
 | outgrown=>exact ⟨_,a1,i,hq,.of_steps (b:=b) (k:=k) (cs:=cs) (e:=.outgrown) first (.pass (x:=.inLoop c) rfl (λ_ _=>.inl ψ) f)⟩
section
variable {P:Program} {C:Cfg} {Qn:Nat->B1->Hp->Prop} {Qe:Nat->Nat->B1->Hp->Prop} {Qr:Nat->B1->Hp->Prop} {n:Nat} {e:B1} {H:Hp}
theorem Tz {c:Code} (k:wc P C c (λn e H=>wc P C (.loop c) Qn Qe Qr n e H) Qe Qr n e H):wc P C (.loop c) Qn Qe Qr n e H:=by intro N hm F W σ ι a w Q l s he hn hk;refine Av8 (k N hm F W σ ι a w _ l s he hn ?_);intro x L R S y z a1 A hq f B h g q b i hu;cases x with| normal=>refine hq N hm F W y z a1 A _ (by rw [b]; exact l) B h g ?_;intro x Z e2 H2 U V a2 X G D Y J I M j u E;exact ⟨by cases x <;> rfl,hk x Z e2 H2 U V a2 X G (f.trans D) Y J I ω (j.trans b) (u.trans i) (hu.trans E)⟩| exit id=>exact hk (.exit id) L R S y z a1 A hq f B h g q b i hu| ret=>exact hk .ret L R S y z a1 A hq f B h g q b i hu
def Vw (x:AV) (v:Value):Prop:=∀sz xs,x = .sl sz xs->∃p c,v = .slice p xs.length c/\(p=none->xs = [])
theorem Aay {c:Code} (s:Nat) (k:∀v,Vw (e s) v->wc P C c Qn Qe Qr n (A8 e s (.val v)) H):wc P C c Qn Qe Qr n e H:=by
 intro z hm F W σ ι a w Q f x u y hk;by_cases A:s<a.tmps.size
 .have hc:=u s A;refine k (a.tmps.getD s undef) ?_ z hm F W σ ι a w Q f x ?_ y hk
  .intro sz xs hx;rw [hx] at hc;rcases hc.sl_inv.sl_inv with ⟨rfl,p,cap,e⟩ | ⟨b,off,cap,C,E,fr,g,e,_⟩
   .exact ⟨p,cap,e,λ_=>rfl⟩
   .exact ⟨_,cap,e,λh=>by cases h⟩
  .intro q hq;by_cases h:q=s
   .subst h; rw [Co]; exact .of_val _
   .rw [Da _ _ h]; exact u q hq
 .have l:∃v,Vw (e s) v:=(by cases hx:e s with| sl sz xs=>exact ⟨.slice (some ⟨0,0,none⟩) xs.length 0,λj i h=>by cases h; exact ⟨_,_,rfl,λh=>by cases h⟩⟩| _=>exact ⟨undef,λj i h=>by cases h⟩);obtain ⟨v,l⟩:=l;refine k v l z hm F W σ ι a w Q f x ?_ y hk;intro q hq;rw [Da _ _ ω]; exact u q hq
end
end Go.Ab
namespace Go.Ab
structure O8 {α:Type} (cf:α->α->Int):Prop where
 irr:∀x,¬cf x x<0
 trs:∀x y z,cf x y<0->cf y z<0->cf x z<0
 ntr:∀x y z,¬cf x y<0->¬cf y z<0->¬cf x z<0
def Wr {α:Type} (cmp:α->α->Option Int) (l r:List α):Prop := ∃cf:α->α->Int,O8 cf/\(∀x∈l,∀y∈l,cmp x y=some (cf x y))/\r.Perm l/\r.Pairwise (λx y=>cf x y<0)
open Classical in
noncomputable def Ny {α:Type} (cmp:α->α->Option Int) (l:List α):Option (List α) := if h:∃r,Wr cmp l r then some (Classical.choose h) else none
theorem Av9 {α:Type} {cmp:α->α->Option Int} {l r:List α} (h:Ny cmp l=some r):Wr cmp l r:=by
 unfold Ny at h;split at h
 .rename_i k;cases h; exact Classical.choose_spec k
 .cases h
theorem Awa {α:Type} {cmp:α->α->Option Int} {l r:List α} (h:Wr cmp l r):∃b,Ny cmp l=some b/\Wr cmp l b:=by unfold Ny;rw [dif_pos ⟨r,h⟩];exact ⟨_,rfl,Classical.choose_spec (⟨r,h⟩:∃r,Wr cmp l r)⟩
def Nz {α:Type} (n:Nat) (a:List α):Option (List α×List α):=(Ca n [] a).bind λo=>some ([],o)
def M0 {α:Type} (n:Int):Option (List α):=bif decide (0<=n)&&decide (n<=1000000) then some [] else none
end Go.Ab
