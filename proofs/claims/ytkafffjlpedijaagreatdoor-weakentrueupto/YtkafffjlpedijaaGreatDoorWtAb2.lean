/- Plain laws: what the plain functions answer. -/
import Derived.Test.YtkafffjlpedijaaGreatDoorWtAb
namespace Go.Ab
def H0:Hp:=λ_=>.none
def ι0:B9:=λ_=>.none
def Acj (P:Program) (f:FuncId):Prop:=∃fn,P.funcs[f]? = some fn/\(fn.name == "runtime.NumGoroutine")=false/\fn.body.isNone=false
def Nj (σ:A5) (ι:B9) (H:Hp) (args:List AV) (vs:Array Value):Prop := vs.size=args.length/\∀(i:Nat) (a:AV) (v:Value),args[i]? = some a->vs[i]? = some v->Conc σ ι H a v
def Az (P:Program) (f:FuncId) (args:List AV) (r:AV):Prop := Acj P f/\∀(σ F:A5) (W w:World) (vs:Array Value),St σ ι0 H0 F W w->Nj σ ι0 H0 args vs -> Calls P f vs w λe w'=>∃v b,e = .returned v/\σ.le b/\St b ι0 H0 F W w'/\Conc b ι0 H0 r v
def AV.under0 (n:Nat):AV->Bool
 | .loc h _ | .mp h=>Nat.blt h n
 | .arr h _ _ _ | .el h _ _ _=>Nat.blt h n
 | .val _ | .sl _ _ | .ref _ | .fb _=>true
 | _=>false
def AV.under1 (n:Nat):AV->Bool
 | .loc h _ | .mp h=>Nat.blt h n
 | .arr h _ _ _ | .el h _ _ _=>Nat.blt h n
 | .val _ | .sl _ _ | .ref _ | .fb _=>true
 | .fn _ cs=>cs.all (AV.under0 n)
 | _=>false
def AV.under2 (n:Nat):AV->Bool
 | .agg cs=>cs.all (AV.under1 n)
 | x=>x.under1 n
def AV.under (n:Nat):AV->Bool
 | .agg cs | .fn _ cs=>cs.all (AV.under1 n)
 | .tup cs=>cs.all (AV.under2 n)
 | x=>x.under1 n
def Bu.under (n:Nat):Bu->Bool
 | .cells _ cs=>cs.all (AV.under1 n)
 | .map _=>true
 | .rows _ _ _=>true
 | .none=>true
 | .dead=>true
def Ahl (es:Nat->Nat):AV->AV
 | .loc h off=>.loc (es h) off
 | .mp h=>.mp (es h)
 | .arr h k off len=>.arr (es h) k off len
 | .el h k i j=>.el (es h) k i j
 | x=>x
def Od (es:Nat->Nat):AV->AV
 | .loc h off=>.loc (es h) off
 | .mp h=>.mp (es h)
 | .arr h k off len=>.arr (es h) k off len
 | .el h k i j=>.el (es h) k i j
 | .fn f cs=>.fn f (cs.map (Ahl es))
 | x=>x
def Ahm (es:Nat->Nat):AV->AV
 | .agg cs=>.agg (cs.map (Od es))
 | x=>Od es x
def ren (es:Nat->Nat):AV->AV
 | .agg cs=>.agg (cs.map (Od es))
 | .tup cs=>.tup (cs.map (Ahm es))
 | .fn f cs=>.fn f (cs.map (Od es))
 | x=>Od es x
def Jj (es:Nat->Nat):Bu->Bu
 | .cells E cs=>.cells E (cs.map (Od es))
 | o=>o
def hp (b:List Bu):Hp:=λk=>b.getD k .none
def Bt (P:Program) (f:FuncId) (args:List AV) (h:List Bu) (r:AV) (b:List Bu):Prop := Acj P f/\∀(σ F:A5) (W w:World) (ι:B9) (vs:Array Value),St σ ι (hp h) F W w->Nj σ ι (hp h) args vs -> Calls P f vs w λe w'=>∃v c g,e = .returned v/\Le σ ι (hp h) c g (hp b)/\St c g (hp b) F W w'/\Conc c g (hp b) r v
def Es (n:Nat):List Nat->Nat->Nat
 | [],k=>n+k
 | h::_,0=>h
 | _::l,k+1=>Es n l k
def Pa (n:Nat):List Nat->Bool
 | []=>true
 | h::l=>Nat.blt h n && !(l.elem h)&&Pa n l
def wrs (es:Nat->Nat):Nat->List Bu->List (Nat×Bu)
 | _,[]=>[]
 | k,o::os=>(es k,Jj es o)::wrs es (k+1) os
def Cp (es:Nat->Nat):Nat->Nat->List (Nat×Bu)
 | _,0=>[]
 | k,c+1=>(es k,.none)::Cp es (k+1) c
def Sv (H:Hp):List (Nat×Bu)->Prop
 | []=>True
 | p::l=>H p.1=p.2/\Sv H l
def Va (n:Nat) (l:List Nat) (c:List AV) (f:List Bu) (r:AV) (b:List Bu):Bool := Pa n l&&Nat.beq f.length l.length&&Nat.ble l.length b.length&&c.all (AV.under l.length)&&f.all (Bu.under l.length)&&r.under b.length&&b.all (Bu.under b.length)
inductive X5 (xs:List AV) (i:Int) (K:Nat->AV->Prop):Prop where
 | mk (n:Nat) (x:AV) (hi:i=n) (hx:xs[n]? = some x) (k:K n x)
inductive Sw (len:Nat) (kk:Nat) (xs:List AV) (i:Int) (K:Nat->Prop):Prop where
 | mk (n:Nat) (hk:xs.length=kk) (hi:i=n) (hn:n<len) (k:K n)
inductive Iq (k:IntKind) (n:Int) (K:Int->Prop):Prop where
 | mk (c:Int) (h:k.wrap n=c) (k:K c)
inductive Ack (k:IntKind) (m n:Int) (K:Int->Prop):Prop where
 | mk (c:Int) (hn:n≠0) (h:k.wrap (m.tdiv n)=c) (k:K c)
inductive Acl (m n:Int) (K:Int->Prop):Prop where
 | mk (c:Int) (hn:n≠0) (h:m.tmod n=c) (k:K c)
inductive Acm (k:IntKind) (m n:Int) (K:Int->Prop):Prop where
 | mk (c:Int) (hn:0<=n) (h:m.fdiv (2 ^ (min n.toNat k.bits))=c) (k:K c)
inductive Ahn (k:IntKind) (m n:Int) (K:Int->Prop):Prop where
 | mk (c:Int) (hn:0<=n) (h:k.wrap (m*2 ^ (min n.toNat k.bits))=c) (k:K c)
inductive Acn (n:Nat) (lo hi:Int) (K:Nat->Nat->Prop):Prop where
 | mk (l h:Nat) (el:lo=l) (eh:hi=h) (h1:l<=h) (h2:h<=n) (k:K l h)
inductive Sx (xs:List AV) (lo hi:Int) (K:List AV->Prop):Prop where
 | mk (l h:Nat) (ys:List AV) (el:lo=l) (eh:hi=h) (h1:l<=h) (h2:h<=xs.length) (hy:(xs.take h).drop l=ys) (k:K ys)
inductive Aco (kk:Nat) (xs:List AV) (n:Nat) (lo hi:Int) (K:Nat->Nat->Prop) (KE:Prop):Prop where
 | mk (l h:Nat) (hk:xs.length=kk) (el:lo=l) (eh:hi=h) (h1:l<=h) (h2:h<=n) (h3:l=0\/l<h) (k:K l h)
 | mkE (l:Nat) (hk:xs.length=kk) (el:lo=l) (eh:hi=l) (h2:l<=n) (k:KE)
inductive Acp (s:ByteArray) (i:Int) (K:UInt8->Prop):Prop where
 | mk (n:Nat) (c:UInt8) (hi:i=n) (hc:s[n]? = some c) (k:K c)
inductive Acq (n:Nat) (K:Prop):Prop where
 | mk (h:n<=9223372036854775807) (k:K)
inductive Vb (len cap:Int) (bytes:Nat) (z:AV) (K:Nat->List AV->Prop):Prop where
 | mk (l c:Nat) (zs:List AV) (el:len=l) (ec:cap=c) (h1:l<=c) (h2:bytes*c<=281474976710656) (h3:c<=140737488355328) (hz:List.replicate l z=zs) (k:K l zs)
 | mkN (z':AV) (hn:Gn z.cells z'.cells) (l c:Nat) (zs:List AV) (el:len=l) (ec:cap=c) (h1:l<=c) (h2:bytes*c<=281474976710656) (h3:c<=140737488355328) (hz:List.replicate l z'=zs) (k:K l zs)
inductive Oe (xs ys:List AV) (kk len bytes:Nat) (K:List AV->Nat->Prop) (KP:List AV->Nat->Nat->Prop):Prop where
 | mkP (zs:List AV) (k' m:Nat) (hk:xs.length=kk) (hl:len<=kk) (hb:(xs.length+ys.length)*bytes<=140737488355328) (hz:E8 xs len ys=zs) (hk':zs.length=k') (hm:len+ys.length=m) (k:KP zs k' m)
 | mk (zs:List AV) (m:Nat) (hk:xs.length=kk) (hl:len=kk) (hb:(xs.length+ys.length)*bytes<=140737488355328) (hz:xs++ys=zs) (hm:kk+ys.length=m) (k:K zs m)
inductive Az3 (ys:List AV) (K:Prop):Prop where
 | mk (hy:ys = []) (k:K)
inductive Sy (ys:List AV) (bytes:Nat) (K:List AV->Nat->Prop):Prop where
 | mk (zs:List AV) (m:Nat) (hb:ys.length*bytes<=140737488355328) (hz:ys=zs) (hm:ys.length=m) (k:K zs m)
inductive Az4 (xs:List AV) (kk len k2 off2 len2 bytes:Nat) (K:List AV->Nat->Nat->Prop):Prop where
 | mk (zs:List AV) (k' m:Nat) (hk:xs.length=kk) (hl:len<=kk) (hk2:xs.length=k2) (hl2:off2+len2<=kk) (hb:(xs.length+len2)*bytes<=140737488355328) (hz:E8 xs len ((xs.drop off2).take len2)=zs) (hk':zs.length=k') (hm:len+len2=m) (k:K zs k' m)
inductive Az5 (xs:List AV) (kk off len k2 off2 len2:Nat) (K:List AV->Nat->Prop):Prop where
 | mk (zs:List AV) (c:Nat) (hk:xs.length=kk) (hl:off+len<=kk) (hk2:xs.length=k2) (hl2:off2+len2<=kk) (hz:E8 xs off ((xs.drop off2).take (min len2 len))=zs) (hc:min len2 len=c) (k:K zs c)
inductive Ana (xs:List AV) (kk off len:Nat) (z:AV) (K:List AV->Prop):Prop where
 | mk (zs:List AV) (hk:xs.length=kk) (hl:off+len<=kk) (hz:E8 xs off (List.replicate len z)=zs) (k:K zs)
inductive Aho (a b:Nat) (K:Prop):Prop where
 | mk (h:a<=b) (k:K)
inductive Ahp (xs:List AV) (n:Nat) (K:List AV->Prop):Prop where
 | mk (ys:List AV) (hy:xs.take n=ys) (k:K ys)
inductive Vc (xs:List AV) (q:Nat) (p:AV) (K:List AV->Prop):Prop where
 | mk (zs:List AV) (hz:xs.set q p=zs) (k:K zs)
inductive Nk (xs:List AV) (K:Int->Prop):Prop where
 | mk (c:Int) (hc:(xs.length:Int)=c) (k:K c)
inductive Mm (kk i:Nat) (xs:List AV) (K:AV->Prop):Prop where
 | mk (x:AV) (hk:xs.length=kk) (hx:xs[i]? = some x) (k:K x)
inductive Hf (kk:Nat) (xs:List AV) (K:Prop):Prop where
 | mk (hk:xs.length=kk) (k:K)
inductive Gb (P:Program) (n:Nat) (H:Hp) (f:FuncId) (args:List AV) (K:Eff->Nat->Prop):Prop where
 | mk (r:AV) (h:Az P f args r) (hf:args.all AV.free=true) (k:K ⟨r,[],[]⟩ n)
 | act (l:List Nat) (largs:List AV) (hs:List Bu) (r:AV) (hs':List Bu) (h:Bt P f largs hs r hs') (ha:largs.map (ren (Es n l))=args) (ok:Va n l largs hs r hs'=true) (hh:Sv H (wrs (Es n l) 0 hs))
   (k:K ⟨ren (Es n l) r,wrs (Es n l) 0 hs++Cp (Es n l) l.length (hs'.length-l.length),wrs (Es n l) 0 hs'⟩ (n+(hs'.length-l.length)))
inductive Anb (s:ByteArray) (es:List (AV×AV)) (K:Option (Nat×AV)->Prop):Prop where
 | mk (r:Option (Nat×AV)) (h:Jx s es 0=some r) (k:K r)
inductive Acr (op:BinOp) (k:FloatKind) (a b:Nat) (K:Nat->Prop):Prop where
 | mk (c:Nat) (h:floatBits op k a b=some c) (k:K c)
inductive Acs (k:FloatKind) (a:Nat) (q:IntKind) (K:Int->Prop):Prop where
 | mk (c:Int) (h:floatToIntVal k a q=some c) (k:K c)
inductive Az6 (P:Program) (kt:TypeId) (us:List Value) (es:List (AV×AV)) (K:Option (Nat×AV)->Prop):Prop where
 | mk (r:Option (Nat×AV)) (hc:Ach P kt us) (h:Oc P kt us es 0 r) (k:K r)
inductive Az7 (P:Program) (kt:TypeId) (ks:List AV) (us:List Value) (v:AV) (es:List (AV×AV)) (K:List (AV×AV)->Prop):Prop where
 | mk (es':List (AV×AV)) (hc:Ach P kt us) (h:Oc P kt us es 0 none) (he:es++[(.agg ks,v)]=es') (k:K es')
inductive Anc (s:ByteArray) (v:AV) (es:List (AV×AV)) (K:List (AV×AV)->Prop):Prop where
 | mk (es':List (AV×AV)) (h:Ace s v es=some es') (k:K es')
inductive Ane (P:Program) (t:TypeId) (us vs:List Value) (K:Bool->Prop):Prop where
 | mk (b:Bool) (h:Acg P t us vs b) (k:K b)
inductive X6 (P:Program) (t:TypeId) (f:Nat) (K:TypeId->Prop):Prop where
 | mk (ft:TypeId) (h:Ahf P t f=some ft) (k:K ft)
inductive Anf (P:Program) (f:FuncId) (args:List AV) (K:AV->Prop):Prop where
 | mk (r:AV) (h:Az P f args r) (hf:args.all AV.free=true) (k:K r)
inductive Ann where
 | frz (j:Nat)
 | std
 | own
 | ask
def Mn:AV->Bool
 | .val (.slice none 0 0)=>true
 | _=>false
def X7:AV->Bool
 | .val (.agg _)=>false
 | _=>true
def Ahq (x:AV) (K:AV->Prop):Prop := match x with
 | .val v=>K (.val v)
 | .loc h off=>K (.loc h off)
 | .arr h k off len=>K (.arr h k off len)
 | .el h k i j=>K (.el h k i j)
 | .mp h=>K (.mp h)
 | .ref cs=>K (.ref cs)
 | .sl sz xs=>K (.sl sz xs)
 | .agg cs=>K (.agg cs)
 | .tup cs=>K (.tup cs)
 | .fn f cs=>K (.fn f cs)
 | .fb s=>K (.fb s)
def Qp:List AV->(List AV->Prop)->Prop
 | [],K=>K []
 | x::xs,K=>Ahq x λx=>Qp xs λxs=>K (x::xs)
def Lz (x:AV) (K:AV->Prop):Prop := match x with
 | .agg cs=>Qp cs λcs=>K (.agg cs)
 | .tup cs=>Qp cs λcs=>K (.tup cs)
 | .fn f cs=>Qp cs λcs=>K (.fn f cs)
 | x=>Ahq x K
def Vd:List AV->(List AV->Prop)->Prop
 | [],K=>K []
 | x::xs,K=>Lz x λx=>Vd xs λxs=>K (x::xs)
def Ahr (o:Bu) (K:Bu->Prop):Prop := match o with
 | .cells E cs=>Qp cs λcs=>K (.cells E cs)
 | .rows E sz xs=>K (.rows E sz xs)
 | .map es=>K (.map es)
 | .none=>K .none
 | .dead=>K .dead
def Of:List (Nat×Bu)->(List (Nat×Bu)->Prop)->Prop
 | [],K=>K []
 | p::l,K=>Ahr p.2 λo=>Of l λl=>K ((p.1,o)::l)
def Jy:List (Nat×Bu)->(List Nat->Prop)->Prop
 | [],K=>K []
 | p::l,K=>Jy l λl=>K (p.1::l)
theorem Ang (x:AV) (K:AV->Prop):Ahq x K=K x:=by cases x <;> rfl
theorem Acu:∀(l:List AV) (K:List AV->Prop),Qp l K=K l
 | [],_=>rfl
 | x::xs,K=>by simp only[Qp,Ang,Acu xs]
theorem Ve (x:AV) (K:AV->Prop):Lz x K=K x:=by cases x <;> simp only[Lz,Acu,Ang]
theorem Acv:∀(l:List AV) (K:List AV->Prop),Vd l K=K l
 | [],_=>rfl
 | x::xs,K=>by simp only[Vd,Ve,Acv xs]
theorem Az8 (o:Bu) (K:Bu->Prop):Ahr o K=K o:=by cases o <;> simp only[Ahr,Acu]
theorem Ahs:∀(l:List (Nat×Bu)) (K:List (Nat×Bu)->Prop),Of l K=K l
 | [],_=>rfl
 | p::l,K=>by simp only[Of,Az8,Ahs l]
theorem Aht:∀(l:List (Nat×Bu)) (K:List Nat->Prop),Jy l K=K (l.map (·.1))
 | [],_=>rfl
 | p::l,K=>by simp only[Jy,Aht l,List.map_cons]
def Ey (P:Program) (T:C6) (an:Nat->Ann) (n:Nat) (o:Oper) (ρ:Operand->AV) (H:Hp) (K:Eff->Nat->Prop):Prop :=
 match o.op with
 | .move x=>K ⟨ρ x,[],[]⟩ n
 | .assign x=>
  match o.dst with
  | none=>K ⟨ρ x,[],[]⟩ n
  | some d=>
   match an d with
   | .frz _=>K ⟨ρ x,[],[]⟩ n
   | .std=>K ⟨ρ x,[],[]⟩ n
   | .ask=>K ⟨ρ x,[],[]⟩ n
   | .own=>bif Mn (ρ x) then
     match T o.type with
     | some ⟨.slice e,_,_,_⟩=>
      match T e with
      | some i'=>bif Nat.blt 0 i'.size then K ⟨.arr n 0 0 0,[(n,.none)],[(n,.rows e i'.size [])]⟩ (n+1) else False
      | none=>False
     | _=>False
    else K ⟨ρ x,[],[]⟩ n
 | .pick c a b=>
  match ρ c with
  | .val (.bool t)=>K ⟨bif t then ρ a else ρ b,[],[]⟩ n
  | _=>False
 | .alloc t=>
  match T t with
  | some i=>K ⟨.loc n 0,[(n,.none)],[(n,.cells t (i.zero.map .val))]⟩ (n+1)
  | none=>False
 | .box t x=>K ⟨.loc n 0,[(n,.none)],[(n,.cells t (ρ x).cells)]⟩ (n+1)
 | .build t parts=>
  match T t with
  | some ⟨.struct fs,_,_,z⟩=>
   match U4 fs (z.map .val) (parts.toList.map λp=>(p.1,ρ p.2)) with
   | some cs=>K ⟨.agg cs,[],[]⟩ n
   | none=>False
  | _=>False
 | .buildSlice t len parts=>
  match T t with
  | some ⟨.slice e,_,_,_⟩=>
   match T e with
   | some i'=>
    bif Nat.blt 0 i'.size&&(parts.toList.map (·.1)==List.range' 0 len)&&Nat.ble (len*i'.size) 16777216&&parts.toList.all (λp=>Lw i'.size (ρ p.2)) then
     match an (o.dst.getD 0) with
     | .frz _=>False
     | .std=>Vd (parts.toList.map λp=>ρ p.2) λxs=>K ⟨.sl i'.size xs,[],[]⟩ n
     | .ask=>Vd (parts.toList.map λp=>ρ p.2) λxs=>K ⟨.sl i'.size xs,[],[]⟩ n
     | .own=>Vd (parts.toList.map λp=>ρ p.2) λxs=>K ⟨.arr n len 0 len,[(n,.none)],[(n,.rows e i'.size xs)]⟩ (n+1)
    else False
   | none=>False
  | _=>False
 | .load t x=>
  match T t with
  | some i=>
   match ρ x with
   | .ref cs=>bif i.isAgg then (bif Nat.ble i.size cs.length then K ⟨.agg (cs.take i.size),[],[]⟩ n else False) else
     match cs with
     | c::_=>K ⟨c,[],[]⟩ n
     | []=>False
   | .loc h off=>
    match H h with
    | .cells E cs=>bif i.isAgg then (bif Nat.ble (off+i.size) cs.length then K ⟨.agg ((cs.drop off).take i.size),[(h,.cells E cs)],[]⟩ n else False) else
      match cs[off]? with
      | some c=>K ⟨c,[(h,.cells E cs)],[]⟩ n
      | none=>False
    | _=>False
   | .el h k q j=>
    match H h with
    | .rows E sz xs=>Mm k q xs λy=>bif i.isAgg then (bif Nat.ble (j+i.size) y.cells.length then K ⟨.agg ((y.cells.drop j).take i.size),[(h,.rows E sz xs)],[]⟩ n else False) else
      match y.cells[j]? with
      | some c=>K ⟨c,[(h,.rows E sz xs)],[]⟩ n
      | none=>False
    | _=>False
   | _=>False
  | none=>False
 | .store t x y=>
  match T t with
  | some i=>
   match ρ x with
   | .loc h off=>
    match H h with
    | .cells E cs=>bif Nat.beq (ρ y).cells.length i.size&&Nat.ble (off+i.size) cs.length&&(ρ y).cells.all AV.one then K ⟨.val undef,[(h,.cells E cs)],[(h,.cells E (Nh cs off (ρ y).cells))]⟩ n else False
    | _=>False
   | .el h k q j=>
    match H h with
    | .rows E sz xs=>Mm k q xs λz=>bif Nat.beq (ρ y).cells.length i.size&&Nat.blt 0 i.size&&Nat.ble (j+i.size) z.cells.length&&(ρ y).cells.all AV.cl1&&X7 z then
      Qp (ρ y).cells λys=>Lz (X1 z j ys) λp=>Vc xs q p λg=>K ⟨.val undef,[(h,.rows E sz xs)],[(h,.rows E sz g)]⟩ n else False
    | _=>False
   | _=>False
  | none=>False
 | .nilCheck x=>bif (ρ x).isPtr then K ⟨ρ x,[],[]⟩ n else False
 | .binOp op t x y _=>
  match ρ x,ρ y with
  | .val (.int k a),.val (.int G b)=>
   match op with
   | .shl=>Ahn k a b λc=>K ⟨.val (.int k c),[],[]⟩ n
   | .shr=>Acm k a b λc=>K ⟨.val (.int k c),[],[]⟩ n
   | op=>bif decide (k=G) then
     match op with
     | .add=>Iq k (a+b) λc=>K ⟨.val (.int k c),[],[]⟩ n
     | .sub=>Iq k (a-b) λc=>K ⟨.val (.int k c),[],[]⟩ n
     | .mul=>Iq k (a*b) λc=>K ⟨.val (.int k c),[],[]⟩ n
     | .quo=>Ack k a b λc=>K ⟨.val (.int k c),[],[]⟩ n
     | .rem=>Acl a b λc=>K ⟨.val (.int k c),[],[]⟩ n
     | op=>
      match Agx op a b with
      | some t=>K ⟨.val (.bool t),[],[]⟩ n
      | none=>
       match Ag3 op k a b with
       | some c=>K ⟨.val (.int k c),[],[]⟩ n
       | none=>False
    else False
  | .val (.bool a),.val (.bool b)=>
   match T t with
   | some ⟨.bool,_,_,_⟩=>
    match Ag4 op a b with
    | some t=>K ⟨.val (.bool t),[],[]⟩ n
    | none=>False
   | _=>False
  | .agg xs,.agg ys=>
   match Ja xs with
   | some L=>
    match Ja ys with
    | some vs=>
     match op with
     | .eql=>Ane P t L vs λb=>K ⟨.val (.bool b),[],[]⟩ n
     | .neq=>Ane P t L vs λb=>K ⟨.val (.bool !b),[],[]⟩ n
     | _=>False
    | none=>False
   | none=>False
  | .val (.float k a),.val (.float G b)=>bif decide (k=G) then Acr op k a b λc=>K ⟨.val (.float k c),[],[]⟩ n else False
  | .val (.string a),.val (.string b)=>
   match op with
   | .add=>Acq (a.size+b.size) (K ⟨.val (.string (a++b)),[],[]⟩ n)
   | op=>
    match Ag5 op a b with
    | some t=>K ⟨.val (.bool t),[],[]⟩ n
    | none=>False
  | .val (.slice p _ _),.val (.slice none _ _)=>
   match op with
   | .eql=>
    match T t with
    | some ⟨.slice _,_,_,_⟩=>K ⟨.val (.bool p.isNone),[],[]⟩ n
    | _=>False
   | _=>False
  | _,_=>False
 | .unOp op _ x=>
  match op,ρ x with
  | .not,.val (.bool b)=>K ⟨.val (.bool !b),[],[]⟩ n
  | .neg,.val (.int k m)=>Iq k (0-m) λc=>K ⟨.val (.int k c),[],[]⟩ n
  | _,_=>False
 | .convert s d x=>
  match T s,T d,ρ x with
  | some _,some ⟨.int k,_,_,_⟩,.val (.int _ m)=>Iq k m λc=>K ⟨.val (.int k c),[],[]⟩ n
  | some _,some ⟨.float k,_,_,_⟩,.val (.int _ m)=>K ⟨.val (.float k (floatOfInt k m)),[],[]⟩ n
  | some _,some ⟨.int k,_,_,_⟩,.val (.float q m)=>Acs q m k λc=>K ⟨.val (.int k c),[],[]⟩ n
  | _,_,_=>False
 | .makeFunc (.func f) first u=>bif first.isEmpty then K ⟨.fn f (u.toList.map ρ),[],[]⟩ n else False
 | .makeSlice t x y=>
  match T t with
  | some ⟨.slice e,_,_,_⟩=>
   match T e with
   | some i'=>
    match ρ x,ρ y with
    | .val (.int _ l),.val (.int _ c)=>
     bif Nat.blt 0 i'.size&&Lw i'.size (Fv i')&&Nat.beq (Fv i').cells.length i'.zero.length&&X7 (Fv i') then
      Vb l c i'.bytes (Fv i') λl g=>K ⟨.arr n l 0 l,[(n,.none)],[(n,.rows e i'.size g)]⟩ (n+1)
     else False
    | _,_=>False
   | none=>False
  | _=>False
 | .slice t x lo hi none=>
  match T t with
  | some ⟨.slice e,_,_,_⟩=>
   match T e with
   | some i'=>
    match ρ x with
    | .sl sz xs=>
     match Ip ρ 0 lo,Ip ρ xs.length hi with
     | some l,some h=>bif Nat.beq sz i'.size then Sx xs l h λys=>K ⟨.sl sz ys,[],[]⟩ n else False
     | _,_=>False
    | .arr hd k off len=>
     match H hd with
     | .rows E sz xs=>
      match Ip ρ 0 lo,Ip ρ len hi with
      | some l,some h=>bif Nat.beq sz i'.size then Aco k xs len l h (λl h=>K ⟨.arr hd k (off+l) (h-l),[(hd,.rows E sz xs)],[]⟩ n) (K ⟨.sl i'.size [],[(hd,.rows E sz xs)],[]⟩ n) else False
      | _,_=>False
     | _=>False
    | _=>False
   | none=>False
  | some ⟨.string,_,_,_⟩=>
   match ρ x with
   | .val (.string s)=>
    match Ip ρ 0 lo,Ip ρ s.size hi with
    | some l,some h=>Acn s.size l h λl h=>K ⟨.val (.string (s.extract l h)),[],[]⟩ n
    | _,_=>False
   | _=>False
  | _=>False
 | .fieldAddr s x f=>
  match T s with
  | some ⟨.struct fs,_,_,_⟩=>
   match fs[f]? with
   | some q=>
    match ρ x with
    | .loc h off=>K ⟨.loc h (off+q.1),[],[]⟩ n
    | .ref cs=>K ⟨.ref (cs.drop q.1),[],[]⟩ n
    | .el h k m j=>
     match H h with
     | .rows E sz xs=>Hf k xs (K ⟨.el h k m (j+q.1),[(h,.rows E sz xs)],[]⟩ n)
     | _=>False
    | _=>False
   | none=>False
  | _=>False
 | .indexAddr t x y=>
  match T t with
  | some ⟨.slice e,_,_,_⟩=>
   match T e with
   | some i'=>
    match ρ x,ρ y with
    | .sl sz xs,.val (.int _ i)=>bif Nat.beq sz i'.size then X5 xs i λ_ z=>K ⟨.ref z.cells,[],[]⟩ n else False
    | .arr h k off len,.val (.int _ i)=>
     match H h with
     | .rows E sz xs=>bif Nat.beq sz i'.size then Sw len k xs i λm=>K ⟨.el h k (off+m) 0,[(h,.rows E sz xs)],[]⟩ n else False
     | _=>False
    | _,_=>False
   | none=>False
  | _=>False
 | .index t x y=>
  match T t with
  | some ⟨.string,_,_,_⟩=>
   match ρ x,ρ y with
   | .val (.string s),.val (.int _ i)=>Acp s i λc=>K ⟨.val (.int .u8 c.toNat),[],[]⟩ n
   | _,_=>False
  | _=>False
 | .field s x f=>
  match T s with
  | some ⟨.struct fs,_,_,_⟩=>
   match fs[f]? with
   | some q=>
    match ρ x with
    | .agg cs=>X6 P s f λY=>
     match T Y with
     | some I=>bif I.isAgg then (bif Nat.ble (q.1+I.size) cs.length then K ⟨.agg ((cs.drop q.1).take I.size),[],[]⟩ n else False) else
       match cs[q.1]? with
       | some c=>K ⟨c,[],[]⟩ n
       | none=>False
     | none=>False
    | _=>False
   | none=>False
  | _=>False
 | .makeMap _ none=>K ⟨.mp n,[(n,.none)],[(n,.map [])]⟩ (n+1)
 | .lookup t x y ok=>
  match T t with
  | some ⟨.map M X,_,_,_⟩=>
   match T M with
   | some ⟨.string,_,_,_⟩=>
    match T X with
    | some I=>
     match ρ x with
     | .mp h=>
      match ρ y with
      | .val (.string s)=>
       match H h with
       | .map es=>Anb s es λr=>K ⟨U7 ok I r,[(h,.map es)],[]⟩ n
       | _=>False
      | _=>False
     | _=>False
    | none=>False
   | some ⟨.struct _,_,_,_⟩=>
    match T X with
    | some I=>
     match ρ x with
     | .mp h=>
      match ρ y with
      | .agg N=>
       match Ja N with
       | some L=>
        match H h with
        | .map es=>Az6 P M L es λr=>K ⟨U7 ok I r,[(h,.map es)],[]⟩ n
        | _=>False
       | none=>False
      | _=>False
     | _=>False
    | none=>False
   | _=>False
  | _=>False
 | .mapUpdate t x y z=>
  match T t with
  | some ⟨.map M _,_,_,_⟩=>
   match T M with
   | some ⟨.string,_,_,_⟩=>
    match ρ x with
    | .mp h=>
     match ρ y with
     | .val (.string s)=>
      match H h with
      | .map es=>bif (ρ z).free1 then Lz (ρ z) λv=>Anc s v es λJ=>K ⟨.val undef,[(h,.map es)],[(h,.map J)]⟩ n else False
      | _=>False
     | _=>False
    | _=>False
   | some ⟨.struct _,_,_,_⟩=>
    match ρ x with
    | .mp h=>
     match ρ y with
     | .agg N=>
      match Ja N with
      | some L=>
       match H h with
       | .map es=>bif (ρ z).free1 then Lz (ρ z) λv=>Az7 P M N L v es λJ=>K ⟨.val undef,[(h,.map es)],[(h,.map J)]⟩ n else False
       | _=>False
      | none=>False
     | _=>False
    | _=>False
   | _=>False
  | _=>False
 | .extract x i=>
  match ρ x with
  | .tup cs=>
   match cs[i]? with
   | some c=>K ⟨c,[],[]⟩ n
   | none=>False
  | _=>False
 | .call c=>
  match c.callee with
  | .value x=>
   match ρ x with
   | .fn f u=>
    match an (o.dst.getD 0) with
    | .frz j=>
     (match (c.args.toList.map ρ ++ u)[j]? with
     | some (.arr h k 0 len)=>
      (match H h with
      | .rows E sz xs=>Hf k xs (Hf len xs (Anf P f ((c.args.toList.map ρ ++ u).set j (.sl sz xs)) λr=>K ⟨r,[(h,.rows E sz xs)],[(h,.dead)]⟩ n))
      | _=>False)
     | _=>False)
    | _=>Gb P n H f (c.args.toList.map ρ ++ u) K
   | _=>False
  | .invoke _ _=>False
  | .builtin .len=>
   match c.args.toList,c.argTypes.toList with
   | [x],[t]=>
    match T t with
    | some ⟨.slice _,_,_,_⟩=>
     match ρ x with
     | .sl _ xs=>
      match an (o.dst.getD 0) with
      | .ask=>Nk xs λc=>K ⟨.val (.int .i64 c),[],[]⟩ n
      | _=>K ⟨.val (.int .i64 xs.length),[],[]⟩ n
     | .val (.slice _ m _)=>K ⟨.val (.int .i64 m),[],[]⟩ n
     | .arr h k _ len=>
      match H h with
      | .rows E sz xs=>Hf k xs (K ⟨.val (.int .i64 len),[(h,.rows E sz xs)],[]⟩ n)
      | _=>False
     | _=>False
    | some ⟨.string,_,_,_⟩=>
     match ρ x with
     | .val (.string s)=>K ⟨.val (.int .i64 s.size),[],[]⟩ n
     | _=>False
    | _=>False
   | _,_=>False
  | .builtin .cap=>
   match c.args.toList,c.argTypes.toList with
   | [x],[t]=>
    match T t with
    | some ⟨.slice _,_,_,_⟩=>
     match ρ x with
     | .val (.slice _ _ m)=>K ⟨.val (.int .i64 m),[],[]⟩ n
     | _=>False
    | _=>False
   | _,_=>False
  | .builtin .copy=>
   match c.args.toList,c.argTypes.toList with
   | [x,y],[t,V]=>
    match T t with
    | some ⟨.slice e,_,_,_⟩=>
     match T e with
     | some i'=>
      match ρ y with
      | .arr h2 R B D=>
       match ρ x with
       | .arr h k off len=>
        match H h with
        | .rows E sz xs=>bif Nat.beq E e&&Nat.beq sz i'.size&&Nat.beq h h2&&Nat.blt 0 i'.size then
          Az5 xs k off len R B D (λg c=>K ⟨.val (.int .i64 c),[(h,.rows e i'.size xs)],[(h,.rows e i'.size g)]⟩ n) else False
        | _=>False
       | .sl _ []=>
        match H h2 with
        | .rows E sz xs=>bif Nat.beq sz i'.size then Hf R xs (K ⟨.val (.int .i64 0),[(h2,.rows E i'.size xs)],[]⟩ n) else False
        | _=>False
       | _=>False
      | _=>False
     | none=>False
    | _=>False
   | _,_=>False
  | .builtin .clear=>
   match c.args.toList,c.argTypes.toList with
   | [x],[t]=>
    match T t with
    | some ⟨.slice e,_,_,_⟩=>
     match T e with
     | some i'=>
      match ρ x with
      | .arr h k off len=>
       match H h with
       | .rows E sz xs=>bif Nat.beq E e&&Nat.beq sz i'.size&&Nat.blt 0 i'.size&&Lw i'.size (Fv i')&&Nat.beq (Fv i').cells.length i'.zero.length&&X7 (Fv i') then
         Ana xs k off len (Fv i') (λg=>K ⟨.tup [],[(h,.rows e i'.size xs)],[(h,.rows e i'.size g)]⟩ n) else False
       | _=>False
      | .sl _ []=>K ⟨.tup [],[],[]⟩ n
      | _=>False
     | none=>False
    | _=>False
   | _,_=>False
  | .builtin .append=>
   match c.args.toList,c.argTypes.toList with
   | [x,y],[t,V]=>
    match T t,T V with
    | some ⟨.slice e,_,_,_⟩,some ⟨.slice _,_,_,_⟩=>
     match T e with
     | some i'=>
      bif Nat.blt 0 i'.size&&Nat.beq i'.zero.length i'.size&&Nat.ble 1 i'.bytes then
       match ρ y with
       | .sl sz ys=>
        bif Nat.beq sz i'.size then
         match ρ x with
         | .arr h k 0 len=>
          match H h with
          | .rows E A xs=>bif Nat.beq E e&&Nat.beq A i'.size then
            Oe xs ys k len i'.bytes (λg m=>K ⟨.arr h m 0 m,[(h,.rows e i'.size xs)],[(h,.rows e i'.size g)]⟩ n) (λg G m=>K ⟨.arr h G 0 m,[(h,.rows e i'.size xs)],[(h,.rows e i'.size g)]⟩ n) else False
          | _=>False
         | .val (.slice none 0 0)=>Sy ys i'.bytes λg m=>K ⟨.arr n m 0 m,[(n,.none)],[(n,.rows e i'.size g)]⟩ (n+1)
         | .sl U S=>Az3 ys (K ⟨.sl U S,[],[]⟩ n)
         | _=>False
        else False
       | .arr h2 R B D=>
        match ρ x with
        | .arr h k 0 len=>
         match H h with
         | .rows E A xs=>bif Nat.beq E e&&Nat.beq A i'.size&&Nat.beq h h2 then
           Az4 xs k len R B D i'.bytes (λg G m=>K ⟨.arr h G 0 m,[(h,.rows e i'.size xs)],[(h,.rows e i'.size g)]⟩ n) else False
         | _=>False
        | _=>False
       | _=>False
      else False
     | none=>False
    | some ⟨.slice e,_,_,_⟩,some ⟨.string,_,_,_⟩=>
     match T e with
     | some i'=>
      bif Nat.beq i'.size 1&&Nat.beq i'.zero.length i'.size&&Nat.ble 1 i'.bytes then
       match ρ y with
       | .val (.string s)=>
        match ρ x with
        | .arr h k 0 len=>
         match H h with
         | .rows E A xs=>bif Nat.beq E e&&Nat.beq A i'.size then
           Oe xs (Jw s) k len i'.bytes (λg m=>K ⟨.arr h m 0 m,[(h,.rows e i'.size xs)],[(h,.rows e i'.size g)]⟩ n) (λ_ _ _=>False) else False
         | _=>False
        | _=>False
       | _=>False
      else False
     | none=>False
    | _,_=>False
   | _,_=>False
  | .builtin .max=>
   match c.args.toList,c.argTypes.toList with
   | [x,y],[_,_]=>
    match ρ x,ρ y with
    | .val (.int k a),.val (.int _ b)=>K ⟨.val (.int k (if b>a then b else a)),[],[]⟩ n
    | _,_=>False
   | _,_=>False
  | .builtin .min=>
   match c.args.toList,c.argTypes.toList with
   | [x,y],[_,_]=>
    match ρ x,ρ y with
    | .val (.int k a),.val (.int _ b)=>K ⟨.val (.int k (if b<a then b else a)),[],[]⟩ n
    | _,_=>False
   | _,_=>False
  | _=>False
 | _=>False
end Go.Ab
namespace Go.Ab
section
variable {P:Program} {o:Oper} {ρ:Operand->AV} {a:Act} {w w':World} {next:Act->World->Prop} {Q:Exit->Act->World->Prop}
def Vf (σ:A5) (w:World):A5:=λb=>match σ b with|none=>w.heap[b]? | some _=>none
theorem St.lend {σ:A5} {ι:B9} {H:Hp} {F:A5} {W:World} (s:St σ ι H F W w):St σ ι0 H0 (Vf σ w) W w:=by refine⟨s.sto,λb o hb=>?_,λh=>rfl,(λh h' b c=>by cases c),s.os,s.tape,s.output,s.glo,s.drw⟩;unfold Vf at hb;cases e:σ b with| none=>rw[e]at hb;exact⟨hb,rfl⟩| some _=>rw[e]at hb;cases hb
theorem St.unlend {σ k:A5} {ι:B9} {H:Hp} {F:A5} {W:World} (s:St σ ι H F W w) (g:σ.le k) (s':St k ι0 H0 (Vf σ w) W w'):St k ι H F W w':=by
 have key:∀b,σ b=none->∀o,w.heap[b]? = some o->w'.heap[b]? = some o/\k b=none:=by intro b hb o f;exact s'.fra b o (by unfold Vf;rw[hb];exact f)
 have le:Le σ ι H k ι H:=⟨g,λ_=>HLe.refl _ _⟩;refine⟨s'.sto,λb o hb=>?_,λh=>?_,s.inj,s'.os,s'.tape,s'.output,s'.glo,s'.drw⟩
 .obtain⟨h1,h2⟩:=s.fra b o hb;exact key b h2 o h1
 .have f:=s.obj h;unfold C1 at f ⊢;cases hh:H h with
  | none=>rw[hh]at f;exact f
  | dead=>trivial
  | cells E cs=>rw[hh]at f;obtain⟨b,C,j,h1,h2,h3,z,B⟩:=f;obtain⟨u,l⟩:=key b h1 _ h3;exact⟨b,C,j,l,h2,u,z,λi c v x y=>(B i c v x y).mono le⟩
  | rows E sz xs=>
   rw[hh]at f;obtain⟨D,z2,⟨j,I⟩|⟨b,A,C,j,h1,h2,h3,z,B,G⟩⟩:=f
   .exact⟨D,z2,.inl ⟨j,I⟩⟩
   .obtain⟨u,l⟩:=key b h1 _ h3;exact⟨D,z2,.inr ⟨b,A,C,j,l,h2,u,z,B,G.mono g⟩⟩
  | map es=>rw[hh]at f;obtain⟨b,M,q,j,h1,h2,h3,z⟩:=f;obtain⟨u,l⟩:=key b h1 _ h3;exact⟨b,M,q,j,l,h2,u,z.mono g⟩
theorem Conc.of0 {σ:A5} {ι:B9} {H:Hp} {x:AV} {v:Value} (h:Conc σ ι0 H0 x v):Conc σ ι H x v:=by induction h with| cc h=>exact .cc h| loc h off b hb=>cases hb| mp h b hb=>cases hb| arr h k off len v s hv c=>exact (s rfl).elim| el h k i j v s hv c=>exact (s rfl).elim| ref cs b off C E fr g u hc h1 y=>exact .ref cs b off C E fr g u hc h1 y| agg cs vs l _ ih=>exact .agg cs vs l ih| tup cs vs l _ ih=>exact .tup cs vs l ih| fn f q vs l _ ih=>exact .fn f q vs l ih
theorem Az9 {x:AV} (h:x.free1=true) (hx:∀cs,x≠.agg cs):x.cl1=true:=by cases x <;> first|exact h|exact (hx _ rfl).elim
theorem Conc.to0 {σ:A5} {ι:B9} {H:Hp} {x:AV} {v:Value} (hx:x.free=true) (h:Conc σ ι H x v):Conc σ ι0 H0 x v:=by
 have key:∀(cs:List AV),cs.all AV.cl1=true->∀(i:Nat) (c:AV) (u:Value),cs[i]? = some c->Conc σ ι H c u->Conc σ ι0 H0 c u:=by intro cs s i c u hc h;exact .cc (h.cc_of (D6.1 s c (F6 hc))).1
 cases h with
 | cc h=>exact .cc h
 | loc=>cases hx
 | mp=>cases hx
 | arr=>cases hx
 | el=>cases hx
 | ref cs b off C E fr g A hc h1 B=>exact .ref cs b off C E fr g A hc h1 B
 | agg cs vs l h=>exact .agg cs vs l λi c u h1 h2=>key cs hx i c u h1 (h i c u h1 h2)
 | tup cs vs l h=>refine .tup cs vs l λi c u h1 h2=>?_;have y:=D6.1 hx c (F6 h1);have hc:=h i c u h1 h2;cases c with| agg ds=>obtain⟨z,rfl,q,hv⟩:=hc.agg_inv;exact .agg ds z q λj d v g1 g2=>key ds y j d v g1 (hv j d v g1 g2)| _=>exact .cc (hc.cc_of (Az9 y (by intro cs e;cases e))).1
 | fn f k vs l h=>exact .fn f k vs l λi c u h1 h2=>key k hx i c u h1 (h i c u h1 h2)
theorem Conc.fn_inv {σ:A5} {ι:B9} {H:Hp} {f:FuncId} {b:List AV} {v:Value} (h:Conc σ ι H (.fn f b) v) : ∃vs:Array Value,v = .func (.func f) #[] vs/\vs.size=b.length/\∀(i:Nat) (c:AV) (u:Value),b[i]? = some c->vs[i]? = some u->Conc σ ι H c u:=by cases h with| cc h=>cases h| fn _ _ vs g h=>exact⟨vs,rfl,g,h⟩
theorem Ahu {σ:A5} {ι:B9} {H:Hp} {xs:Array Operand} {b:List AV} {vs:Array Value} (hx:∀x∈xs.toList,Conc σ ι H (ρ x) (a.eval x)) (g:vs.size=b.length) (hv:∀(i:Nat) (c:AV) (u:Value),b[i]? = some c->vs[i]? = some u->Conc σ ι H c u):Nj σ ι H (xs.toList.map ρ ++ b) (xs.map a.eval++vs):=by
 refine⟨by simp[g],λi c u h1 h2=>?_⟩;by_cases f:i<xs.size
 .rw[List.getElem?_append_left (by simpa using f),List.getElem?_map,Gm]at h1;rw[Array.getElem?_append_left (by simpa using f),Array.getElem?_map]at h2;simp[f]at h1 h2;subst h1;subst h2;exact hx _ ψ
 .rw[List.getElem?_append_right ζ]at h1;rw[Array.getElem?_append_right ζ]at h2;simp at h1 h2;exact hv _ c u h1 h2
theorem A0a {c:Call} {x:Operand} {f:FuncId} {g:List AV} {r:AV} (G:o.op = .call c) (h:c.callee = .value x) (hx:ρ x = .fn f g) (hp:Az P f (c.args.toList.map ρ ++ g) r) (l:(c.args.toList.map ρ ++ g).all AV.free=true):Cl P o ρ ⟨r,[],[]⟩:=by
 intro σ ι H F W w a next Q s B _ hk
 obtain⟨⟨fn,M,k,q⟩,hp⟩:=hp;have z:=B x (by simp[G,Op.operands,Call.operands,h]);rw[hx]at z;obtain⟨vs,hv,L,E⟩:=z.fn_inv;have j:Nj σ ι H (c.args.toList.map ρ ++ g) (c.args.map a.eval++vs) :=
  Ahu (λy hy=>B y (by simp only[G,Op.operands,Call.operands,h];simp at hy ⊢;exact .inr hy)) L E
 have A:(execOp a.eval o).run P w = .ok (.enter f (c.args.map a.eval++vs)) w:=by have I:(callFunc f (c.args.map a.eval++vs)).run P w = .ok (.enter f (c.args.map a.eval++vs)) w:=(by unfold callFunc;simp only[Sem.run_bind,program,Sem.run,Result.andThen_ok,M,k,q,Bool.false_eq_true,if_false,Sem.run_pure]);simp only[execOp,G,resolve,h,hv,Deferred.ofValue,invoke,Sem.run_bind,Sem.run_pure,Result.andThen_ok,Array.empty_append,I]
 unfold Oper.wp;rw[A];simp only[Oper.upon];refine (hp σ (Vf σ w) W w (c.args.map a.eval++vs) s.lend ⟨j.1,λi b u h1 h2=>(j.2 i b u h1 h2).to0 (D6.1 l b (F6 h1))⟩).mono ?_;rintro e w' ⟨v,J,rfl,D,s',hc⟩;exact hk J ι v w' ⟨D,λ_=>HLe.refl _ _⟩ (s.unlend D s') hc.of0
theorem A0b {c:Call} {x:Operand} {f:FuncId} {g:List AV} {r:AV} {j h sz:Nat} {E:TypeId} {xs:List AV} (S:o.op = .call c) (k:c.callee = .value x) (hx:ρ x = .fn f g) (hj:(c.args.toList.map ρ ++ g)[j]? = some (.arr h xs.length 0 xs.length)) (hp:Az P f ((c.args.toList.map ρ ++ g).set j (.sl sz xs)) r) (A:((c.args.toList.map ρ ++ g).set j (.sl sz xs)).all AV.free=true):Cl P o ρ ⟨r,[(h,.rows E sz xs)],[(h,.dead)]⟩:=by
 intro σ ι H F W w a next Q s J R hk
 have hh:H h = .rows E sz xs:=R (h,.rows E sz xs) ψ;obtain⟨⟨fn,hf,z,B⟩,hp⟩:=hp;have G:=J x (by simp[S,Op.operands,Call.operands,k]);rw[hx]at G;obtain⟨vs,hv,hl,M⟩:=G.fn_inv;have q:Nj σ ι H (c.args.toList.map ρ ++ g) (c.args.map a.eval++vs) :=
  Ahu (λy hy=>J y (by simp only[S,Op.operands,Call.operands,k];simp at hy ⊢;exact .inr hy)) hl M
 obtain⟨N,D,Y,V⟩:=s.freeze hh;have l:Nj N ι (Bg H h .dead) ((c.args.toList.map ρ ++ g).set j (.sl sz xs)) (c.args.map a.eval++vs):=by
  refine⟨by rw[List.length_set];exact q.1,λi b u h1 h2=>?_⟩;rw[List.getElem?_set]at h1;split at h1
  .rename_i U;split at h1
   .cases h1;subst U;have hc:=q.2 j _ u hj h2;have:=V 0 xs.length _ ω (hc.arr_inv hh rfl);rw[List.drop_zero,List.take_of_length_le ω]at this;exact .cc this
   .cases h1
  .exact (q.2 i b u h1 h2).mono D
 have I:(execOp a.eval o).run P w = .ok (.enter f (c.args.map a.eval++vs)) w:=by have X:(callFunc f (c.args.map a.eval++vs)).run P w = .ok (.enter f (c.args.map a.eval++vs)) w:=(by unfold callFunc;simp only[Sem.run_bind,program,Sem.run,Result.andThen_ok,hf,z,B,Bool.false_eq_true,if_false,Sem.run_pure]);simp only[execOp,S,resolve,k,hv,Deferred.ofValue,invoke,Sem.run_bind,Sem.run_pure,Result.andThen_ok,Array.empty_append,X]
 unfold Oper.wp;rw[I];simp only[Oper.upon];refine (hp N (Vf N w) W w (c.args.map a.eval++vs) Y.lend ⟨l.1,λi b u h1 h2=>(l.2 i b u h1 h2).to0 (D6.1 A b (F6 h1))⟩).mono ?_;rintro e w' ⟨v,Z,rfl,L,s',hc⟩;exact hk Z ι v w' (D.trans ⟨L,λ_=>HLe.refl _ _⟩) (Y.unlend L s') hc.of0
end
end Go.Ab
namespace Go.Ab
theorem Hu {a b:Nat} (h:Nat.blt a b=true):a<b:=Gu h
theorem Ahv {es:Nat->Nat} {o:Bu}:Jj es o = .none↔o = .none:=by cases o <;> simp[Jj]
theorem Acw {es:Nat->Nat} {o:Bu}:(Jj es o).live=o.live:=by cases o <;> rfl
theorem Ahw {es:Nat->Nat} {o:Bu} {E:TypeId} {sz:Nat} {xs:List AV}:Jj es o = .rows E sz xs↔o = .rows E sz xs:=by cases o <;> simp[Jj]
section
variable {es:Nat->Nat} {m:Nat} {σ:A5} {ι ιl:B9} {H Hl:Hp}
theorem Pb (f:∀k,k<m->ιl k=ι (es k)) (A:∀k,k<m->H (es k)=Jj es (Hl k)) {x:AV} {v:Value} (hx:x.under0 m=true):Conc σ ι H (Ahl es x) v↔Conc σ ιl Hl x v:=by
 have rows:∀k,k<m->∀E sz xs,H (es k) = .rows E sz xs↔Hl k = .rows E sz xs:=λk hk E sz xs=>by rw[A k hk];exact Ahw
 have some:∀k,k<m->(H (es k)≠.none↔Hl k≠.none):=λk hk=>by rw[A k hk];exact not_congr Ahv
 constructor
 .intro h;cases x with
  | val u=>cases h with|cc h=>exact .cc h
  | sl sz xs=>cases h with|cc h=>exact .cc h
  | fb s=>cases h with|cc h=>exact .cc h
  | ref cs=>cases h with| cc h=>exact .cc h| ref cs b off C E fr g y hc h1 z=>exact .ref cs b off C E fr g y hc h1 z
  | loc k off=>have hk:=Hu hx;cases h with| cc h=>cases h| loc _ _ b hb=>exact .loc k off b (by rw[f k hk];exact hb)
  | mp k=>have hk:=Hu hx;cases h with| cc h=>cases h| mp _ b hb=>exact .mp k b (by rw[f k hk];exact hb)
  | arr k q off len=>have hk:=Hu hx;cases h with| cc h=>cases h| arr _ _ _ _ _ l hv c=>exact .arr k q off len v ((some k hk).1 l) (λE sz xs e=>by rw[f k hk];exact hv E sz xs ((rows k hk E sz xs).2 e)) c
  | el k q i j=>have hk:=Hu hx;cases h with| cc h=>cases h| el _ _ _ _ _ l hv c=>exact .el k q i j v ((some k hk).1 l) (λE sz xs e=>by rw[f k hk];exact hv E sz xs ((rows k hk E sz xs).2 e)) c
  | agg=>cases hx
  | tup=>cases hx
  | fn=>cases hx
 .intro h;cases x with
  | val u=>cases h with|cc h=>exact .cc h
  | sl sz xs=>cases h with|cc h=>exact .cc h
  | fb s=>cases h with|cc h=>exact .cc h
  | ref cs=>cases h with| cc h=>exact .cc h| ref cs b off C E fr g y hc h1 z=>exact .ref cs b off C E fr g y hc h1 z
  | loc k off=>have hk:=Hu hx;cases h with| cc h=>cases h| loc _ _ b hb=>exact .loc (es k) off b (by rw[<-f k hk];exact hb)
  | mp k=>have hk:=Hu hx;cases h with| cc h=>cases h| mp _ b hb=>exact .mp (es k) b (by rw[<-f k hk];exact hb)
  | arr k q off len=>have hk:=Hu hx;cases h with| cc h=>cases h| arr _ _ _ _ _ l hv c=>exact .arr (es k) q off len v ((some k hk).2 l) (λE sz xs e=>by rw[<-f k hk];exact hv E sz xs ((rows k hk E sz xs).1 e)) c
  | el k q i j=>have hk:=Hu hx;cases h with| cc h=>cases h| el _ _ _ _ _ l hv c=>exact .el (es k) q i j v ((some k hk).2 l) (λE sz xs e=>by rw[<-f k hk];exact hv E sz xs ((rows k hk E sz xs).1 e)) c
  | agg=>cases hx
  | tup=>cases hx
  | fn=>cases hx
theorem I4 (b:∀k,k<m->ιl k=ι (es k)) (g:∀k,k<m->H (es k)=Jj es (Hl k)) {x:AV} {v:Value} (hx:x.under1 m=true):Conc σ ι H (Od es x) v↔Conc σ ιl Hl x v:=by
 have cells:∀{cs:List AV},cs.all (AV.under0 m)=true->∀(i:Nat) (c:AV),cs[i]? = some c->∀u,(Conc σ ι H (Ahl es c) u↔Conc σ ιl Hl c u) :=
  λq i c hc u=>Pb b g (D6.1 q c (F6 hc));cases x with
 | fn f cs=>
  constructor
  .intro h;obtain⟨vs,rfl,l,h⟩:=h.fn_inv;exact .fn f cs vs (by simpa using l) λi c u h1 h2=>(cells hx i c h1 u).1 (h i _ u (by simp[h1]) h2)
  .intro h;obtain⟨vs,rfl,l,h⟩:=h.fn_inv;refine .fn f _ vs (by simpa using l) λi c u h1 h2=>?_;rw[List.getElem?_map]at h1;cases hc:cs[i]? with| none=>rw[hc]at h1;cases h1| some y=>rw[hc]at h1;cases h1;exact (cells hx i y hc u).2 (h i y u hc h2)
 | agg cs=>cases hx
 | tup cs=>cases hx
 | val u=>exact Pb (x:=(.val u)) b g hx
 | loc h off=>exact Pb (x:=(.loc h off)) b g hx
 | arr h k off len=>exact Pb (x:=(.arr h k off len)) b g hx
 | el h k i j=>exact Pb (x:=(.el h k i j)) b g hx
 | mp h=>exact Pb (x:=(.mp h)) b g hx
 | ref cs=>exact Pb (x:=(.ref cs)) b g hx
 | sl sz xs=>exact Pb (x:=(.sl sz xs)) b g hx
 | fb s=>exact Pb (x:=(.fb s)) b g hx
theorem A0c {n:Nat} {x:AV} (h:x.under0 n=true):x.under1 n=true:=by cases x <;> first|exact h|cases h
theorem Ahx {n:Nat} {x:AV} (h:x.under1 n=true):x.under n=true:=by cases x with| fn f cs=>exact D6.2 λc hc=>A0c (D6.1 h c hc)| agg cs=>cases h| tup cs=>cases h| _=>exact h
theorem A0d (b:∀k,k<m->ιl k=ι (es k)) (g:∀k,k<m->H (es k)=Jj es (Hl k)) {x:AV} {v:Value} (hx:x.under2 m=true):Conc σ ι H (Ahm es x) v↔Conc σ ιl Hl x v:=by
 have cells:∀{cs:List AV},cs.all (AV.under1 m)=true->∀(i:Nat) (c:AV),cs[i]? = some c->∀u,(Conc σ ι H (Od es c) u↔Conc σ ιl Hl c u) :=
  λq i c hc u=>I4 b g (D6.1 q c (F6 hc));cases x with
 | agg cs=>
  constructor
  .intro h;obtain⟨vs,rfl,l,h⟩:=h.agg_inv;exact .agg cs vs (by simpa using l) λi c u h1 h2=>(cells hx i c h1 u).1 (h i _ u (by simp[h1]) h2)
  .intro h;obtain⟨vs,rfl,l,h⟩:=h.agg_inv;refine .agg _ vs (by simpa using l) λi c u h1 h2=>?_;rw[List.getElem?_map]at h1;cases hc:cs[i]? with| none=>rw[hc]at h1;cases h1| some y=>rw[hc]at h1;cases h1;exact (cells hx i y hc u).2 (h i y u hc h2)
 | tup cs=>cases hx
 | fn f cs=>exact I4 (x:=(.fn f cs)) b g hx
 | val u=>exact I4 (x:=(.val u)) b g hx
 | loc h off=>exact I4 (x:=(.loc h off)) b g hx
 | arr h k off len=>exact I4 (x:=(.arr h k off len)) b g hx
 | el h k i j=>exact I4 (x:=(.el h k i j)) b g hx
 | mp h=>exact I4 (x:=(.mp h)) b g hx
 | ref cs=>exact I4 (x:=(.ref cs)) b g hx
 | sl sz xs=>exact I4 (x:=(.sl sz xs)) b g hx
 | fb s=>exact I4 (x:=(.fb s)) b g hx
theorem Anh (l:∀k,k<m->ιl k=ι (es k)) (q:∀k,k<m->H (es k)=Jj es (Hl k)) {x:AV} {v:Value} (hx:x.under m=true):Conc σ ι H (ren es x) v↔Conc σ ιl Hl x v:=by
 have cells:∀{cs:List AV},cs.all (AV.under1 m)=true->∀(i:Nat) (c:AV),cs[i]? = some c->∀u,(Conc σ ι H (Od es c) u↔Conc σ ιl Hl c u) :=
  λz i c hc u=>I4 l q (D6.1 z c (F6 hc));have b:∀{cs:List AV},cs.all (AV.under2 m)=true->∀(i:Nat) (c:AV),cs[i]? = some c->∀u,(Conc σ ι H (Ahm es c) u↔Conc σ ιl Hl c u) :=
  λz i c hc u=>A0d l q (D6.1 z c (F6 hc));cases x with
 | agg cs=>
  constructor
  .intro h;obtain⟨vs,rfl,g,h⟩:=h.agg_inv;exact .agg cs vs (by simpa using g) λi c u h1 h2=>(cells hx i c h1 u).1 (h i _ u (by simp[h1]) h2)
  .intro h;obtain⟨vs,rfl,g,h⟩:=h.agg_inv;refine .agg _ vs (by simpa using g) λi c u h1 h2=>?_;rw[List.getElem?_map]at h1;cases hc:cs[i]? with| none=>rw[hc]at h1;cases h1| some y=>rw[hc]at h1;cases h1;exact (cells hx i y hc u).2 (h i y u hc h2)
 | tup cs=>
  constructor
  .intro h;obtain⟨vs,rfl,g,h⟩:=h.tup_inv;exact .tup cs vs (by simpa using g) λi c u h1 h2=>(b hx i c h1 u).1 (h i _ u (by simp[h1]) h2)
  .intro h;obtain⟨vs,rfl,g,h⟩:=h.tup_inv;refine .tup _ vs (by simpa using g) λi c u h1 h2=>?_;rw[List.getElem?_map]at h1;cases hc:cs[i]? with| none=>rw[hc]at h1;cases h1| some y=>rw[hc]at h1;cases h1;exact (b hx i y hc u).2 (h i y u hc h2)
 | fn f cs=>
  constructor
  .intro h;obtain⟨vs,rfl,g,h⟩:=h.fn_inv;exact .fn f cs vs (by simpa using g) λi c u h1 h2=>(cells hx i c h1 u).1 (h i _ u (by simp[h1]) h2)
  .intro h;obtain⟨vs,rfl,g,h⟩:=h.fn_inv;refine .fn f _ vs (by simpa using g) λi c u h1 h2=>?_;rw[List.getElem?_map]at h1;cases hc:cs[i]? with| none=>rw[hc]at h1;cases h1| some y=>rw[hc]at h1;cases h1;exact (cells hx i y hc u).2 (h i y u hc h2)
 | val u=>exact I4 (x:=(.val u)) l q hx
 | loc h off=>exact I4 (x:=(.loc h off)) l q hx
 | arr h k off len=>exact I4 (x:=(.arr h k off len)) l q hx
 | el h k i j=>exact I4 (x:=(.el h k i j)) l q hx
 | mp h=>exact I4 (x:=(.mp h)) l q hx
 | ref cs=>exact I4 (x:=(.ref cs)) l q hx
 | sl sz xs=>exact I4 (x:=(.sl sz xs)) l q hx
 | fb s=>exact I4 (x:=(.fb s)) l q hx
theorem Ani (z:∀k,k<m->ιl k=ι (es k)) (A:∀k,k<m->H (es k)=Jj es (Hl k)) {F D:A5} {w:World} {k:Nat} (hk:k<m) (hu:(Hl k).under m=true) (h:∀b,(Hl k).live=true->(ιl k).block? = some b->(F b=none↔D b=none)):C1 σ ι H F w (es k)↔C1 σ ιl Hl D w k:=by
 have cells:∀{cs:List AV},cs.all (AV.under1 m)=true->∀(i:Nat) (c:AV),cs[i]? = some c->∀u,(Conc σ ι H (Od es c) u↔Conc σ ιl Hl c u) :=
  λs i c hc u=>I4 z A (D6.1 s c (F6 hc));unfold C1;rw[A k hk,<-z k hk];cases hx:Hl k with
 | none=>exact Iff.rfl
 | dead=>exact Iff.rfl
 | map l=>
  simp only[Jj];rw[hx]at h;constructor
  .rintro⟨b,M,q,f,h1,h2,h3⟩;exact⟨b,M,q,f,h1,(h b rfl (by rw[f];rfl)).1 h2,h3⟩
  .rintro⟨b,M,q,f,h1,h2,h3⟩;exact⟨b,M,q,f,h1,(h b rfl (by rw[f];rfl)).2 h2,h3⟩
 | rows E sz xs=>
  simp only[Jj];rw[hx]at h;refine and_congr Iff.rfl (and_congr Iff.rfl (or_congr Iff.rfl ?_));constructor
  .rintro⟨b,j,C,f,h1,h2,h3⟩;exact⟨b,j,C,f,h1,(h b rfl (by rw[f];rfl)).1 h2,h3⟩
  .rintro⟨b,j,C,f,h1,h2,h3⟩;exact⟨b,j,C,f,h1,(h b rfl (by rw[f];rfl)).2 h2,h3⟩
 | cells E cs=>
  simp only[Jj];rw[hx]at h hu;constructor
  .rintro⟨b,C,f,h1,h2,h3,y,x⟩;refine⟨b,C,f,h1,(h b rfl (by rw[f];rfl)).1 h2,h3,by simpa using y,λi c v hc hv=>(cells hu i c hc v).1 (x i _ v (by simp[hc]) hv)⟩
  .rintro⟨b,C,f,h1,h2,h3,y,x⟩;refine⟨b,C,f,h1,(h b rfl (by rw[f];rfl)).2 h2,h3,by simpa using y,λi c v hc hv=>?_⟩;rw[List.getElem?_map]at hc;cases g:cs[i]? with| none=>rw[g]at hc;cases hc| some B=>rw[g]at hc;cases hc;exact (cells hu i B g v).2 (x i B v g hv)
end
theorem Anj {n:Nat}:∀{l:List Nat} {k:Nat},Pa n l=true->k<l.length->Es n l k<n
 | [],k,_,h=>by simp at h
 | h::l,0,b,_=>by simp only[Pa,Fq]at b;exact Hu b.1.1
 | h::l,k+1,b,hk=>by simp only[Pa,Fq]at b;exact Anj (l:=l) b.2 (by simpa using hk)
theorem X8 {n:Nat}:∀{l:List Nat} {k:Nat},l.length<=k->Es n l k=n+(k-l.length)
 | [],k,_=>by simp[Es]
 | h::l,0,hk=>by simp at hk
 | h::l,k+1,hk=>by simp only[Es,List.length_cons];rw[X8 (l:=l) (by simpa using hk)];omega
theorem Ahy {n:Nat}:∀{l:List Nat} {k:Nat},k<l.length->Es n l k∈l
 | [],k,h=>by simp at h
 | h::l,0,_=>by simp[Es]
 | h::l,k+1,hk=>by simp only[Es];exact List.mem_cons_of_mem _ (Ahy (by simpa using hk))
theorem Ank {n:Nat}:∀{l:List Nat} {j k:Nat},Pa n l=true->Es n l j=Es n l k->j=k
 | [],j,k,_,h=>by simp only[Es]at h;omega
 | h::l,0,0,_,_=>rfl
 | h::l,j+1,k+1,b,e=>by simp only[Pa,Fq]at b;simp only[Es]at e;rw[Ank (l:=l) b.2 e]
 | h::l,0,k+1,b,e=>by
  simp only[Pa,Fq]at b;simp only[Es]at e;rcases Nat.lt_or_ge k l.length with hk|hk
  .have:=Ahy (n:=n) hk;rw[<-e]at this;simp[this]at b
  .have h1:=X8 (n:=n) hk;have h2:=Hu b.1.1;omega
 | h::l,j+1,0,b,e=>by
  simp only[Pa,Fq]at b;simp only[Es]at e;rcases Nat.lt_or_ge j l.length with hk|hk
  .have:=Ahy (n:=n) hk;rw[e]at this;simp[this]at b
  .have h1:=X8 (n:=n) hk;have h2:=Hu b.1.1;omega
theorem Anl {es:Nat->Nat}:∀{os:List Bu} {k i:Nat} {o:Bu},os[i]? = some o->(es (k+i),Jj es o)∈wrs es k os
 | [],k,i,o,h=>by simp at h
 | p::os,k,0,o,h=>by simp at h;subst h;simp[wrs]
 | p::os,k,i+1,o,h=>by simp only[wrs];refine List.mem_cons_of_mem _ ?_;have:=Anl (es:=es) (k:=k+1) (i:=i) (by simpa using h);rwa [show k+(i+1)=k+1+i by omega]
theorem Acx {es:Nat->Nat}:∀{os:List Bu} {k x:Nat} {H:Hp},(∀i,i<os.length->es (k+i)≠x)->C2 H (wrs es k os) x=H x
 | [],k,x,H,h=>rfl
 | q::os,k,x,H,h=>by simp only[wrs,C2];rw[Acx (λi hi=>by rw[show k+1+i=k+(i+1) by omega];exact h (i+1) (by simpa using hi)),Di _ _ (Ne.symm (by simpa using h 0 ψ))]
theorem Anm {es:Nat->Nat} (b:∀i j,es i=es j->i=j):∀{os:List Bu} {k i:Nat} {o:Bu} {H:Hp},os[i]? = some o->C2 H (wrs es k os) (es (k+i))=Jj es o
 | [],k,i,o,H,h=>by simp at h
 | q::os,k,0,o,H,h=>by simp at h;subst h;simp only[wrs,C2];rw[Acx (λi hi e=>by have:=b _ _ e;omega)];exact Cy _ _ _
 | q::os,k,i+1,o,H,h=>by simp only[wrs,C2];rw[show k+(i+1)=k+1+i by omega];exact Anm b (by simpa using h)
theorem Ano {es:Nat->Nat}:∀{c k i:Nat},i<c->(es (k+i),Bu.none)∈Cp es k c
 | 0,k,i,h=>ω
 | c+1,k,0,h=>by simp[Cp]
 | c+1,k,i+1,h=>by simp only[Cp];refine List.mem_cons_of_mem _ ?_;have:=Ano (es:=es) (c:=c) (k:=k+1) (i:=i) ω;rwa [show k+(i+1)=k+1+i by omega]
theorem Anp {es:Nat->Nat}:∀{c k:Nat} {p:Nat×Bu},p∈Cp es k c->∃i,i<c/\p=(es (k+i),Bu.none)
 | 0,k,p,h=>by simp[Cp]at h
 | c+1,k,p,h=>by
  simp only[Cp,List.mem_cons]at h;rcases h with rfl|h
  .exact⟨0,ω,rfl⟩
  .obtain⟨i,h1,h2⟩:=Anp h;exact⟨i+1,ω,by rw[h2,show k+(i+1)=k+1+i by omega]⟩
theorem Sv.spec {H:Hp}:∀{l:List (Nat×Bu)},Sv H l->∀p∈l,H p.1=p.2
 | [],_,p,hp=>by cases hp
 | q::l,h,p,hp=>by
  rcases List.mem_cons.1 hp with rfl|hp
  .exact h.1
  .exact Sv.spec h.2 p hp
theorem X9 {b:List Bu} {k:Nat} (h:k<b.length):b[k]? = some (hp b k):=by simp[hp,h]
theorem Qq {b:List Bu} {k:Nat} (h:b.length<=k):hp b k = .none:=by simp[hp,List.getElem?_eq_none h]
section
variable {P:Program} {o:Oper} {ρ:Operand->AV} {a:Act} {w w':World}
open Classical in
theorem A0e {n:Nat} {c:Call} {x:Operand} {f:FuncId} {caps:List AV} {l:List Nat} {largs:List AV} {hs:List Bu} {r:AV} {hs':List Bu} (ho:o.op = .call c) (hcal:c.callee = .value x) (hx:ρ x = .fn f caps) (hp0:Bt P f largs hs r hs') (ha:largs.map (ren (Es n l))=c.args.toList.map ρ ++ caps) (ok:Va n l largs hs r hs'=true) : Cl P o ρ ⟨ren (Es n l) r,wrs (Es n l) 0 hs++Cp (Es n l) l.length (hs'.length-l.length),wrs (Es n l) 0 hs'⟩:=by
 intro σ ι H F W w a next Q s hop hrd hk
 simp only[Va,Fq]at ok;obtain⟨⟨⟨⟨⟨⟨o1,o2⟩,o3⟩,o4⟩,o5⟩,o6⟩,o7⟩:=ok;have o2:=Gv o2;have o3:=Gu o3;generalize hes:Es n l=es at *;have inj:∀i j,es i=es j->i=j:=λi j e=>by rw[<-hes]at e;exact Ank o1 e
 obtain⟨⟨fn,hf,hname,hbody⟩,hpp⟩:=hp0;have hxv:=hop x (by simp[ho,Op.operands,Call.operands,hcal]);rw[hx]at hxv;obtain⟨vs,hv,hl,hcap⟩:=hxv.fn_inv;have hall:Nj σ ι H (c.args.toList.map ρ ++ caps) (c.args.map a.eval++vs) :=
  Ahu (λy hy=>hop y (by simp only[ho,Op.operands,Call.operands,hcal];simp at hy ⊢;exact .inr hy)) hl hcap
 have hrun:(execOp a.eval o).run P w = .ok (.enter f (c.args.map a.eval++vs)) w:=by have hcf:(callFunc f (c.args.map a.eval++vs)).run P w = .ok (.enter f (c.args.map a.eval++vs)) w:=(by unfold callFunc;simp only[Sem.run_bind,program,Sem.run,Result.andThen_ok,hf,hname,hbody,Bool.false_eq_true,if_false,Sem.run_pure]);simp only[execOp,ho,resolve,hcal,hv,Deferred.ofValue,invoke,Sem.run_bind,Sem.run_pure,Result.andThen_ok,Array.empty_append,hcf]
 unfold Oper.wp;rw[hrun];simp only[Oper.upon];have hgiven:∀k,k<hs.length->H (es k)=Jj es (hp hs k):=by intro k hk';have:=hrd _ (List.mem_append_left _ (Anl (es:=es) (k:=0) (X9 hk')));simpa using this
 have hnew:∀k,hs.length<=k->k<hs'.length->H (es k) = .none:=by intro k h1 h2;have:=hrd _ (List.mem_append_right _ (Ano (es:=es) (k:=l.length) (c:=hs'.length-l.length) (i:=k-l.length) ω));rwa [show l.length+(k-l.length)=k by omega]at this
 let ιl:B9:=λk=>if k<hs.length then ι (es k) else .none
 let mine:Nat->Prop:=λb=>∃k,k<hs.length/\(hp hs k).live=true/\(ι (es k)).block? = some b
 let Fl:A5:=λb=>if σ b=none/\¬mine b then w.heap[b]? else none
 have hιl:∀k,k<hs.length->ιl k=ι (es k):=λk h=>if_pos h;have hlive:∀k,k<hs.length->(H (es k)).live=(hp hs k).live:=λk h=>by rw[hgiven k h,Acw]
 have hunder:∀k,k<hs.length->(hp hs k).under hs.length=true:=by intro k h;have:=D6.1 o5 _ (F6 (X9 h));rw[o2];exact this
 have hFb:∀k,k<hs.length->∀b,(hp hs k).live=true->(ιl k).block? = some b->F b=none/\Fl b=none:=by intro k h b h1 h2;rw[hιl k h]at h2;exact⟨(s.block (by rw[hlive k h];exact h1) h2).2.2,if_neg (λhn=>hn.2 ⟨k,h,h1,h2⟩)⟩
 have sl:St σ ιl (hp hs) Fl W w:=by
  refine⟨s.sto,λb ob hb=>?_,λk=>?_,λk k' b h1 h2 h3 h4=>?_,s.os,s.tape,s.output,s.glo,s.drw⟩
  .by_cases hc:σ b=none/\¬mine b
   .simp only[Fl,if_pos hc]at hb;exact⟨hb,hc.1⟩
   .simp only[Fl,if_neg hc]at hb;cases hb
  .by_cases hk':k<hs.length
   .refine (Ani (es:=es) hιl hgiven hk' (hunder k hk') (λb h1 h2=>?_)).1 (s.obj (es k));obtain⟨h3,h4⟩:=hFb k hk' b h1 h2;rw[h3,h4]
   .unfold C1;rw[Qq ω];exact if_neg hk'
  .have lt:∀k,(hp hs k).live=true->k<hs.length:=by
    intro k h;rcases Nat.lt_or_ge k hs.length with h'|h'
    .exact h'
    .rw[Qq h']at h;cases h
   have k1:=lt k h1;have k2:=lt k' h2;rw[hιl k k1]at h3;rw[hιl k' k2]at h4;exact inj _ _ (s.inj _ _ b (by rw[hlive k k1];exact h1) (by rw[hlive k' k2];exact h2) h3 h4)
 have hargs:Nj σ ιl (hp hs) largs (c.args.map a.eval++vs):=by rw[<-ha]at hall;refine⟨by simpa using hall.1,λi b u h1 h2=>?_⟩;have:=hall.2 i (ren es b) u (by simp[h1]) h2;refine (Anh (es:=es) hιl hgiven ?_).1 this;rw[o2];exact D6.1 o4 b (F6 h1)
 refine (hpp σ Fl W w ιl (c.args.map a.eval++vs) sl hargs).mono ?_;rintro e w' ⟨v,σ',ι'l,rfl,le',s',hc'⟩;let ι':B9:=λh=>if hh:∃k,k<hs'.length/\es k=h then ι'l hh.choose else ι h
 have hι':∀k,k<hs'.length->ι'l k=ι' (es k):=by intro k h;have hh:∃k',k' < hs'.length/\es k'=es k:=⟨k,h,rfl⟩;have:hh.choose=k:=inj _ _ hh.choose_spec.2;simp only[ι',dif_pos hh,this]
 have hιo:∀h,(∀k,k<hs'.length->es k≠h)->ι' h=ι h:=by intro h hno;exact dif_neg (λ⟨k,k1,k2⟩=>hno k k1 k2)
 have hH':∀k,k<hs'.length->C2 H (wrs es 0 hs') (es k)=Jj es (hp hs' k):=by intro k h;have:=Anm (es:=es) inj (k:=0) (H:=H) (X9 h);simpa using this
 have hHo:∀h,(∀k,k<hs'.length->es k≠h)->C2 H (wrs es 0 hs') h=H h:=by intro h hno;exact Acx (λi hi=>by simpa using hno i hi)
 have hle2:hs.length<=hs'.length:=ω;have lel:Le σ ι H σ' ι' (C2 H (wrs es 0 hs')):=by
  refine⟨le'.sto,λh=>?_⟩;by_cases hh:∃k,k<hs'.length/\es k=h
  .obtain⟨k,hk',rfl⟩:=hh;rw[<-hι' k hk',hH' k hk'];by_cases hk2:k<hs.length
   .have q:=le'.obj k;rw[hιl k hk2]at q;rw[hgiven k hk2];refine⟨q.box,λh=>?_,λh1 E sz xs h2=>?_⟩
    .rw[Ne,Ahv]at h ⊢;exact q.some h
    .rw[Ne,Ahv]at h1;rw[Ahw]at h2;obtain⟨E0,sz0,xs0,e0,r0⟩:=q.rows h1 E sz xs h2;exact⟨E0,sz0,xs0,Ahw.2 e0,r0⟩
   .have h0:=hnew k ω hk';have:ι (es k) = .none:=(by have:=s.obj (es k);unfold C1 at this;rw[h0]at this;exact this);rw[h0,this];exact HLe.of_none
  .have hno:∀k,k<hs'.length->es k≠h:=λk h1 h2=>hh ⟨k,h1,h2⟩;rw[hιo h hno,hHo h hno];exact HLe.refl _ _
 have keep:∀b,σ b=none->¬mine b->∀ob,w.heap[b]? = some ob->w'.heap[b]? = some ob/\σ' b=none/\Fl b=some ob:=by intro b h1 h2 ob h3;have:Fl b=some ob:=(by simp only[Fl];rw[if_pos ⟨h1,h2⟩];exact h3);exact⟨(s'.fra b ob this).1,(s'.fra b ob this).2,this⟩
 have notmine:∀h b,(∀k,k<hs'.length->es k≠h)->(H h).live=true->(ι h).block? = some b->¬mine b:=by rintro h b hno h1 h2 ⟨k,k1,k2,k3⟩;exact hno k ω (s.inj _ _ b (by rw[hlive k k1];exact k2) h1 k3 h2)
 have notmineF:∀b ob,F b=some ob->¬mine b:=by rintro b ob hb ⟨k,k1,k2,k3⟩;have:=(s.block (by rw[hlive k k1];exact k2) k3).2.2;rw[this]at hb;cases hb
 have hunder':∀k,k<hs'.length->(hp hs' k).under hs'.length=true:=λk h=>D6.1 o7 _ (F6 (X9 h));have st':St σ' ι' (C2 H (wrs es 0 hs')) F W w':=by
  refine⟨s'.sto,λb ob hb=>?_,λh=>?_,λh h' b h1 h2 h3 h4=>?_,s'.os,s'.tape,s'.output,s'.glo,s'.drw⟩
  .obtain⟨h1,h2⟩:=s.fra b ob hb;obtain⟨k1,k2,_⟩:=keep b h2 (notmineF b ob hb) ob h1;exact⟨k1,k2⟩
  .by_cases hh:∃k,k<hs'.length/\es k=h
   .obtain⟨k,hk',rfl⟩:=hh;refine (Ani (es:=es) hι' hH' hk' (hunder' k hk') (λb h1 h2=>?_)).2 (s'.obj k);have hf0:=(s'.block h1 h2).2.2;refine⟨λ_=>hf0,λ_=>?_⟩;cases hFb:F b with| none=>rfl| some ob=>obtain⟨h3,h4⟩:=s.fra b ob hFb;have:=(keep b h4 (notmineF b ob hFb) ob h3).2.2;rw[hf0]at this;cases this
   .have hno:∀k,k<hs'.length->es k≠h:=λk h1 h2=>hh ⟨k,h1,h2⟩;have hob:=s.obj h;have hnm:=λb h1 h2=>notmine h b hno h1 h2;unfold C1 at hob ⊢;rw[hHo h hno,hιo h hno];cases hx:H h with
    | none=>rw[hx]at hob;exact hob
    | dead=>trivial
    | cells E cs=>rw[hx]at hob hnm;obtain⟨b,C,e1,h1,h2,h3,h4,h5⟩:=hob;obtain⟨k1,k2,_⟩:=keep b h1 (hnm b rfl (by rw[e1];rfl)) _ h3;exact⟨b,C,e1,k2,h2,k1,h4,λi c v x y=>(h5 i c v x y).mono lel⟩
    | rows E sz xs=>
     rw[hx]at hob hnm;obtain⟨z1,z2,⟨e1,e2⟩|⟨b,tot,C,e1,h1,h2,h3,h4,h5,h6⟩⟩:=hob
     .exact⟨z1,z2,.inl ⟨e1,e2⟩⟩
     .obtain⟨k1,k2,_⟩:=keep b h1 (hnm b rfl (by rw[e1];rfl)) _ h3;exact⟨z1,z2,.inr ⟨b,tot,C,e1,k2,h2,k1,h4,h5,h6.mono le'.sto⟩⟩
    | map l=>rw[hx]at hob hnm;obtain⟨b,M,q,e1,h1,h2,h3,h4⟩:=hob;obtain⟨k1,k2,_⟩:=keep b h1 (hnm b rfl (by rw[e1];rfl)) _ h3;exact⟨b,M,q,e1,k2,h2,k1,h4.mono le'.sto⟩
  .have Ya:∀k,k<hs'.length->∀h,(∀k,k<hs'.length->es k≠h)->(C2 H (wrs es 0 hs') (es k)).live=true->(C2 H (wrs es 0 hs') h).live=true->(ι' (es k)).block? = some b->(ι' h).block? = some b->False:=(by intro k hk' h hno g1 g2 g3 g4;rw[hH' k hk',Acw]at g1;rw[hHo h hno]at g2;rw[<-hι' k hk']at g3;rw[hιo h hno]at g4;have hf0:=(s'.block g1 g3).2.2;have hb:=s.block g2 g4;have hget:w.heap[b]? = some w.heap[b]:=(by simp[hb.1]);have:=(keep b hb.2.1 (notmine h b hno g2 g4) _ hget).2.2;rw[hf0]at this;cases this);by_cases hh:∃k,k<hs'.length/\es k=h
   .obtain⟨k,hk',rfl⟩:=hh;by_cases hh':∃k,k<hs'.length/\es k=h'
    .obtain⟨k',hk2,rfl⟩:=hh';rw[hH' k hk',Acw]at h1;rw[hH' k' hk2,Acw]at h2;rw[<-hι' k hk']at h3;rw[<-hι' k' hk2]at h4;rw[s'.inj k k' b h1 h2 h3 h4]
    .exact (Ya k hk' h' (λk h1 h2=>hh' ⟨k,h1,h2⟩) h1 h2 h3 h4).elim
   .have hno:∀k,k<hs'.length->es k≠h:=λk h1 h2=>hh ⟨k,h1,h2⟩;by_cases hh':∃k,k<hs'.length/\es k=h'
    .obtain⟨k',hk2,rfl⟩:=hh';exact (Ya k' hk2 h hno h2 h1 h4 h3).elim
    .have hno':∀k,k<hs'.length->es k≠h':=λk h1 h2=>hh' ⟨k,h1,h2⟩;rw[hHo h hno]at h1;rw[hHo h' hno']at h2;rw[hιo h hno]at h3;rw[hιo h' hno']at h4;exact s.inj h h' b h1 h2 h3 h4
 exact hk σ' ι' v w' lel st' ((Anh (es:=es) hι' hH' o6).2 hc')
end
end Go.Ab
namespace Go.Ab
section
variable {P:Program} {T:C6} {an:Nat->Ann} {n:Nat} {o:Oper} {ρ:Operand->AV} {H:Hp} {K:Eff->Nat->Prop}
theorem Gw {b:Bool} {X:Prop} (h:bif b then X else False):b=true/\X:=by cases b with| false=>exact h.elim| true=>exact⟨rfl,h⟩
theorem Acy {x:AV} (h:Mn x=true):x = .val (.slice none 0 0):=by
 unfold Mn at h;split at h
 .rfl
 .cases h
theorem A0f {x:AV} (h:X7 x=true):∀vs,x≠.val (.agg vs):=by intro vs e;subst e;cases h
theorem Ahz {i:TI} (h1:Nat.beq (Fv i).cells.length i.zero.length=true) (h2:X7 (Fv i)=true) (h3:Lw i.size (Fv i)=true):(Fv i).cells=i.zero.map .val:=by
 have _:=h1;have _:=h3
 unfold Fv at h2 ⊢;cases hd:i.d with
 | struct fs=>rfl
 | _=>
  rw[hd]at h2;cases b:i.zero with
  | nil=>rfl
  | cons v l=>
   cases l with
   | cons _ _=>rfl
   | nil=>rw[b]at h2;cases v <;> first|rfl|cases h2
theorem Qs {α:Type} {c:Array α} {x y:α} (h:c.toList = [x,y]):c = #[x,y]:=by apply Array.ext';simpa using h
theorem Vg {α:Type} {c:Array α} {x:α} (h:c.toList = [x]):c = #[x]:=by apply Array.ext';simpa using h
theorem Sz {c:Call} {b:Builtin} {xs:Array Operand} {ts:Array TypeId} (h1:c.callee = .builtin b) (h2:c.args=xs) (h3:c.argTypes=ts):c = {callee:=.builtin b,args:=xs,argTypes:=ts}:=by cases c;simp_all
def Fr (H:Hp) (n:Nat):Prop:=∀m,n<=m->H m = .none
def Nl (P:Program) (o:Oper) (ρ:Operand->AV) (H:Hp) (n:Nat) (K:Eff->Nat->Prop):Prop := ∃b m,Cl P o ρ b/\(∀p∈b.rd,H p.1=p.2)/\K b m/\n<=m/\Fr (C2 H b.wr) m
theorem Dq (b:Fr H n) {r:AV} (h:Cl P o ρ ⟨r,[],[]⟩) (k:K ⟨r,[],[]⟩ n):Nl P o ρ H n K:=⟨_,n,h,ψ,k,Nat.le_refl _,b⟩
theorem Mo (c:Fr H n) {r:AV} {x:Nat} {b:Bu} (h:Cl P o ρ ⟨r,[(x,b)],[]⟩) (hx:H x=b) (k:K ⟨r,[(x,b)],[]⟩ n):Nl P o ρ H n K := ⟨_,n,h,by simpa using hx,k,Nat.le_refl _,c⟩
theorem Nm (g:Fr H n) {r:AV} {x:Nat} {c b:Bu} (h:Cl P o ρ ⟨r,[(x,c)],[(x,b)]⟩) (hx:H x=c) (f:c≠.none) (k:K ⟨r,[(x,c)],[(x,b)]⟩ n):Nl P o ρ H n K:=by
 refine⟨_,n,h,by simpa using hx,k,Nat.le_refl _,λm hm=>?_⟩;have i:x<n:=by
  rcases Nat.lt_or_ge x n with h|h
  .exact h
  .exact (f (hx ▸ g x h)).elim
 show Bg H x b m=_;rw[Di _ _ ω];exact g m hm
theorem Qt (c:Fr H n) {r:AV} {b:Bu} (h:Cl P o ρ ⟨r,[(n,.none)],[(n,b)]⟩) (k:K ⟨r,[(n,.none)],[(n,b)]⟩ (n+1)):Nl P o ρ H n K:=by refine⟨_,n+1,h,by simpa using c n (Nat.le_refl _),k,ω,λm hm=>?_⟩;show Bg H n b m=_;rw[Di _ _ ω];exact c m ω
theorem A0g (j:Fr H n) {l:List Nat} {c:List AV} {f b:List Bu} {r:AV} (g:Va n l c f r b=true) (hh:Sv H (wrs (Es n l) 0 f)) (h:Cl P o ρ ⟨ren (Es n l) r,wrs (Es n l) 0 f++Cp (Es n l) l.length (b.length-l.length),wrs (Es n l) 0 b⟩) (k:K ⟨ren (Es n l) r,wrs (Es n l) 0 f++Cp (Es n l) l.length (b.length-l.length),wrs (Es n l) 0 b⟩ (n+(b.length-l.length))):Nl P o ρ H n K:=by
 simp only[Va,Fq]at g;have s:=g.1.1.1.1.1.1;have u:=Gu g.1.1.1.1.2;refine⟨_,n+(b.length-l.length),h,λp hp=>?_,k,ω,λq hq=>?_⟩
 .rcases List.mem_append.1 hp with hp|hp
  .exact hh.spec p hp
  .obtain⟨i,hi,rfl⟩:=Anp hp;refine j _ ?_;show n<=Es n l (l.length+i);rw[X8 ω];omega
 .show C2 H (wrs (Es n l) 0 b) q = .none;rw[Acx (λi hi e=>?_)]
  .exact j q ω
  .rcases Nat.lt_or_ge (0+i) l.length with h1|h1
   .have:=Anj s h1;omega
   .have:=X8 (n:=n) h1;omega
theorem A0h (l:C7 P T) (g:Fr H n) {t:TypeId} {x:Operand} (f:o.op = .load t x) (h:Ey P T an n o ρ H K):Nl P o ρ H n K:=by
 unfold Ey at h;rw[f]at h;dsimp only at h;split at h
 .rename_i i ht;split at h
  .rename_i cs hx;cases b:i.isAgg with
   | true=>rw[b]at h;simp only[cond_true]at h;obtain⟨h1,h2⟩:=Gw h;exact Dq g (Axx l f ht b hx (Gu h1)) h2
   | false=>
    rw[b]at h;simp only[cond_false]at h;split at h
    .exact Dq g (Axw l f ht b hx) h
    .exact h.elim
  .rename_i hd off hx;split at h
   .rename_i E cs hh;cases b:i.isAgg with
    | true=>rw[b]at h;simp only[cond_true]at h;obtain⟨h1,h2⟩:=Gw h;exact Mo g (Axz l f ht b hx (Gu h1)) hh h2
    | false=>
     rw[b]at h;simp only[cond_false]at h;split at h
     .rename_i c hc;exact Mo g (Axy l f ht b hx hc) hh h
     .exact h.elim
   .exact h.elim
  .rename_i hd k q j hx;split at h
   .rename_i E sz xs hh;obtain⟨y,hk,hy,h⟩:=h;cases b:i.isAgg with
    | true=>rw[b]at h;simp only[cond_true]at h;obtain⟨h1,h2⟩:=Gw h;exact Mo g (Ax1 l f ht b hx hk hy (Gu h1)) hh h2
    | false=>
     rw[b]at h;simp only[cond_false]at h;split at h
     .rename_i c hc;exact Mo g (Ax0 l f ht b hx hk hy hc) hh h
     .exact h.elim
   .exact h.elim
  .exact h.elim
 .exact h.elim
theorem A0i (g:C7 P T) (f:Fr H n) {t:TypeId} {x y:Operand} (c:o.op = .store t x y) (h:Ey P T an n o ρ H K):Nl P o ρ H n K:=by
 unfold Ey at h;rw[c]at h;dsimp only at h;split at h
 .rename_i i ht;split at h
  .rename_i hd off hx;split at h
   .rename_i E cs hh;obtain⟨h1,h2⟩:=Gw h;simp only[Fq]at h1;exact Nm f (Ax3 g c ht hx (Gv h1.1.1) (Gu h1.1.2) h1.2) hh (by intro e;cases e) h2
   .exact h.elim
  .rename_i hd k q j hx;split at h
   .rename_i E sz xs hh;obtain⟨z,hk,l,h⟩:=h;obtain⟨h1,h2⟩:=Gw h;simp only[Fq]at h1;obtain⟨⟨⟨⟨g1,g2⟩,g3⟩,g4⟩,g5⟩:=h1;rw[Acu,Ve]at h2;obtain⟨s,b,h2⟩:=h2;subst b;exact Nm f (Ax5 g c ht hx hk l (Gv g1) (Gu g2) (Gu g3) g4 (A0f g5)) hh (by intro e;cases e) h2
   .exact h.elim
  .exact h.elim
 .exact h.elim
theorem A0j (l:C7 P T) (g:Fr H n) {op:BinOp} {t q:TypeId} {x y:Operand} (f:o.op = .binOp op t x y q) (h:Ey P T an n o ρ H K):Nl P o ρ H n K:=by
 unfold Ey at h;rw[f]at h;dsimp only at h;split at h
 .rename_i k a i b hx hy;split at h
  .obtain⟨c,h1,h2,h3⟩:=h;exact Dq g (Ayf f hx hy h1 h2) h3
  .obtain⟨c,h1,h2,h3⟩:=h;exact Dq g (Aye f hx hy h1 h2) h3
  .replace h:=Gw h;obtain⟨hk,h⟩:=h;have hk:k=i:=(by simpa using hk);subst hk;split at h
   .obtain⟨c,h1,h2⟩:=h;exact Dq g (Ax7 f hx hy h1) h2
   .obtain⟨c,h1,h2⟩:=h;exact Dq g (Ax8 f hx hy h1) h2
   .obtain⟨c,h1,h2⟩:=h;exact Dq g (Ax9 f hx hy h1) h2
   .obtain⟨c,h1,h2,h3⟩:=h;exact Dq g (Aya f hx hy h1 h2) h3
   .obtain⟨c,h1,h2,h3⟩:=h;exact Dq g (Ayb f hx hy h1 h2) h3
   .split at h
    .rename_i j ht';exact Dq g (Ayc f hx hy ht') h
    .split at h
     .rename_i c hc;exact Dq g (Ayd f hx hy hc) h
     .exact h.elim
 .rename_i a b hx hy;split at h
  .rename_i A z u ht;split at h
   .rename_i j ht';exact Dq g (Ayi l f ht rfl hx hy ht') h
   .exact h.elim
  .exact h.elim
 .rename_i xs ys hx hy;split at h
  .rename_i s h1;split at h
   .rename_i vs h2;split at h
    .obtain⟨b,hb,h⟩:=h;exact Dq g (Amz f hx hy h1 h2 hb (.inl ⟨rfl,rfl⟩)) h
    .obtain⟨b,hb,h⟩:=h;exact Dq g (Amz f hx hy h1 h2 hb (.inr ⟨rfl,rfl⟩)) h
    .exact h.elim
   .exact h.elim
  .exact h.elim
 .rename_i k a i b hx hy;replace h:=Gw h;obtain⟨hk,h⟩:=h;have hk:k=i:=(by simpa using hk);subst hk;obtain⟨c,h1,h2⟩:=h;exact Dq g (Ayp f hx hy h1) h2
 .rename_i a b hx hy;split at h
  .obtain⟨h1,h2⟩:=h;exact Dq g (Ayl f hx hy h1) h2
  .split at h
   .rename_i j ht';exact Dq g (Ayk f hx hy ht') h
   .exact h.elim
 .rename_i p G E D B hx hy;split at h
  .split at h
   .rename_i L J I e4 ht;exact Dq g (Ayj l f ht rfl hx hy) h
   .exact h.elim
  .exact h.elim
 .exact h.elim
theorem A0k (q:C7 P T) (j:Fr H n) {t:TypeId} {x:Operand} {lo hi:Option Operand} (g:o.op = .slice t x lo hi none) (h:Ey P T an n o ρ H K):Nl P o ρ H n K:=by
 unfold Ey at h;rw[g]at h;dsimp only at h;split at h
 .rename_i e B A z ht;split at h
  .rename_i i' u;split at h
   .rename_i sz xs hx;split at h
    .rename_i y h0 c hh;replace h:=Gw h;obtain⟨g1,h⟩:=h;obtain⟨l,i,ys,el,b,h1,h2,hy,k⟩:=h;subst el;subst b;subst hy;exact Dq j (Ay4 q g ht rfl u (Gv g1) hx c hh h1 h2) k
    .exact h.elim
   .rename_i hd k off len hx;split at h
    .rename_i E sz xs f;split at h
     .rename_i y h0 c hh;replace h:=Gw h;obtain⟨g1,h⟩:=h;cases h with| mk l i hk el b h1 h2 h3 k=>subst el;subst b;exact Mo j (Ay6 q g ht rfl u (Gv g1) hx hk c hh h1 h2 h3) f k| mkE l hk el b h2 k=>subst el;subst b;exact Mo j (Azr q g ht rfl u hx hk c hh h2) f k
     .exact h.elim
    .exact h.elim
   .exact h.elim
  .exact h.elim
 .rename_i B A z ht;split at h
  .rename_i s hx;split at h
   .rename_i y h0 c hh;obtain⟨l,i,el,b,h1,h2,k⟩:=h;subst el;subst b;exact Dq j (Ay5 q g ht rfl hx c hh h1 h2) k
   .exact h.elim
  .exact h.elim
 .exact h.elim
theorem A0l (B:C7 P T) (A:Fr H n) {c:Call} (u:o.op = .call c) (h:Ey P T an n o ρ H K):Nl P o ρ H n K:=by
 unfold Ey at h;rw[u]at h;dsimp only at h;split at h
 .rename_i x i;split at h
  .rename_i f ac hx;split at h
   .rename_i j ag;split at h
    .rename_i hd k len hj;split at h
     .rename_i E sz xs hh;obtain⟨hk,G,r,hp,hf,h⟩:=h;subst hk;rw[<-G]at hj;exact Nm A (A0b u i hx hj hp hf) hh (by intro e;cases e) h
     .exact h.elim
    .exact h.elim
   .cases h with| mk r hp hf k=>exact Dq A (A0a u i hx hp hf) k| act l aa hs r af hp ha ok hh k=>exact A0g A ok hh (A0e u i hx hp ha ok) k
  .exact h.elim
 .exact h.elim
 .rename_i i;split at h
  .rename_i x t ha z;rw[Sz i (Vg ha) (Vg z)]at u;split at h
   .rename_i e X V U ht;split at h
    .rename_i sz xs hx;split at h
     .obtain⟨c,hc,h⟩:=h;subst hc;exact Dq A (Amn B u ht rfl hx) h
     .exact Dq A (Amn B u ht rfl hx) h
    .rename_i p m cap hx;exact Dq A (Ayw B u ht rfl hx) h
    .rename_i hd k off len hx;split at h
     .rename_i E sz xs hh;obtain⟨hk,h⟩:=h;exact Mo A (Ayz B u ht rfl hx hk) hh h
     .exact h.elim
    .exact h.elim
   .rename_i X V U ht;split at h
    .rename_i s hx;exact Dq A (Ayy B u ht rfl hx) h
    .exact h.elim
   .exact h.elim
  .exact h.elim
 .rename_i i;split at h
  .rename_i x t ha z;rw[Sz i (Vg ha) (Vg z)]at u;split at h
   .rename_i e X V U ht;split at h
    .rename_i p m cap hx;exact Dq A (Ayx B u ht rfl hx) h
    .exact h.elim
   .exact h.elim
  .exact h.elim
 .rename_i i;split at h
  .rename_i x y t t' ha z;rw[Sz i (Qs ha) (Qs z)]at u;split at h
   .rename_i e X V U ht;split at h
    .rename_i i' I;split at h
     .rename_i h2 k2 Z a1 hy;split at h
      .rename_i hd k off len hx;split at h
       .rename_i E sz xs hh;replace h:=Gw h;obtain⟨g5,h⟩:=h;simp only[Fq]at g5;have J:=Gv g5.1.1.1;have L:=Gv g5.1.1.2;have e3:=Gv g5.1.2;have e4:0<i'.size:=Gu g5.2;subst J;subst L;subst e3;obtain⟨S,c,hk,G,N,M,D,hc,k⟩:=h;subst D;subst hc;exact Nm A (Azp B u ht rfl I e4 hx hk G hy N M) hh (by intro e;cases e) k
       .exact h.elim
      .rename_i q hx;split at h
       .rename_i E sz xs hh;replace h:=Gw h;obtain⟨g5,h⟩:=h;have J:=Gv g5;subst J;obtain⟨hk,k⟩:=h;exact Mo A (Azq B u ht rfl I hx hy hk) hh k
       .exact h.elim
      .exact h.elim
     .exact h.elim
    .exact h.elim
   .exact h.elim
  .exact h.elim
 .rename_i i;split at h
  .rename_i x t ha z;rw[Sz i (Vg ha) (Vg z)]at u;split at h
   .rename_i e X V U ht;split at h
    .rename_i i' I;split at h
     .rename_i hd k off len hx;split at h
      .rename_i E sz xs hh;replace h:=Gw h;obtain⟨g5,h⟩:=h;simp only[Fq]at g5;have J:=Gv g5.1.1.1.1.1;have L:=Gv g5.1.1.1.1.2;have e3:0<i'.size:=Gu g5.1.1.1.2;subst J;subst L;obtain⟨S,hk,G,D,k⟩:=h;subst D;exact Nm A (Azs B u ht rfl I e3 g5.1.1.2 (Ahz g5.1.2 g5.2 g5.1.1.2) hx hk G) hh (by intro e;cases e) k
      .exact h.elim
     .rename_i q hx;exact Dq A (Azt B u ht rfl hx) h
     .exact h.elim
    .exact h.elim
   .exact h.elim
  .exact h.elim
 .rename_i i;split at h
  .rename_i x y t t' ha z;rw[Sz i (Qs ha) (Qs z)]at u;split at h
   .rename_i e X V U e' a8 a7 a6 ht ht';split at h
    .rename_i i' I;replace h:=Gw h;obtain⟨g,h⟩:=h;simp only[Fq]at g;obtain⟨⟨g1,g2⟩,g3⟩:=g;have g1:0<i'.size:=Gu g1;have g2:=Gv g2;have g3:=Gu g3;split at h
     .rename_i sz ys hy;replace h:=Gw h;obtain⟨g4,h⟩:=h;have g4:=Gv g4;subst g4;split at h
      .rename_i hd k len hx;split at h
       .rename_i E Y xs hh;replace h:=Gw h;obtain⟨g5,h⟩:=h;simp only[Fq]at g5;have J:=Gv g5.1;have L:=Gv g5.2;subst J;subst L;cases h with| mk S m hk G hb D hm k=>subst G;subst D;subst hm;exact Nm A (Azd B u ht rfl ht' rfl I g1 g2 g3 hx hk hy hb) hh (by intro e;cases e) k| mkP S k' m hk G hb D R hm k=>subst D;subst hm;subst R;exact Nm A (Azl B u ht rfl ht' rfl I g1 g2 g3 hx hk G hy hb) hh (by intro e;cases e) k
       .exact h.elim
      .rename_i hx;obtain⟨S,m,hb,D,hm,k⟩:=h;subst D;subst hm;exact Qt A (Azh B n u ht rfl ht' rfl I g1 g2 g3 hx hy hb) k
      .rename_i ae ad hx;obtain⟨ab,k⟩:=h;subst ab;exact Dq A (Azn B u ht rfl ht' rfl I g1 hx hy) k
      .exact h.elim
     .rename_i h2 k2 Z a1 hy;split at h
      .rename_i hd k len hx;split at h
       .rename_i E Y xs hh;replace h:=Gw h;obtain⟨g5,h⟩:=h;simp only[Fq]at g5;have J:=Gv g5.1.1;have L:=Gv g5.1.2;have e3:=Gv g5.2;subst J;subst L;subst e3;obtain⟨S,k',m,hk,G,N,M,hb,D,R,hm,k⟩:=h;subst D;subst hm;subst R;exact Nm A (Azo B u ht rfl ht' rfl I g1 g2 g3 hx hk G hy N M hb) hh (by intro e;cases e) k
       .exact h.elim
      .exact h.elim
     .exact h.elim
    .exact h.elim
   .rename_i e X V U a8 a7 a6 ht ht';split at h
    .rename_i i' I;replace h:=Gw h;obtain⟨g,h⟩:=h;simp only[Fq]at g;obtain⟨⟨g1,g2⟩,g3⟩:=g;have g1:=Gv g1;have g2:=Gv g2;have g3:=Gu g3;split at h
     .rename_i s hy;split at h
      .rename_i hd k len hx;split at h
       .rename_i E Y xs hh;replace h:=Gw h;obtain⟨g5,h⟩:=h;simp only[Fq]at g5;have J:=Gv g5.1;have L:=Gv g5.2;subst J;subst L;obtain⟨_,_,_,_,_,_,_,_,_,k⟩|⟨S,m,hk,G,hb,D,hm,k⟩:=h
        .exact k.elim
        subst G;subst D;subst hm;exact Nm A (Azg B u ht rfl ht' rfl I g1 g2 g3 hx hk hy hb) hh (by intro e;cases e) k
       .exact h.elim
      .exact h.elim
     .exact h.elim
    .exact h.elim
   .exact h.elim
  .exact h.elim
 .rename_i i;split at h
  .rename_i x y t t' ha z;rw[Sz i (Qs ha) (Qs z)]at u;split at h
   .rename_i k a k' b hx hy;exact Dq A (Azj u hx hy) h
   .exact h.elim
  .exact h.elim
 .rename_i i;split at h
  .rename_i x y t t' ha z;rw[Sz i (Qs ha) (Qs z)]at u;split at h
   .rename_i k a k' b hx hy;exact Dq A (Azk u hx hy) h
   .exact h.elim
  .exact h.elim
 .exact h.elim
theorem Anq (B:C7 P T) (A:Fr H n) (h:Ey P T an n o ρ H K):Nl P o ρ H n K:=by
 cases u:o.op with
 | load t x=>exact A0h B A u h
 | store t x y=>exact A0i B A u h
 | binOp op t x y yt=>exact A0j B A u h
 | call c=>exact A0l B A u h
 | slice t x lo hi mx=>cases mx with| none=>exact A0k B A u h| some m=>unfold Ey at h;rw[u]at h;exact h.elim
 | move x=>unfold Ey at h;rw[u]at h;exact Dq A (Axs u) h
 | assign x=>
  unfold Ey at h;rw[u]at h;dsimp only at h;split at h
  .exact Dq A (X0 u) h
  .split at h
   .exact Dq A (X0 u) h
   .exact Dq A (X0 u) h
   .exact Dq A (X0 u) h
   .cases hb:Mn (ρ x) with
    | false=>rw[hb]at h;exact Dq A (X0 u) h
    | true=>
     rw[hb]at h;simp only[cond_true]at h;split at h
     .rename_i e I G J ht;split at h
      .rename_i i' D;replace h:=Gw h;obtain⟨g1,h⟩:=h;exact Qt A (Azi B n u (Acy hb) ht rfl D (Gu g1)) h
      .exact h.elim
     .exact h.elim
 | pick c a b=>
  unfold Ey at h;rw[u]at h;dsimp only at h;split at h
  .rename_i t hc;exact Dq A (Axt u hc) h
  .exact h.elim
 | alloc t=>
  unfold Ey at h;rw[u]at h;dsimp only at h;split at h
  .rename_i i ht;exact Qt A (Axu B n u ht) h
  .exact h.elim
 | box t x=>unfold Ey at h;rw[u]at h;exact Qt A (Axv n u) h
 | build t parts=>
  unfold Ey at h;rw[u]at h;dsimp only at h;split at h
  .rename_i fs I G z ht;split at h
   .rename_i cs hc;exact Dq A (Ay7 B u ht rfl hc) h
   .exact h.elim
  .exact h.elim
 | buildSlice t len parts=>
  unfold Ey at h;rw[u]at h;dsimp only at h;split at h
  .rename_i e I G J ht;split at h
   .rename_i i' D;replace h:=Gw h;obtain⟨g,h⟩:=h;simp only[Fq]at g;obtain⟨⟨⟨g1,g2⟩,g3⟩,g4⟩:=g;have g2:parts.toList.map (·.1)=List.range' 0 len:=(by simpa using g2);have g4:∀p∈parts.toList,Lw i'.size (ρ p.2)=true:=D6.1 g4;split at h
    .exact h.elim
    .rw[Acv]at h;exact Dq A (Ams B u ht rfl D (Gu g1) g2 (Gu g3) g4) h
    .rw[Acv]at h;exact Dq A (Ams B u ht rfl D (Gu g1) g2 (Gu g3) g4) h
    .rw[Acv]at h;exact Qt A (Ay9 B n u ht rfl D (Gu g1) g2 (Gu g3) g4) h
   .exact h.elim
  .exact h.elim
 | nilCheck x=>unfold Ey at h;rw[u]at h;dsimp only at h;replace h:=Gw h;obtain⟨g1,h⟩:=h;exact Dq A (Ax6 u g1) h
 | unOp op t x=>
  unfold Ey at h;rw[u]at h;dsimp only at h;split at h
  .rename_i b hx;exact Dq A (Aym u hx) h
  .rename_i k m hx;obtain⟨c,h1,h2⟩:=h;exact Dq A (Ayn u hx h1) h2
  .exact h.elim
 | convert s d x=>
  unfold Ey at h;rw[u]at h;dsimp only at h;split at h
  .rename_i i k I G J M m hs hd hx;obtain⟨c,h1,h2⟩:=h;exact Dq A (Ayo B u hs hd rfl hx h1) h2
  .rename_i v0 k0 I G J k1 m h1 h2 hx;exact Dq A (Ayq B u h1 h2 rfl hx) h
  .rename_i v0 k0 I G J q m h1 h2 hx;obtain⟨c,g1,g2⟩:=h;exact Dq A (Ayr B u h1 h2 rfl hx g1) g2
  .exact h.elim
 | makeFunc fn first Y=>
  cases fn with
  | func f=>
   unfold Ey at h;rw[u]at h;dsimp only at h;replace h:=Gw h;obtain⟨g1,h⟩:=h;have:first = #[]:=by simpa using g1
   subst this;exact Dq A (Ay3 u) h
  | _=>unfold Ey at h;rw[u]at h;exact h.elim
 | makeSlice t x y=>
  unfold Ey at h;rw[u]at h;dsimp only at h;split at h
  .rename_i e I G J ht;split at h
   .rename_i i' D;split at h
    .rename_i k l M c hx hy;replace h:=Gw h;obtain⟨g,h⟩:=h;simp only[Fq]at g;obtain⟨⟨⟨g1,g2⟩,g3⟩,g4⟩:=g;rcases h with⟨l',c',Z,el,ec,h1,h2,h3,S,k⟩|⟨z',V,l',c',Z,el,ec,h1,h2,h3,S,k⟩
     .subst el;subst ec;subst S;exact Qt A (Aza B n u ht rfl D (Gu g1) hx hy h1 h2 h3 g2 (Ahz g3 g4 g2)) k
     .subst el;subst ec;subst S;exact Qt A (Azb B z' n u ht rfl D (Gu g1) hx hy h1 h2 h3 g2 (Ahz g3 g4 g2) V) k
    .exact h.elim
   .exact h.elim
  .exact h.elim
 | fieldAddr s x f=>
  unfold Ey at h;rw[u]at h;dsimp only at h;split at h
  .rename_i fs I G J ht;split at h
   .rename_i q R;split at h
    .rename_i hd off hx;exact Dq A (Ayt B u ht rfl R hx) h
    .rename_i cs hx;exact Dq A (Ayu B u ht rfl R hx) h
    .rename_i hd k m j hx;split at h
     .rename_i E sz xs hh;obtain⟨hk,h⟩:=h;exact Mo A (Ayv B u ht rfl R hx hk) hh h
     .exact h.elim
    .exact h.elim
   .exact h.elim
  .exact h.elim
 | indexAddr t x y=>
  unfold Ey at h;rw[u]at h;dsimp only at h;split at h
  .rename_i e I G J ht;split at h
   .rename_i i' D;split at h
    .rename_i sz xs k i hx hy;replace h:=Gw h;obtain⟨g1,h⟩:=h;obtain⟨m,z,hi,S,M⟩:=h;subst hi;exact Dq A (Ay0 B u ht rfl D (Gv g1) hx hy S) M
    .rename_i hd k off len kk i hx hy;split at h
     .rename_i E sz xs hh;replace h:=Gw h;obtain⟨g1,h⟩:=h;obtain⟨m,hk,hi,hm,M⟩:=h;subst hi;exact Mo A (Ay1 B u ht rfl D hx hk hy hm (Gv g1)) hh M
     .exact h.elim
    .exact h.elim
   .exact h.elim
  .exact h.elim
 | index t x y=>
  unfold Ey at h;rw[u]at h;dsimp only at h;split at h
  .rename_i I G J ht;split at h
   .rename_i s k i hx hy;obtain⟨m,c,hi,hc,M⟩:=h;subst hi;exact Dq A (Ay2 B u ht rfl hx hy hc) M
   .exact h.elim
  .exact h.elim
 | field t x f=>
  unfold Ey at h;rw[u]at h;dsimp only at h;split at h
  .rename_i fs I G J ht;split at h
   .rename_i q hq;split at h
    .rename_i cs hx;obtain⟨ft,R,h⟩:=h;split at h
     .rename_i U D;cases L:U.isAgg with
      | true=>rw[L]at h;simp only[cond_true]at h;obtain⟨h1,h2⟩:=Gw h;exact Dq A (Am0 B u ht rfl hq R D hx (.inl ⟨L,Gu h1,rfl⟩)) h2
      | false=>
       rw[L]at h;simp only[cond_false]at h;split at h
       .rename_i c hc;exact Dq A (Am0 B u ht rfl hq R D hx (.inr ⟨L,hc⟩)) h
       .exact h.elim
     .exact h.elim
    .exact h.elim
   .exact h.elim
  .exact h.elim
 | makeMap t r=>cases r with| none=>unfold Ey at h;rw[u]at h;exact Qt A (Azu n u) h| some q=>unfold Ey at h;rw[u]at h;exact h.elim
 | lookup t x y ok=>
  unfold Ey at h;rw[u]at h;dsimp only at h;split at h
  .rename_i kt et I G J ht;split at h
   .rename_i q1 q2 q3 hk;split at h
    .rename_i U D;split at h
     .rename_i hd hx;split at h
      .rename_i s hy;split at h
       .rename_i es hh;obtain⟨r,N,h⟩:=h;exact Mo A (Azv B u ht rfl hk rfl D hx hy N) hh h
       .exact h.elim
      .exact h.elim
     .exact h.elim
    .exact h.elim
   .split at h
    .rename_i U D;split at h
     .rename_i hd hx;split at h
      .rename_i ks hy;split at h
       .rename_i us hu;split at h
        .rename_i es hh;obtain⟨r,hc,N,h⟩:=h;exact Mo A (Azx B u ht rfl D hx hy hu hc N) hh h
        .exact h.elim
       .exact h.elim
      .exact h.elim
     .exact h.elim
    .exact h.elim
   .exact h.elim
  .exact h.elim
 | mapUpdate t x y z=>
  unfold Ey at h;rw[u]at h;dsimp only at h;split at h
  .rename_i kt et I G J ht;split at h
   .rename_i q1 q2 q3 hk;split at h
    .rename_i hd hx;split at h
     .rename_i s hy;split at h
      .rename_i es hh;obtain⟨g1,h⟩:=Gw h;rw[Ve]at h;obtain⟨X,N,h⟩:=h;exact Nm A (Azw B u ht rfl hk rfl hx hy g1 N) hh (by intro e;cases e) h
      .exact h.elim
     .exact h.elim
    .exact h.elim
   .split at h
    .rename_i hd hx;split at h
     .rename_i ks hy;split at h
      .rename_i us hu;split at h
       .rename_i es hh;obtain⟨g1,h⟩:=Gw h;rw[Ve]at h;obtain⟨X,hc,N,rfl,h⟩:=h;exact Nm A (Azy B u ht rfl hx hy hu g1 hc N) hh (by intro e;cases e) h
       .exact h.elim
      .exact h.elim
     .exact h.elim
    .exact h.elim
   .exact h.elim
  .exact h.elim
 | extract x i=>
  unfold Ey at h;rw[u]at h;dsimp only at h;split at h
  .rename_i cs hx;split at h
   .rename_i c hc;exact Dq A (Ays u hx hc) h
   .exact h.elim
  .exact h.elim
 | _=>unfold Ey at h;rw[u]at h;exact h.elim
end
end Go.Ab
namespace Go.Ab
theorem G7 {t:Bool} {A B:Prop} (h:t=true) (k:A):bif t then A else B:=by rw[h];exact k
theorem Ah0 {t:Bool} {A B:Prop} (h:t=false) (k:B):bif t then A else B:=by rw[h];exact k
abbrev Jc:=List (List Nat×List Nat)
def Mp (l:List (Nat×Nat)):Nat->List AV->List AV
 | _,[]=>[]
 | i,x::xs=>(bif Mn x then (match l.lookup i with|some sz=>.sl sz [] | none=>x) else x)::Mp l (i+1) xs
def elN (l:List (Nat×Nat)) (x:AV):AV := match x with
 | .val (.agg vs)=>.agg (Mp l 1000 (vs.toList.map .val))
 | .agg cs=>.agg (Mp l 1000 cs)
 | x=>x
def Mq (l:List (Nat×Nat)) (x:AV):AV := match l with
 | []=>x
 | p::l=> match x with
  | .sl sz xs=>bif Nat.ble 1000 p.1 then .sl sz (xs.map (elN (p::l))) else .sl sz xs
  | .agg cs=>.agg (Mp (p::l) 0 cs)
  | x=>bif Mn x then .sl p.2 [] else x
def Nn (nl:Nat->List (Nat×Nat)):Option Nat->List (Nat×Nat)
 | none=>[]
 | some d=>nl d
theorem Acz {σ:A5} {ι:B9} {H:Hp} {x:AV} {v:Value} {sz:Nat} (hx:Mn x=true) (h:Conc σ ι H x v):Conc σ ι H (.sl sz []) v:=by rw[Acy hx]at h;rw[h.val_inv];exact .cc (.nil sz none 0)
theorem Ah1 {l:List (Nat×Nat)}:∀{cs:List AV} {i k:Nat} {c:AV},(Mp l k cs)[i]? = some c->∃b,cs[i]? = some b/\(c=b\/(Mn b=true/\∃sz,c = .sl sz []))
 | [],i,k,c,h=>by simp[Mp]at h
 | x::xs,0,k,c,h=>by
  simp only[Mp,List.getElem?_cons_zero,Option.some.injEq]at h;refine⟨x,rfl,?_⟩;cases hx:Mn x with
  | false=>rw[hx]at h;exact .inl h.symm
  | true=>
   rw[hx]at h;simp only[cond_true]at h;split at h
   .rename_i sz _;exact .inr ⟨rfl,sz,h.symm⟩
   .exact .inl h.symm
 | x::xs,i+1,k,c,h=>by simp only[Mp,List.getElem?_cons_succ]at h;obtain⟨b,h1,h2⟩:=Ah1 h;exact⟨b,by simpa using h1,h2⟩
theorem Ah2 {l:List (Nat×Nat)}:∀{cs:List AV} {k:Nat},(Mp l k cs).length=cs.length
 | [],_=>rfl
 | x::xs,k=>by simp only[Mp,List.length_cons,Ah2]
theorem A0m {l:List (Nat×Nat)} {σ:A5} {x:AV}:(elN l x).cells.length=x.cells.length/\∀(j:Nat) (c b:AV) (u:Value),x.cells[j]? = some c->(elN l x).cells[j]? = some b->CC σ c u->CC σ b u:=by
 have key:∀cs:List AV,(Mp l 1000 cs).length=cs.length/\∀(j:Nat) (c b:AV) (u:Value),cs[j]? = some c->(Mp l 1000 cs)[j]? = some b->CC σ c u->CC σ b u:=by
  intro cs;refine⟨Ah2,λj c b u h1 h2 h3=>?_⟩;obtain⟨f,g1,rfl|⟨g2,sz,rfl⟩⟩:=Ah1 h2
  .rw[h1]at g1;cases g1;exact h3
  .rw[h1]at g1;cases g1;rw[Acy g2]at h3;cases h3;exact .nil sz none 0
 unfold elN;split
 .exact key _
 .exact key _
 .exact⟨rfl,λj c b u h1 h2 h3=>by rw[h1]at h2;cases h2;exact h3⟩
theorem CC.mapEl {σ:A5} {sz:Nat} {xs:List AV} {v:Value} (f:AV->AV) (B:∀x,(f x).cells.length=x.cells.length/\∀(j:Nat) (c k:AV) (u:Value),x.cells[j]? = some c->(f x).cells[j]? = some k->CC σ c u->CC σ k u) (h:CC σ (.sl sz xs) v):CC σ (.sl sz (xs.map f)) v:=by
 cases h with
 | nil sz a cap=>exact .nil sz a cap
 | sl _ b off cap _ C E fr g D G hc h1 J I s=>
  have q:(xs.map f).length=xs.length:=ψ;have l:∀(i:Nat) (y:AV) (j:Nat) (k:AV),(xs.map f)[i]? = some y->y.cells[j]? = some k->∃x c,xs[i]? = some x/\x.cells[j]? = some c/\y=f x:=(by intro i y j k g1 g2;rw[List.getElem?_map]at g1;cases hx:xs[i]? with| none=>rw[hx]at g1;cases g1| some x=>rw[hx]at g1;cases g1;have hj:j<x.cells.length:=(by rw[<-(B x).1];exact (Gl.1 g2).1);exact⟨x,x.cells[j],rfl,List.getElem?_eq_getElem hj,rfl⟩);rw[<-q];refine .sl (xs.map f) b off cap sz C E fr g D ?_ ?_ ?_ (λi j hi hj=>J i j (by simpa using hi) hj) (by simpa using I) (by simpa using s)
  .intro i y hy;rw[List.getElem?_map]at hy;cases hx:xs[i]? with| none=>rw[hx]at hy;cases hy| some x=>rw[hx]at hy;cases hy;rw[(B x).1];exact G i x hx
  .intro i y j k g1 g2;obtain⟨x,c,A,z,rfl⟩:=l i y j k g1 g2;exact (B x).2 j c k _ z g2 (hc i x j c A z)
  .intro i y j k g1 g2;obtain⟨x,c,A,z,rfl⟩:=l i y j k g1 g2;exact h1 i x j c A z
theorem A0n {l:List (Nat×Nat)} {σ:A5} {ι:B9} {H:Hp} {x:AV} {v:Value} (h:Conc σ ι H x v):Conc σ ι H (Mq l x) v:=by
 unfold Mq;split
 .exact h
 .split
  .rename_i _ p l _ sz xs;cases hb:Nat.ble 1000 p.1 with| false=>exact h| true=>exact .cc (h.sl_inv.mapEl _ λx=>A0m)
  .rename_i cs;obtain⟨vs,rfl,b,hv⟩:=h.agg_inv;refine .agg _ vs (by rw[Ah2];exact b) λi c u h1 h2=>?_;obtain⟨g,h3,rfl|⟨f,sz,rfl⟩⟩:=Ah1 h1
   .exact hv i _ u h3 h2
   .exact Acz f (hv i _ u h3 h2)
  .cases hx:Mn x with| false=>exact h| true=>exact Acz hx h
theorem Cl.nils {P:Program} {o:Oper} {ρ:Operand->AV} {b:Eff} (l:List (Nat×Nat)) (h:Cl P o ρ b):Cl P o ρ ⟨Mq l b.r,b.rd,b.wr⟩ := λσ ι H F W w a next Q s hx g hk=>h σ ι H F W w a next Q s hx g λc f v w' le s' hc=>hk c f v w' le s' (A0n hc)
def Km (e:B6) (d:Option Nat) (r:AV) (H:Hp) (b:List (Nat×Bu)) (K:B6->Hp->Prop):Prop :=
 match d with
 | none=>
  (match b with
  | []=>K e H
  | [p]=>K e (Bg H p.1 p.2)
  | p::q::l=>K e (C2 H (p::q::l)))
 | some t=>
  (match b with
  | []=>K (Bg e t r) H
  | [p]=>K (Bg e t r) (Bg H p.1 p.2)
  | p::q::l=>K (Bg e t r) (C2 H (p::q::l)))
theorem Ac0 (e:B6) (d:Option Nat) (r:AV) (H:Hp) (b:List (Nat×Bu)) (K:B6->Hp->Prop):Km e d r H b K=K (put e d r) (C2 H b):=by cases d <;> cases b with| nil=>rfl| cons p l=>cases l <;> rfl
def Kn (P:Program) (T:C6) (an:Nat->Ann) (nl:Nat->List (Nat×Nat)) (ops:Array Oper):List Oper->List Nat->Nat->B6->Hp->Jc->(Nat->B6->Hp->Jc->Prop)->Prop
 | [],_,n,e,H,acc,K=>K n e H acc
 | o::os,f,n,e,H,acc,K=>
  match o.guard with
  | none=>Ey P T an n o (ev e) H λc m=>Lz (Mq (Nn nl o.dst) c.r) λr=>Of c.wr λwr=>Jy c.rd λh=>Jy wr λg=>Km e o.dst r H wr λe H=>Kn P T an nl ops os f m e H (acc++[(h,g)]) K
  | some p=>
   match (ops[p.1]?).bind (·.dst) with
   | none=>False
   | some s=>
    match e s with
    | .val (.bool b)=>
     match f.elem s with
     | true=>
      (match b with
      | true=>
       (match p.2 with
       | true=>Ey P T an n o (ev e) H λc m=>Lz (Mq (Nn nl o.dst) c.r) λr=>Of c.wr λwr=>Jy c.rd λh=>Jy wr λg=>Km e o.dst r H wr λe H=>Kn P T an nl ops os f m e H (acc++[(h,g)]) K
       | false=>Km e o.dst (.val undef) H [] λe H=>Kn P T an nl ops os f n e H (acc++[([],[])]) K)
      | false=>
       (match p.2 with
       | true=>Km e o.dst (.val undef) H [] λe H=>Kn P T an nl ops os f n e H (acc++[([],[])]) K
       | false=>Ey P T an n o (ev e) H λc m=>Lz (Mq (Nn nl o.dst) c.r) λr=>Of c.wr λwr=>Jy c.rd λh=>Jy wr λg=>Km e o.dst r H wr λe H=>Kn P T an nl ops os f m e H (acc++[(h,g)]) K))
     | false=>
      bif b then
       (match p.2 with
       | true=>Ey P T an n o (ev (Bg e s (.val (.bool true)))) H λc m=>Lz (Mq (Nn nl o.dst) c.r) λr=>Of c.wr λwr=>Jy c.rd λh=>Jy wr λg=>Km (Bg e s (.val (.bool true))) o.dst r H wr λe H=>Kn P T an nl ops os (s::f) m e H (acc++[(h,g)]) K
       | false=>Km (Bg e s (.val (.bool true))) o.dst (.val undef) H [] λe H=>Kn P T an nl ops os (s::f) n e H (acc++[([],[])]) K)
      else
       (match p.2 with
       | true=>Km (Bg e s (.val (.bool false))) o.dst (.val undef) H [] λe H=>Kn P T an nl ops os (s::f) n e H (acc++[([],[])]) K
       | false=>Ey P T an n o (ev (Bg e s (.val (.bool false)))) H λc m=>Lz (Mq (Nn nl o.dst) c.r) λr=>Of c.wr λwr=>Jy c.rd λh=>Jy wr λg=>Km (Bg e s (.val (.bool false))) o.dst r H wr λe H=>Kn P T an nl ops os (s::f) m e H (acc++[(h,g)]) K)
    | .val (.tuple _)=>Km e o.dst (.val undef) H [] λe H=>Kn P T an nl ops os f n e H (acc++[([],[])]) K
    | _=>False
inductive No (ops:List Oper) (acc:Jc) (K:Prop):Prop where
 | mk (h:Ahi ops acc=true) (k:K)
inductive Ex where
 | normal
 | exit (id:Nat)
 | ret
def Hv (e:B6):List (Nat×AV)->Prop
 | []=>True
 | p::l=>e p.1=p.2/\Hv e l
def Hw (H H':Hp):Nat->Nat->Prop
 | 0,_=>True
 | k+1,n=>(H k=H' k/\(H' k).under n=true)/\Hw H H' k n
def La (b:List Nat) (e:B6) (u:Nat->Value) (l:List (Nat×AV)):B6:=l.foldr (λp e=>Bg e p.1 p.2) (b.foldr (λs e=>Bg e s (.val (u s))) e)
def L0 (n:Nat) (b:List (Nat×AV)) (hv:List (Nat×Bu)):Bool:=(b.all λp=>p.2.under n)&&hv.all λp=>Nat.blt p.1 n
inductive A0o (n:Nat) (ws:List Nat) (e:B6) (H:Hp) (body:(Nat->B6->Hp->Prop)->Nat->B6->Hp->Prop):Prop where
 | mk (I:Type) (inv:I->Prop) (iv:I->List (Nat×AV)) (hv:I->List (Nat×Bu)) (m:I->Nat) (i0:I) (hb:∀i,L0 n (iv i) (hv i)=true)
   (h0:inv i0) (hs:Hv e (iv i0)) (hh:Hw H (C2 H (hv i0)) n n)
   (step:∀(i:I) (u:Nat->Value),inv i->body (λ_ e' H'=>∃i',inv i'/\Hv e' (iv i')/\Hw H' (C2 H (hv i')) n n/\m i' < m i) n (La ws e u (iv i)) (C2 H (hv i)))
def F3:Code->List Nat
 | .region _ ops _=>ops.toList.filterMap (·.dst)
 | .seq a b=>F3 a++F3 b
 | .cond _ a b=>F3 a++F3 b
 | .block _ b=>F3 b
 | .loop b=>F3 b
 | .scope b=>F3 b
 | _=>[]
def Ac1:List Nat->B6->Hp->(B6->Hp->Prop)->Prop
 | [],e,H,K=>K e H
 | s::b,e,H,K=> match e s with
  | .arr h k 0 len=> match H h with
   | .rows _ sz xs=>Hf k xs (Hf len xs (Ac1 b (Bg e s (.sl sz xs)) (Bg H h .dead) K))
   | _=>False
  | _=>False
structure Cfg where
 T:C6
 an:Nat->Ann:=λ_=>.std
 gh:Nat->List Nat:=λ_=>[]
 nl:Nat->List (Nat×Nat):=λ_=>[]
def Anr (x:AV) (A B:Prop):Prop := match x with
 | .val (.bool t)=>bif t then A else B
 | _=>False
def vc (P:Program) (C:Cfg):Code->(Ex->Nat->B6->Hp->Prop)->Nat->B6->Hp->Prop
 | .skip,Q,n,e,H=>Q .normal n e H
 | .region id ops draw,Q,n,e,H=>Ac1 (C.gh id) e H λe H=> Kn P C.T C.an C.nl ops ops.toList [] n e H [] λn e H acc=>bif draw then No ops.toList acc (Q .normal n e H) else Q .normal n e H
 | .seq a b,Q,n,e,H=>vc P C a (λx n e H=>match x with
   | .normal=>vc P C b Q n e H
   | .exit id=>Q (.exit id) n e H
   | .ret=>Q .ret n e H) n e H
 | .cond c a b,Q,n,e,H=>Anr (ev e c) (vc P C a Q n e H) (vc P C b Q n e H)
 | .block id b,Q,n,e,H=>vc P C b (λx n e H=>match x with
   | .normal=>Q .normal n e H
   | .exit i=>bif Nat.beq i id then Q .normal n e H else Q (.exit i) n e H
   | .ret=>Q .ret n e H) n e H
 | .loop b,Q,n,e,H=>A0o n (F3 b) e H λK n e H=>vc P C b (λx n e H=>match x with
   | .normal=>K n e H
   | .exit id=>Q (.exit id) n e H
   | .ret=>Q .ret n e H) n e H
 | .exit id,Q,n,e,H=>Q (.exit id) n e H
 | .ret,Q,n,e,H=>Q .ret n e H
 | _,_,_,_,_=>False
def Ans (N:Nat) (x:Operand):Bool := match x with
 | .tmp t=>Nat.blt t N
 | _=>true
def Ko (N:Nat):Code->Bool
 | .region _ ops _=>ops.toList.all λo=>(Ly ops o).all λs=>Nat.blt s N
 | .seq a b=>Ko N a&&Ko N b
 | .cond c a b=>Ans N c&&Ko N a&&Ko N b
 | .block _ b=>Ko N b
 | .loop b=>Ko N b
 | .scope b=>Ko N b
 | _=>true
def Ex.out:Ex->Exit
 | .normal=>.normal
 | .exit id=>.exit id
 | .ret=>.ret
section
variable {P:Program} {T:C6} {an:Nat->Ann} {nl:Nat->List (Nat×Nat)} {ops:Array Oper} {F:A5} {W:World} {Q:Exit->Act->World->Prop}
theorem Ac2 {α:Type} {e:Nat->α} {s:Nat} {v:α} (h:e s=v):Bg e s v=e:=by subst h;exact I9 e s
theorem Ah3 (L:C7 P T):∀(os:List Oper) (g:List Nat) (i n:Nat) (e:B6) (H:Hp) (acc:Jc) (K:Nat->B6->Hp->Jc->Prop),ops.toList.drop i=os->acc.length=i->Fr H n->Kn P T an nl ops os g n e H acc K -> ∃f e' H' accs,K f e' H' accs/\accs.take i=acc/\accs.length=i+os.length/\n<=f/\Fr H' f/\Run P ops (λk=>accs.getD k ([],[])) (List.range' i os.length) e H e' H'
 | [],g,i,n,e,H,acc,K,hd,x,B,h=>⟨n,e,H,acc,h,by rw[<-x];simp,by simpa using x,Nat.le_refl _,B,.nil e H⟩
 | o::os,g,i,n,e,H,acc,K,hd,x,B,h=>by
  have M:ops[i]? = some o:=(by have:=congrArg (λl=>l[0]?) hd;simpa using this);have z:ops.toList.drop (i+1)=os:=(by have:=congrArg (List.drop 1) hd;simpa[List.drop_drop] using this);have run:∀(q:B6) (g:List Nat),Jb ops o q true->(Ey P T an n o (ev q) H λc m=>Lz (Mq (Nn nl o.dst) c.r) λr=>Of c.wr λwr=>Jy c.rd λR=>Jy wr λN=>Km q o.dst r H wr λe H=>Kn P T an nl ops os g m e H (acc++[(R,N)]) K) ->
    ∃f e' H' accs,K f e' H' accs/\accs.take i=acc/\accs.length=i+(o::os).length/\n<=f/\Fr H' f/\Run P ops (λk=>accs.getD k ([],[])) (List.range' i (o::os).length) q H e' H':=by
   intro q g hg u;obtain⟨c,m,h1,h2,h3,Y,V⟩:=Anq L B u;simp only[Ve,Ahs,Aht,Ac0]at h3;obtain⟨f,e',H',accs,G,A,U,S,E,D⟩:=Ah3 L os g (i+1) m _ _ _ K z (by simp[x]) V h3;have J:accs[i]? = some (c.rd.map (·.1),c.wr.map (·.1)):=(by have X:(accs.take (i+1))[i]? = accs[i]?:=Hm ω;rw[<-X,A,List.getElem?_append_right ω];simp[x]);have y:accs.getD i ([],[])=(c.rd.map (·.1),c.wr.map (·.1)):=(by simp[List.getD,J]);refine⟨f,e',H',accs,G,?_,by simp only[List.length_cons];omega,ω,E,?_⟩
   .have:=congrArg (List.take i) A;rw[List.take_take]at this;simpa[x] using this
   .rw[List.length_cons,List.range'_succ];refine .cons o (Mq (Nn nl o.dst) c.r) c.wr ⟨M,.inl ⟨hg,_,h1.nils (Nn nl o.dst),h2,?_,?_,rfl,rfl⟩⟩ D
    .intro p hp;show p.1∈(accs.getD i ([],[])).1;rw[y];exact List.mem_map_of_mem hp
    .intro p hp;show p.1∈(accs.getD i ([],[])).2;rw[y];exact List.mem_map_of_mem hp
  have skip:∀(q:B6) (g:List Nat),Jb ops o q false->(Km q o.dst (.val undef) H [] λe H=>Kn P T an nl ops os g n e H (acc++[([],[])]) K) ->
    ∃f e' H' accs,K f e' H' accs/\accs.take i=acc/\accs.length=i+(o::os).length/\n<=f/\Fr H' f/\Run P ops (λk=>accs.getD k ([],[])) (List.range' i (o::os).length) q H e' H':=by
   intro q g hg u;rw[Ac0]at u;obtain⟨f,e',H',accs,G,A,U,S,E,D⟩:=Ah3 L os g (i+1) n _ _ _ K z (by simp[x]) B u;refine⟨f,e',H',accs,G,?_,by simp only[List.length_cons];omega,ω,E,?_⟩
   .have:=congrArg (List.take i) A;rw[List.take_take]at this;simpa[x] using this
   .rw[List.length_cons,List.range'_succ];exact .cons o (.val undef) [] ⟨M,.inr ⟨hg,rfl,rfl⟩⟩ D
  simp only[Kn]at h;cases j:o.guard with
  | none=>rw[j]at h;exact run e g (by unfold Jb;rw[j]) h
  | some p=>
   rw[j]at h;simp only[]at h;cases u:(ops[p.1]?).bind (·.dst) with
   | none=>rw[u]at h;exact h.elim
   | some s=>
    rw[u]at h;simp only[]at h;split at h
    .rename_i b hb;have hg:∀on,on=(b==p.2)->Jb ops o e on:=(by intro on I;unfold Jb;rw[j];exact⟨s,.bool b,u,hb,by rw[I];cases b <;> cases p.2 <;> rfl⟩);cases hk:g.elem s with
     | true=>
      rw[hk]at h;simp only[]at h;cases b with
      | true=>cases hp:p.2 with| true=>rw[hp]at h;exact run e _ (hg true (by rw[hp];rfl)) h| false=>rw[hp]at h;exact skip e _ (hg false (by rw[hp];rfl)) h
      | false=>cases hp:p.2 with| true=>rw[hp]at h;exact skip e _ (hg false (by rw[hp];rfl)) h| false=>rw[hp]at h;exact run e _ (hg true (by rw[hp];rfl)) h
     | false=>
      rw[hk]at h;simp only[]at h;cases b with
      | true=>rw[Ac2 hb]at h;simp only[cond_true]at h;cases hp:p.2 with| true=>rw[hp]at h;exact run e _ (hg true (by rw[hp];rfl)) h| false=>rw[hp]at h;exact skip e _ (hg false (by rw[hp];rfl)) h
      | false=>rw[Ac2 hb]at h;simp only[cond_false]at h;cases hp:p.2 with| true=>rw[hp]at h;exact skip e _ (hg false (by rw[hp];rfl)) h| false=>rw[hp]at h;exact run e _ (hg true (by rw[hp];rfl)) h
    .rename_i vs hv;exact skip e _ (by unfold Jb;rw[j];exact⟨s,_,u,hv,rfl⟩) h
    .exact h.elim
end
end Go.Ab
namespace Go.Ab
section
variable {P:Program} {C:Cfg} {F:A5} {W:World}
theorem Ant {c:Code} {Q:Exit->Act->World->Prop} {a:Act} {w:World} (J:Nat->Act->World->Prop) (k0:Nat) (h0:J k0 a w) (g:∀k a w,J k a w->c.wp P (Exit.then (λq w'=>∃s,s<k/\J s q w') Q) a w):(Code.loop c).wp P Q a w:=by
 intro b u cs;have key:∀k a w,J k a w->∃e q w',Q e q w'/\Arrives P (lone (b.at a (.code c :: .inLoop c::u)) cs w) b u cs e q w':=by
  intro k;induction k using Nat.strongRecOn with
  | _ k ih=>intro a w D;obtain⟨e,j,i,hq,f⟩:=g k a w D b (.inLoop c::u) cs;cases e with| normal=>obtain⟨s,z,A⟩:=hq;obtain⟨E,G,B,y,h⟩:=ih s z j i A;exact⟨E,G,B,y,.of_steps (Steps.trans f (.one step_inLoop)) h⟩| exit id=>exact⟨_,j,i,hq,.pass (x:=.inLoop c) rfl (λ_ _=>.inl ψ) f⟩| goto l=>exact⟨_,j,i,hq,.pass (x:=.inLoop c) rfl (λ_ _=>.inl ψ) f⟩| ret=>exact⟨_,j,i,hq,.pass (x:=.inLoop c) rfl (λ_ _=>.inl ψ) f⟩| panic I=>exact⟨_,j,i,hq,.pass (x:=.inLoop c) rfl (λ_ _=>.inl ψ) f⟩| outgrown=>exact⟨_,j,i,hq,.pass (x:=.inLoop c) rfl (λ_ _=>.inl ψ) f⟩
 obtain⟨e,q,w',hq,f⟩:=key k0 a w h0;exact⟨e,q,w',hq,.of_steps (.one step_loop) f⟩
theorem A0p {n:Nat} {x:AV} (h:x.under2 n=true) (hx:∀cs,x≠.agg cs):x.under1 n=true:=by cases x <;> first|exact h|exact (hx _ rfl).elim
theorem Conc.restrict {σ:A5} {ι B:B9} {H H':Hp} {n:Nat} (D:∀h,h<n->B h=ι h) (G:∀h,h<n->H' h=H h) {x:AV} {v:Value} (hx:x.under n=true) (h:Conc σ ι H x v):Conc σ B H' x v:=by
 have l:∀{x:AV} {v:Value},x.under0 n=true->Conc σ ι H x v->Conc σ B H' x v:=by intro x v hx h;cases h with| cc h=>exact .cc h| loc h off b hb=>exact .loc h off b (by rw[D h (Hu hx)];exact hb)| mp h b hb=>exact .mp h b (by rw[D h (Hu hx)];exact hb)| arr h k off len v I hv z=>have y:=Hu hx;exact .arr h k off len v (by rw[G h y];exact I) (by rw[D h y,G h y];exact hv) z| el h k i j v I hv z=>have y:=Hu hx;exact .el h k i j v (by rw[G h y];exact I) (by rw[D h y,G h y];exact hv) z| ref cs b off C E fr g R hc h1 S=>exact .ref cs b off C E fr g R hc h1 S| agg=>cases hx| tup=>cases hx| fn=>cases hx
 have key:∀{x:AV} {v:Value},x.under1 n=true->Conc σ ι H x v->Conc σ B H' x v:=by intro x v hx h;cases x with| fn f cs=>obtain⟨vs,rfl,A,h⟩:=h.fn_inv;exact .fn f cs vs A λi c u h1 h2=>l (D6.1 hx c (F6 h1)) (h i c u h1 h2)| agg cs=>cases hx| tup cs=>cases hx| val u=>exact l (x:=(.val u)) hx h| loc q off=>exact l (x:=(.loc q off)) hx h| arr q k off len=>exact l (x:=(.arr q k off len)) hx h| el q k i j=>exact l (x:=(.el q k i j)) hx h| mp q=>exact l (x:=(.mp q)) hx h| ref cs=>exact l (x:=(.ref cs)) hx h| sl sz xs=>exact l (x:=(.sl sz xs)) hx h| fb s=>exact l (x:=(.fb s)) hx h
 have cells:∀{cs:List AV},cs.all (AV.under1 n)=true->∀(i:Nat) (c:AV) (u:Value),cs[i]? = some c->Conc σ ι H c u->Conc σ B H' c u :=
  λL i c u hc h=>key (D6.1 L c (F6 hc)) h
 cases x with
 | agg cs=>cases h with| cc h=>exact .cc h| agg _ vs A h=>exact .agg cs vs A λi c u h1 h2=>cells hx i c u h1 (h i c u h1 h2)
 | tup cs=>
  cases h with
  | cc h=>exact .cc h
  | tup _ vs A h=>refine .tup cs vs A λi c u h1 h2=>?_;have M:=D6.1 hx c (F6 h1);have hc:=h i c u h1 h2;cases c with| agg ds=>obtain⟨N,rfl,J,hv⟩:=hc.agg_inv;exact .agg ds N J λj d v g1 g2=>cells M j d v g1 (hv j d v g1 g2)| _=>exact key (A0p M (by intro cs e;cases e)) hc
 | fn f cs=>cases h with| cc h=>exact .cc h| fn _ _ vs A h=>exact .fn f cs vs A λi c u h1 h2=>cells hx i c u h1 (h i c u h1 h2)
 | val v=>exact key rfl h
 | loc h off=>exact key hx h
 | arr h k off len=>exact key hx h
 | el h k i j=>exact key hx h
 | mp h=>exact key hx h
 | ref cs=>exact key rfl h
 | sl sz xs=>exact key rfl h
 | fb s=>exact key rfl h
theorem Hw.spec {H H':Hp} {n:Nat}:∀{k:Nat},Hw H H' k n->∀h,h<k->H h=H' h/\(H' h).under n=true
 | 0,_,h,b=>ω
 | k+1,hh,h,b=>by
  by_cases e:h=k
  .subst e;exact hh.1
  .exact Hw.spec hh.2 h ω
theorem Hv.spec {e:B6}:∀{l:List (Nat×AV)},Hv e l->∀p∈l,e p.1=p.2
 | [],_,p,hp=>by cases hp
 | q::l,h,p,hp=>by
  rcases List.mem_cons.1 hp with rfl|hp
  .exact h.1
  .exact Hv.spec h.2 p hp
theorem Anu (c:List Nat) (e:B6) (u:Nat->Value) (l:List (Nat×AV)) (s:Nat):(∃p∈l,p.1=s/\La c e u l s=p.2)\/(s∈c/\La c e u l s = .val (u s))\/(s ∉ c/\La c e u l s=e s):=by
 have base:(s∈c/\(c.foldr (λs e=>Bg e s (.val (u s))) e) s = .val (u s))\/(s ∉ c/\(c.foldr (λs e=>Bg e s (.val (u s))) e) s=e s):=by
  induction c with
  | nil=>exact .inr ⟨ψ,rfl⟩
  | cons t c ih=>
   simp only[List.foldr_cons];by_cases b:s=t
   .subst b;exact .inl ⟨ψ,Cy _ _ _⟩
   .rw[Di _ _ b];rcases ih with⟨h1,h2⟩|⟨h1,h2⟩
    .exact .inl ⟨by simp[h1],h2⟩
    .exact .inr ⟨by simp[h1,b],h2⟩
 unfold La;induction l with
 | nil=>exact .inr base
 | cons p l ih=>
  simp only[List.foldr_cons];by_cases b:s=p.1
  .exact .inl ⟨p,ψ,b.symm,by rw[b];exact Cy _ _ _⟩
  .rw[Di _ _ b];rcases ih with⟨q,hq,h1,h2⟩|h|h
   .exact .inl ⟨q,by simp[hq],h1,h2⟩
   .exact .inr (.inl h)
   .exact .inr (.inr h)
theorem Anv:∀(i:List Nat) {e:B6} {H:Hp} {K:B6->Hp->Prop} {n:Nat} {σ:A5} {ι:B9} {a:Act} {w:World},Ac1 i e H K->St σ ι H F W w->Fe σ ι H e a->Fr H n -> ∃g e' H',K e' H'/\Le σ ι H g ι H'/\St g ι H' F W w/\Fe g ι H' e' a/\Fr H' n
 | [],e,H,K,n,σ,ι,a,w,h,s,f,c=>⟨σ,e,H,h,Le.refl _ _ _,s,f,c⟩
 | t::i,e,H,K,n,σ,ι,a,w,h,s,f,c=>by
  simp only[Ac1]at h;split at h
  .rename_i hd k len hx;split at h
   .rename_i E sz xs hh;obtain⟨hk,R,h⟩:=h;obtain⟨B,b,D,u⟩:=s.freeze hh;have x:Fe B ι (Bg H hd .dead) (Bg e t (.sl sz xs)) a:=by
     intro q hq;by_cases z:q=t
     .subst z;rw[Cy];have hc:=f q hq;rw[hx]at hc;have:=u 0 len _ ω (hc.arr_inv hh hk);rw[List.drop_zero,List.take_of_length_le ω]at this;exact .cc this
     .rw[Di _ _ z];exact (f q hq).mono b
    have j:Fr (Bg H hd .dead) n:=(by intro m hm;have l:hd≠m:=(by intro y;subst y;have:=c hd hm;rw[hh]at this;cases this);rw[Di _ _ (Ne.symm l)];exact c m hm);obtain⟨A,y,N,M,L,J,I,G⟩:=Anv i h D x j;exact⟨A,y,N,M,b.trans L,J,I,G⟩
   .exact h.elim
  .exact h.elim
theorem Anw {N:Nat} {ops:Array Oper} (h:(ops.toList.all λo=>(Ly ops o).all λs=>Nat.blt s N)=true):Aci ops N:=by intro i o c s b;rw[D6]at h;have:=h o (by simpa using Array.mem_of_getElem? c);rw[D6]at this;exact Hu (this s b)
theorem S0 (hT:C7 P C.T) (hm:P.follows .mixedOrders=true):∀(c:Code) (Q':Ex->Nat->B6->Hp->Prop) (n:Nat) (e:B6) (H:Hp) (σ:A5) (ι:B9) (a:Act) (w:World) (Q:Exit->Act->World->Prop), Ko a.tmps.size c=true->vc P C c Q' n e H->St σ ι H F W w->Fe σ ι H e a->Fr H n -> (∀x n' e' H' σ' ι' a' w',Q' x n' e' H'->Le σ ι H σ' ι' H'->St σ' ι' H' F W w'->Fe σ' ι' H' e' a'->Fr H' n'->n<=n'->a'.tmps.size=a.tmps.size->a'.defers=a.defers->F2 (F3 c) a a'->Q x.out a' w')->c.wp P Q a w
 | .skip,Q',n,e,H,σ,ι,a,w,Q,_,h,s,U,S,hk=>wp_skip (hk .normal n e H σ ι a w h (Le.refl _ _ _) s U S (Nat.le_refl _) rfl rfl (F2.refl _ _))
 | .exit id,Q',n,e,H,σ,ι,a,w,Q,_,h,s,U,S,hk=>wp_exit (hk (.exit id) n e H σ ι a w h (Le.refl _ _ _) s U S (Nat.le_refl _) rfl rfl (F2.refl _ _))
 | .ret,Q',n,e,H,σ,ι,a,w,Q,_,h,s,U,S,hk=>wp_ret (hk .ret n e H σ ι a w h (Le.refl _ _ _) s U S (Nat.le_refl _) rfl rfl (F2.refl _ _))
 | .region id ops draw,Q',n,e,H,σ,ι,a,w,Q,u,h,s,U,S,hk=>by
  simp only[vc]at h;obtain⟨σ0,e0,b3,h,ap,s0,az,ba⟩:=Anv _ h s U S;obtain⟨n',e',H',accs,hK,_,bh,av,hf,aj⟩:=Ah3 hT ops.toList [] 0 n e0 b3 [] _ ψ rfl ba h;have ar:=Anw u;cases draw with
  | false=>simp only[cond_false]at hK;refine wp_region ?_;have:List.range ops.size=List.range' 0 ops.toList.length:=(by rw[List.range_eq_range'];simp);rw[this];refine aj.wpOps s0 az ar ?_;intro σ' ι' a' w' le s' ao g l hu;exact hk .normal n' e' H' σ' ι' a' w' hK (ap.trans le) s' ao hf av g l hu
  | true=>
   simp only[cond_true]at hK;obtain⟨b9,hK⟩:=hK;refine wp_region_any hm ?_;have L:ops=ops.toList.toArray:=ψ;rw[L];simp only[List.size_toArray];refine Ahk (accs:=accs) (e':=e') (H':=H') b9 ops.toList.length _ (List.range' 0 ops.toList.length) e0 b3 σ0 ι a _ (by rw[<-L];exact aj) (List.pairwise_lt_range' ..) ?_ ψ ?_ ψ (s0.drew _) az (by rw[<-L];exact ar) ?_
   .intro i;simp only[List.mem_range'_1,Array.getD_eq_getD_getElem?];constructor
    .rintro⟨_,h2⟩;refine⟨ω,?_⟩;have:i<ops.size:=(by simpa using h2);simp[this]
    .rintro⟨h1,_⟩;omega
   .intro k o bg hl;exfalso;simp only[Array.getD_eq_getD_getElem?]at hl;by_cases ah:k<ops.size
    .simp[ah]at hl
    .simp[ah]at hl
   .intro σ' ι' a' w' le s' ao g l hu;exact hk .normal n' e' H' σ' ι' a' w' hK (ap.trans le) s' ao hf av g l (by rw[<-L]at hu;exact hu)
 | .seq c1 c2,Q',n,e,H,σ,ι,a,w,Q,u,h,s,U,S,hk=>by simp only[Ko,Fq]at u;simp only[vc]at h;refine wp_seq (S0 hT hm c1 _ n e H σ ι a w _ u.1 h s U S ?_);intro x n1 L N D G a1 R hq f A j z B g l hu;cases x with| normal=>refine S0 hT hm c2 Q' n1 L N D G a1 R Q (by rw[g];exact u.2) hq A j z ?_;intro x n2 e2 H2 σ2 ι2 a2 w2 b8 V s2 ae ag ac X Y ab;exact hk x n2 e2 H2 σ2 ι2 a2 w2 b8 (f.trans V) s2 ae ag ω (X.trans g) (Y.trans l) ((hu.mono (by simp[F3];exact λs h=>.inl h)).trans (ab.mono (by simp[F3];exact λs h=>.inr h)))| exit id=>exact hk (.exit id) n1 L N D G a1 R hq f A j z B g l (hu.mono (by simp[F3];exact λs h=>.inl h))| ret=>exact hk .ret n1 L N D G a1 R hq f A j z B g l (hu.mono (by simp[F3];exact λs h=>.inl h))
 | .cond x c1 c2,Q',n,e,H,σ,ι,a,w,Q,u,h,s,U,S,hk=>by
  simp only[Ko,Fq]at u;simp only[vc,Anr]at h;split at h
  .rename_i t hx;have hc:=U.eval (x:=x) (λt ht=>by cases x with| tmp q=>cases ht;exact Hu u.1.1| _=>cases ht)
   rw[hx]at hc;have hv:=hc.val_inv;cases t with| true=>refine wp_cond_true hv (S0 hT hm c1 Q' n e H σ ι a w Q u.1.2 h s U S ?_);intro x n1 L N D G a1 R hq f A j z B g l hu;exact hk x n1 L N D G a1 R hq f A j z B g l (hu.mono (by simp[F3];exact λs h=>.inl h))| false=>refine wp_cond_false hv (S0 hT hm c2 Q' n e H σ ι a w Q u.2 h s U S ?_);intro x n1 L N D G a1 R hq f A j z B g l hu;exact hk x n1 L N D G a1 R hq f A j z B g l (hu.mono (by simp[F3];exact λs h=>.inr h))
  .exact h.elim
 | .block id c,Q',n,e,H,σ,ι,a,w,Q,u,h,s,U,S,hk=>by
  simp only[vc]at h;refine wp_block (S0 hT hm c _ n e H σ ι a w _ u h s U S ?_);intro x n1 L N D G a1 R hq f A j z B g l hu;cases x with
  | normal=>exact hk .normal n1 L N D G a1 R hq f A j z B g l hu
  | exit i=>
   simp only[Ex.out,Exit.inBlock];by_cases hi:i=id
   .subst hi;rw[if_pos rfl];have:Nat.beq i i=true:=Nat.beq_refl i;simp only[this,cond_true]at hq;exact hk .normal n1 L N D G a1 R hq f A j z B g l hu
   .rw[if_neg hi];have:Nat.beq i id=false:=by
     cases hb:Nat.beq i id
     .rfl
     .exact (hi (Gv hb)).elim
    simp only[this,cond_false]at hq;exact hk (.exit i) n1 L N D G a1 R hq f A j z B g l hu
  | ret=>exact hk .ret n1 L N D G a1 R hq f A j z B g l hu
 | .loop c,Q',n,e,H,σ,ι,a,w,Q,u,h,s,U,S,hk=>by
  simp only[vc]at h;obtain⟨I,aq,iv,hv,m,i0,hb,h0,b6,be,step⟩:=h;have b4:∀x,n<=x->ι x = .none:=(by intro x hx;have:=s.obj x;unfold C1 at this;rw[S x hx]at this;exact this);have am:∀i,∀p∈hv i,p.1<n:=(by intro i p hp;have:=hb i;unfold L0 at this;rw[Fq,D6,D6]at this;exact Hu (this.2 p hp));have ax:∀i,∀p∈iv i,p.2.under n=true:=(by intro i p hp;have:=hb i;unfold L0 at this;rw[Fq,D6,D6]at this;exact this.1 p hp);have ai:∀i,Fr (C2 H (hv i)) n:=(by intro i x hx;rw[U9 (λp hp e=>by have:=am i p hp;omega)];exact S x hx);let J:Nat->Act->World->Prop:=λk a' w'=>∃i σ' ι',m i=k/\aq i/\Le σ ι H σ' ι' (C2 H (hv i))/\St σ' ι' (C2 H (hv i)) F W w' /\
   Fe σ' ι' (C2 H (hv i)) (La (F3 c) e (λs=>a'.tmps.getD s undef) (iv i)) a'/\a'.tmps.size=a.tmps.size/\a'.defers=a.defers/\F2 (F3 c) a a'
  have a6:∀(i:I) (D:A5) (G:B9) (N:Hp) (L:B6) (a1:Act) (R:World),aq i->Hv L (iv i)->Hw N (C2 H (hv i)) n n->Le σ ι H D G N->St D G N F W R->Fe D G N L a1->a1.tmps.size=a.tmps.size ->
    a1.defers=a.defers->F2 (F3 c) a a1->J (m i) a1 R:=by
   intro i D G N L a1 R hi au ay f A j M Z a8;let ι2:B9:=λx=>if x<n then G x else .none
   have a7:∀x,x<n->ι2 x=G x:=λx hx=>if_pos hx;have aa:∀x,x<n->C2 H (hv i) x=N x:=λx hx=>((ay.spec) x hx).1.symm;have V:Le σ ι H D ι2 (C2 H (hv i)):=by
    refine⟨f.sto,λx=>?_⟩;by_cases hx:x<n
    .rw[a7 x hx,aa x hx];exact f.obj x
    .rw[b4 x ω,S x ω];exact HLe.of_none
   have s2:St D ι2 (C2 H (hv i)) F W R:=by
    refine⟨A.sto,A.fra,λx=>?_,?_,A.os,A.tape,A.output,A.glo,A.drw⟩
    .by_cases hx:x<n
     .have ho:=A.obj x;have ak:=((ay.spec) x hx).2;unfold C1 at ho ⊢;rw[aa x hx]at ak ⊢;rw[a7 x hx];cases af:N x with
      | none=>rw[af]at ho;exact ho
      | dead=>trivial
      | cells E cs=>rw[af]at ho ak;obtain⟨b,Cc,g1,g2,g3,g4,g5,g6⟩:=ho;refine⟨b,Cc,g1,g2,g3,g4,g5,λq cq v hq b5=>(g6 q cq v hq b5).restrict a7 aa ?_⟩;have:=D6.1 ak cq (F6 hq);exact Ahx this
      | rows E sz xs=>rw[af]at ho;exact ho
      | map es=>rw[af]at ho;exact ho
     .unfold C1;rw[ai i x ω];exact if_neg hx
    .intro x y b lx ly bx b0;have hx:x<n:=by
      rcases Nat.lt_or_ge x n with hx|hx
      .exact hx
      .rw[ai i x hx]at lx;cases lx
     have hy:y<n:=by
      rcases Nat.lt_or_ge y n with hy|hy
      .exact hy
      .rw[ai i y hy]at ly;cases ly
     rw[aa x hx]at lx;rw[aa y hy]at ly;rw[a7 x hx]at bx;rw[a7 y hy]at b0;exact A.inj x y b lx ly bx b0
   refine⟨i,D,ι2,rfl,hi,V,s2,?_,M,Z,a8⟩;intro q hq;rcases Anu (F3 c) e (λs=>a1.tmps.getD s undef) (iv i) q with⟨p,hp,rfl,ad⟩|⟨hw,ad⟩|⟨hw,ad⟩
   .rw[ad,<-au.spec p hp];refine (j p.1 hq).restrict a7 aa ?_;rw[au.spec p hp];exact ax i p hp
   .rw[ad];exact .of_val _
   .rw[ad,a8 q hw];exact (U q ω).mono V
  refine Ant J (m i0) (a6 i0 σ ι H e a w h0 b6 be (Le.refl _ _ _) s U rfl rfl (F2.refl _ _)) ?_;rintro k a1 R ⟨i,D,G,rfl,hi,f,A,j,M,Z,a8⟩;refine S0 hT hm c _ n _ _ D G a1 R _ (by rw[M];exact u) (step i (λs=>a1.tmps.getD s undef) hi) A j (ai i) ?_;intro x n2 e2 H2 σ2 ι2 a2 w2 hq V s2 ae ag ac X Y ab;cases x with| normal=>obtain⟨i',bb,b7,bf,ah⟩:=hq;exact⟨m i',ah,a6 i' σ2 ι2 H2 e2 a2 w2 bb b7 bf (f.trans V) s2 ae (X.trans M) (Y.trans Z) (a8.trans ab)⟩| exit id=>exact hk (.exit id) n2 e2 H2 σ2 ι2 a2 w2 hq (f.trans V) s2 ae ag ac (X.trans M) (Y.trans Z) (a8.trans ab)| ret=>exact hk .ret n2 e2 H2 σ2 ι2 a2 w2 hq (f.trans V) s2 ae ag ac (X.trans M) (Y.trans Z) (a8.trans ab)
 | .rangeFunc ..,_,_,_,_,_,_,_,_,_,_,h,_,_,_,_=>by simp only[vc]at h
 | .scope _,_,_,_,_,_,_,_,_,_,_,h,_,_,_,_=>by simp only[vc]at h
 | .label _,_,_,_,_,_,_,_,_,_,_,h,_,_,_,_=>by simp only[vc]at h
 | .goto _,_,_,_,_,_,_,_,_,_,_,h,_,_,_,_=>by simp only[vc]at h
 | .refuse _,_,_,_,_,_,_,_,_,_,_,h,_,_,_,_=>by simp only[vc]at h
end
end Go.Ab
namespace Go.Ab
def Ac3 (T:C6) (e:B6) (H:Hp):ResultVar->Option AV
 | .tmp t=>some (e t)
 | .cell a t=> match e a with
  | .loc h off=> match H h with
   | .cells _ cs=> match T t with
    | some i=>bif i.isAgg then (bif Nat.ble (off+i.size) cs.length then some (.agg ((cs.drop off).take i.size)) else none) else cs[off]?
    | none=>none
   | _=>none
  | _=>none
def Ac4 (x:AV) (H:Hp) (K:AV->Hp->Prop):Prop := match x with
 | .arr h k 0 len=> match H h with
  | .rows _ sz xs=>Hf k xs (Hf len xs (K (.sl sz xs) (Bg H h .dead)))
  | _=>False
 | x=>K x H
def Ac5:List AV->Hp->(List AV->Hp->Prop)->Prop
 | [],H,K=>K [] H
 | x::xs,H,K=>Ac4 x H λy H=>Ac5 xs H λys H=>K (y::ys) H
def fin (x:AV) (H:Hp) (K:AV->Hp->Prop):Prop := match x with
 | .agg cs=>Ac5 cs H λcs H=>K (.agg cs) H
 | x=>Ac4 x H K
def Ac6:List AV->Hp->(List AV->Prop)->Prop
 | [],_,K=>K []
 | x::xs,H,K=>fin x H λy H=>Ac6 xs H λys=>K (y::ys)
def Vh (T:C6) (e:B6) (H:Hp):List ResultVar->Option (List AV)
 | []=>some []
 | r::rs=> match Ac3 T e H r with
  | none=>none
  | some x=> match Vh T e H rs with
   | none=>none
   | some xs=>some (x::xs)
def Yb:List AV->AV
 | [x]=>x
 | xs=>.tup xs
def S3 (T:C6) (b:List ResultVar) (K:AV->Prop) (e:B6) (H:Hp):Prop := match Vh T e H b with
 | none=>False
 | some xs=>Ac6 xs H λys=>K (Yb ys)
def Vi (args:List AV):B6:=λn=>args.getD n (.val undef)
def S4:ResultVar->Nat
 | .tmp t=>t
 | .cell a _=>a
def Vj (fn:Func) (c:Code) (k:Nat):Bool:=Ko fn.ntmps c&&(fn.results.toList.all λr=>Nat.blt (S4 r) fn.ntmps)&&Nat.ble k fn.ntmps
section
variable {P:Program} {T:C6} {F:A5} {W w:World}
theorem Anx {x:AV} {H:Hp} {K:AV->Hp->Prop} {σ:A5} {ι:B9} {v:Value} (h:Ac4 x H K) (s:St σ ι H F W w) (hc:Conc σ ι H x v) : ∃b y H',K y H'/\Le σ ι H b ι H'/\St b ι H' F W w/\Conc b ι H' y v:=by
 unfold Ac4 at h;split at h
 .rename_i hd k len;split at h
  .rename_i E sz xs hh;obtain⟨hk,j,h⟩:=h;obtain⟨g,c,i,f⟩:=s.freeze hh;refine⟨g,.sl sz xs,Bg H hd .dead,h,c,i,.cc ?_⟩;have:=f 0 len _ ω (hc.arr_inv hh hk);rwa [List.drop_zero,List.take_of_length_le ω]at this
  .exact h.elim
 .exact⟨σ,_,H,h,Le.refl _ _ _,s,hc⟩
theorem Anz:∀{cs:List AV} {vs:List Value} {H:Hp} {K:List AV->Hp->Prop} {σ:A5} {ι:B9},Ac5 cs H K->St σ ι H F W w->vs.length=cs.length->(∀(i:Nat) (c:AV) (v:Value),cs[i]? = some c->vs[i]? = some v->Conc σ ι H c v) -> ∃j ys H',K ys H'/\Le σ ι H j ι H'/\St j ι H' F W w/\vs.length=ys.length/\∀(i:Nat) (c:AV) (v:Value),ys[i]? = some c->vs[i]? = some v->Conc j ι H' c v
 | [],vs,H,K,σ,ι,h,s,g,hc=>⟨σ,[],H,h,Le.refl _ _ _,s,g,hc⟩
 | x::cs,[],H,K,σ,ι,h,s,g,hc=>by simp at g
 | x::cs,v::vs,H,K,σ,ι,h,s,g,hc=>by simp only[Ac5]at h;obtain⟨E,y,G,h1,f,z,B⟩:=Anx h s (hc 0 x v ψ ψ);obtain⟨l,ys,D,h2,b,q,k,A⟩:=Anz (vs:=vs) h1 z (by simpa using g) (λi c u hi hu=>(hc (i+1) c u (by simpa using hi) (by simpa using hu)).mono f);refine⟨l,y::ys,D,h2,f.trans b,q,by simp[k],λi c u hi hu=>?_⟩;cases i with| zero=>simp at hi hu;subst hi;subst hu;exact B.mono b| succ i=>exact A i c u (by simpa using hi) (by simpa using hu)
theorem An0 {x:AV} {H:Hp} {K:AV->Hp->Prop} {σ:A5} {ι:B9} {v:Value} (h:fin x H K) (s:St σ ι H F W w) (hc:Conc σ ι H x v) : ∃b y H',K y H'/\Le σ ι H b ι H'/\St b ι H' F W w/\Conc b ι H' y v:=by
 unfold fin at h;split at h
 .rename_i cs;obtain⟨vs,rfl,l,hv⟩:=hc.agg_inv;obtain⟨j,ys,z,h1,f,k,g,q⟩:=Anz (vs:=vs.toList) h s (by simpa using l) (λi c u hi hu=>hv i c u hi (by simpa using hu));exact⟨j,.agg ys,z,h1,f,k,.agg ys vs (by simpa using g) (λi c u hi hu=>q i c u hi (by simpa using hu))⟩
 .exact Anx h s hc
theorem An1:∀{xs:List AV} {vs:List Value} {H:Hp} {K:List AV->Prop} {σ:A5} {ι:B9},Ac6 xs H K->St σ ι H F W w->vs.length=xs.length->(∀(i:Nat) (c:AV) (v:Value),xs[i]? = some c->vs[i]? = some v->Conc σ ι H c v) -> ∃j ys H',K ys/\Le σ ι H j ι H'/\St j ι H' F W w/\vs.length=ys.length/\∀(i:Nat) (c:AV) (v:Value),ys[i]? = some c->vs[i]? = some v->Conc j ι H' c v
 | [],vs,H,K,σ,ι,h,s,g,hc=>⟨σ,[],H,h,Le.refl _ _ _,s,g,hc⟩
 | x::cs,[],H,K,σ,ι,h,s,g,hc=>by simp at g
 | x::cs,v::vs,H,K,σ,ι,h,s,g,hc=>by simp only[Ac6]at h;obtain⟨E,y,G,h1,f,z,B⟩:=An0 h s (hc 0 x v ψ ψ);obtain⟨l,ys,D,h2,b,q,k,A⟩:=An1 (vs:=vs) h1 z (by simpa using g) (λi c u hi hu=>(hc (i+1) c u (by simpa using hi) (by simpa using hu)).mono f);refine⟨l,y::ys,D,h2,f.trans b,q,by simp[k],λi c u hi hu=>?_⟩;cases i with| zero=>simp at hi hu;subst hi;subst hu;exact B.mono b| succ i=>exact A i c u (by simpa using hi) (by simpa using hu)
def S5 (b:Array Value):ResultVar->Sem Value
 | .tmp t=>pure (b.getD t undef)
 | .cell a t=>do loadVar t (<-asAddr (b.getD a undef))
theorem A0q (B:C7 P T) {e:B6} {H:Hp} {σ:A5} {ι:B9} {a:Act} (s:St σ ι H F W w) (A:Fe σ ι H e a) {r:ResultVar} {x:AV} (z:S4 r<a.tmps.size) (h:Ac3 T e H r=some x) : ∃v,(S5 a.tmps r).run P w = .ok v w/\Conc σ ι H x v:=by
 cases r with
 | tmp t=>simp only[Ac3]at h;cases h;exact⟨_,rfl,A t z⟩
 | cell p t=>
  simp only[Ac3]at h;split at h
  .rename_i hd off hx;split at h
   .rename_i E cs hh;split at h
    .rename_i i ht;have hc:=A p z;rw[hx]at hc;obtain⟨b,hb,hv⟩:=hc.loc_inv;have k:=s.obj hd;unfold C1 at k;rw[hh]at k;obtain⟨L,C,I,_,_,h3,J,G⟩:=k;rw[hb]at I;cases I;have h1:=Ab3 (B t i ht) w;cases y:i.isAgg with
     | true=>rw[y]at h h1;simp only[cond_true]at h;cases g:Nat.ble (off+i.size) cs.length with| false=>rw[g]at h;cases h| true=>rw[g]at h;cases h;have g:=Gu g;have h2:=Ni (B t i ht) w;have D:=run_loadCells_list (P:=P) w ⟨b,off,none⟩ ((C.toList.drop off).take i.size) (by intro j v hj;have f:j<i.size:=(by have:=(Gl.1 hj).1;simp at this;omega);rw[Hm f,List.getElem?_drop,Gm]at hj;rw[K9,J6 h3];exact hj);have q:((C.toList.drop off).take i.size).length=i.size:=ζ;rw[q]at D;refine⟨_,by simp only[S5,hv,asAddr,Sem.run_bind,Sem.run_pure,Result.andThen_ok,loadVar,h1,if_true,h2,D];rfl,?_⟩;refine .agg _ _ ζ (λj c u g1 g2=>?_);have f:j<i.size:=(by have:=(Gl.1 g1).1;simp at this;omega);rw[Hm f,List.getElem?_drop]at g1;rw[List.getElem?_toArray,Hm f,List.getElem?_drop,Gm]at g2;exact G _ c u g1 g2
     | false=>rw[y]at h h1;simp only[cond_false]at h;have f:off<C.size:=(by rw[J];exact (Gl.1 h).1);have l:w.cell? ⟨b,off,none⟩=some C[off]:=(by rw[J6 h3];simp[f]);exact⟨C[off],by simp[S5,hv,asAddr,loadVar,h1,l],G off x _ h (by simp[f])⟩
    .cases h
   .cases h
  .cases h
theorem Ah4 (k:C7 P T) {e:B6} {H:Hp} {σ:A5} {ι:B9} {a:Act} (s:St σ ι H F W w) (j:Fe σ ι H e a):∀{b:List ResultVar} {xs:List AV},(∀r∈b,S4 r<a.tmps.size)->Vh T e H b=some xs -> ∃vs:List Value,(b.mapM (S5 a.tmps)).run P w = .ok vs w/\vs.length=xs.length/\∀(i:Nat) (c:AV) (v:Value),xs[i]? = some c->vs[i]? = some v->Conc σ ι H c v
 | [],xs,_,h=>by simp only[Vh]at h;cases h;exact⟨[],ψ,rfl,ψ⟩
 | r::b,xs,g,h=>by
  simp only[Vh]at h;split at h
  .cases h
  .rename_i x hx;split at h
   .cases h
   .rename_i ys hy;cases h;obtain⟨v,h1,z⟩:=A0q k s j (g r ψ) hx;obtain⟨vs,h2,q,y⟩:=Ah4 k s j (λl f=>g l (by simp[f])) hy;refine⟨v::vs,by simp[List.mapM_cons,h1,h2],by simp[q],λi c u hi hu=>?_⟩;cases i with| zero=>simp at hi hu;subst hi;subst hu;exact z| succ i=>exact y i c u (by simpa using hi) (by simpa using hu)
theorem An2 (fn:Func) (b:Array Value):results fn b=(fn.results.mapM (S5 b) >>= λvs=>pure (if h:vs.size=1 then vs[0] else .tuple vs)):=by unfold results;congr 1
theorem A0r (A:C7 P T) {fn:Func} {K:AV->Prop} {e:B6} {H:Hp} {σ:A5} {ι:B9} {a:Act} (s:St σ ι H F W w) (z:Fe σ ι H e a) (q:∀r∈fn.results.toList,S4 r<a.tmps.size) (h:S3 T fn.results.toList K e H) : ∃v f H' r,(results fn a.tmps).run P w = .ok v w/\K r/\Le σ ι H f ι H'/\St f ι H' F W w/\Conc f ι H' r v:=by
 unfold S3 at h;split at h
 .exact h.elim
 .rename_i xs hx;obtain⟨vs,h1,x,B⟩:=Ah4 A s z q hx;obtain⟨f,ys,H',k,le,s',b,j⟩:=An1 h s x B;have g:(fn.results.mapM (S5 a.tmps)).run P w = .ok vs.toArray w:=(by rw[Array.mapM_eq_mapM_toList];simp[h1]);refine⟨if h:vs.toArray.size=1 then vs.toArray[0] else .tuple vs.toArray,f,H',Yb ys,?_,k,le,s',?_⟩
  .rw[An2,Sem.run_bind,g];rfl
  .match ys,vs,b,j with| [y],[v],_,j=>exact j 0 y v rfl rfl| [],[],_,_=>exact .tup [] #[] rfl ψ| y::D::ys,v::l::vs,b,j=>have:¬(v::l::vs).toArray.size=1:=ψ;rw[dif_neg this];exact .tup _ _ (by simpa using b) (λi c u hi hu=>j i c u hi (by simpa using hu))| [],_::_,b,_=>simp at b| _::_,[],b,_=>simp at b| [_],_::_::_,b,_=>simp at b| _::_::_,[_],b,_=>simp at b
theorem St.forget {σ:A5} {ι:B9} {H:Hp} (s:St σ ι H F W w):St σ ι0 H0 F W w := ⟨s.sto,s.fra,λ_=>rfl,(λ_ _ _ b=>by cases b),s.os,s.tape,s.output,s.glo,s.drw⟩
theorem An3 {σ:A5} {ι:B9} {H:Hp} {args:List AV} {vs:Array Value} {N:Nat} (h:Nj σ ι H args vs):Fe σ ι H (Vi args) ⟨vs++Array.replicate (N-vs.size) undef,[]⟩:=by
 intro q hq;simp only[Vi,Array.getD_eq_getD_getElem?];by_cases b:q<args.length
 .have hq':q<vs.size:=(by rw[h.1];exact b);rw[Array.getElem?_append_left hq'];have h1:args[q]? = some args[q]:=List.getElem?_eq_getElem b;have h2:vs[q]? = some vs[q]:=Array.getElem?_eq_getElem hq';have:=h.2 q _ _ h1 h2;simpa[List.getD,h1,h2] using this
 .rw[Array.getElem?_append_right (by rw[h.1];omega)];have h1:args[q]? = none:=List.getElem?_eq_none ω;have hq':q-vs.size<N-vs.size:=(by simp at hq;have:=h.1;omega);simp only[List.getD,h1,Option.getD_none];simp[hq'];exact .of_val undef
end
end Go.Ab
namespace Go.Ab
inductive Tr where
 | leaf
 | node (l:Tr) (k:Nat) (v:TI) (r:Tr)
def Tr.find:Tr->Nat->Option TI
 | .leaf,_=>none
 | .node l k v r,t=>bif Nat.beq t k then some v else bif Nat.blt t k then l.find t else r.find t
def Tr.toList:Tr->List (Nat×TI)
 | .leaf=>[]
 | .node l k v r=>l.toList++(k,v)::r.toList
theorem Tr.find_mem:∀(t:Tr) (k:Nat) (v:TI),t.find k=some v->(k,v)∈t.toList
 | .leaf,k,v,h=>by cases h
 | .node l b f r,k,v,h=>by
  simp only[Tr.find]at h;simp only[Tr.toList,List.mem_append,List.mem_cons];cases hb:Nat.beq k b with
  | true=>rw[hb]at h;simp only[cond_true]at h;cases h;rw[Gv hb];exact .inr (.inl rfl)
  | false=>rw[hb]at h;simp only[cond_false]at h;cases c:Nat.blt k b with| true=>rw[c]at h;exact .inl (Tr.find_mem l k v h)| false=>rw[c]at h;exact .inr (.inr (Tr.find_mem r k v h))
theorem Tr.ok {P:Program} {t:Tr} (h:t.toList.map (λp=>Im P p.1)=t.toList.map (λp=>some p.2)):C7 P t.find:=by intro k v hk;have hm:=t.find_mem k v hk;obtain⟨i,hi⟩:=List.getElem?_of_mem hm;have:=congrArg (λl=>l[i]?) h;simpa[hi] using this
end Go.Ab
namespace Go.Ab
def Ac7:List AV->Hp->(List AV->Hp->Prop)->Prop
 | [],H,K=>K [] H
 | x::xs,H,K=>fin x H λy H=>Ac7 xs H λys H=>K (y::ys) H
def Qu (H:Hp):Nat->List Bu->Prop
 | _,[]=>True
 | k,o::os=>H k=o/\Qu H (k+1) os
def S6 (T:C6) (fz:Bool) (c:List ResultVar) (r:AV) (b:List Bu) (e:B6) (H:Hp):Prop := match Vh T e H c with
 | none=>False
 | some xs=>bif fz then Ac7 xs H λys H=>Yb ys=r/\Qu H 0 b else Yb xs=r/\Qu H 0 b
section
variable {P:Program} {T:C6} {F:A5} {W w:World}
theorem Qu.spec {H:Hp}:∀{os:List Bu} {k:Nat},Qu H k os->∀i,i<os.length->H (k+i)=hp os i
 | [],k,_,i,hi=>by simp at hi
 | o::os,k,h,0,_=>by simpa[hp] using h.1
 | o::os,k,h,i+1,hi=>by have:=Qu.spec h.2 i (by simpa using hi);rw[show k+(i+1)=k+1+i by omega,this];simp[hp]
theorem An4:∀{xs:List AV} {vs:List Value} {H:Hp} {K:List AV->Hp->Prop} {σ:A5} {ι:B9},Ac7 xs H K->St σ ι H F W w->vs.length=xs.length->(∀(i:Nat) (c:AV) (v:Value),xs[i]? = some c->vs[i]? = some v->Conc σ ι H c v) -> ∃j ys H',K ys H'/\Le σ ι H j ι H'/\St j ι H' F W w/\vs.length=ys.length/\∀(i:Nat) (c:AV) (v:Value),ys[i]? = some c->vs[i]? = some v->Conc j ι H' c v
 | [],vs,H,K,σ,ι,h,s,g,hc=>⟨σ,[],H,h,Le.refl _ _ _,s,g,hc⟩
 | x::cs,[],H,K,σ,ι,h,s,g,hc=>by simp at g
 | x::cs,v::vs,H,K,σ,ι,h,s,g,hc=>by simp only[Ac7]at h;obtain⟨E,y,G,h1,f,z,B⟩:=An0 h s (hc 0 x v ψ ψ);obtain⟨l,ys,D,h2,b,q,k,A⟩:=An4 (vs:=vs) h1 z (by simpa using g) (λi c u hi hu=>(hc (i+1) c u (by simpa using hi) (by simpa using hu)).mono f);refine⟨l,y::ys,D,h2,f.trans b,q,by simp[k],λi c u hi hu=>?_⟩;cases i with| zero=>simp at hi hu;subst hi;subst hu;exact B.mono b| succ i=>exact A i c u (by simpa using hi) (by simpa using hu)
theorem A0s (D:C7 P T) {fn:Func} {fz:Bool} {r:AV} {q:List Bu} {e:B6} {H:Hp} {σ:A5} {ι:B9} {a:Act} (s:St σ ι H F W w) (B:Fe σ ι H e a) (l:∀r∈fn.results.toList,S4 r<a.tmps.size) (h:S6 T fz fn.results.toList r q e H):∃v f H',(results fn a.tmps).run P w = .ok v w/\Qu H' 0 q/\Le σ ι H f ι H'/\St f ι H' F W w/\Conc f ι H' r v:=by
 unfold S6 at h;split at h
 .exact h.elim
 .rename_i xs hx;obtain⟨vs,h1,x,z⟩:=Ah4 D s B l hx;have key:∃f ys H',(Yb ys=r/\Qu H' 0 q)/\Le σ ι H f ι H'/\St f ι H' F W w/\vs.length=ys.length/\∀(i:Nat) (c:AV) (v:Value),ys[i]? = some c->vs[i]? = some v->Conc f ι H' c v:=(by cases fz with| true=>exact An4 h s x z| false=>exact⟨σ,xs,H,h,Le.refl _ _ _,s,x,z⟩);obtain⟨f,ys,H',⟨rfl,k⟩,le,s',b,j⟩:=key;have g:(fn.results.mapM (S5 a.tmps)).run P w = .ok vs.toArray w:=(by rw[Array.mapM_eq_mapM_toList];simp[h1]);refine⟨if h:vs.toArray.size=1 then vs.toArray[0] else .tuple vs.toArray,f,H',?_,k,le,s',?_⟩
  .rw[An2,Sem.run_bind,g];rfl
  .match ys,vs,b,j with| [y],[v],_,j=>exact j 0 y v rfl rfl| [],[],_,_=>exact .tup [] #[] rfl ψ| y::E::ys,v::A::vs,b,j=>have:¬(v::A::vs).toArray.size=1:=ψ;rw[dif_neg this];exact .tup _ _ (by simpa using b) (λi c u hi hu=>j i c u hi (by simpa using hu))| [],_::_,b,_=>simp at b| _::_,[],b,_=>simp at b| [_],_::_::_,b,_=>simp at b| _::_::_,[_],b,_=>simp at b
theorem St.first {σ:A5} {ι:B9} {H:Hp} (s:St σ ι H F W w) (f:List Bu) (hk:∀i,i<f.length->H i=hp f i) (hu:f.all (Bu.under f.length)=true) : St σ (λk=>if k<f.length then ι k else .none) (hp f) F W w:=by
 have B:∀h,h<f.length->(λk=>if k<f.length then ι k else Loc.none) h=ι h:=λh j=>if_pos j;have hH:∀h,h<f.length->hp f h=H h:=λh j=>(hk h j).symm;have lt:∀k,(hp f k).live=true->k<f.length:=by
  intro k h;rcases Nat.lt_or_ge k f.length with h'|h'
  .exact h'
  .rw[Qq h']at h;cases h
 refine⟨s.sto,s.fra,λk=>?_,λk u b h1 h2 h3 q=>?_,s.os,s.tape,s.output,s.glo,s.drw⟩
 .by_cases j:k<f.length
  .have g:=s.obj k;have l:=D6.1 hu _ (F6 (X9 j));unfold C1 at g ⊢;rw[hk k j]at g;dsimp only;rw[if_pos j];cases hx:hp f k with| none=>rw[hx]at g;exact g| dead=>trivial| rows E sz xs=>rw[hx]at g;exact g| map es=>rw[hx]at g;exact g| cells E cs=>rw[hx]at g l;obtain⟨b,C,G,h1,h2,h3,q,D⟩:=g;refine⟨b,C,G,h1,h2,h3,q,λi c v x y=>?_⟩;have hc:=D6.1 l c (F6 x);refine (D i c v x y).restrict (n:=f.length) B hH ?_;exact Ahx hc
  .unfold C1;rw[Qq ω];exact if_neg j
 .have A:=lt k h1;have z:=lt u h2;rw[if_pos A]at h3;rw[if_pos z]at q;rw[hH k A]at h1;rw[hH u z]at h2;exact s.inj k u b h1 h2 h3 q
def Ah5 (c:List Bu) (r:AV) (b:List Bu):Bool:=Nat.ble c.length b.length&&r.under b.length&&b.all (Bu.under b.length)
def Sub (x y:AV):Prop:=∀(σ:A5) (ι:B9) (H:Hp) (v:Value),Conc σ ι H x v->Conc σ ι H y v
theorem Sub.refl (x:AV):Sub x x:=λ_ _ _ _ h=>h
theorem Sub.of_eq {x y:AV} (h:x=y):Sub x y:=by subst h;exact Sub.refl x
theorem Sub.nil (sz:Nat):Sub (.val (.slice none 0 0)) (.sl sz []):=λ_ _ _ _ h=>Acz rfl h
def Qv:List AV->List AV->Prop
 | [],[]=>True
 | x::xs,y::ys=>Sub x y/\Qv xs ys
 | _,_=>False
theorem Qv.spec:∀{xs ys:List AV},Qv xs ys->xs.length=ys.length/\∀(i:Nat) (y:AV),ys[i]? = some y->∃x,xs[i]? = some x/\Sub x y
 | [],[],_=>⟨rfl,ψ⟩
 | [],_::_,h=>h.elim
 | _::_,[],h=>h.elim
 | x::xs,y::ys,h=>by obtain⟨h1,h2⟩:=Qv.spec h.2;refine⟨by simp[h1],λi z b=>?_⟩;cases i with| zero=>simp at b;subst b;exact⟨x,rfl,h.1⟩| succ i=>simpa using h2 i z (by simpa using b)
theorem Sub.agg {xs ys:List AV} (h:Qv xs ys):Sub (.agg xs) (.agg ys):=by intro σ ι H v hc;obtain⟨vs,rfl,b,hv⟩:=hc.agg_inv;obtain⟨h1,h2⟩:=h.spec;refine .agg _ vs (by rw[<-h1];exact b) λi c u h3 j=>?_;obtain⟨x,g,f⟩:=h2 i c h3;exact f _ _ _ _ (hv i x u g j)
theorem Az.sub {f:FuncId} {args b:List AV} {r k:AV} (h:Az P f b r) (ha:Qv args b) (q:Sub r k):Az P f args k:=by
 refine⟨h.1,λσ F W w vs s hc=>?_⟩;obtain⟨h1,h2⟩:=ha.spec;refine (h.2 σ F W w vs s ⟨by rw[<-h1];exact hc.1,λi a v h3 j=>?_⟩).mono ?_
 .obtain⟨x,g,c⟩:=h2 i a h3;exact c _ _ _ _ (hc.2 i x v g j)
 .rintro e w' ⟨v,l,h3,j,g,c⟩;exact⟨v,l,h3,j,g,q _ _ _ _ c⟩
theorem Bt.sub {f:FuncId} {args b:List AV} {g c:List Bu} {r:AV} (h:Bt P f b g r c) (ha:Qv args b):Bt P f args g r c:=by refine⟨h.1,λσ F W w ι vs s hc=>?_⟩;obtain⟨h1,h2⟩:=ha.spec;refine h.2 σ F W w ι vs s ⟨by rw[<-h1];exact hc.1,λi a v h3 l=>?_⟩;obtain⟨x,k,j⟩:=h2 i a h3;exact j _ _ _ _ (hc.2 i x v k l)
end
end Go.Ab
namespace Go.Ab
inductive Fw (K:Prop):Prop where
 | mk (k:K)
def opK (P:Program) (T:C6) (an:Nat->Ann) (nl:Nat->List (Nat×Nat)) (o:Oper) (n:Nat) (e:B6) (H:Hp) (acc:Jc) (K:Nat->B6->Hp->Jc->Prop):Prop := Ey P T an n o (ev e) H λb m=>Lz (Mq (Nn nl o.dst) b.r) λr=>Of b.wr λwr=>Jy b.rd λf=>Jy wr λc=>Km e o.dst r H wr λe H=>Fw (K m e H (acc++[(f,c)]))
def Yc (o:Oper) (n:Nat) (e:B6) (H:Hp) (acc:Jc) (K:Nat->B6->Hp->Jc->Prop):Prop := Km e o.dst (.val undef) H [] λe H=>Fw (K n e H (acc++[([],[])]))
def Fi (P:Program) (T:C6) (an:Nat->Ann) (nl:Nat->List (Nat×Nat)) (ops:Array Oper):List Oper->Nat->B6->Hp->Jc->(Nat->B6->Hp->Jc->Prop)->Prop
 | [],n,e,H,acc,K=>K n e H acc
 | o::os,n,e,H,acc,K=> match o.guard with
  | none=>opK P T an nl o n e H acc λn e H acc=>Fi P T an nl ops os n e H acc K
  | some p=> match (ops[p.1]?).bind (·.dst) with
   | none=>False
   | some s=> match e s with
    | .val v=>bif Su v==some p.2 then opK P T an nl o n e H acc λn e H acc=>Fi P T an nl ops os n e H acc K else Yc o n e H acc λn e H acc=>Fi P T an nl ops os n e H acc K
    | _=>False
section
variable {P:Program} {T:C6} {an:Nat->Ann} {nl:Nat->List (Nat×Nat)} {ops:Array Oper}
theorem Ah6 (E:C7 P T):∀(os:List Oper) (i n:Nat) (e:B6) (H:Hp) (acc:Jc) (K:Nat->B6->Hp->Jc->Prop),ops.toList.drop i=os->acc.length=i->Fr H n->Fi P T an nl ops os n e H acc K -> ∃b e' H' accs,K b e' H' accs/\accs.take i=acc/\accs.length=i+os.length/\n<=b/\Fr H' b/\Run P ops (λk=>accs.getD k ([],[])) (List.range' i os.length) e H e' H'
 | [],i,n,e,H,acc,K,hd,j,y,h=>⟨n,e,H,acc,h,by rw[<-j];simp,by simpa using j,Nat.le_refl _,y,.nil e H⟩
 | o::os,i,n,e,H,acc,K,hd,j,y,h=>by
  have G:ops[i]? = some o:=(by have:=congrArg (λl=>l[0]?) hd;simpa using this);have u:ops.toList.drop (i+1)=os:=(by have:=congrArg (List.drop 1) hd;simpa[List.drop_drop] using this);have run:Jb ops o e true->(opK P T an nl o n e H acc λn e H acc=>Fi P T an nl ops os n e H acc K) ->
    ∃b e' H' accs,K b e' H' accs/\accs.take i=acc/\accs.length=i+(o::os).length/\n<=b/\Fr H' b/\Run P ops (λk=>accs.getD k ([],[])) (List.range' i (o::os).length) e H e' H':=by
   intro hg g;obtain⟨c,m,h1,h2,h3,N,L⟩:=Anq E y g;simp only[Ve,Ahs,Aht,Ac0]at h3;obtain⟨b,e',H',accs,B,x,J,I,A,z⟩:=Ah6 E os (i+1) m _ _ _ K u (by simp[j]) L h3.1;have D:accs[i]? = some (c.rd.map (·.1),c.wr.map (·.1)):=(by have M:(accs.take (i+1))[i]? = accs[i]?:=Hm ω;rw[<-M,x,List.getElem?_append_right ω];simp[j]);have q:accs.getD i ([],[])=(c.rd.map (·.1),c.wr.map (·.1)):=(by simp[List.getD,D]);refine⟨b,e',H',accs,B,?_,by simp only[List.length_cons];omega,ω,A,?_⟩
   .have:=congrArg (List.take i) x;rw[List.take_take]at this;simpa[j] using this
   .rw[List.length_cons,List.range'_succ];refine .cons o (Mq (Nn nl o.dst) c.r) c.wr ⟨G,.inl ⟨hg,_,h1.nils (Nn nl o.dst),h2,?_,?_,rfl,rfl⟩⟩ z
    .intro p hp;show p.1∈(accs.getD i ([],[])).1;rw[q];exact List.mem_map_of_mem hp
    .intro p hp;show p.1∈(accs.getD i ([],[])).2;rw[q];exact List.mem_map_of_mem hp
  have skip:Jb ops o e false->(Yc o n e H acc λn e H acc=>Fi P T an nl ops os n e H acc K) ->
    ∃b e' H' accs,K b e' H' accs/\accs.take i=acc/\accs.length=i+(o::os).length/\n<=b/\Fr H' b/\Run P ops (λk=>accs.getD k ([],[])) (List.range' i (o::os).length) e H e' H':=by
   intro hg g;unfold Yc at g;rw[Ac0]at g;obtain⟨b,e',H',accs,B,x,J,I,A,z⟩:=Ah6 E os (i+1) n _ _ _ K u (by simp[j]) y g.1;refine⟨b,e',H',accs,B,?_,by simp only[List.length_cons];omega,ω,A,?_⟩
   .have:=congrArg (List.take i) x;rw[List.take_take]at this;simpa[j] using this
   .rw[List.length_cons,List.range'_succ];exact .cons o (.val undef) [] ⟨G,.inr ⟨hg,rfl,rfl⟩⟩ z
  simp only[Fi]at h;cases f:o.guard with
  | none=>rw[f]at h;exact run (by unfold Jb;rw[f]) h
  | some p=>
   rw[f]at h;simp only[]at h;cases g:(ops[p.1]?).bind (·.dst) with
   | none=>rw[g]at h;exact h.elim
   | some s=>
    rw[g]at h;simp only[]at h;split at h
    .rename_i v hv;cases hb:Su v==some p.2 with| true=>rw[hb]at h;exact run (by unfold Jb;rw[f];exact⟨s,v,g,hv,hb.symm⟩) h| false=>rw[hb]at h;exact skip (by unfold Jb;rw[f];exact⟨s,v,g,hv,hb.symm⟩) h
    .exact h.elim
variable {o:Oper} {os:List Oper} {n:Nat} {e:B6} {H:Hp} {acc:Jc} {K:Nat->B6->Hp->Jc->Prop} {β:Type} {r:β}
theorem nx (k:opK P T an nl o n e H acc λn e H acc=>Fi P T an nl ops os n e H acc K) (hg:o.guard=none:=by exact rfl):Fw (Fi P T an nl ops (o::os) n e H acc K):=.mk (by simp only[Fi,hg];exact k)
theorem L1 (k:K n e H acc):Fw (Fi P T an nl ops [] n e H acc K):=.mk k
theorem A0t (p:Nat×Bool) (s:Nat) (k:opK P T an nl o n e H acc λn e H acc=>Fi P T an nl ops os n e H acc K) (hg:o.guard=some p:=by exact rfl) (b:(ops[p.1]?).bind (·.dst)=some s:=by exact rfl) (hb:e s = .val (.bool p.2):=by exact rfl):Fw (Fi P T an nl ops (o::os) n e H acc K) :=
 .mk (by simp only[Fi,hg,b,hb,Su,BEq.rfl,cond_true];exact k)
theorem A0u (p:Nat×Bool) (s:Nat) (v:Value) (k:Yc o n e H acc λn e H acc=>Fi P T an nl ops os n e H acc K) (hg:o.guard=some p:=by exact rfl) (b:(ops[p.1]?).bind (·.dst)=some s:=by exact rfl) (hb:e s = .val v:=by exact rfl) (hv:(Su v==some p.2)=false:=by exact rfl):Fw (Fi P T an nl ops (o::os) n e H acc K) :=
 .mk (by simp only[Fi,hg,b,hb,hv,cond_false];exact k)
theorem Qw {p:Nat×Bool} {s:Nat} (k:opK P T an nl o n e H acc λn e H acc=>Fi P T an nl ops os n e H acc K) (hg:o.guard=some p:=by exact rfl) (b:(ops[p.1]?).bind (·.dst)=some s:=by exact rfl) (hb:e s = .val (.bool p.2):=by exact rfl):Fw (Fi P T an nl ops (o::os) n e H acc K):=A0t p s k hg b hb
theorem Qx {p:Nat×Bool} {s:Nat} {v:Value} (k:Yc o n e H acc λn e H acc=>Fi P T an nl ops os n e H acc K) (hg:o.guard=some p:=by exact rfl) (b:(ops[p.1]?).bind (·.dst)=some s:=by exact rfl) (hb:e s = .val v:=by exact rfl) (hv:(Su v==some p.2)=false:=by exact rfl):Fw (Fi P T an nl ops (o::os) n e H acc K):=A0u p s v k hg b hb hv
theorem A0v {s:Nat} {b:Bool} {m c:Option β} {X:List Oper} (h:(bif b then m else c)=some r) (h1:b=true->m=some r->Fw (Fi P T an nl ops X n (Bg e s (.val (.bool true))) H acc K)) (h2:b=false->c=some r->Fw (Fi P T an nl ops X n (Bg e s (.val (.bool false))) H acc K)) (hb:e s = .val (.bool b):=by exact rfl):Fw (Fi P T an nl ops X n e H acc K):=by cases b with| true=>have:=h1 rfl h;rwa [Ac2 hb]at this| false=>have:=h2 rfl h;rwa [Ac2 hb]at this
end
end Go.Ab
namespace Go.Ab
theorem St.recell {σ:A5} {ι:B9} {H:Hp} {F:A5} {W w:World} (s:St σ ι H F W w) (h:Nat) (E:TypeId) (cs f:List AV) (hh:H h = .cells E cs) (l:f.length=cs.length) (hc:∀(i:Nat) (c j:AV) (v:Value),cs[i]? = some c->f[i]? = some j->Conc σ ι H c v->Conc σ ι H j v) : St σ ι (Bg H h (.cells E f)) F W w/\Le σ ι H σ ι (Bg H h (.cells E f)):=by
 have k:=s.obj h;unfold C1 at k;rw[hh]at k;obtain⟨b,C,hb,h1,h2,h3,A,z⟩:=k;have le:Le σ ι H σ ι (Bg H h (.cells E f)):=by have:=Le.upd (ι:=ι) (H:=H) (A5.le_refl σ) h (ι h) (.cells E f) (by rw[hh];exact⟨λ_ e=>e,(λ_ e=>by cases e),(λ_ _ _ _ e=>by cases e)⟩);rwa [I9]at this
 refine⟨s.touch h b (λ_ _=>rfl) (λx e=>Di _ _ e) le (λx e=>rfl) (λ_ _=>rfl) (λo e=>by rw[h1]at e;cases e) ?_ h2 ?_ ?_ rfl rfl rfl,le⟩
 .intro x e l q;exact e (s.inj x h b l (by rw[hh];rfl) q (by rw[hb];rfl))
 .intro B _ u;exact .inr ⟨by rw[hh];rfl,u⟩
 .unfold C1;rw[Cy];refine⟨b,C,hb,h1,h2,h3,ω,λi j v x y=>?_⟩;have hi:i<cs.length:=(by rw[<-l];exact (Gl.1 x).1);have g:cs[i]? = some cs[i]:=List.getElem?_eq_getElem hi;exact (hc i _ j v g x (z i _ v g y)).mono le
inductive Gh where
 | fz (s:Nat)
 | own (s j:Nat) (e:TypeId) (sz:Nat)
 | nil (s j sz:Nat)
 | fzc (s j:Nat)
 | fzp (s:Nat)
 | fzcp (s j:Nat)
def gxs:List Gh->Nat->B6->Hp->(Nat->B6->Hp->Prop)->Prop
 | [],n,e,H,K=>K n e H
 | .fz s::gs,n,e,H,K=> match e s with
  | .arr h k 0 len=> match H h with
   | .rows _ sz xs=>Hf k xs (Hf len xs (gxs gs n (Bg e s (.sl sz xs)) (Bg H h .dead) K))
   | _=>False
  | _=>False
 | .fzp s::gs,n,e,H,K=> match e s with
  | .arr h k 0 len=> match H h with
   | .rows _ sz xs=>Hf k xs (Aho len k (Ahp xs len λys=>gxs gs n (Bg e s (.sl sz ys)) (Bg H h .dead) K))
   | _=>False
  | _=>False
 | .own s j E sz::gs,n,e,H,K=> match e s with
  | .loc h _=> match H h with
   | .cells T cs=> match cs[j]? with
    | some x=>bif Mn x&&Nat.blt 0 sz then gxs gs (n+1) e (Bg (Bg H n (.rows E sz [])) h (.cells T (cs.set j (.arr n 0 0 0)))) K else False
    | none=>False
   | _=>False
  | _=>False
 | .nil s j sz::gs,n,e,H,K=> match e s with
  | .loc h _=> match H h with
   | .cells T cs=> match cs[j]? with
    | some x=>bif Mn x then gxs gs n e (Bg H h (.cells T (cs.set j (.sl sz [])))) K else False
    | none=>False
   | _=>False
  | _=>False
 | .fzc s j::gs,n,e,H,K=> match e s with
  | .loc h _=> match H h with
   | .cells T cs=> match cs[j]? with
    | some (.arr h' k 0 len)=> match H h' with
     | .rows _ sz xs=>Hf k xs (Hf len xs (gxs gs n e (Bg (Bg H h' .dead) h (.cells T (cs.set j (.sl sz xs)))) K))
     | _=>False
    | _=>False
   | _=>False
  | _=>False
 | .fzcp s j::gs,n,e,H,K=> match e s with
  | .loc h _=> match H h with
   | .cells T cs=> match cs[j]? with
    | some (.arr h' k 0 len)=> match H h' with
     | .rows _ sz xs=>Hf k xs (Aho len k (Ahp xs len λys=>gxs gs n e (Bg (Bg H h' .dead) h (.cells T (cs.set j (.sl sz ys)))) K))
     | _=>False
    | _=>False
   | _=>False
  | _=>False
section
variable {F:A5} {W:World}
theorem An5 {cs:List AV} {j i:Nat} {y c b:AV} {P:AV->AV->Prop} (h1:cs[i]? = some c) (h2:(cs.set j y)[i]? = some b) (f:P c c) (hy:i=j->P c y):P c b:=by
 rw[List.getElem?_set]at h2;split at h2
 .rename_i e;split at h2
  .cases h2;exact hy e.symm
  .cases h2
 .rw[h1]at h2;cases h2;exact f
theorem Qy {H:Hp} {n h:Nat} {o:Bu} (b:Fr H n) (hh:H h≠.none):Fr (Bg H h o) n:=by intro m hm;rw[Di _ _ (λe=>hh (by rw[<-e];exact b m hm))];exact b m hm
theorem An6 {σ:A5} {ι:B9} {w:World} {H:Hp} {hd h' j k len:Nat} {T E:TypeId} {sz:Nat} {cs xs ys:List AV} (s:St σ ι H F W w) (hh:H hd = .cells T cs) (hj:cs[j]? = some (.arr h' k 0 len)) (g:H h' = .rows E sz xs) (hk:xs.length=k) (V:len<=xs.length) (hy:xs.take len=ys) : ∃c,Le σ ι H c ι (Bg (Bg H h' .dead) hd (.cells T (cs.set j (.sl sz ys))))/\St c ι (Bg (Bg H h' .dead) hd (.cells T (cs.set j (.sl sz ys)))) F W w:=by
 obtain⟨c,G,D,M⟩:=s.freeze g;have J:hd≠h':=by intro B;subst B;rw[hh]at g;cases g
 have f:Bg H h' .dead hd = .cells T cs:=by rw[Di _ _ J];exact hh
 have h:=s.obj hd;unfold C1 at h;rw[hh]at h;obtain⟨b,C,B,g1,g2,g3,g4,g5⟩:=h;have l:∀v,C[j]? = some v->Conc c ι (Bg H h' .dead) (.sl sz ys) v:=by intro v hv;have hc:=g5 j _ v hj hv;have:=M 0 len _ ω (hc.arr_inv g hk);rw[List.drop_zero,hy]at this;exact .cc this
 have U:St c ι (Bg (Bg H h' .dead) hd (.cells T (cs.set j (.sl sz ys)))) F W w/\Le c ι (Bg H h' .dead) c ι (Bg (Bg H h' .dead) hd (.cells T (cs.set j (.sl sz ys)))):=by
  have I:=D.obj hd;unfold C1 at I;rw[f]at I;obtain⟨b',C',A,z,u,q,X,S⟩:=I;rw[B]at A;cases A;rw[g3]at q;cases q;have le:Le c ι (Bg H h' .dead) c ι (Bg (Bg H h' .dead) hd (.cells T (cs.set j (.sl sz ys)))):=(by have:=Le.upd (ι:=ι) (H:=Bg H h' .dead) (A5.le_refl c) hd (ι hd) (.cells T (cs.set j (.sl sz ys))) (by rw[f];exact⟨λ_ e=>e,(λ_ e=>by cases e),(λ_ _ _ _ e=>by cases e)⟩);rwa [I9]at this);refine⟨D.touch hd b (λ_ _=>rfl) (λx e=>Di _ _ e) le (λx e=>rfl) (λ_ _=>rfl) (λo e=>by rw[z]at e;cases e) ?_ u ?_ ?_ rfl rfl rfl,le⟩
  .intro x e V N;exact e (D.inj x hd b V (by rw[f];rfl) N (by rw[B];rfl))
  .intro Z _ R;exact .inr ⟨by rw[f];rfl,R⟩
  .unfold C1;rw[Cy];refine⟨b,C,B,z,u,g3,by simpa using g4,λi Y v x y=>?_⟩;rw[List.getElem?_set]at x;split at x
   .rename_i L;split at x
    .cases x;subst L;exact (l v y).mono le
    .cases x
   .exact (S i Y v x y).mono le
 exact⟨c,G.trans U.2,U.1⟩
theorem S7:∀(y:List Gh) {n:Nat} {e:B6} {H:Hp} {K:Nat->B6->Hp->Prop} {σ:A5} {ι:B9} {a:Act} {w:World},gxs y n e H K->St σ ι H F W w->Fe σ ι H e a->Fr H n -> ∃σ' ι' n' e' H',K n' e' H'/\Le σ ι H σ' ι' H'/\St σ' ι' H' F W w/\Fe σ' ι' H' e' a/\Fr H' n'/\n<=n'
 | [],n,e,H,K,σ,ι,a,w,h,s,u,l=>⟨σ,ι,n,e,H,h,Le.refl _ _ _,s,u,l,Nat.le_refl _⟩
 | .fz t::y,n,e,H,K,σ,ι,a,w,h,s,u,l=>by
  simp only[gxs]at h;split at h
  .rename_i hd k len hx;split at h
   .rename_i E sz xs hh;obtain⟨hk,hl,h⟩:=h;obtain⟨Z,f,B,X⟩:=s.freeze hh;have Y:Fe Z ι (Bg H hd .dead) (Bg e t (.sl sz xs)) a:=by
     intro q hq;by_cases R:q=t
     .subst R;rw[Cy];have hc:=u q hq;rw[hx]at hc;have:=X 0 len _ ω (hc.arr_inv hh hk);rw[List.drop_zero,List.take_of_length_le ω]at this;exact .cc this
     .rw[Di _ _ R];exact (u q hq).mono f
    obtain⟨z,A,D,N,S,M,L,J,I,G,U⟩:=S7 y h B Y (Qy l (by rw[hh];intro e;cases e));exact⟨z,A,D,N,S,M,f.trans L,J,I,G,U⟩
   .exact h.elim
  .exact h.elim
 | .fzp t::y,n,e,H,K,σ,ι,a,w,h,s,u,l=>by
  simp only[gxs]at h;split at h
  .rename_i hd k len hx;split at h
   .rename_i E sz xs hh;obtain⟨hk,hl,ys,hy,h⟩:=h;obtain⟨Z,f,B,X⟩:=s.freeze hh;have Y:Fe Z ι (Bg H hd .dead) (Bg e t (.sl sz ys)) a:=by
     intro q hq;by_cases R:q=t
     .subst R;rw[Cy];have hc:=u q hq;rw[hx]at hc;have:=X 0 len _ ω (hc.arr_inv hh hk);rw[List.drop_zero,hy]at this;exact .cc this
     .rw[Di _ _ R];exact (u q hq).mono f
    obtain⟨z,A,D,N,S,M,L,J,I,G,U⟩:=S7 y h B Y (Qy l (by rw[hh];intro e;cases e));exact⟨z,A,D,N,S,M,f.trans L,J,I,G,U⟩
   .exact h.elim
  .exact h.elim
 | .own t j E sz::y,n,e,H,K,σ,ι,a,w,h,s,u,l=>by
  simp only[gxs]at h;split at h
  .rename_i hd off hx;split at h
   .rename_i T cs hh;split at h
    .rename_i x hj;obtain⟨hb,h⟩:=Gw h;rw[Fq]at hb;have a7:hd≠n:=(by intro R;subst R;have:=l hd (Nat.le_refl _);rw[hh]at this;cases this);obtain⟨s0,a1⟩:=s.newNil n (l n (Nat.le_refl _)) E sz (Hu hb.2);have a6:Bg H n (.rows E sz []) hd = .cells T cs:=(by rw[Di _ _ a7];exact hh);obtain⟨B,f⟩:=s0.recell hd T cs (cs.set j (.arr n 0 0 0)) a6 ψ (by intro i c c' v h1 h2 h3;refine An5 (P:=λa b=>Conc σ _ _ a v->Conc σ _ _ b v) h1 h2 (λh=>h) (λV h=>?_) h3;subst V;rw[hj]at h1;cases h1;rw[Acy hb.1]at h;rw[h.val_inv];refine .arr _ _ _ _ _ (by rw[Cy];intro e;cases e) (λE' ab aa e'=>?_) rfl;rw[Cy]at e';cases e';exact⟨ψ,λ_=>by rw[Cy];exact⟨rfl,rfl,rfl⟩⟩);have a8:Fr (Bg (Bg H n (.rows E sz [])) hd (.cells T (cs.set j (.arr n 0 0 0)))) (n+1):=(by refine Qy ?_ (by rw[a6];intro e;cases e);intro m hm;rw[Di _ _ ω];exact l m ω);obtain⟨z,A,D,N,S,M,L,J,I,G,U⟩:=S7 y h B (u.mono (a1.trans f)) a8;exact⟨z,A,D,N,S,M,(a1.trans f).trans L,J,I,G,ω⟩
    .exact h.elim
   .exact h.elim
  .exact h.elim
 | .nil t j sz::y,n,e,H,K,σ,ι,a,w,h,s,u,l=>by
  simp only[gxs]at h;split at h
  .rename_i hd off hx;split at h
   .rename_i T cs hh;split at h
    .rename_i x hj;obtain⟨hb,h⟩:=Gw h;obtain⟨B,f⟩:=s.recell hd T cs (cs.set j (.sl sz [])) hh ψ (by intro i c c' v h1 h2 h3;refine An5 (P:=λa b=>Conc σ _ _ a v->Conc σ _ _ b v) h1 h2 (λh=>h) (λV h=>?_) h3;subst V;rw[hj]at h1;cases h1;exact Acz hb h);obtain⟨z,A,D,N,S,M,L,J,I,G,U⟩:=S7 y h B (u.mono f) (Qy l (by rw[hh];intro e;cases e));exact⟨z,A,D,N,S,M,f.trans L,J,I,G,U⟩
    .exact h.elim
   .exact h.elim
  .exact h.elim
 | .fzc t j::y,n,e,H,K,σ,ι,a,w,h,s,u,l=>by
  simp only[gxs]at h;split at h
  .rename_i hd off hx;split at h
   .rename_i T cs hh;split at h
    .rename_i h' k len hj;split at h
     .rename_i E sz xs g;obtain⟨hk,hl,h⟩:=h;obtain⟨Z,f,B⟩:=An6 s hh hj g hk ω (List.take_of_length_le ω);obtain⟨z,A,D,N,S,M,L,J,I,G,U⟩:=S7 y h B (u.mono f) (Qy (Qy l (by rw[g];intro e;cases e)) (by rw[Di _ _ (by intro R;subst R;rw[hh]at g;cases g)];rw[hh];intro e;cases e));exact⟨z,A,D,N,S,M,f.trans L,J,I,G,U⟩
     .exact h.elim
    .exact h.elim
   .exact h.elim
  .exact h.elim
 | .fzcp t j::y,n,e,H,K,σ,ι,a,w,h,s,u,l=>by
  simp only[gxs]at h;split at h
  .rename_i hd off hx;split at h
   .rename_i T cs hh;split at h
    .rename_i h' k len hj;split at h
     .rename_i E sz xs g;obtain⟨hk,hl,ys,hy,h⟩:=h;obtain⟨Z,f,B⟩:=An6 s hh hj g hk ω (hy);obtain⟨z,A,D,N,S,M,L,J,I,G,U⟩:=S7 y h B (u.mono f) (Qy (Qy l (by rw[g];intro e;cases e)) (by rw[Di _ _ (by intro R;subst R;rw[hh]at g;cases g)];rw[hh];intro e;cases e));exact⟨z,A,D,N,S,M,f.trans L,J,I,G,U⟩
     .exact h.elim
    .exact h.elim
   .exact h.elim
  .exact h.elim
end
end Go.Ab
namespace Go.Ab
def Jk {S E:Type} (step:S->Option (S⊕E)):Nat->S->Option E
 | 0,_=>none
 | n+1,s=> match step s with
  | none=>none
  | some (.inl s')=>Jk step n s'
  | some (.inr e)=>some e
theorem Ah7 {S E:Type} {step:S->Option (S⊕E)}:∀{n:Nat} {s:S} {e:E},Jk step n s=some e->∀m,n<=m->Jk step m s=some e
 | 0,s,e,h,_,_=>by cases h
 | n+1,s,e,h,0,hm=>ω
 | n+1,s,e,h,m+1,hm=>by
  simp only[Jk]at h ⊢;cases b:step s with
  | none=>rw[b]at h;cases h
  | some o=>rw[b]at h;cases o with| inl s'=>exact Ah7 (n:=n) h m ω| inr e'=>exact h
theorem An7 {S E:Type} {step:S->Option (S⊕E)} {n m:Nat} {s:S} {e e':E} (h:Jk step n s=some e) (h':Jk step m s=some e'):e=e':=by have h1:=Ah7 h (max n m) ω;have h2:=Ah7 h' (max n m) ω;rw[h1]at h2;exact Option.some.inj h2
open Classical in
noncomputable def An {S E:Type} (step:S->Option (S⊕E)) (s:S):Option E := match Jk step 4096 s with
 | some e=>some e
 | none=>if h:∃n e,Jk step n s=some e then some (Classical.choose (Classical.choose_spec h)) else none
theorem Ah8 {S E:Type} {step:S->Option (S⊕E)} {s:S} {e:E} (h:An step s=some e):∃n,Jk step n s=some e:=by
 unfold An at h;split at h
 .rename_i e' b;cases h;exact⟨_,b⟩
 .split at h
  .rename_i hx;cases h;exact⟨_,Classical.choose_spec (Classical.choose_spec hx)⟩
  .cases h
theorem Ah9 {S E:Type} {step:S->Option (S⊕E)} {s:S} {e:E} {n:Nat} (h:Jk step n s=some e):An step s=some e:=by
 have hx:∃n e,Jk step n s=some e:=⟨n,e,h⟩;unfold An;split
 .rename_i e' b;exact congrArg some (An7 b h)
 rw[dif_pos hx];exact congrArg some (An7 (Classical.choose_spec (Classical.choose_spec hx)) h)
theorem D5 {S E:Type} {step:S->Option (S⊕E)} {s:S} {e:E} (h:step s=some (.inr e)):An step s=some e := Ah9 (n:=1) (by simp only[Jk,h])
theorem Ir {S E:Type} {step:S->Option (S⊕E)} {s s':S} (h:step s=some (.inl s')):An step s=An step s':=by
 cases h':An step s' with
 | some e=>obtain⟨n,b⟩:=Ah8 h';exact Ah9 (n:=n+1) (by simp only[Jk,h];exact b)
 | none=>
  cases c:An step s with
  | none=>rfl
  | some e=>obtain⟨n,b⟩:=Ah8 c;cases n with| zero=>cases b| succ n=>simp only[Jk,h]at b;rw[Ah9 b]at h';cases h'
theorem Lb {S E:Type} {step:S->Option (S⊕E)} (c:S->Prop) (m:S->Nat) (b:E->Prop) (f:∀s,c s->(∃s',step s=some (.inl s')/\c s'/\m s' < m s)\/(∃e,step s=some (.inr e)/\b e)) (s:S) (h0:c s):∃e,An step s=some e/\b e:=by
 generalize hk:m s=k;induction k using Nat.strongRecOn generalizing s with
 | _ k ih=>
  rcases f s h0 with⟨s',h1,h2,h3⟩|⟨e,h1,h2⟩
  .obtain⟨e,h,g⟩:=ih (m s') ω s' h2 rfl;exact⟨e,by rw[Ir h1];exact h,g⟩
  .exact⟨e,D5 h1,h2⟩
def Af {α:Type} (l:List α) (i:Int):Option α:=if 0<=i then l[i.toNat]? else none
def F7 {α:Type} (l:List α) (lo hi:Int):Option (List α):=if 0<=lo/\lo<=hi/\hi<=l.length then some ((l.take hi.toNat).drop lo.toNat) else none
def Cj {α:Type} (b:Nat) (xs ys:List α):Option (List α):=if (xs.length+ys.length)*b<=140737488355328 then some (xs++ys) else none
def F4 {α:Type} (c:Nat) (len b:Int) (z:α):Option (List α):=if 0<=len/\len<=b/\c*b.toNat<=281474976710656/\b<=140737488355328 then some (List.replicate len.toNat z) else none
def Hn {α:Type} (l:List α) (off n:Nat) (i:Int):Option α:=if 0<=i/\i<n then l[off+i.toNat]? else none
def Qz (n:Nat) (lo hi:Int):Option (Nat×Nat):=if 0<=lo/\lo<=hi/\hi<=n/\(lo=0\/lo<hi) then some (lo.toNat,hi.toNat) else none
def Q2 {α:Type} (xs:List α) (off n:Nat) (z:α):Option (List α):=if off+n<=xs.length then some (E8 xs off (List.replicate n z)) else none
def Vk {α:Type} (xs:List α) (n:Nat):Option (List α):=if n<=xs.length then some (xs.take n) else none
def Vl (n:Nat) (hi:Int):Option Nat:=if 0<=hi/\hi<=n then some hi.toNat else none
def S8 (n:Nat) (lo hi:Int):Option ((Nat×Nat)⊕Unit):=if 0<=lo/\lo<=hi/\hi<=n then (if lo=0\/lo<hi then some (.inl (lo.toNat,hi.toNat)) else some (.inr ())) else none
def Ge {α:Type} (n:Nat) (l:List α):Option Unit:=if n=l.length then some () else none
theorem Jz {α:Type} {n:Nat} {l:List α} {u:Unit} (h:Ge n l=some u):n=l.length:=by
 unfold Ge at h;split at h
 .assumption
 .cases h
theorem An8 (off:Nat) {i:Int} {n:Nat} (h:i=n):((off:Nat):Int)+i=((off+n:Nat):Int):=ω
def Pc (n:Int):Option ByteArray:=if -9223372036854775808<=n/\n<=9223372036854775807 then some ⟨(Lib.itoa n).toArray⟩ else none
def An9 (l:List Int):Option (List Int):=some (l.mergeSort λx y=>decide (x<=y))
def Ac8 (a b:Int):Option ByteArray:=bif b==10 then Pc a else none
def E2 (l:List Int):List UInt8:=l.map λn=>UInt8.ofNat n.toNat
def Yd (l:List Int):Option ByteArray:=if (∀x∈l,0<=x/\x<256) then some ⟨(E2 l).toArray⟩ else none
def Nq (s:ByteArray):List Int:=s.data.toList.map λb=>(b.toNat:Int)
def Cu {α:Type} (l:List α) (i:Int) (x:α):List α:=l.set i.toNat x
def G8 (k:IntKind) (a b:Int):Option Int:=if b=0 then none else some (k.wrap (a.tdiv b))
def Hx (a b:Int):Option Int:=if b=0 then none else some (a.tmod b)
def Ye (k:IntKind) (a b:Int):Option Int:=if 0<=b then some (a.fdiv (2 ^ (min b.toNat k.bits))) else none
def J0 (s:ByteArray) (i:Int):Option UInt8:=if 0<=i then s[i.toNat]? else none
def F8 (a b:ByteArray):Option ByteArray:=if a.size+b.size<=9223372036854775807 then some (a++b) else none
def Gx (s:ByteArray) (lo hi:Int):Option ByteArray:=if 0<=lo/\lo<=hi/\hi<=s.size then some (s.extract lo.toNat hi.toNat) else none
abbrev Ac (n:Int):Int:=IntKind.i64.wrap n
abbrev Ba (n:Int):Int:=IntKind.u64.wrap n
abbrev Cs (n:Int):Int:=IntKind.u32.wrap n
abbrev wu8 (n:Int):Int:=IntKind.u8.wrap n
theorem Aoa {α:Type} {l:List α} {i:Int} {x:α} (h:Af l i=some x):∃n:Nat,i=n/\l[n]? = some x:=by
 unfold Af at h;split at h
 .exact⟨i.toNat,ω,h⟩
 .cases h
section
variable {β:Type} {r:β}
theorem De {α:Type} {o:Option α} {m:α->Option β} {G:Prop} (h:o.bind m=some r) (k:∀x,o=some x->m x=some r->G):G:=by cases o with| none=>cases h| some x=>exact k x rfl h
theorem Aob {α:Type} {o:Option α} {m:α->Option β} {G:Prop} (h:o.bind m=some r) (k:∀x,o=some x->(∀y,y=x->m y=some r)->G):G:=by cases o with| none=>cases h| some x=>exact k x rfl (λy hy=>by subst hy;exact h)
theorem A0w {α:Type} {l:List α} {f:α->AV} {ys:List AV} (c:ys=l.map f) {i:Int} {m:α->Option β} {K:Nat->AV->Prop} (h:(Af l i).bind m=some r) (k:∀(n:Nat) (x:α),i=n->l[n]? = some x->m x=some r->K n (f x)):X5 ys i K:=by subst c;refine De h λx hx h=>?_;obtain⟨n,b,hg⟩:=Aoa hx;exact .mk n (f x) b (by simp[hg]) (k n x b hg h)
theorem A0x {α:Type} {l:List α} {f:α->AV} {ys:List AV} (j:ys=l.map f) {i:Int} {m:α->Option β} {K:Nat->Prop} {len b:Nat} (g:len=l.length) (hk:b=l.length) (h:(Af l i).bind m=some r) (k:∀(n:Nat) (x:α),i=n->l[n]? = some x->m x=some r->K n):Sw len b ys i K:=by subst j;refine De h λx hx h=>?_;obtain⟨n,c,hg⟩:=Aoa hx;exact .mk n (by rw[hk];simp) c (by rw[g];exact (Gl.1 hg).1) (k n x c hg h)
theorem A0y {α:Type} {l:List α} {f:α->AV} {ys:List AV} (c:ys=l.map f) {i:Int} {m:α->Option β} {K:Nat->Prop} {off len b:Nat} (hk:b=l.length) (h:(Hn l off len i).bind m=some r) (k:∀(n:Nat) (x:α),i=n->l[off+n]? = some x->m x=some r->K n):Sw len b ys i K:=by
 subst c;refine De h λx hx h=>?_;unfold Hn at hx;split at hx
 .rename_i hc;exact .mk i.toNat (by rw[hk];simp) ω ω (k _ x ω hx h)
 .cases hx
theorem Aoc {α:Type} {l:List α} {f:α->AV} {ys:List AV} (c:ys=l.map f) {b n:Nat} (hk:b=l.length) {lo hi:Int} {m:Nat×Nat->Option β} {K:Nat->Nat->Prop} {g:Prop} (h:(Qz n lo hi).bind m=some r) (k:∀v:Nat×Nat,m v=some r->K v.1 v.2):Aco b ys n lo hi K g:=by
 subst c;refine De h λx hx h=>?_;unfold Qz at hx;split at hx
 .rename_i hc;cases hx;exact .mk lo.toNat hi.toNat (by rw[hk];simp) ω ω ω ω ω (k _ h)
 .cases hx
theorem A0z {α β:Type} (f:α->β) (xs:List α) (d:Nat) (ys:List α):E8 (xs.map f) d (ys.map f)=(E8 xs d ys).map f:=by unfold E8;simp[List.map_take,List.map_drop]
theorem A00 {α:Type} {l:List α} {f:α->AV} {xs:List AV} {z:α} {c:AV} (j:xs=l.map f) (i:c=f z) {g off len:Nat} {m:List α->Option β} {K:List AV->Prop} (hk:g=l.length) (h:(Q2 l off len z).bind m=some r) (k:∀o:List α,Q2 l off len z=some o->m o=some r->K (o.map f)):Ana xs g off len c K:=by
 subst j;subst hk;subst i;refine De h λx hx h=>?_;have b:=hx;unfold Q2 at hx;split at hx
 .rename_i hc;cases hx;exact .mk _ ψ (by simpa using hc) (by rw[<-List.map_replicate,A0z]) (k _ b h)
 .cases hx
theorem Aod {α:Type} {l o:List α} {k off n:Nat} {z:α} (hk:k=l.length) (h:Q2 l off n z=some o):k=o.length:=by
 unfold Q2 at h;split at h
 .cases h;rw[X2 ω];simp;omega
 .cases h
theorem Aoe {α:Type} {l:List α} {f:α->AV} {xs:List AV} (c:xs=l.map f) {b len:Nat} {m:List α->Option β} {K:List AV->Prop} (hk:b=l.length) (h:(Vk l len).bind m=some r) (k:∀o:List α,m o=some r->K (o.map f)):Hf b xs (Aho len b (Ahp xs len K)):=by
 subst c;subst hk;refine De h λx hx h=>?_;unfold Vk at hx;split at hx
 .rename_i hc;cases hx;exact .mk ψ (.mk hc (.mk _ (by rw[List.map_take]) (k _ h)))
 .cases hx
theorem Aof {α:Type} {l:List α} {f:α->AV} {ys:List AV} (c:ys=l.map f) {b n:Nat} (hk:b=l.length) {hi:Int} {m:Nat->Option β} {K:Nat->Nat->Prop} {g:Prop} (h:(Vl n hi).bind m=some r) (k:∀v:Nat,m v=some r->K 0 v):Aco b ys n 0 hi K g:=by
 subst c;refine De h λx hx h=>?_;unfold Vl at hx;split at hx
 .rename_i hc;cases hx;exact .mk 0 hi.toNat (by rw[hk];simp) ω ω ω ω ω (k _ h)
 .cases hx
theorem A01 {α:Type} {l:List α} {f:α->AV} {ys:List AV} (i:ys=l.map f) {b n:Nat} (hk:b=l.length) {lo hi:Int} {m:(Nat×Nat)⊕Unit->Option β} {K:Nat->Nat->Prop} {c:Prop} (h:(S8 n lo hi).bind m=some r) (k:∀v:Nat×Nat,m (.inl v)=some r->K v.1 v.2) (g:m (.inr ())=some r->c):Aco b ys n lo hi K c:=by
 subst i;refine De h λx hx h=>?_;unfold S8 at hx;split at hx
 .rename_i hc;split at hx
  .cases hx;exact .mk lo.toNat hi.toNat (by rw[hk];simp) ω ω ω ω ω (k _ h)
  .cases hx;exact .mkE lo.toNat (by rw[hk];simp) ω ω ω (g h)
 .cases hx
theorem Aog {op:BinOp} {q:FloatKind} {a b:Nat} {m:Nat->Option β} {K:Nat->Prop} (h:(floatBits op q a b).bind m=some r) (k:∀c,m c=some r->K c):Acr op q a b K := De h λx hx h=>.mk x hx (k x h)
theorem Aoh {q:FloatKind} {a:Nat} {z:IntKind} {m:Int->Option β} {K:Int->Prop} (h:(floatToIntVal q a z).bind m=some r) (k:∀c,m c=some r->K c):Acs q a z K := De h λx hx h=>.mk x hx (k x h)
theorem A02 {α:Type} {l:List α} {f:α->AV} {ys:List AV} (c:ys=l.map f) {n i b:Nat} {x:α} {K:AV->Prop} (hk:b=l.length) (hi:i=n) (hx:l[n]? = some x) (k:K (f x)):Mm b i ys K:=by subst c;subst hi;exact .mk (f x) (by rw[hk];simp) (by simp[hx]) k
theorem Mr {α:Type} {l:List α} {f:α->AV} {ys:List AV} (b:ys=l.map f) {n i:Nat} {j:Int} {x:α} {p:AV} {K:List AV->Prop} (hp:p=f x) (hi:i=n) (hj:j=(n:Int)) (k:K ((Cu l j x).map f)):Vc ys i p K:=by subst b;subst hi;subst hp;subst hj;exact .mk _ (by simp[Cu,List.map_set]) k
theorem A03 {α:Type} {g:List α->List AV} {f:α->AV} (hg:∀l,g l=l.map f) {l:List α} {ys:List AV} (b:ys=l.map f) {n i:Nat} {j:Int} {x:α} {p:AV} {K:List AV->Prop} (hp:p=f x) (hi:i=n) (hj:j=(n:Int)) (k:K (g (Cu l j x))):Vc ys i p K := Mr b hp hi hj (by rw[<-hg];exact k)
theorem I5 {α:Type} {l:List α} {k:Nat} (h:k=l.length) (j:Int) (x:α):k=(Cu l j x).length:=by simp[Cu,h]
theorem Aoi {α:Type} {l:List α} {f:α->AV} {ys:List AV} (c:ys=l.map f) {lo hi:Int} {m:List α->Option β} {K:List AV->Prop} (h:(F7 l lo hi).bind m=some r) (k:∀b:List α,m b=some r->K (b.map f)):Sx ys lo hi K:=by
 subst c;refine De h λx hx h=>?_;unfold F7 at hx;split at hx
 .rename_i hc;cases hx;exact .mk lo.toNat hi.toNat _ ω ω ω ζ (by rw[<-List.map_take,<-List.map_drop]) (k _ h)
 .cases hx
theorem A04 {α:Type} {l:List α} {f:α->AV} {ys:List AV} (c:ys=l.map f) {lo:Int} {m:List α->Option β} {K:List AV->Prop} (h:(F7 l lo l.length).bind m=some r) (k:∀b:List α,m b=some r->K (b.map f)):Sx ys lo ys.length K:=by
 have e:((ys.length:Nat):Int)=(l.length:Int):=by rw[c];simp
 rw[e];exact Aoi c h k
theorem S9 {α:Type} {l ys:List α} {f:α->AV} {xs c:List AV} (q:xs=l.map f) (i:c=ys.map f) {b g len:Nat} {m:List α->Option β} {K:List AV->Nat->Prop} {s:List AV->Nat->Nat->Prop} (hk:g=l.length) (j:len=l.length) (h:(Cj b l ys).bind m=some r) (k:∀o:List α,m o=some r->K (o.map f) o.length):Oe xs c g len b K s:=by
 subst q;subst i;subst hk;subst j;refine De h λx hx h=>?_;unfold Cj at hx;split at hx
 .rename_i hc;cases hx;exact .mk _ _ ψ rfl (by simpa using hc) ψ ψ (k _ h)
 .cases hx
theorem A05 {l:List Int} {s:ByteArray} {xs:List AV} (i:xs=l.map λn=>.val (.int .u8 n)) {b c len:Nat} {m:List Int->Option β} {K:List AV->Nat->Prop} {j:List AV->Nat->Nat->Prop} (hk:c=l.length) (g:len=l.length) (h:(Cj b l (Nq s)).bind m=some r) (k:∀o:List Int,m o=some r->K (o.map λn=>.val (.int .u8 n)) o.length):Oe xs (Jw s) c len b K j:=by refine S9 (f:=λn=>.val (.int .u8 n)) i ?_ hk g h k;simp[Jw,Nq]
theorem Aoj {α:Type} {ys:List α} {f:α->AV} {c:List AV} (g:c=ys.map f) {b:Nat} {m:List α->Option β} {K:List AV->Nat->Prop} (h:(Cj b [] ys).bind m=some r) (k:∀o:List α,m o=some r->K (o.map f) o.length):Sy c b K:=by
 subst g;refine De h λx hx h=>?_;unfold Cj at hx;split at hx
 .rename_i hc;cases hx;exact .mk _ _ (by simpa using hc) ψ ψ (k _ h)
 .cases hx
theorem A06 {α:Type} {g:List α->List AV} {f:α->AV} (hg:∀l,g l=l.map f) {l ys:List α} {xs c:List AV} (s:xs=l.map f) (j:c=ys.map f) {b i len:Nat} {m:List α->Option β} {K:List AV->Nat->Prop} {u:List AV->Nat->Nat->Prop} (hk:i=l.length) (q:len=l.length) (h:(Cj b l ys).bind m=some r) (k:∀o:List α,m o=some r->K (g o) o.length):Oe xs c i len b K u := S9 s j hk q h λo h=>by rw[<-hg];exact k o h
theorem A07 {α:Type} {g:List α->List AV} {f:α->AV} (hg:∀l,g l=l.map f) {ys:List α} {c:List AV} (i:c=ys.map f) {b:Nat} {m:List α->Option β} {K:List AV->Nat->Prop} (h:(Cj b [] ys).bind m=some r) (k:∀o:List α,m o=some r->K (g o) o.length):Sy c b K := Aoj i h λo h=>by rw[<-hg];exact k o h
theorem A08 {α:Type} {z:α} {f:α->AV} {g:AV} (i:g=f z) {len c:Int} {b:Nat} {m:List α->Option β} {K:Nat->List AV->Prop} (h:(F4 b len c z).bind m=some r) (k:∀o:List α,m o=some r->K o.length (o.map f)):Vb len c b g K:=by
 subst i;refine De h λx hx h=>?_;unfold F4 at hx;split at hx
 .rename_i hc;cases hx;exact .mk _ c.toNat _ ζ ω ζ hc.2.2.1 ω ψ (k _ h)
 .cases hx
theorem Ta {α:Type} {z:α} {f:α->AV} {g:AV} (i:Gn g.cells (f z).cells) {len c:Int} {b:Nat} {m:List α->Option β} {K:Nat->List AV->Prop} (h:(F4 b len c z).bind m=some r) (k:∀o:List α,m o=some r->K o.length (o.map f)):Vb len c b g K:=by
 refine De h λx hx h=>?_;unfold F4 at hx;split at hx
 .rename_i hc;cases hx;exact .mkN (f z) i _ c.toNat _ ζ ω ζ hc.2.2.1 ω ψ (k _ h)
 .cases hx
theorem A09 {α:Type} {l:List α} {f:α->AV} {ys:List AV} (b:ys=l.map f) {K:Int->Prop} (k:K (l.length:Int)):Nk ys K:=by subst b;exact .mk _ ψ k
theorem A1a {α:Type} {l:List α} {f:α->AV} {ys:List AV} (c:ys=l.map f) {b:Nat} (hk:b=l.length) {K:Prop} (k:K):Hf b ys K:=by subst c;exact .mk (by rw[hk];simp) k
def Fs {α:Type} (l:List (ByteArray×α)) (s:ByteArray):Bool:=l.any λp=>s==p.1
def Is {α:Type} (l:List (ByteArray×α)) (s:ByteArray) (z:α):α:=((l.find? λp=>s==p.1).map (·.2)).getD z
def Gc {α:Type}:List (ByteArray×α)->ByteArray->α->List (ByteArray×α)
 | [],s,v=>[(s,v)]
 | p::l,s,v=>bif s==p.1 then (s,v)::l else p::Gc l s v
def Bq {α:Type} (f:α->AV) (l:List (ByteArray×α)):List (AV×AV):=l.map λp=>(.val (.string p.1),f p.2)
theorem Aia {α:Type} (f:α->AV) (s:ByteArray) (z:α):∀(l:List (ByteArray×α)) (i:Nat), (Fs l s=false/\Jx s (Bq f l) i=some none)\/(Fs l s=true/\∃j,Jx s (Bq f l) i=some (some (i+j,f (Is l s z)))/\∀v,Bq f (Gc l s v)=(Bq f l).set j (.val (.string s),f v))
 | [],i=>.inl ⟨rfl,rfl⟩
 | p::l,i=>by
  cases hp:s==p.1 with
  | true=>
   refine .inr ⟨by simp[Fs,hp],0,?_,λv=>?_⟩
   .simp[Bq,Jx,Is,hp]
   .simp[Bq,Gc,hp]
  | false=>
   rcases Aia f s z l (i+1) with⟨h1,h2⟩|⟨h1,j,h2,h3⟩
   .refine .inl ⟨by simp only[Fs,List.any_cons,hp,Bool.false_or];exact h1,?_⟩;have:Jx s (Bq f (p::l)) i=Jx s (Bq f l) (i+1):=(by simp[Bq,Jx,hp]);rw[this,h2]
   .refine .inr ⟨by simp only[Fs,List.any_cons,hp,Bool.false_or];exact h1,j+1,?_,λv=>?_⟩
    .have:Jx s (Bq f (p::l)) i=Jx s (Bq f l) (i+1):=(by simp[Bq,Jx,hp]);have b:Is (p::l) s z=Is l s z:=(by simp[Is,hp]);rw[this,h2,b];congr 3;omega
    .have c:Bq f (Gc (p::l) s v)=(.val (.string p.1),f p.2)::Bq f (Gc l s v):=(by simp[Bq,Gc,hp]);rw[c,h3 v];rfl
theorem Aok {α:Type} (f:α->AV) {s:ByteArray} {v:α}:∀{l:List (ByteArray×α)},Fs l s=false->Bq f (Gc l s v)=Bq f l++[(.val (.string s),f v)]
 | [],_=>rfl
 | p::l,h=>by simp only[Fs,List.any_cons,Bool.or_eq_false_iff]at h;have:=Aok f (v:=v) (l:=l) h.2;simp only[Gc,h.1,cond_false];simp only[Bq,List.map_cons,List.cons_append]at this ⊢;rw[this]
theorem Vm {α:Type} {f:α->AV} {l:List (ByteArray×α)} {es:List (AV×AV)} (i:es=Bq f l) (z:α) {s:ByteArray} {m b:Option β} {K:Option (Nat×AV)->Prop} (h:(bif Fs l s then m else b)=some r) (g:∀j,Fs l s=true->m=some r->K (some (j,f (Is l s z)))) (c:Fs l s=false->b=some r->K none):Anb s es K:=by
 subst i;rcases Aia f s z l 0 with⟨h1,h2⟩|⟨h1,j,h2,_⟩
 .rw[h1]at h;exact .mk _ h2 (c h1 h)
 .rw[h1]at h;exact .mk _ h2 (g _ h1 h)
theorem Tb {α:Type} {f:α->AV} {l:List (ByteArray×α)} {es:List (AV×AV)} (b:es=Bq f l) {s:ByteArray} {x:α} {v:AV} (hv:v=f x) {K:List (AV×AV)->Prop} (k:K (Bq f (Gc l s x))):Anc s v es K:=by
 subst b;subst hv;refine .mk _ ?_ k;unfold Ace;rcases Aia f s x l 0 with⟨h1,h2⟩|⟨h1,j,h2,h3⟩
 .rw[h2,Aok f h1]
 .rw[h2,h3 x];simp
theorem Yf {k:IntKind} {a b:Int} {m:Int->Option β} {K:Int->Prop} (h:(G8 k a b).bind m=some r) (f:∀c:Int,m c=some r->K c):Ack k a b K:=by
 refine De h λx hx h=>?_;unfold G8 at hx;split at hx
 .cases hx
 .rename_i hb;cases hx;exact .mk _ hb rfl (f _ h)
theorem Ac9 {a b:Int} {m:Int->Option β} {K:Int->Prop} (h:(Hx a b).bind m=some r) (f:∀c:Int,m c=some r->K c):Acl a b K:=by
 refine De h λx hx h=>?_;unfold Hx at hx;split at hx
 .cases hx
 .rename_i hb;cases hx;exact .mk _ hb rfl (f _ h)
theorem Aol {k:IntKind} {a b:Int} {m:Int->Option β} {K:Int->Prop} (h:(Ye k a b).bind m=some r) (f:∀c:Int,m c=some r->K c):Acm k a b K:=by
 refine De h λx hx h=>?_;unfold Ye at hx;split at hx
 .rename_i hb;cases hx;exact .mk _ hb rfl (f _ h)
 .cases hx
theorem Yg {s:ByteArray} {i:Int} {m:UInt8->Option β} {K:UInt8->Prop} (h:(J0 s i).bind m=some r) (b:∀c:UInt8,m c=some r->K c):Acp s i K:=by
 refine De h λx hx h=>?_;unfold J0 at hx;split at hx
 .exact .mk i.toNat x ω hx (b _ h)
 .cases hx
theorem H7 {a b:ByteArray} {m:ByteArray->Option β} {K:Prop} (h:(F8 a b).bind m=some r) (k:m (a++b)=some r->K):Acq (a.size+b.size) K:=by
 refine De h λx hx h=>?_;unfold F8 at hx;split at hx
 .rename_i hc;cases hx;exact .mk hc (k h)
 .cases hx
theorem Aib {s:ByteArray} {lo hi:Int} {m:ByteArray->Option β} {K:Nat->Nat->Prop} (h:(Gx s lo hi).bind m=some r) (k:∀l h',lo=((l:Nat):Int)->hi=((h':Nat):Int)->m (s.extract l h')=some r->K l h'):Acn s.size lo hi K:=by
 refine De h λx hx h=>?_;unfold Gx at hx;split at hx
 .rename_i hc;cases hx;exact .mk lo.toNat hi.toNat ω ω ω ω (k _ _ ω ω h)
 .cases hx
end
def Ada (Qn:Nat->B6->Hp->Prop) (Qe:Nat->Nat->B6->Hp->Prop) (Qr:Nat->B6->Hp->Prop) (x:Ex) (n:Nat) (e:B6) (H:Hp):Prop := match x with
 | .normal=>Qn n e H
 | .exit i=>Qe i n e H
 | .ret=>Qr n e H
def wc (P:Program) (C:Cfg) (c:Code) (Qn:Nat->B6->Hp->Prop) (Qe:Nat->Nat->B6->Hp->Prop) (Qr:Nat->B6->Hp->Prop) (n:Nat) (e:B6) (H:Hp):Prop := C7 P C.T->P.follows .mixedOrders=true->∀(F:A5) (W:World) (σ:A5) (ι:B9) (a:Act) (w:World) (Q:Exit->Act->World->Prop), Ko a.tmps.size c=true->St σ ι H F W w->Fe σ ι H e a->Fr H n -> (∀x h e' H' f g b w',Ada Qn Qe Qr x h e' H'->Le σ ι H f g H'->St f g H' F W w'->Fe f g H' e' b->Fr H' h->n<=h->b.tmps.size=a.tmps.size->b.defers=a.defers->F2 (F3 c) a b->Q x.out b w')->c.wp P Q a w
section
variable {P:Program} {C:Cfg} {Qn:Nat->B6->Hp->Prop} {Qe:Nat->Nat->B6->Hp->Prop} {Qr:Nat->B6->Hp->Prop} {n:Nat} {e:B6} {H:Hp} {β:Type} {r:β}
theorem Aic {c:Code} (h:vc P C c (Ada Qn Qe Qr) n e H):wc P C c Qn Qe Qr n e H := λi hm _ _ σ ι a w Q b s g f hk=>S0 i hm c _ n e H σ ι a w Q b h s g f hk
theorem Kp (k:Qn n e H):wc P C .skip Qn Qe Qr n e H:=Aic k
theorem Aid (k:Qr n e H):wc P C .ret Qn Qe Qr n e H:=Aic k
theorem G9 {id:Nat} (k:Qe id n e H):wc P C (.exit id) Qn Qe Qr n e H:=Aic k
theorem Aom {id:Nat} {ops:Array Oper} {b:Bool} (h:Fw (Fi P C.T C.an C.nl ops ops.toList n e H [] λn e H acc=>bif b then No ops.toList acc (Qn n e H) else Qn n e H)):wc P C (.region id ops b) Qn Qe Qr n e H:=by
 intro X hm F W σ ι a w Q E s U M hk;have q:=Le.refl σ ι H;have s0:=s;have z:=U;have R:=M;obtain⟨L,e',H',accs,l,_,V,x,N,c⟩:=Ah6 X ops.toList 0 n e H [] _ ψ rfl M h.1;have u:=Anw E;cases b with
 | false=>simp only[cond_false]at l;refine wp_region ?_;have:List.range ops.size=List.range' 0 ops.toList.length:=(by rw[List.range_eq_range'];simp);rw[this];refine c.wpOps s0 z u ?_;intro B D J w' le s' g f j hu;exact hk .normal L e' H' B D J w' l (q.trans le) s' g N x f j hu
 | true=>
  simp only[cond_true]at l;obtain⟨G,l⟩:=l;refine wp_region_any hm ?_;have A:ops=ops.toList.toArray:=ψ;rw[A];simp only[List.size_toArray];refine Ahk (accs:=accs) (e':=e') (H':=H') G ops.toList.length _ (List.range' 0 ops.toList.length) e H σ ι a _ (by rw[<-A];exact c) (List.pairwise_lt_range' ..) ?_ ψ ?_ ψ (s0.drew _) z (by rw[<-A];exact u) ?_
  .intro i;simp only[List.mem_range'_1,Array.getD_eq_getD_getElem?];constructor
   .rintro⟨_,h2⟩;refine⟨ω,?_⟩;have:i<ops.size:=(by simpa using h2);simp[this]
   .rintro⟨h1,_⟩;omega
  .intro k o S I;exfalso;simp only[Array.getD_eq_getD_getElem?]at I;by_cases y:k<ops.size
   .simp[y]at I
   .simp[y]at I
  .intro B D J w' le s' g f j hu;exact hk .normal L e' H' B D J w' l (q.trans le) s' g N x f j (by rw[<-A]at hu;exact hu)
theorem Aon {id:Nat} {os:List Oper} (k:Fw (Fi P C.T C.an C.nl os.toArray os n e H [] λn e H acc=>No os acc (Qn n e H))):wc P C (.region id os.toArray true) Qn Qe Qr n e H:=Aom k
theorem Cm {id:Nat} {os:List Oper} (k:Fw (Fi P C.T C.an C.nl os.toArray os n e H [] λn e H _=>Qn n e H)):wc P C (.region id os.toArray false) Qn Qe Qr n e H:=Aom k
theorem D1 {c:Code} (z:List Gh) (k:gxs z n e H λn e H=>Fw (wc P C c Qn Qe Qr n e H)):wc P C c Qn Qe Qr n e H:=by intro R hm F W σ ι a w Q h s N L hk;obtain⟨A,D,U,V,X,J,b,G,l,i,M⟩:=S7 z k s N L;exact J.1 R hm F W A D a w Q h G l i λx I e' H' B E S w' hq f s' q j y g u hu=> hk x I e' H' B E S w' hq (b.trans f) s' q j ω g u hu
theorem A9 {U S:Code} (k:wc P C U (λn e H=>wc P C S Qn Qe Qr n e H) Qe Qr n e H):wc P C (.seq U S) Qn Qe Qr n e H:=by intro N hm F W σ ι a w Q f s he hn hk;simp only[Ko,Fq]at f;refine wp_seq (k N hm F W σ ι a w _ f.1 s he hn ?_);intro x L R V y z a1 A hq c B i g q b j hu;cases x with| normal=>refine hq N hm F W y z a1 A Q (by rw[b];exact f.2) B i g ?_;intro x n2 e2 H2 X Y a2 Z G D s2 J I M l u E;exact hk x n2 e2 H2 X Y a2 Z G (c.trans D) s2 J I ω (l.trans b) (u.trans j) ((hu.mono (by simp[F3];exact λs h=>.inl h)).trans (E.mono (by simp[F3];exact λs h=>.inr h)))| exit id=>exact hk (.exit id) L R V y z a1 A hq c B i g q b j (hu.mono (by simp[F3];exact λs h=>.inl h))| ret=>exact hk .ret L R V y z a1 A hq c B i g q b j (hu.mono (by simp[F3];exact λs h=>.inl h))
theorem Aie {l:Nat} (k:Qn n e H):wc P C (.label l) Qn Qe Qr n e H:=by intro g hm F W σ ι a w Q b s f c hk;exact wp_label (hk .normal n e H σ ι a w k (Le.refl _ _ _) s f c (Nat.le_refl _) rfl rfl (F2.refl _ _))
theorem Aif {c:Code} (k:wc P C c Qn Qe Qr n e H):wc P C (.scope c) Qn Qe Qr n e H:=by intro E hm F W σ ι a w Q g s D B hk;refine wp_scope_straight (k E hm F W σ ι a w _ g s D B ?_);intro x A G I q u a1 y hq b z j h i f l hu;have:=hk x A G I q u a1 y hq b z j h i f l hu;cases x <;> exact this
theorem Lc {id:Nat} {c:Code} (k:wc P C c Qn (λi n e H=>bif Nat.beq i id then Qn n e H else Qe i n e H) Qr n e H):wc P C (.block id c) Qn Qe Qr n e H:=by
 intro J hm F W σ ι a w Q E s I G hk;refine wp_block (k J hm F W σ ι a w _ E s I G ?_);intro x A B D q u a1 y hq b z j g h f l hu;cases x with
 | normal=>exact hk .normal A B D q u a1 y hq b z j g h f l hu
 | exit i=>
  simp only[Ex.out,Exit.inBlock];by_cases hi:i=id
  .subst hi;rw[if_pos rfl];have:Nat.beq i i=true:=Nat.beq_refl i;simp only[Ada,this,cond_true]at hq;exact hk .normal A B D q u a1 y hq b z j g h f l hu
  .rw[if_neg hi];have:Nat.beq i id=false:=by
    cases hb:Nat.beq i id
    .rfl
    .exact (hi (Gv hb)).elim
   simp only[Ada,this,cond_false]at hq;exact hk (.exit i) A B D q u a1 y hq b z j g h f l hu
 | ret=>exact hk .ret A B D q u a1 y hq b z j g h f l hu
theorem Aoo {x:Operand} {σ:A5} {ι:B9} {a:Act} {t:Bool} (b:Ans a.tmps.size x=true) (c:Fe σ ι H e a) (hx:ev e x = .val (.bool t)):a.eval x = .bool t:=by
 have hc:=c.eval (x:=x) (λt ht=>by cases x with| tmp q=>cases ht;exact Hu b| _=>cases ht)
 rw[hx]at hc;exact hc.val_inv
theorem Adb {x:Operand} {u J:Code} (k:wc P C u Qn Qe Qr n e H) (hx:ev e x = .val (.bool true):=by exact rfl):wc P C (.cond x u J) Qn Qe Qr n e H:=by intro G hm F W σ ι a w Q b s q E hk;simp only[Ko,Fq]at b;refine wp_cond_true (Aoo b.1.1 q hx) (k G hm F W σ ι a w Q b.1.2 s q E ?_);intro x D I L y z a1 A hq c B j g i f l hu;exact hk x D I L y z a1 A hq c B j g i f l (hu.mono (by simp[F3];exact λs h=>.inl h))
theorem Adc {x:Operand} {J u:Code} (k:wc P C u Qn Qe Qr n e H) (hx:ev e x = .val (.bool false):=by exact rfl):wc P C (.cond x J u) Qn Qe Qr n e H:=by intro G hm F W σ ι a w Q b s q E hk;simp only[Ko,Fq]at b;refine wp_cond_false (Aoo b.1.1 q hx) (k G hm F W σ ι a w Q b.2 s q E ?_);intro x D I L y z a1 A hq c B j g i f l hu;exact hk x D I L y z a1 A hq c B j g i f l (hu.mono (by simp[F3];exact λs h=>.inr h))
theorem Aq {c:Operand} {a b:Code} {t:Bool} {m f:Option β} (h:(bif t then m else f)=some r) (h1:t=true->m=some r->wc P C a Qn Qe Qr n e H) (h2:t=false->f=some r->wc P C b Qn Qe Qr n e H) (hx:ev e c = .val (.bool t):=by exact rfl):wc P C (.cond c a b) Qn Qe Qr n e H:=by cases t with| true=>exact Adb (h1 rfl h) hx| false=>exact Adc (h2 rfl h) hx
theorem Aop {X:List Nat} {l:List (Nat×AV)} {h:List (Nat×Bu)} {F σ z:A5} {W w Y:World} {ι I:B9} {a a1:Act} {G:Hp} {e1:B6} (hb:L0 n l h=true) (hn:Fr H n) (s:St σ ι H F W w) (he:Fe σ ι H e a) (M:Hv e1 l) (R:Hw G (C2 H h) n n) (L:Le σ ι H z I G) (i:St z I G F W Y) (a8:Fe z I G e1 a1) (aa:a1.tmps.size=a.tmps.size) (a7:F2 X a a1) : ∃A,Le σ ι H z A (C2 H h)/\St z A (C2 H h) F W Y/\Fe z A (C2 H h) (La X e (λs=>a1.tmps.getD s undef) l) a1/\Fr (C2 H h) n:=by
 have Z:∀x,n<=x->ι x = .none:=by intro x hx;have:=s.obj x;unfold C1 at this;rw[hn x hx]at this;exact this
 have D:∀p∈h,p.1<n:=by intro p hp;unfold L0 at hb;rw[Fq,D6,D6]at hb;exact Hu (hb.2 p hp)
 have N:∀p∈l,p.2.under n=true:=by intro p hp;unfold L0 at hb;rw[Fq,D6,D6]at hb;exact hb.1 p hp
 have u:Fr (C2 H h) n:=by intro x hx;rw[U9 (λp hp e=>by have:=D p hp;omega)];exact hn x hx
 let A:B9:=λx=>if x<n then I x else .none
 have c:∀x,x<n->A x=I x:=λx hx=>if_pos hx;have f:∀x,x<n->C2 H h x=G x:=λx hx=>((R.spec) x hx).1.symm;have J:Le σ ι H z A (C2 H h):=by
  refine⟨L.sto,λx=>?_⟩;by_cases hx:x<n
  .rw[c x hx,f x hx];exact L.obj x
  .rw[Z x ω,hn x ω];exact HLe.of_none
 have s2:St z A (C2 H h) F W Y:=by
  refine⟨i.sto,i.fra,λx=>?_,?_,i.os,i.tape,i.output,i.glo,i.drw⟩
  .by_cases hx:x<n
   .have k:=i.obj x;have B:=((R.spec) x hx).2;unfold C1 at k ⊢;rw[f x hx]at B ⊢;rw[c x hx];cases j:G x with
    | none=>rw[j]at k;exact k
    | dead=>trivial
    | cells E cs=>rw[j]at k B;obtain⟨b,Cc,g1,g2,g3,g4,g5,g6⟩:=k;refine⟨b,Cc,g1,g2,g3,g4,g5,λq cq v hq a6=>(g6 q cq v hq a6).restrict c f ?_⟩;have:=D6.1 B cq (F6 hq);exact Ahx this
    | rows E sz xs=>rw[j]at k;exact k
    | map es=>rw[j]at k;exact k
   .unfold C1;rw[u x ω];exact if_neg hx
  .intro x y b V U bx S;have hx:x<n:=by
    rcases Nat.lt_or_ge x n with hx|hx
    .exact hx
    .rw[u x hx]at V;cases V
   have hy:y<n:=by
    rcases Nat.lt_or_ge y n with hy|hy
    .exact hy
    .rw[u y hy]at U;cases U
   rw[f x hx]at V;rw[f y hy]at U;rw[c x hx]at bx;rw[c y hy]at S;exact i.inj x y b V U bx S
 refine⟨A,J,s2,?_,u⟩;intro q hq;rcases Anu X e (λs=>a1.tmps.getD s undef) l q with⟨p,hp,rfl,g⟩|⟨hw,g⟩|⟨hw,g⟩
 .rw[g,<-M.spec p hp];refine (a8 p.1 hq).restrict c f ?_;rw[M.spec p hp];exact N p hp
 .rw[g];exact .of_val _
 .rw[g,a7 q hw];exact (he q ω).mono J
theorem Aoq {S E:Type} {step:S->Option (S⊕E)} {s0:S} {J:E->Option β} {b:Code} (h:(An step s0).bind J=some r) (I:S->List (Nat×AV)) (hv:S->List (Nat×Bu)) (j:S->Prop) (hb:∀s,L0 n (I s) (hv s)=true) (hs:Hv e (I s0)) (hh:Hw H (C2 H (hv s0)) n n) (h0:j s0) (a8:∀(s:S) (u:Nat->Value) (K:Nat->B6->Hp->Prop) (o:S⊕E),step s=some o->(∀x,.inr x=o->J x=some r)->(∀s' n' e' H',.inl s'=o->Hv e' (I s')->Hw H' (C2 H (hv s')) n n->j s'->K n' e' H')->j s -> wc P C b K Qe Qr n (La (F3 b) e u (I s)) (C2 H (hv s))):wc P C (.loop b) Qn Qe Qr n e H:=by
 intro hT hm F W σ ι a w Q aa s he hn hk;refine De h λx hx h=>?_;obtain⟨N,hN⟩:=Ah8 hx;let J':Nat->Act->World->Prop:=λk a' w'=>∃i σ' ι',(Jk step k i=some x/\j i)/\Le σ ι H σ' ι' (C2 H (hv i))/\St σ' ι' (C2 H (hv i)) F W w' /\
   Fe σ' ι' (C2 H (hv i)) (La (F3 b) e (λs=>a'.tmps.getD s undef) (I i)) a'/\a'.tmps.size=a.tmps.size/\a'.defers=a.defers/\F2 (F3 b) a a'
 have g:∀(k:Nat) (i:S) (D:A5) (X:B9) (H1:Hp) (e1:B6) (a1:Act) (Z:World),(Jk step k i=some x/\j i)->Hv e1 (I i)->Hw H1 (C2 H (hv i)) n n->Le σ ι H D X H1->St D X H1 F W Z->Fe D X H1 e1 a1->a1.tmps.size=a.tmps.size ->
    a1.defers=a.defers->F2 (F3 b) a a1->J' k a1 Z:=by intro k i D X H1 e1 a1 Z hi ab ad q s1 U c f l;obtain⟨Y,g1,g2,g3,_⟩:=Aop (hb i) hn s he ab ad q s1 U c l;exact⟨i,D,Y,hi,g1,g2,g3,c,f,l⟩
 refine Ant J' N (g N s0 σ ι H e a w ⟨hN,h0⟩ hs hh (Le.refl _ _ _) s he rfl rfl (F2.refl _ _)) ?_;rintro k a1 Z ⟨i,D,X,⟨hi,a7⟩,q,s1,U,c,f,l⟩;have af:Fr (C2 H (hv i)) n:=by intro y hy;have V:=hb i;unfold L0 at V;rw[Fq,D6,D6]at V;rw[U9 (λp hp e=>by have:=Hu (V.2 p hp);omega)];exact hn y hy
 cases k with
 | zero=>cases hi
 | succ k=>
  simp only[Jk]at hi;cases ho:step i with
  | none=>rw[ho]at hi;cases hi
  | some o=>
   rw[ho]at hi;refine a8 i (λs=>a1.tmps.getD s undef) (λ_ e' H'=>∃s',(Jk step k s'=some x/\j s')/\Hv e' (I s')/\Hw H' (C2 H (hv s')) n n) o ho ?_ ?_ a7 hT hm F W D X a1 Z _ (by rw[c];exact aa) s1 U af ?_
   .intro y hy;subst hy;simp only[Option.some.injEq]at hi;rw[hi];exact h
   .intro s' n' e' H' M h1 h2 h3;subst M;exact⟨s',⟨hi,h3⟩,h1,h2⟩
   .intro x n2 e2 H2 σ2 Y a2 w2 hq G s2 R a6 B z A L;cases x with| normal=>obtain⟨i',ac,M,ae⟩:=hq;exact⟨k,ω,g k i' σ2 Y H2 e2 a2 w2 ac M ae (q.trans G) s2 R (z.trans c) (A.trans f) (l.trans L)⟩| exit id=>exact hk (.exit id) n2 e2 H2 σ2 Y a2 w2 hq (q.trans G) s2 R a6 B (z.trans c) (A.trans f) (l.trans L)| ret=>exact hk .ret n2 e2 H2 σ2 Y a2 w2 hq (q.trans G) s2 R a6 B (z.trans c) (A.trans f) (l.trans L)
theorem Tc {S:Type} {c:Code} (J:S->Prop) (l:S->List (Nat×AV)) (hv:S->List (Nat×Bu)) (hb:∀s,L0 n (l s) (hv s)=true) (X:∀(K:Nat->B6->Hp->Prop),(∀s U e' H',J s->Hv e' (l s)->Hw H' (C2 H (hv s)) n n->K U e' H')->wc P C c K Qe Qr n e H) (V:∀(s:S) (u:Nat->Value),J s->Qn n (La (F3 c) e u (l s)) (C2 H (hv s))):wc P C c Qn Qe Qr n e H:=by intro Y hm F W σ ι a w Q A s L I hk;refine X (λ_ e' H'=>∃s,J s/\Hv e' (l s)/\Hw H' (C2 H (hv s)) n n) (λs _ _ _ h1 h2 h3=>⟨s,h1,h2,h3⟩) Y hm F W σ ι a w _ A s L I ?_;intro x G M N q E a1 y hq f z g j k b h hu;cases x with| normal=>obtain⟨i,hi,B,D⟩:=hq;obtain⟨R,g1,g2,g3,g4⟩:=Aop (hb i) I s L B D f z g b hu;exact hk .normal n _ _ q R a1 y (V i (λs=>a1.tmps.getD s undef) hi) g1 g2 g3 g4 (Nat.le_refl _) b h hu| exit id=>exact hk (.exit id) G M N q E a1 y hq f z g j k b h hu| ret=>exact hk .ret G M N q E a1 y hq f z g j k b h hu
theorem A1b (E:C7 P C.T) (hm:P.follows .mixedOrders=true) {f:FuncId} {fn:Func} {c:Code} {args:List AV} {r:AV} (D:P.funcs[f]? = some fn) (hb:fn.body=some c) (g:(fn.name == "runtime.NumGoroutine")=false) (b:Vj fn c args.length=true) (h:r.free=true) (hv:wc P C c (λ_ e H=>S3 C.T fn.results.toList (· = r) e H) (λ_ _ _ _=>False) (λ_ e H=>S3 C.T fn.results.toList (· = r) e H) 0 (Vi args) H0):Az P f args r:=by
 unfold Vj at b;simp only[Fq]at b;obtain⟨⟨u,y⟩,G⟩:=b;have G:=Gu G;refine⟨⟨fn,D,g,by rw[hb];rfl⟩,λσ F W w vs s hc=>?_⟩;have j:(vs++Array.replicate (fn.ntmps-vs.size) undef).size=fn.ntmps:=by have:=hc.1;simp;omega
 refine calls_of_wp D hb (hv E hm F W σ ι0 _ w _ (by rw[j];exact u) s (An3 hc) (λ_ _=>rfl) ?_);intro x S e' H' M N B w' hq le s' z _ _ i A _;have k:∀q∈fn.results.toList,S4 q<B.tmps.size:=by intro q hq';rw[i];have:=Hu (D6.1 y q hq');rw[j];exact this
 have fin:S3 C.T fn.results.toList (· = r) e' H'->B.defers = []/\∃v,(results fn B.tmps).run P w' = .ok v w'/\∃v0 l,Ending.returned v = .returned v0/\σ.le l/\St l ι0 H0 F W w'/\Conc l ι0 H0 r v0:=by intro hq;obtain⟨v,I,U,R,h1,h2,h3,L,J⟩:=A0r E s' z k hq;subst h2;exact⟨A,v,h1,v,I,rfl,A5.le_trans le.sto h3.sto,L.forget,J.to0 h⟩
 cases x with| normal=>exact fin hq| ret=>exact fin hq| exit id=>exact hq.elim
theorem A1c (fz:Bool) (X:C7 P C.T) (hm:P.follows .mixedOrders=true) {f:FuncId} {fn:Func} {c:Code} {args:List AV} {r:AV} {B b:List Bu} (V:P.funcs[f]? = some fn) (hb:fn.body=some c) (l:(fn.name == "runtime.NumGoroutine")=false) (j:Vj fn c args.length=true) (g:Ah5 B r b=true) (hv:wc P C c (λ_ e H=>S6 C.T fz fn.results.toList r b e H) (λ_ _ _ _=>False) (λ_ e H=>S6 C.T fz fn.results.toList r b e H) B.length (Vi args) (hp B)):Bt P f args B r b:=by
 unfold Vj at j;unfold Ah5 at g;simp only[Fq]at j g;obtain⟨⟨I,L⟩,Y⟩:=j;obtain⟨⟨E,J⟩,N⟩:=g;have E:=Gu E;have Y:=Gu Y;refine⟨⟨fn,V,l,by rw[hb];rfl⟩,λσ F W w ι vs s hc=>?_⟩;have A:(vs++Array.replicate (fn.ntmps-vs.size) undef).size=fn.ntmps:=by have:=hc.1;simp;omega
 refine calls_of_wp V hb (hv X hm F W σ ι _ w _ (by rw[A];exact I) s (An3 hc) (λ_ h=>Qq h) ?_);intro x n' e' H' σ' ι' U w' hq le s' R _ _ z S _;have D:∀q∈fn.results.toList,S4 q<U.tmps.size:=by intro q hq';rw[z];have:=Hu (D6.1 L q hq');rw[A];exact this
 have fin:S6 C.T fz fn.results.toList r b e' H'->U.defers = []/\∃v,(results fn U.tmps).run P w' = .ok v w'/\∃v0 G ι0,Ending.returned v = .returned v0/\Le σ ι (hp B) G ι0 (hp b)/\St G ι0 (hp b) F W w'/\Conc G ι0 (hp b) r v0:=by
  intro hq;obtain⟨v,Z,H2,h1,h2,h3,h4,h5⟩:=A0s X s' R D hq;have u:∀i,i<b.length->H2 i=hp b i:=λi hi=>by simpa using h2.spec i hi
  refine⟨S,v,h1,v,Z,(λk=>if k<b.length then ι' k else .none),rfl,?_,h4.first b u N,?_⟩
  .have y:=le.trans h3;refine⟨y.sto,λk=>?_⟩;by_cases hk:k<b.length
   .rw[if_pos hk,<-u k hk];exact y.obj k
   .rw[if_neg hk,Qq ω,Qq ω];have:ι k = .none:=(by have:=s.obj k;unfold C1 at this;rw[Qq ω]at this;exact this);rw[this];exact HLe.refl _ _
  .exact h5.restrict (n:=b.length) (λh M=>if_pos M) (λh M=>(u h M).symm) J
 cases x with| normal=>exact fin hq| ret=>exact fin hq| exit id=>exact hq.elim
end
end Go.Ab
namespace Go.Ab
theorem Aor {id:Nat}:∀{k b:List Item},exitTo id k=some b->b.length<k.length
 | [],b,h=>by cases h
 | x::k,b,h=>by
  have ih:exitTo id k=some b->b.length<(x::k).length:=λh=>Nat.lt_succ_of_lt (Aor h);unfold exitTo at h;split at h
  .rename_i c k0 heq;cases heq;split at h
   .cases h;simp
   .exact ih h
  .rename_i f k0 _ heq;cases heq;exact ih h
  .rename_i heq;cases heq
theorem Aig {P:Program} {m f c:Machine} (h:step P m = .next f) (h':Steps P m c):c=m\/Steps P f c:=by obtain⟨n,b⟩:=h';cases n with| zero=>left;simp only[runN,Stepped.next.injEq]at b;exact b.symm| succ n=>right;simp only[runN,h]at b;exact⟨n,b⟩
theorem Aos {b:Frame} {a f:Act} {k c:List Item} {cs:List Frame} {w w':World} (h:lone (b.at a k) cs w=lone (b.at f c) cs w'):k=c:=by simp only[lone,Machine.mk.injEq,Array.mk.injEq,List.cons.injEq,Goroutine.mk.injEq,Frame.at,Frame.mk.injEq]at h;exact h.2.1.1.1.2.2.1
def A1d:Exit->Bool
 | .normal | .exit _ | .ret=>true
 | _=>false
theorem A1e {P:Program} {Q:Exit->Act->World->Prop} {a:Act} {w:World} {c:Code} (h:c.wp P (Exit.then (λD w'=>(Code.loop c).wp P (λe a w=>A1d e=true/\Q e a w) D w') Q) a w):(Code.loop c).wp P Q a w:=by
 intro b k cs;obtain⟨e,a1,i,hq,f⟩:=h b (.inLoop c::k) cs;have first:Steps P (lone (b.at a (.code (.loop c)::k)) cs w) (lone (b.at a (.code c :: .inLoop c::k)) cs w):=.one step_loop
 cases e with
 | normal=>
  obtain⟨u,a2,y,⟨s,q⟩,g⟩:=hq b k cs;have j:Steps P (lone (b.at a (.code (.loop c)::k)) cs w) (lone (b.at a1 (.code c :: .inLoop c::k)) cs i):=first.trans (Steps.trans f (.one step_inLoop));refine⟨u,a2,y,q,.of_steps j ?_⟩;cases u with
  | normal=>
   rcases Aig step_loop g with e|e
   .have:=congrArg List.length (Aos e);simp at this
   .exact e
  | exit id=>
   intro z hk;rcases Aig step_loop (g z hk) with e|e
   .have h1:=Aor hk;have h2:=congrArg List.length (Aos e);simp at h2;omega
   .exact e
  | ret=>
   obtain⟨todo,A⟩:=g;rcases Aig step_loop A with e|e
   .simp only[lone,Machine.mk.injEq,Array.mk.injEq,List.cons.injEq,Goroutine.mk.injEq,Frame.at,Frame.mk.injEq]at e;simp at e
   .exact⟨todo,e⟩
  | goto l=>cases s
  | panic B=>cases s
  | outgrown=>cases s
 | exit id=>exact⟨_,a1,i,hq,.of_steps first (.pass (x:=.inLoop c) rfl (λ_ _=>.inl ψ) f)⟩
 | goto l=>exact⟨_,a1,i,hq,.of_steps first (.pass (x:=.inLoop c) rfl (λ_ _=>.inl ψ) f)⟩
 | ret=>exact⟨_,a1,i,hq,.of_steps first (.pass (x:=.inLoop c) rfl (λ_ _=>.inl ψ) f)⟩
 | panic B=>exact⟨_,a1,i,hq,.of_steps first (.pass (x:=.inLoop c) rfl (λ_ _=>.inl ψ) f)⟩
 | outgrown=>exact⟨_,a1,i,hq,.of_steps (b:=b) (k:=k) (cs:=cs) (e:=.outgrown) first (.pass (x:=.inLoop c) rfl (λ_ _=>.inl ψ) f)⟩
section
variable {P:Program} {C:Cfg} {Qn:Nat->B6->Hp->Prop} {Qe:Nat->Nat->B6->Hp->Prop} {Qr:Nat->B6->Hp->Prop} {n:Nat} {e:B6} {H:Hp}
theorem Vn {c:Code} (k:wc P C c (λn e H=>wc P C (.loop c) Qn Qe Qr n e H) Qe Qr n e H):wc P C (.loop c) Qn Qe Qr n e H:=by intro N hm F W σ ι a w Q l s he hn hk;refine A1e (k N hm F W σ ι a w _ l s he hn ?_);intro x L R S y z a1 A hq f B h g q b i hu;cases x with| normal=>refine hq N hm F W y z a1 A _ (by rw[b];exact l) B h g ?_;intro x Z e2 H2 U V a2 X G D Y J I M j u E;exact⟨by cases x <;> rfl,hk x Z e2 H2 U V a2 X G (f.trans D) Y J I ω (j.trans b) (u.trans i) (hu.trans E)⟩| exit id=>exact hk (.exit id) L R S y z a1 A hq f B h g q b i hu| ret=>exact hk .ret L R S y z a1 A hq f B h g q b i hu
def Vw (x:AV) (v:Value):Prop:=∀sz xs,x = .sl sz xs->∃p c,v = .slice p xs.length c/\(p=none->xs = [])
theorem Yh {c:Code} (s:Nat) (k:∀v,Vw (e s) v->wc P C c Qn Qe Qr n (Bg e s (.val v)) H):wc P C c Qn Qe Qr n e H:=by
 intro y hm F W σ ι a w Q f u l x hk;by_cases z:s<a.tmps.size
 .have hc:=l s z;refine k (a.tmps.getD s undef) ?_ y hm F W σ ι a w Q f u ?_ x hk
  .intro sz xs hx;rw[hx]at hc;rcases hc.sl_inv.sl_inv with⟨rfl,p,cap,e⟩|⟨b,off,cap,C,E,fr,g,e,_⟩
   .exact⟨p,cap,e,λ_=>rfl⟩
   .exact⟨_,cap,e,λh=>by cases h⟩
  .intro q hq;by_cases h:q=s
   .subst h;rw[Cy];exact .of_val _
   .rw[Di _ _ h];exact l q hq
 .have hv:∃v,Vw (e s) v:=(by cases hx:e s with| sl sz xs=>exact⟨.slice (some ⟨0,0,none⟩) xs.length 0,λj i h=>by cases h;exact⟨_,_,rfl,λh=>by cases h⟩⟩| _=>exact⟨undef,λj i h=>by cases h⟩);obtain⟨v,hv⟩:=hv;refine k v hv y hm F W σ ι a w Q f u ?_ x hk;intro q hq;rw[Di _ _ ω];exact l q hq
end
end Go.Ab
namespace Go.Ab
structure Pd {α:Type} (cf:α->α->Int):Prop where
 irr:∀x,¬cf x x<0
 trs:∀x y z,cf x y<0->cf y z<0->cf x z<0
 ntr:∀x y z,¬cf x y<0->¬cf y z<0->¬cf x z<0
def Yi {α:Type} (cmp:α->α->Option Int) (l r:List α):Prop := ∃cf:α->α->Int,Pd cf/\(∀x∈l,∀y∈l,cmp x y=some (cf x y))/\r.Perm l/\r.Pairwise (λx y=>cf x y<0)
open Classical in
noncomputable def Pe {α:Type} (cmp:α->α->Option Int) (l:List α):Option (List α) := if h:∃r,Yi cmp l r then some (Classical.choose h) else none
theorem A1f {α:Type} {cmp:α->α->Option Int} {l r:List α} (h:Pe cmp l=some r):Yi cmp l r:=by
 unfold Pe at h;split at h
 .rename_i k;cases h;exact Classical.choose_spec k
 .cases h
theorem A1g {α:Type} {cmp:α->α->Option Int} {l r:List α} (h:Yi cmp l r):∃b,Pe cmp l=some b/\Yi cmp l b:=by unfold Pe;rw[dif_pos ⟨r,h⟩];exact⟨_,rfl,Classical.choose_spec (⟨r,h⟩:∃r,Yi cmp l r)⟩
def Ld {α:Type} (n:Nat) (a:List α):Option (List α×List α):=(Cj n [] a).bind λo=>some ([],o)
def Og {α:Type} (n:Int):Option (List α):=bif decide (0<=n)&&decide (n<=1000000) then some [] else none
end Go.Ab
