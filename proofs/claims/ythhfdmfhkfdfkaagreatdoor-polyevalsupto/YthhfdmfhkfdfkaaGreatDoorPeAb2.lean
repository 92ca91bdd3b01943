/- Plain laws: what the plain functions answer. -/
import Derived.Test.YthhfdmfhkfdfkaaGreatDoorPeAb
namespace Go.Ab
def H0:Hp:=λ_=>.none
def ι0:Br:=λ_=>.none
def Yo (P:Program) (f:FuncId):Prop:=∃fn,P.funcs[f]? = some fn/\(fn.name == "runtime.NumGoroutine")=false/\fn.body.isNone=false
def Kt (σ:A1) (ι:Br) (H:Hp) (args:List AV) (vs:Array Value):Prop := vs.size=args.length/\∀(i:Nat) (a:AV) (v:Value),args[i]? = some a->vs[i]? = some v->Conc σ ι H a v
def As (P:Program) (f:FuncId) (args:List AV) (r:AV):Prop := Yo P f/\∀(σ F:A1) (W w:World) (vs:Array Value),St σ ι0 H0 F W w->Kt σ ι0 H0 args vs -> Calls P f vs w λe w'=>∃v b,e = .returned v/\σ.le b/\St b ι0 H0 F W w'/\Conc b ι0 H0 r v
def AV.under0 (n:Nat):AV->Bool
 | .loc h _ | .mp h=>Nat.blt h n
 | .arr h _ _ _ | .el h _ _ _=>Nat.blt h n
 | .val _ | .sl _ _ | .ref _ | .fb _=>true
 | _=>false
def AV.under1 (n:Nat):AV->Bool
 | .loc h _ | .mp h=>Nat.blt h n
 | .arr h _ _ _ | .el h _ _ _=>Nat.blt h n
 | .val _ | .sl _ _ | .ref _ | .fb _=>true
 | .fn _ cs=>cs.all (AV.under0 n)
 | _=>false
def AV.under2 (n:Nat):AV->Bool
 | .agg cs=>cs.all (AV.under1 n)
 | x=>x.under1 n
def AV.under (n:Nat):AV->Bool
 | .agg cs | .fn _ cs=>cs.all (AV.under1 n)
 | .tup cs=>cs.all (AV.under2 n)
 | x=>x.under1 n
def Bh.under (n:Nat):Bh->Bool
 | .cells _ cs=>cs.all (AV.under1 n)
 | .map _=>true
 | .rows _ _ _=>true
 | .none=>true
 | .dead=>true
def Ac4 (es:Nat->Nat):AV->AV
 | .loc h off=>.loc (es h) off
 | .mp h=>.mp (es h)
 | .arr h k off len=>.arr (es h) k off len
 | .el h k i j=>.el (es h) k i j
 | x=>x
def Lu (es:Nat->Nat):AV->AV
 | .loc h off=>.loc (es h) off
 | .mp h=>.mp (es h)
 | .arr h k off len=>.arr (es h) k off len
 | .el h k i j=>.el (es h) k i j
 | .fn f cs=>.fn f (cs.map (Ac4 es))
 | x=>x
def Ac5 (es:Nat->Nat):AV->AV
 | .agg cs=>.agg (cs.map (Lu es))
 | x=>Lu es x
def ren (es:Nat->Nat):AV->AV
 | .agg cs=>.agg (cs.map (Lu es))
 | .tup cs=>.tup (cs.map (Ac5 es))
 | .fn f cs=>.fn f (cs.map (Lu es))
 | x=>Lu es x
def Ht (es:Nat->Nat):Bh->Bh
 | .cells E cs=>.cells E (cs.map (Lu es))
 | o=>o
def hp (b:List Bh):Hp:=λk=>b.getD k .none
def Bo (P:Program) (f:FuncId) (args:List AV) (h:List Bh) (r:AV) (b:List Bh):Prop := Yo P f/\∀(σ F:A1) (W w:World) (ι:Br) (vs:Array Value),St σ ι (hp h) F W w->Kt σ ι (hp h) args vs -> Calls P f vs w λe w'=>∃v c g,e = .returned v/\Le σ ι (hp h) c g (hp b)/\St c g (hp b) F W w'/\Conc c g (hp b) r v
def Ds (n:Nat):List Nat->Nat->Nat
 | [],k=>n+k
 | h::_,0=>h
 | _::l,k+1=>Ds n l k
def Mo (n:Nat):List Nat->Bool
 | []=>true
 | h::l=>Nat.blt h n && !(l.elem h)&&Mo n l
def wrs (es:Nat->Nat):Nat->List Bh->List (Nat×Bh)
 | _,[]=>[]
 | k,o::os=>(es k,Ht es o)::wrs es (k+1) os
def B5 (es:Nat->Nat):Nat->Nat->List (Nat×Bh)
 | _,0=>[]
 | k,c+1=>(es k,.none)::B5 es (k+1) c
def Pt (H:Hp):List (Nat×Bh)->Prop
 | []=>True
 | p::l=>H p.1=p.2/\Pt H l
def R6 (n:Nat) (l:List Nat) (c:List AV) (f:List Bh) (r:AV) (b:List Bh):Bool := Mo n l&&Nat.beq f.length l.length&&Nat.ble l.length b.length&&c.all (AV.under l.length)&&f.all (Bh.under l.length)&&r.under b.length&&b.all (Bh.under b.length)
inductive Us (xs:List AV) (i:Int) (K:Nat->AV->Prop):Prop where
 | mk (n:Nat) (x:AV) (hi:i=n) (hx:xs[n]? = some x) (k:K n x)
inductive Pu (len:Nat) (kk:Nat) (xs:List AV) (i:Int) (K:Nat->Prop):Prop where
 | mk (n:Nat) (hk:xs.length=kk) (hi:i=n) (hn:n<len) (k:K n)
inductive G0 (k:IntKind) (n:Int) (K:Int->Prop):Prop where
 | mk (c:Int) (h:k.wrap n=c) (k:K c)
inductive Yp (k:IntKind) (m n:Int) (K:Int->Prop):Prop where
 | mk (c:Int) (hn:n≠0) (h:k.wrap (m.tdiv n)=c) (k:K c)
inductive Yq (m n:Int) (K:Int->Prop):Prop where
 | mk (c:Int) (hn:n≠0) (h:m.tmod n=c) (k:K c)
inductive Yr (k:IntKind) (m n:Int) (K:Int->Prop):Prop where
 | mk (c:Int) (hn:0<=n) (h:m.fdiv (2 ^ (min n.toNat k.bits))=c) (k:K c)
inductive Ys (k:IntKind) (m n:Int) (K:Int->Prop):Prop where
 | mk (c:Int) (hn:0<=n) (h:k.wrap (m*2 ^ (min n.toNat k.bits))=c) (k:K c)
inductive Yt (n:Nat) (lo hi:Int) (K:Nat->Nat->Prop):Prop where
 | mk (l h:Nat) (el:lo=l) (eh:hi=h) (h1:l<=h) (h2:h<=n) (k:K l h)
inductive Pv (xs:List AV) (lo hi:Int) (K:List AV->Prop):Prop where
 | mk (l h:Nat) (ys:List AV) (el:lo=l) (eh:hi=h) (h1:l<=h) (h2:h<=xs.length) (hy:(xs.take h).drop l=ys) (k:K ys)
inductive Yu (kk:Nat) (xs:List AV) (n:Nat) (lo hi:Int) (K:Nat->Nat->Prop) (KE:Prop):Prop where
 | mk (l h:Nat) (hk:xs.length=kk) (el:lo=l) (eh:hi=h) (h1:l<=h) (h2:h<=n) (h3:l=0\/l<h) (k:K l h)
 | mkE (l:Nat) (hk:xs.length=kk) (el:lo=l) (eh:hi=l) (h2:l<=n) (k:KE)
inductive Yv (s:ByteArray) (i:Int) (K:UInt8->Prop):Prop where
 | mk (n:Nat) (c:UInt8) (hi:i=n) (hc:s[n]? = some c) (k:K c)
inductive Yw (n:Nat) (K:Prop):Prop where
 | mk (h:n<=9223372036854775807) (k:K)
inductive R7 (len cap:Int) (bytes:Nat) (z:AV) (K:Nat->List AV->Prop):Prop where
 | mk (l c:Nat) (zs:List AV) (el:len=l) (ec:cap=c) (h1:l<=c) (h2:bytes*c<=281474976710656) (h3:c<=140737488355328) (hz:List.replicate l z=zs) (k:K l zs)
 | mkN (z':AV) (hn:E2 z.cells z'.cells) (l c:Nat) (zs:List AV) (el:len=l) (ec:cap=c) (h1:l<=c) (h2:bytes*c<=281474976710656) (h3:c<=140737488355328) (hz:List.replicate l z'=zs) (k:K l zs)
inductive Ku (xs ys:List AV) (kk len bytes:Nat) (K:List AV->Nat->Prop) (KP:List AV->Nat->Nat->Prop):Prop where
 | mkP (zs:List AV) (k' m:Nat) (hk:xs.length=kk) (hl:len<=kk) (hb:(xs.length+ys.length)*bytes<=140737488355328) (hz:C8 xs len ys=zs) (hk':zs.length=k') (hm:len+ys.length=m) (k:KP zs k' m)
 | mk (zs:List AV) (m:Nat) (hk:xs.length=kk) (hl:len=kk) (hb:(xs.length+ys.length)*bytes<=140737488355328) (hz:xs++ys=zs) (hm:kk+ys.length=m) (k:K zs m)
inductive Asz (ys:List AV) (K:Prop):Prop where
 | mk (hy:ys = []) (k:K)
inductive Pw (ys:List AV) (bytes:Nat) (K:List AV->Nat->Prop):Prop where
 | mk (zs:List AV) (m:Nat) (hb:ys.length*bytes<=140737488355328) (hz:ys=zs) (hm:ys.length=m) (k:K zs m)
inductive As0 (xs:List AV) (kk len k2 off2 len2 bytes:Nat) (K:List AV->Nat->Nat->Prop):Prop where
 | mk (zs:List AV) (k' m:Nat) (hk:xs.length=kk) (hl:len<=kk) (hk2:xs.length=k2) (hl2:off2+len2<=kk) (hb:(xs.length+len2)*bytes<=140737488355328) (hz:C8 xs len ((xs.drop off2).take len2)=zs) (hk':zs.length=k') (hm:len+len2=m) (k:K zs k' m)
inductive Aib (xs:List AV) (kk off len k2 off2 len2:Nat) (K:List AV->Nat->Prop):Prop where
 | mk (zs:List AV) (c:Nat) (hk:xs.length=kk) (hl:off+len<=kk) (hk2:xs.length=k2) (hl2:off2+len2<=kk) (hz:C8 xs off ((xs.drop off2).take (min len2 len))=zs) (hc:min len2 len=c) (k:K zs c)
inductive Aic (xs:List AV) (kk off len:Nat) (z:AV) (K:List AV->Prop):Prop where
 | mk (zs:List AV) (hk:xs.length=kk) (hl:off+len<=kk) (hz:C8 xs off (List.replicate len z)=zs) (k:K zs)
inductive Ac6 (a b:Nat) (K:Prop):Prop where
 | mk (h:a<=b) (k:K)
inductive Ac7 (xs:List AV) (n:Nat) (K:List AV->Prop):Prop where
 | mk (ys:List AV) (hy:xs.take n=ys) (k:K ys)
inductive R8 (xs:List AV) (q:Nat) (p:AV) (K:List AV->Prop):Prop where
 | mk (zs:List AV) (hz:xs.set q p=zs) (k:K zs)
inductive Kv (xs:List AV) (K:Int->Prop):Prop where
 | mk (c:Int) (hc:(xs.length:Int)=c) (k:K c)
inductive J1 (kk i:Nat) (xs:List AV) (K:AV->Prop):Prop where
 | mk (x:AV) (hk:xs.length=kk) (hx:xs[i]? = some x) (k:K x)
inductive F2 (kk:Nat) (xs:List AV) (K:Prop):Prop where
 | mk (hk:xs.length=kk) (k:K)
inductive Gc (P:Program) (n:Nat) (H:Hp) (f:FuncId) (args:List AV) (K:Eff->Nat->Prop):Prop where
 | mk (r:AV) (h:As P f args r) (hf:args.all AV.free=true) (k:K ⟨r,[],[]⟩ n)
 | act (l:List Nat) (largs:List AV) (hs:List Bh) (r:AV) (hs':List Bh) (h:Bo P f largs hs r hs') (ha:largs.map (ren (Ds n l))=args) (ok:R6 n l largs hs r hs'=true) (hh:Pt H (wrs (Ds n l) 0 hs))
   (k:K ⟨ren (Ds n l) r,wrs (Ds n l) 0 hs++B5 (Ds n l) l.length (hs'.length-l.length),wrs (Ds n l) 0 hs'⟩ (n+(hs'.length-l.length)))
inductive Aid (s:ByteArray) (es:List (AV×AV)) (K:Option (Nat×AV)->Prop):Prop where
 | mk (r:Option (Nat×AV)) (h:H6 s es 0=some r) (k:K r)
inductive Yx (op:BinOp) (k:FloatKind) (a b:Nat) (K:Nat->Prop):Prop where
 | mk (c:Nat) (h:floatBits op k a b=some c) (k:K c)
inductive Yy (k:FloatKind) (a:Nat) (q:IntKind) (K:Int->Prop):Prop where
 | mk (c:Int) (h:floatToIntVal k a q=some c) (k:K c)
inductive As1 (P:Program) (kt:TypeId) (us:List Value) (es:List (AV×AV)) (K:Option (Nat×AV)->Prop):Prop where
 | mk (r:Option (Nat×AV)) (hc:Ym P kt us) (h:Lt P kt us es 0 r) (k:K r)
inductive As2 (P:Program) (kt:TypeId) (ks:List AV) (us:List Value) (v:AV) (es:List (AV×AV)) (K:List (AV×AV)->Prop):Prop where
 | mk (es':List (AV×AV)) (hc:Ym P kt us) (h:Lt P kt us es 0 none) (he:es++[(.agg ks,v)]=es') (k:K es')
inductive Aie (s:ByteArray) (v:AV) (es:List (AV×AV)) (K:List (AV×AV)->Prop):Prop where
 | mk (es':List (AV×AV)) (h:Yj s v es=some es') (k:K es')
inductive Aif (P:Program) (t:TypeId) (us vs:List Value) (K:Bool->Prop):Prop where
 | mk (b:Bool) (h:Yl P t us vs b) (k:K b)
inductive R9 (P:Program) (t:TypeId) (f:Nat) (K:TypeId->Prop):Prop where
 | mk (ft:TypeId) (h:Acy P t f=some ft) (k:K ft)
inductive Aig (P:Program) (f:FuncId) (args:List AV) (K:AV->Prop):Prop where
 | mk (r:AV) (h:As P f args r) (hf:args.all AV.free=true) (k:K r)
inductive Ann where
 | frz (j:Nat)
 | std
 | own
 | ask
def J2:AV->Bool
 | .val (.slice none 0 0)=>true
 | _=>false
def Ut:AV->Bool
 | .val (.agg _)=>false
 | _=>true
def Ac8 (x:AV) (K:AV->Prop):Prop := match x with
 | .val v=>K (.val v)
 | .loc h off=>K (.loc h off)
 | .arr h k off len=>K (.arr h k off len)
 | .el h k i j=>K (.el h k i j)
 | .mp h=>K (.mp h)
 | .ref cs=>K (.ref cs)
 | .sl sz xs=>K (.sl sz xs)
 | .agg cs=>K (.agg cs)
 | .tup cs=>K (.tup cs)
 | .fn f cs=>K (.fn f cs)
 | .fb s=>K (.fb s)
def Nm:List AV->(List AV->Prop)->Prop
 | [],K=>K []
 | x::xs,K=>Ac8 x λx=>Nm xs λxs=>K (x::xs)
def Jn (x:AV) (K:AV->Prop):Prop := match x with
 | .agg cs=>Nm cs λcs=>K (.agg cs)
 | .tup cs=>Nm cs λcs=>K (.tup cs)
 | .fn f cs=>Nm cs λcs=>K (.fn f cs)
 | x=>Ac8 x K
def Sa:List AV->(List AV->Prop)->Prop
 | [],K=>K []
 | x::xs,K=>Jn x λx=>Sa xs λxs=>K (x::xs)
def Ac9 (o:Bh) (K:Bh->Prop):Prop := match o with
 | .cells E cs=>Nm cs λcs=>K (.cells E cs)
 | .rows E sz xs=>K (.rows E sz xs)
 | .map es=>K (.map es)
 | .none=>K .none
 | .dead=>K .dead
def Lv:List (Nat×Bh)->(List (Nat×Bh)->Prop)->Prop
 | [],K=>K []
 | p::l,K=>Ac9 p.2 λo=>Lv l λl=>K ((p.1,o)::l)
def H7:List (Nat×Bh)->(List Nat->Prop)->Prop
 | [],K=>K []
 | p::l,K=>H7 l λl=>K (p.1::l)
theorem Aih (x:AV) (K:AV->Prop):Ac8 x K=K x:=by cases x <;> rfl
theorem Yz:∀(l:List AV) (K:List AV->Prop),Nm l K=K l
 | [],_=>rfl
 | x::xs,K=>by simp only [Nm,Aih,Yz xs]
theorem Sb (x:AV) (K:AV->Prop):Jn x K=K x:=by cases x <;> simp only [Jn,Yz,Aih]
theorem Y0:∀(l:List AV) (K:List AV->Prop),Sa l K=K l
 | [],_=>rfl
 | x::xs,K=>by simp only [Sa,Sb,Y0 xs]
theorem As3 (o:Bh) (K:Bh->Prop):Ac9 o K=K o:=by cases o <;> simp only [Ac9,Yz]
theorem Ada:∀(l:List (Nat×Bh)) (K:List (Nat×Bh)->Prop),Lv l K=K l
 | [],_=>rfl
 | p::l,K=>by simp only [Lv,As3,Ada l]
theorem Adb:∀(l:List (Nat×Bh)) (K:List Nat->Prop),H7 l K=K (l.map (·.1))
 | [],_=>rfl
 | p::l,K=>by simp only [H7,Adb l,List.map_cons]
def Dw (P:Program) (T:Cl) (an:Nat->Ann) (n:Nat) (o:Oper) (ρ:Operand->AV) (H:Hp) (K:Eff->Nat->Prop):Prop :=
 match o.op with
 | .move x=>K ⟨ρ x,[],[]⟩ n
 | .assign x=>
  match o.dst with
  | none=>K ⟨ρ x,[],[]⟩ n
  | some d=>
   match an d with
   | .frz _=>K ⟨ρ x,[],[]⟩ n
   | .std=>K ⟨ρ x,[],[]⟩ n
   | .ask=>K ⟨ρ x,[],[]⟩ n
   | .own=>bif J2 (ρ x) then
     match T o.type with
     | some ⟨.slice e,_,_,_⟩=>
      match T e with
      | some i'=>bif Nat.blt 0 i'.size then K ⟨.arr n 0 0 0,[(n,.none)],[(n,.rows e i'.size [])]⟩ (n+1) else False
      | none=>False
     | _=>False
    else K ⟨ρ x,[],[]⟩ n
 | .pick c a b=>
  match ρ c with
  | .val (.bool t)=>K ⟨bif t then ρ a else ρ b,[],[]⟩ n
  | _=>False
 | .alloc t=>
  match T t with
  | some i=>K ⟨.loc n 0,[(n,.none)],[(n,.cells t (i.zero.map .val))]⟩ (n+1)
  | none=>False
 | .box t x=>K ⟨.loc n 0,[(n,.none)],[(n,.cells t (ρ x).cells)]⟩ (n+1)
 | .build t parts=>
  match T t with
  | some ⟨.struct fs,_,_,z⟩=>
   match Ry fs (z.map .val) (parts.toList.map λp=>(p.1,ρ p.2)) with
   | some cs=>K ⟨.agg cs,[],[]⟩ n
   | none=>False
  | _=>False
 | .buildSlice t len parts=>
  match T t with
  | some ⟨.slice e,_,_,_⟩=>
   match T e with
   | some i'=>
    bif Nat.blt 0 i'.size&&(parts.toList.map (·.1)==List.range' 0 len)&&Nat.ble (len*i'.size) 16777216&&parts.toList.all (λp=>Jk i'.size (ρ p.2)) then
     match an (o.dst.getD 0) with
     | .frz _=>False
     | .std=>Sa (parts.toList.map λp=>ρ p.2) λxs=>K ⟨.sl i'.size xs,[],[]⟩ n
     | .ask=>Sa (parts.toList.map λp=>ρ p.2) λxs=>K ⟨.sl i'.size xs,[],[]⟩ n
     | .own=>Sa (parts.toList.map λp=>ρ p.2) λxs=>K ⟨.arr n len 0 len,[(n,.none)],[(n,.rows e i'.size xs)]⟩ (n+1)
    else False
   | none=>False
  | _=>False
 | .load t x=>
  match T t with
  | some i=>
   match ρ x with
   | .ref cs=>bif i.isAgg then (bif Nat.ble i.size cs.length then K ⟨.agg (cs.take i.size),[],[]⟩ n else False) else
     match cs with
     | c::_=>K ⟨c,[],[]⟩ n
     | []=>False
   | .loc h off=>
    match H h with
    | .cells E cs=>bif i.isAgg then (bif Nat.ble (off+i.size) cs.length then K ⟨.agg ((cs.drop off).take i.size),[(h,.cells E cs)],[]⟩ n else False) else
      match cs[off]? with
      | some c=>K ⟨c,[(h,.cells E cs)],[]⟩ n
      | none=>False
    | _=>False
   | .el h k q j=>
    match H h with
    | .rows E sz xs=>J1 k q xs λy=>bif i.isAgg then (bif Nat.ble (j+i.size) y.cells.length then K ⟨.agg ((y.cells.drop j).take i.size),[(h,.rows E sz xs)],[]⟩ n else False) else
      match y.cells[j]? with
      | some c=>K ⟨c,[(h,.rows E sz xs)],[]⟩ n
      | none=>False
    | _=>False
   | _=>False
  | none=>False
 | .store t x y=>
  match T t with
  | some i=>
   match ρ x with
   | .loc h off=>
    match H h with
    | .cells E cs=>bif Nat.beq (ρ y).cells.length i.size&&Nat.ble (off+i.size) cs.length&&(ρ y).cells.all AV.one then K ⟨.val undef,[(h,.cells E cs)],[(h,.cells E (Kr cs off (ρ y).cells))]⟩ n else False
    | _=>False
   | .el h k q j=>
    match H h with
    | .rows E sz xs=>J1 k q xs λz=>bif Nat.beq (ρ y).cells.length i.size&&Nat.blt 0 i.size&&Nat.ble (j+i.size) z.cells.length&&(ρ y).cells.all AV.cl1&&Ut z then
      Nm (ρ y).cells λys=>Jn (Uo z j ys) λp=>R8 xs q p λg=>K ⟨.val undef,[(h,.rows E sz xs)],[(h,.rows E sz g)]⟩ n else False
    | _=>False
   | _=>False
  | none=>False
 | .nilCheck x=>bif (ρ x).isPtr then K ⟨ρ x,[],[]⟩ n else False
 | .binOp op t x y _=>
  match ρ x,ρ y with
  | .val (.int k a),.val (.int G b)=>
   match op with
   | .shl=>Ys k a b λc=>K ⟨.val (.int k c),[],[]⟩ n
   | .shr=>Yr k a b λc=>K ⟨.val (.int k c),[],[]⟩ n
   | op=>bif decide (k=G) then
     match op with
     | .add=>G0 k (a+b) λc=>K ⟨.val (.int k c),[],[]⟩ n
     | .sub=>G0 k (a-b) λc=>K ⟨.val (.int k c),[],[]⟩ n
     | .mul=>G0 k (a*b) λc=>K ⟨.val (.int k c),[],[]⟩ n
     | .quo=>Yp k a b λc=>K ⟨.val (.int k c),[],[]⟩ n
     | .rem=>Yq a b λc=>K ⟨.val (.int k c),[],[]⟩ n
     | op=>
      match Acf op a b with
      | some t=>K ⟨.val (.bool t),[],[]⟩ n
      | none=>
       match Acl op k a b with
       | some c=>K ⟨.val (.int k c),[],[]⟩ n
       | none=>False
    else False
  | .val (.bool a),.val (.bool b)=>
   match T t with
   | some ⟨.bool,_,_,_⟩=>
    match Acm op a b with
    | some t=>K ⟨.val (.bool t),[],[]⟩ n
    | none=>False
   | _=>False
  | .agg xs,.agg ys=>
   match Hj xs with
   | some L=>
    match Hj ys with
    | some vs=>
     match op with
     | .eql=>Aif P t L vs λb=>K ⟨.val (.bool b),[],[]⟩ n
     | .neq=>Aif P t L vs λb=>K ⟨.val (.bool !b),[],[]⟩ n
     | _=>False
    | none=>False
   | none=>False
  | .val (.float k a),.val (.float G b)=>bif decide (k=G) then Yx op k a b λc=>K ⟨.val (.float k c),[],[]⟩ n else False
  | .val (.string a),.val (.string b)=>
   match op with
   | .add=>Yw (a.size+b.size) (K ⟨.val (.string (a++b)),[],[]⟩ n)
   | op=>
    match Acn op a b with
    | some t=>K ⟨.val (.bool t),[],[]⟩ n
    | none=>False
  | .val (.slice p _ _),.val (.slice none _ _)=>
   match op with
   | .eql=>
    match T t with
    | some ⟨.slice _,_,_,_⟩=>K ⟨.val (.bool p.isNone),[],[]⟩ n
    | _=>False
   | _=>False
  | _,_=>False
 | .unOp op _ x=>
  match op,ρ x with
  | .not,.val (.bool b)=>K ⟨.val (.bool !b),[],[]⟩ n
  | .neg,.val (.int k m)=>G0 k (0-m) λc=>K ⟨.val (.int k c),[],[]⟩ n
  | _,_=>False
 | .convert s d x=>
  match T s,T d,ρ x with
  | some _,some ⟨.int k,_,_,_⟩,.val (.int _ m)=>G0 k m λc=>K ⟨.val (.int k c),[],[]⟩ n
  | some _,some ⟨.float k,_,_,_⟩,.val (.int _ m)=>K ⟨.val (.float k (floatOfInt k m)),[],[]⟩ n
  | some _,some ⟨.int k,_,_,_⟩,.val (.float q m)=>Yy q m k λc=>K ⟨.val (.int k c),[],[]⟩ n
  | _,_,_=>False
 | .makeFunc (.func f) first u=>bif first.isEmpty then K ⟨.fn f (u.toList.map ρ),[],[]⟩ n else False
 | .makeSlice t x y=>
  match T t with
  | some ⟨.slice e,_,_,_⟩=>
   match T e with
   | some i'=>
    match ρ x,ρ y with
    | .val (.int _ l),.val (.int _ c)=>
     bif Nat.blt 0 i'.size&&Jk i'.size (Eo i')&&Nat.beq (Eo i').cells.length i'.zero.length&&Ut (Eo i') then
      R7 l c i'.bytes (Eo i') λl g=>K ⟨.arr n l 0 l,[(n,.none)],[(n,.rows e i'.size g)]⟩ (n+1)
     else False
    | _,_=>False
   | none=>False
  | _=>False
 | .slice t x lo hi none=>
  match T t with
  | some ⟨.slice e,_,_,_⟩=>
   match T e with
   | some i'=>
    match ρ x with
    | .sl sz xs=>
     match Gz ρ 0 lo,Gz ρ xs.length hi with
     | some l,some h=>bif Nat.beq sz i'.size then Pv xs l h λys=>K ⟨.sl sz ys,[],[]⟩ n else False
     | _,_=>False
    | .arr hd k off len=>
     match H hd with
     | .rows E sz xs=>
      match Gz ρ 0 lo,Gz ρ len hi with
      | some l,some h=>bif Nat.beq sz i'.size then Yu k xs len l h (λl h=>K ⟨.arr hd k (off+l) (h-l),[(hd,.rows E sz xs)],[]⟩ n) (K ⟨.sl i'.size [],[(hd,.rows E sz xs)],[]⟩ n) else False
      | _,_=>False
     | _=>False
    | _=>False
   | none=>False
  | some ⟨.string,_,_,_⟩=>
   match ρ x with
   | .val (.string s)=>
    match Gz ρ 0 lo,Gz ρ s.size hi with
    | some l,some h=>Yt s.size l h λl h=>K ⟨.val (.string (s.extract l h)),[],[]⟩ n
    | _,_=>False
   | _=>False
  | _=>False
 | .fieldAddr s x f=>
  match T s with
  | some ⟨.struct fs,_,_,_⟩=>
   match fs[f]? with
   | some q=>
    match ρ x with
    | .loc h off=>K ⟨.loc h (off+q.1),[],[]⟩ n
    | .ref cs=>K ⟨.ref (cs.drop q.1),[],[]⟩ n
    | .el h k m j=>
     match H h with
     | .rows E sz xs=>F2 k xs (K ⟨.el h k m (j+q.1),[(h,.rows E sz xs)],[]⟩ n)
     | _=>False
    | _=>False
   | none=>False
  | _=>False
 | .indexAddr t x y=>
  match T t with
  | some ⟨.slice e,_,_,_⟩=>
   match T e with
   | some i'=>
    match ρ x,ρ y with
    | .sl sz xs,.val (.int _ i)=>bif Nat.beq sz i'.size then Us xs i λ_ z=>K ⟨.ref z.cells,[],[]⟩ n else False
    | .arr h k off len,.val (.int _ i)=>
     match H h with
     | .rows E sz xs=>bif Nat.beq sz i'.size then Pu len k xs i λm=>K ⟨.el h k (off+m) 0,[(h,.rows E sz xs)],[]⟩ n else False
     | _=>False
    | _,_=>False
   | none=>False
  | _=>False
 | .index t x y=>
  match T t with
  | some ⟨.string,_,_,_⟩=>
   match ρ x,ρ y with
   | .val (.string s),.val (.int _ i)=>Yv s i λc=>K ⟨.val (.int .u8 c.toNat),[],[]⟩ n
   | _,_=>False
  | _=>False
 | .field s x f=>
  match T s with
  | some ⟨.struct fs,_,_,_⟩=>
   match fs[f]? with
   | some q=>
    match ρ x with
    | .agg cs=>R9 P s f λY=>
     match T Y with
     | some I=>bif I.isAgg then (bif Nat.ble (q.1+I.size) cs.length then K ⟨.agg ((cs.drop q.1).take I.size),[],[]⟩ n else False) else
       match cs[q.1]? with
       | some c=>K ⟨c,[],[]⟩ n
       | none=>False
     | none=>False
    | _=>False
   | none=>False
  | _=>False
 | .makeMap _ none=>K ⟨.mp n,[(n,.none)],[(n,.map [])]⟩ (n+1)
 | .lookup t x y ok=>
  match T t with
  | some ⟨.map M X,_,_,_⟩=>
   match T M with
   | some ⟨.string,_,_,_⟩=>
    match T X with
    | some I=>
     match ρ x with
     | .mp h=>
      match ρ y with
      | .val (.string s)=>
       match H h with
       | .map es=>Aid s es λr=>K ⟨R3 ok I r,[(h,.map es)],[]⟩ n
       | _=>False
      | _=>False
     | _=>False
    | none=>False
   | some ⟨.struct _,_,_,_⟩=>
    match T X with
    | some I=>
     match ρ x with
     | .mp h=>
      match ρ y with
      | .agg N=>
       match Hj N with
       | some L=>
        match H h with
        | .map es=>As1 P M L es λr=>K ⟨R3 ok I r,[(h,.map es)],[]⟩ n
        | _=>False
       | none=>False
      | _=>False
     | _=>False
    | none=>False
   | _=>False
  | _=>False
 | .mapUpdate t x y z=>
  match T t with
  | some ⟨.map M _,_,_,_⟩=>
   match T M with
   | some ⟨.string,_,_,_⟩=>
    match ρ x with
    | .mp h=>
     match ρ y with
     | .val (.string s)=>
      match H h with
      | .map es=>bif (ρ z).free1 then Jn (ρ z) λv=>Aie s v es λJ=>K ⟨.val undef,[(h,.map es)],[(h,.map J)]⟩ n else False
      | _=>False
     | _=>False
    | _=>False
   | some ⟨.struct _,_,_,_⟩=>
    match ρ x with
    | .mp h=>
     match ρ y with
     | .agg N=>
      match Hj N with
      | some L=>
       match H h with
       | .map es=>bif (ρ z).free1 then Jn (ρ z) λv=>As2 P M N L v es λJ=>K ⟨.val undef,[(h,.map es)],[(h,.map J)]⟩ n else False
       | _=>False
      | none=>False
     | _=>False
    | _=>False
   | _=>False
  | _=>False
 | .extract x i=>
  match ρ x with
  | .tup cs=>
   match cs[i]? with
   | some c=>K ⟨c,[],[]⟩ n
   | none=>False
  | _=>False
 | .call c=>
  match c.callee with
  | .value x=>
   match ρ x with
   | .fn f u=>
    match an (o.dst.getD 0) with
    | .frz j=>
     (match (c.args.toList.map ρ ++ u)[j]? with
     | some (.arr h k 0 len)=>
      (match H h with
      | .rows E sz xs=>F2 k xs (F2 len xs (Aig P f ((c.args.toList.map ρ ++ u).set j (.sl sz xs)) λr=>K ⟨r,[(h,.rows E sz xs)],[(h,.dead)]⟩ n))
      | _=>False)
     | _=>False)
    | _=>Gc P n H f (c.args.toList.map ρ ++ u) K
   | _=>False
  | .invoke _ _=>False
  | .builtin .len=>
   match c.args.toList,c.argTypes.toList with
   | [x],[t]=>
    match T t with
    | some ⟨.slice _,_,_,_⟩=>
     match ρ x with
     | .sl _ xs=>
      match an (o.dst.getD 0) with
      | .ask=>Kv xs λc=>K ⟨.val (.int .i64 c),[],[]⟩ n
      | _=>K ⟨.val (.int .i64 xs.length),[],[]⟩ n
     | .val (.slice _ m _)=>K ⟨.val (.int .i64 m),[],[]⟩ n
     | .arr h k _ len=>
      match H h with
      | .rows E sz xs=>F2 k xs (K ⟨.val (.int .i64 len),[(h,.rows E sz xs)],[]⟩ n)
      | _=>False
     | _=>False
    | some ⟨.string,_,_,_⟩=>
     match ρ x with
     | .val (.string s)=>K ⟨.val (.int .i64 s.size),[],[]⟩ n
     | _=>False
    | _=>False
   | _,_=>False
  | .builtin .cap=>
   match c.args.toList,c.argTypes.toList with
   | [x],[t]=>
    match T t with
    | some ⟨.slice _,_,_,_⟩=>
     match ρ x with
     | .val (.slice _ _ m)=>K ⟨.val (.int .i64 m),[],[]⟩ n
     | _=>False
    | _=>False
   | _,_=>False
  | .builtin .copy=>
   match c.args.toList,c.argTypes.toList with
   | [x,y],[t,V]=>
    match T t with
    | some ⟨.slice e,_,_,_⟩=>
     match T e with
     | some i'=>
      match ρ y with
      | .arr h2 R B D=>
       match ρ x with
       | .arr h k off len=>
        match H h with
        | .rows E sz xs=>bif Nat.beq E e&&Nat.beq sz i'.size&&Nat.beq h h2&&Nat.blt 0 i'.size then
          Aib xs k off len R B D (λg c=>K ⟨.val (.int .i64 c),[(h,.rows e i'.size xs)],[(h,.rows e i'.size g)]⟩ n) else False
        | _=>False
       | .sl _ []=>
        match H h2 with
        | .rows E sz xs=>bif Nat.beq sz i'.size then F2 R xs (K ⟨.val (.int .i64 0),[(h2,.rows E i'.size xs)],[]⟩ n) else False
        | _=>False
       | _=>False
      | _=>False
     | none=>False
    | _=>False
   | _,_=>False
  | .builtin .clear=>
   match c.args.toList,c.argTypes.toList with
   | [x],[t]=>
    match T t with
    | some ⟨.slice e,_,_,_⟩=>
     match T e with
     | some i'=>
      match ρ x with
      | .arr h k off len=>
       match H h with
       | .rows E sz xs=>bif Nat.beq E e&&Nat.beq sz i'.size&&Nat.blt 0 i'.size&&Jk i'.size (Eo i')&&Nat.beq (Eo i').cells.length i'.zero.length&&Ut (Eo i') then
         Aic xs k off len (Eo i') (λg=>K ⟨.tup [],[(h,.rows e i'.size xs)],[(h,.rows e i'.size g)]⟩ n) else False
       | _=>False
      | .sl _ []=>K ⟨.tup [],[],[]⟩ n
      | _=>False
     | none=>False
    | _=>False
   | _,_=>False
  | .builtin .append=>
   match c.args.toList,c.argTypes.toList with
   | [x,y],[t,V]=>
    match T t,T V with
    | some ⟨.slice e,_,_,_⟩,some ⟨.slice _,_,_,_⟩=>
     match T e with
     | some i'=>
      bif Nat.blt 0 i'.size&&Nat.beq i'.zero.length i'.size&&Nat.ble 1 i'.bytes then
       match ρ y with
       | .sl sz ys=>
        bif Nat.beq sz i'.size then
         match ρ x with
         | .arr h k 0 len=>
          match H h with
          | .rows E A xs=>bif Nat.beq E e&&Nat.beq A i'.size then
            Ku xs ys k len i'.bytes (λg m=>K ⟨.arr h m 0 m,[(h,.rows e i'.size xs)],[(h,.rows e i'.size g)]⟩ n) (λg G m=>K ⟨.arr h G 0 m,[(h,.rows e i'.size xs)],[(h,.rows e i'.size g)]⟩ n) else False
          | _=>False
         | .val (.slice none 0 0)=>Pw ys i'.bytes λg m=>K ⟨.arr n m 0 m,[(n,.none)],[(n,.rows e i'.size g)]⟩ (n+1)
         | .sl U S=>Asz ys (K ⟨.sl U S,[],[]⟩ n)
         | _=>False
        else False
       | .arr h2 R B D=>
        match ρ x with
        | .arr h k 0 len=>
         match H h with
         | .rows E A xs=>bif Nat.beq E e&&Nat.beq A i'.size&&Nat.beq h h2 then
           As0 xs k len R B D i'.bytes (λg G m=>K ⟨.arr h G 0 m,[(h,.rows e i'.size xs)],[(h,.rows e i'.size g)]⟩ n) else False
         | _=>False
        | _=>False
       | _=>False
      else False
     | none=>False
    | some ⟨.slice e,_,_,_⟩,some ⟨.string,_,_,_⟩=>
     match T e with
     | some i'=>
      bif Nat.beq i'.size 1&&Nat.beq i'.zero.length i'.size&&Nat.ble 1 i'.bytes then
       match ρ y with
       | .val (.string s)=>
        match ρ x with
        | .arr h k 0 len=>
         match H h with
         | .rows E A xs=>bif Nat.beq E e&&Nat.beq A i'.size then
           Ku xs (H5 s) k len i'.bytes (λg m=>K ⟨.arr h m 0 m,[(h,.rows e i'.size xs)],[(h,.rows e i'.size g)]⟩ n) (λ_ _ _=>False) else False
         | _=>False
        | _=>False
       | _=>False
      else False
     | none=>False
    | _,_=>False
   | _,_=>False
  | .builtin .max=>
   match c.args.toList,c.argTypes.toList with
   | [x,y],[_,_]=>
    match ρ x,ρ y with
    | .val (.int k a),.val (.int _ b)=>K ⟨.val (.int k (if b>a then b else a)),[],[]⟩ n
    | _,_=>False
   | _,_=>False
  | .builtin .min=>
   match c.args.toList,c.argTypes.toList with
   | [x,y],[_,_]=>
    match ρ x,ρ y with
    | .val (.int k a),.val (.int _ b)=>K ⟨.val (.int k (if b<a then b else a)),[],[]⟩ n
    | _,_=>False
   | _,_=>False
  | _=>False
 | _=>False
end Go.Ab
namespace Go.Ab
section
variable {P:Program} {o:Oper} {ρ:Operand->AV} {a:Act} {w w':World} {next:Act->World->Prop} {Q:Exit->Act->World->Prop}
def Sc (σ:A1) (w:World):A1:=λb=>match σ b with | none=>w.heap[b]? | some _=>none
theorem St.lend {σ:A1} {ι:Br} {H:Hp} {F:A1} {W:World} (s:St σ ι H F W w):St σ ι0 H0 (Sc σ w) W w:=by refine ⟨s.sto,λb o hb=>?_,λh=>rfl,(λh h' b c=>by cases c),s.os,s.tape,s.output,s.glo,s.drw⟩;unfold Sc at hb;cases e:σ b with| none=>rw [e] at hb; exact ⟨hb,rfl⟩| some _=>rw [e] at hb; cases hb
theorem St.unlend {σ k:A1} {ι:Br} {H:Hp} {F:A1} {W:World} (s:St σ ι H F W w) (g:σ.le k) (s':St k ι0 H0 (Sc σ w) W w'):St k ι H F W w':=by
 have key:∀b,σ b=none->∀o,w.heap[b]? = some o->w'.heap[b]? = some o/\k b=none:=by intro b hb o f;exact s'.fra b o (by unfold Sc; rw [hb]; exact f)
 have le:Le σ ι H k ι H:=⟨g,λ_=>HLe.refl _ _⟩;refine ⟨s'.sto,λb o hb=>?_,λh=>?_,s.inj,s'.os,s'.tape,s'.output,s'.glo,s'.drw⟩
 .obtain ⟨h1,h2⟩:=s.fra b o hb;exact key b h2 o h1
 .have f:=s.obj h;unfold Ci at f ⊢;cases hh:H h with
  | none=>rw [hh] at f; exact f
  | dead=>trivial
  | cells E cs=>rw [hh] at f;obtain ⟨b,C,j,h1,h2,h3,h4,A⟩:=f;obtain ⟨u,l⟩:=key b h1 _ h3;exact ⟨b,C,j,l,h2,u,h4,λi c v x y=>(A i c v x y).mono le⟩
  | rows E sz xs=>
   rw [hh] at f;obtain ⟨B,z2,⟨j,e2⟩ | ⟨b,z,C,j,h1,h2,h3,h4,A,D⟩⟩:=f
   .exact ⟨B,z2,.inl ⟨j,e2⟩⟩
   .obtain ⟨u,l⟩:=key b h1 _ h3;exact ⟨B,z2,.inr ⟨b,z,C,j,l,h2,u,h4,A,D.mono g⟩⟩
  | map es=>rw [hh] at f;obtain ⟨b,M,q,j,h1,h2,h3,h4⟩:=f;obtain ⟨u,l⟩:=key b h1 _ h3;exact ⟨b,M,q,j,l,h2,u,h4.mono g⟩
theorem Conc.of0 {σ:A1} {ι:Br} {H:Hp} {x:AV} {v:Value} (h:Conc σ ι0 H0 x v):Conc σ ι H x v:=by induction h with| cc h=>exact .cc h| loc h off b hb=>cases hb| mp h b hb=>cases hb| arr h k off len v s hv c=>exact (s rfl).elim| el h k i j v s hv c=>exact (s rfl).elim| ref cs b off C E fr g u hc h1 y=>exact .ref cs b off C E fr g u hc h1 y| agg cs vs l _ ih=>exact .agg cs vs l ih| tup cs vs l _ ih=>exact .tup cs vs l ih| fn f q vs l _ ih=>exact .fn f q vs l ih
theorem As4 {x:AV} (h:x.free1=true) (hx:∀cs,x≠.agg cs):x.cl1=true:=by cases x <;> first | exact h | exact (hx _ rfl).elim
theorem Conc.to0 {σ:A1} {ι:Br} {H:Hp} {x:AV} {v:Value} (hx:x.free=true) (h:Conc σ ι H x v):Conc σ ι0 H0 x v:=by
 have key:∀(cs:List AV),cs.all AV.cl1=true->∀(i:Nat) (c:AV) (u:Value),cs[i]? = some c->Conc σ ι H c u->Conc σ ι0 H0 c u:=by intro cs s i c u hc h;exact .cc (h.cc_of (List.all_eq_true.1 s c (List.mem_of_getElem? hc))).1
 cases h with
 | cc h=>exact .cc h
 | loc=>cases hx
 | mp=>cases hx
 | arr=>cases hx
 | el=>cases hx
 | ref cs b off C E fr g A hc h1 B=>exact .ref cs b off C E fr g A hc h1 B
 | agg cs vs l h=>exact .agg cs vs l λi c u h1 h2=>key cs hx i c u h1 (h i c u h1 h2)
 | tup cs vs l h=>refine .tup cs vs l λi c u h1 h2=>?_;have y:=List.all_eq_true.1 hx c (List.mem_of_getElem? h1);have hc:=h i c u h1 h2;cases c with| agg ds=>obtain ⟨z,rfl,q,hv⟩:=hc.agg_inv;exact .agg ds z q λj d v g1 g2=>key ds y j d v g1 (hv j d v g1 g2)| _=>exact .cc (hc.cc_of (As4 y (by intro cs e; cases e))).1
 | fn f k vs l h=>exact .fn f k vs l λi c u h1 h2=>key k hx i c u h1 (h i c u h1 h2)
theorem Conc.fn_inv {σ:A1} {ι:Br} {H:Hp} {f:FuncId} {b:List AV} {v:Value} (h:Conc σ ι H (.fn f b) v) : ∃vs:Array Value,v = .func (.func f) #[] vs/\vs.size=b.length/\∀(i:Nat) (c:AV) (u:Value),b[i]? = some c->vs[i]? = some u->Conc σ ι H c u:=by cases h with| cc h=>cases h| fn _ _ vs g h=>exact ⟨vs,rfl,g,h⟩
theorem Adc {σ:A1} {ι:Br} {H:Hp} {xs:Array Operand} {b:List AV} {vs:Array Value} (hx:∀x∈xs.toList,Conc σ ι H (ρ x) (a.eval x)) (g:vs.size=b.length) (hv:∀(i:Nat) (c:AV) (u:Value),b[i]? = some c->vs[i]? = some u->Conc σ ι H c u):Kt σ ι H (xs.toList.map ρ ++ b) (xs.map a.eval++vs):=by
 refine ⟨by simp [g],λi c u h1 h2=>?_⟩;by_cases f:i<xs.size
 .rw [List.getElem?_append_left (by simpa using f),List.getElem?_map,Array.getElem?_toList] at h1;rw [Array.getElem?_append_left (by simpa using f),Array.getElem?_map] at h2;simp [f] at h1 h2;subst h1; subst h2;exact hx _ ψ
 .rw [List.getElem?_append_right (by simp; omega)] at h1;rw [Array.getElem?_append_right (by simp; omega)] at h2;simp at h1 h2;exact hv _ c u h1 h2
theorem As5 {c:Call} {x:Operand} {f:FuncId} {g:List AV} {r:AV} (G:o.op = .call c) (h:c.callee = .value x) (hx:ρ x = .fn f g) (hp:As P f (c.args.toList.map ρ ++ g) r) (l:(c.args.toList.map ρ ++ g).all AV.free=true):B0 P o ρ ⟨r,[],[]⟩:=by
 intro σ ι H F W w a next Q s B _ hk
 obtain ⟨⟨fn,M,k,q⟩,hp⟩:=hp;have z:=B x (by simp [G,Op.operands,Call.operands,h]);rw [hx] at z;obtain ⟨vs,hv,L,E⟩:=z.fn_inv;have j:Kt σ ι H (c.args.toList.map ρ ++ g) (c.args.map a.eval++vs) :=
  Adc (λy hy=>B y (by simp only [G,Op.operands,Call.operands,h]; simp at hy ⊢; exact .inr hy)) L E
 have A:(execOp a.eval o).run P w = .ok (.enter f (c.args.map a.eval++vs)) w:=by have I:(callFunc f (c.args.map a.eval++vs)).run P w = .ok (.enter f (c.args.map a.eval++vs)) w:=(by unfold callFunc;simp only [Sem.run_bind,program,Sem.run,Result.andThen_ok,M,k,q,Bool.false_eq_true,if_false,Sem.run_pure]);simp only [execOp,G,resolve,h,hv,Deferred.ofValue,invoke,Sem.run_bind,Sem.run_pure,Result.andThen_ok,Array.empty_append,I]
 unfold Oper.wp;rw [A];simp only [Oper.upon];refine (hp σ (Sc σ w) W w (c.args.map a.eval++vs) s.lend ⟨j.1,λi b u h1 h2=>(j.2 i b u h1 h2).to0 (List.all_eq_true.1 l b (List.mem_of_getElem? h1))⟩).mono ?_;rintro e w' ⟨v,J,rfl,D,s',hc⟩;exact hk J ι v w' ⟨D,λ_=>HLe.refl _ _⟩ (s.unlend D s') hc.of0
theorem As6 {c:Call} {x:Operand} {f:FuncId} {g:List AV} {r:AV} {j h sz:Nat} {E:TypeId} {xs:List AV} (S:o.op = .call c) (k:c.callee = .value x) (hx:ρ x = .fn f g) (hj:(c.args.toList.map ρ ++ g)[j]? = some (.arr h xs.length 0 xs.length)) (hp:As P f ((c.args.toList.map ρ ++ g).set j (.sl sz xs)) r) (A:((c.args.toList.map ρ ++ g).set j (.sl sz xs)).all AV.free=true):B0 P o ρ ⟨r,[(h,.rows E sz xs)],[(h,.dead)]⟩:=by
 intro σ ι H F W w a next Q s J R hk
 have hh:H h = .rows E sz xs:=R (h,.rows E sz xs) ψ;obtain ⟨⟨fn,hf,z,B⟩,hp⟩:=hp;have G:=J x (by simp [S,Op.operands,Call.operands,k]);rw [hx] at G;obtain ⟨vs,hv,hl,M⟩:=G.fn_inv;have q:Kt σ ι H (c.args.toList.map ρ ++ g) (c.args.map a.eval++vs) :=
  Adc (λy hy=>J y (by simp only [S,Op.operands,Call.operands,k]; simp at hy ⊢; exact .inr hy)) hl M
 obtain ⟨N,D,Y,V⟩:=s.freeze hh;have l:Kt N ι (A4 H h .dead) ((c.args.toList.map ρ ++ g).set j (.sl sz xs)) (c.args.map a.eval++vs):=by
  refine ⟨by rw [List.length_set]; exact q.1,λi b u h1 h2=>?_⟩;rw [List.getElem?_set] at h1;split at h1
  .rename_i U;split at h1
   .cases h1;subst U;have hc:=q.2 j _ u hj h2;have:=V 0 xs.length _ ω (hc.arr_inv hh rfl);rw [List.drop_zero,List.take_of_length_le ω] at this;exact .cc this
   .cases h1
  .exact (q.2 i b u h1 h2).mono D
 have I:(execOp a.eval o).run P w = .ok (.enter f (c.args.map a.eval++vs)) w:=by have X:(callFunc f (c.args.map a.eval++vs)).run P w = .ok (.enter f (c.args.map a.eval++vs)) w:=(by unfold callFunc;simp only [Sem.run_bind,program,Sem.run,Result.andThen_ok,hf,z,B,Bool.false_eq_true,if_false,Sem.run_pure]);simp only [execOp,S,resolve,k,hv,Deferred.ofValue,invoke,Sem.run_bind,Sem.run_pure,Result.andThen_ok,Array.empty_append,X]
 unfold Oper.wp;rw [I];simp only [Oper.upon];refine (hp N (Sc N w) W w (c.args.map a.eval++vs) Y.lend ⟨l.1,λi b u h1 h2=>(l.2 i b u h1 h2).to0 (List.all_eq_true.1 A b (List.mem_of_getElem? h1))⟩).mono ?_;rintro e w' ⟨v,Z,rfl,L,s',hc⟩;exact hk Z ι v w' (D.trans ⟨L,λ_=>HLe.refl _ _⟩) (Y.unlend L s') hc.of0
end
end Go.Ab
namespace Go.Ab
theorem Gi {a b:Nat} (h:Nat.blt a b=true):a<b:=Nat.le_of_ble_eq_true h
theorem Add {es:Nat->Nat} {o:Bh}:Ht es o = .none↔o = .none:=by cases o <;> simp [Ht]
theorem Y1 {es:Nat->Nat} {o:Bh}:(Ht es o).live=o.live:=by cases o <;> rfl
theorem Ade {es:Nat->Nat} {o:Bh} {E:TypeId} {sz:Nat} {xs:List AV}:Ht es o = .rows E sz xs↔o = .rows E sz xs:=by cases o <;> simp [Ht]
section
variable {es:Nat->Nat} {m:Nat} {σ:A1} {ι ιl:Br} {H Hl:Hp}
theorem Mp (f:∀k,k<m->ιl k=ι (es k)) (A:∀k,k<m->H (es k)=Ht es (Hl k)) {x:AV} {v:Value} (hx:x.under0 m=true):Conc σ ι H (Ac4 es x) v↔Conc σ ιl Hl x v:=by
 have rows:∀k,k<m->∀E sz xs,H (es k) = .rows E sz xs↔Hl k = .rows E sz xs:=λk hk E sz xs=>by rw [A k hk]; exact Ade
 have some:∀k,k<m->(H (es k)≠.none↔Hl k≠.none):=λk hk=>by rw [A k hk]; exact not_congr Add
 constructor
 .intro h;cases x with
  | val u=>cases h with | cc h=>exact .cc h
  | sl sz xs=>cases h with | cc h=>exact .cc h
  | fb s=>cases h with | cc h=>exact .cc h
  | ref cs=>cases h with| cc h=>exact .cc h| ref cs b off C E fr g y hc h1 z=>exact .ref cs b off C E fr g y hc h1 z
  | loc k off=>have hk:=Gi hx;cases h with| cc h=>cases h| loc _ _ b hb=>exact .loc k off b (by rw [f k hk]; exact hb)
  | mp k=>have hk:=Gi hx;cases h with| cc h=>cases h| mp _ b hb=>exact .mp k b (by rw [f k hk]; exact hb)
  | arr k q off len=>have hk:=Gi hx;cases h with| cc h=>cases h| arr _ _ _ _ _ l hv c=>exact .arr k q off len v ((some k hk).1 l) (λE sz xs e=>by rw [f k hk]; exact hv E sz xs ((rows k hk E sz xs).2 e)) c
  | el k q i j=>have hk:=Gi hx;cases h with| cc h=>cases h| el _ _ _ _ _ l hv c=>exact .el k q i j v ((some k hk).1 l) (λE sz xs e=>by rw [f k hk]; exact hv E sz xs ((rows k hk E sz xs).2 e)) c
  | agg=>cases hx
  | tup=>cases hx
  | fn=>cases hx
 .intro h;cases x with
  | val u=>cases h with | cc h=>exact .cc h
  | sl sz xs=>cases h with | cc h=>exact .cc h
  | fb s=>cases h with | cc h=>exact .cc h
  | ref cs=>cases h with| cc h=>exact .cc h| ref cs b off C E fr g y hc h1 z=>exact .ref cs b off C E fr g y hc h1 z
  | loc k off=>have hk:=Gi hx;cases h with| cc h=>cases h| loc _ _ b hb=>exact .loc (es k) off b (by rw [<-f k hk]; exact hb)
  | mp k=>have hk:=Gi hx;cases h with| cc h=>cases h| mp _ b hb=>exact .mp (es k) b (by rw [<-f k hk]; exact hb)
  | arr k q off len=>have hk:=Gi hx;cases h with| cc h=>cases h| arr _ _ _ _ _ l hv c=>exact .arr (es k) q off len v ((some k hk).2 l) (λE sz xs e=>by rw [<-f k hk]; exact hv E sz xs ((rows k hk E sz xs).1 e)) c
  | el k q i j=>have hk:=Gi hx;cases h with| cc h=>cases h| el _ _ _ _ _ l hv c=>exact .el (es k) q i j v ((some k hk).2 l) (λE sz xs e=>by rw [<-f k hk]; exact hv E sz xs ((rows k hk E sz xs).1 e)) c
  | agg=>cases hx
  | tup=>cases hx
  | fn=>cases hx
theorem G8 (b:∀k,k<m->ιl k=ι (es k)) (g:∀k,k<m->H (es k)=Ht es (Hl k)) {x:AV} {v:Value} (hx:x.under1 m=true):Conc σ ι H (Lu es x) v↔Conc σ ιl Hl x v:=by
 have cells:∀{cs:List AV},cs.all (AV.under0 m)=true->∀(i:Nat) (c:AV),cs[i]? = some c->∀u,(Conc σ ι H (Ac4 es c) u↔Conc σ ιl Hl c u) :=
  λq i c hc u=>Mp b g (List.all_eq_true.1 q c (List.mem_of_getElem? hc));cases x with
 | fn f cs=>
  constructor
  .intro h;obtain ⟨vs,rfl,l,h⟩:=h.fn_inv;exact .fn f cs vs (by simpa using l) λi c u h1 h2=>(cells hx i c h1 u).1 (h i _ u (by simp [h1]) h2)
  .intro h;obtain ⟨vs,rfl,l,h⟩:=h.fn_inv;refine .fn f _ vs (by simpa using l) λi c u h1 h2=>?_;rw [List.getElem?_map] at h1;cases hc:cs[i]? with| none=>rw [hc] at h1; cases h1| some y=>rw [hc] at h1; cases h1; exact (cells hx i y hc u).2 (h i y u hc h2)
 | agg cs=>cases hx
 | tup cs=>cases hx
 | val u=>exact Mp (x:=(.val u)) b g hx
 | loc h off=>exact Mp (x:=(.loc h off)) b g hx
 | arr h k off len=>exact Mp (x:=(.arr h k off len)) b g hx
 | el h k i j=>exact Mp (x:=(.el h k i j)) b g hx
 | mp h=>exact Mp (x:=(.mp h)) b g hx
 | ref cs=>exact Mp (x:=(.ref cs)) b g hx
 | sl sz xs=>exact Mp (x:=(.sl sz xs)) b g hx
 | fb s=>exact Mp (x:=(.fb s)) b g hx
theorem As7 {n:Nat} {x:AV} (h:x.under0 n=true):x.under1 n=true:=by cases x <;> first | exact h | cases h
theorem Adf {n:Nat} {x:AV} (h:x.under1 n=true):x.under n=true:=by cases x with| fn f cs=>exact List.all_eq_true.2 λc hc=>As7 (List.all_eq_true.1 h c hc)| agg cs=>cases h| tup cs=>cases h| _=>exact h
theorem As8 (b:∀k,k<m->ιl k=ι (es k)) (g:∀k,k<m->H (es k)=Ht es (Hl k)) {x:AV} {v:Value} (hx:x.under2 m=true):Conc σ ι H (Ac5 es x) v↔Conc σ ιl Hl x v:=by
 have cells:∀{cs:List AV},cs.all (AV.under1 m)=true->∀(i:Nat) (c:AV),cs[i]? = some c->∀u,(Conc σ ι H (Lu es c) u↔Conc σ ιl Hl c u) :=
  λq i c hc u=>G8 b g (List.all_eq_true.1 q c (List.mem_of_getElem? hc));cases x with
 | agg cs=>
  constructor
  .intro h;obtain ⟨vs,rfl,l,h⟩:=h.agg_inv;exact .agg cs vs (by simpa using l) λi c u h1 h2=>(cells hx i c h1 u).1 (h i _ u (by simp [h1]) h2)
  .intro h;obtain ⟨vs,rfl,l,h⟩:=h.agg_inv;refine .agg _ vs (by simpa using l) λi c u h1 h2=>?_;rw [List.getElem?_map] at h1;cases hc:cs[i]? with| none=>rw [hc] at h1; cases h1| some y=>rw [hc] at h1; cases h1; exact (cells hx i y hc u).2 (h i y u hc h2)
 | tup cs=>cases hx
 | fn f cs=>exact G8 (x:=(.fn f cs)) b g hx
 | val u=>exact G8 (x:=(.val u)) b g hx
 | loc h off=>exact G8 (x:=(.loc h off)) b g hx
 | arr h k off len=>exact G8 (x:=(.arr h k off len)) b g hx
 | el h k i j=>exact G8 (x:=(.el h k i j)) b g hx
 | mp h=>exact G8 (x:=(.mp h)) b g hx
 | ref cs=>exact G8 (x:=(.ref cs)) b g hx
 | sl sz xs=>exact G8 (x:=(.sl sz xs)) b g hx
 | fb s=>exact G8 (x:=(.fb s)) b g hx
theorem Aii (l:∀k,k<m->ιl k=ι (es k)) (q:∀k,k<m->H (es k)=Ht es (Hl k)) {x:AV} {v:Value} (hx:x.under m=true):Conc σ ι H (ren es x) v↔Conc σ ιl Hl x v:=by
 have cells:∀{cs:List AV},cs.all (AV.under1 m)=true->∀(i:Nat) (c:AV),cs[i]? = some c->∀u,(Conc σ ι H (Lu es c) u↔Conc σ ιl Hl c u) :=
  λz i c hc u=>G8 l q (List.all_eq_true.1 z c (List.mem_of_getElem? hc));have b:∀{cs:List AV},cs.all (AV.under2 m)=true->∀(i:Nat) (c:AV),cs[i]? = some c->∀u,(Conc σ ι H (Ac5 es c) u↔Conc σ ιl Hl c u) :=
  λz i c hc u=>As8 l q (List.all_eq_true.1 z c (List.mem_of_getElem? hc));cases x with
 | agg cs=>
  constructor
  .intro h;obtain ⟨vs,rfl,g,h⟩:=h.agg_inv;exact .agg cs vs (by simpa using g) λi c u h1 h2=>(cells hx i c h1 u).1 (h i _ u (by simp [h1]) h2)
  .intro h;obtain ⟨vs,rfl,g,h⟩:=h.agg_inv;refine .agg _ vs (by simpa using g) λi c u h1 h2=>?_;rw [List.getElem?_map] at h1;cases hc:cs[i]? with| none=>rw [hc] at h1; cases h1| some y=>rw [hc] at h1; cases h1; exact (cells hx i y hc u).2 (h i y u hc h2)
 | tup cs=>
  constructor
  .intro h;obtain ⟨vs,rfl,g,h⟩:=h.tup_inv;exact .tup cs vs (by simpa using g) λi c u h1 h2=>(b hx i c h1 u).1 (h i _ u (by simp [h1]) h2)
  .intro h;obtain ⟨vs,rfl,g,h⟩:=h.tup_inv;refine .tup _ vs (by simpa using g) λi c u h1 h2=>?_;rw [List.getElem?_map] at h1;cases hc:cs[i]? with| none=>rw [hc] at h1; cases h1| some y=>rw [hc] at h1; cases h1; exact (b hx i y hc u).2 (h i y u hc h2)
 | fn f cs=>
  constructor
  .intro h;obtain ⟨vs,rfl,g,h⟩:=h.fn_inv;exact .fn f cs vs (by simpa using g) λi c u h1 h2=>(cells hx i c h1 u).1 (h i _ u (by simp [h1]) h2)
  .intro h;obtain ⟨vs,rfl,g,h⟩:=h.fn_inv;refine .fn f _ vs (by simpa using g) λi c u h1 h2=>?_;rw [List.getElem?_map] at h1;cases hc:cs[i]? with| none=>rw [hc] at h1; cases h1| some y=>rw [hc] at h1; cases h1; exact (cells hx i y hc u).2 (h i y u hc h2)
 | val u=>exact G8 (x:=(.val u)) l q hx
 | loc h off=>exact G8 (x:=(.loc h off)) l q hx
 | arr h k off len=>exact G8 (x:=(.arr h k off len)) l q hx
 | el h k i j=>exact G8 (x:=(.el h k i j)) l q hx
 | mp h=>exact G8 (x:=(.mp h)) l q hx
 | ref cs=>exact G8 (x:=(.ref cs)) l q hx
 | sl sz xs=>exact G8 (x:=(.sl sz xs)) l q hx
 | fb s=>exact G8 (x:=(.fb s)) l q hx
theorem Aij (y:∀k,k<m->ιl k=ι (es k)) (z:∀k,k<m->H (es k)=Ht es (Hl k)) {F B:A1} {w:World} {k:Nat} (hk:k<m) (hu:(Hl k).under m=true) (h:∀b,(Hl k).live=true->(ιl k).block? = some b->(F b=none↔B b=none)):Ci σ ι H F w (es k)↔Ci σ ιl Hl B w k:=by
 have cells:∀{cs:List AV},cs.all (AV.under1 m)=true->∀(i:Nat) (c:AV),cs[i]? = some c->∀u,(Conc σ ι H (Lu es c) u↔Conc σ ιl Hl c u) :=
  λs i c hc u=>G8 y z (List.all_eq_true.1 s c (List.mem_of_getElem? hc));unfold Ci;rw [z k hk,<-y k hk];cases hx:Hl k with
 | none=>exact Iff.rfl
 | dead=>exact Iff.rfl
 | map l=>
  simp only [Ht];rw [hx] at h;constructor
  .rintro ⟨b,M,q,f,h1,h2,h3⟩;exact ⟨b,M,q,f,h1,(h b rfl (by rw [f]; rfl)).1 h2,h3⟩
  .rintro ⟨b,M,q,f,h1,h2,h3⟩;exact ⟨b,M,q,f,h1,(h b rfl (by rw [f]; rfl)).2 h2,h3⟩
 | rows E sz xs=>
  simp only [Ht];rw [hx] at h;refine and_congr Iff.rfl (and_congr Iff.rfl (or_congr Iff.rfl ?_));constructor
  .rintro ⟨b,j,C,f,h1,h2,h3⟩;exact ⟨b,j,C,f,h1,(h b rfl (by rw [f]; rfl)).1 h2,h3⟩
  .rintro ⟨b,j,C,f,h1,h2,h3⟩;exact ⟨b,j,C,f,h1,(h b rfl (by rw [f]; rfl)).2 h2,h3⟩
 | cells E cs=>
  simp only [Ht];rw [hx] at h hu;constructor
  .rintro ⟨b,C,f,h1,h2,h3,h4,x⟩;refine ⟨b,C,f,h1,(h b rfl (by rw [f]; rfl)).1 h2,h3,by simpa using h4,λi c v hc hv=>(cells hu i c hc v).1 (x i _ v (by simp [hc]) hv)⟩
  .rintro ⟨b,C,f,h1,h2,h3,h4,x⟩;refine ⟨b,C,f,h1,(h b rfl (by rw [f]; rfl)).2 h2,h3,by simpa using h4,λi c v hc hv=>?_⟩;rw [List.getElem?_map] at hc;cases g:cs[i]? with| none=>rw [g] at hc; cases hc| some A=>rw [g] at hc; cases hc; exact (cells hu i A g v).2 (x i A v g hv)
end
theorem Aik {n:Nat}:∀{l:List Nat} {k:Nat},Mo n l=true->k<l.length->Ds n l k<n
 | [],k,_,h=>by simp at h
 | h::l,0,b,_=>by simp only [Mo,Bool.and_eq_true] at b; exact Gi b.1.1
 | h::l,k+1,b,hk=>by simp only [Mo,Bool.and_eq_true] at b; exact Aik (l:=l) b.2 (by simpa using hk)
theorem Uu {n:Nat}:∀{l:List Nat} {k:Nat},l.length<=k->Ds n l k=n+(k-l.length)
 | [],k,_=>by simp [Ds]
 | h::l,0,hk=>by simp at hk
 | h::l,k+1,hk=>by simp only [Ds,List.length_cons]; rw [Uu (l:=l) (by simpa using hk)]; omega
theorem Adg {n:Nat}:∀{l:List Nat} {k:Nat},k<l.length->Ds n l k∈l
 | [],k,h=>by simp at h
 | h::l,0,_=>by simp [Ds]
 | h::l,k+1,hk=>by simp only [Ds]; exact List.mem_cons_of_mem _ (Adg (by simpa using hk))
theorem Ail {n:Nat}:∀{l:List Nat} {j k:Nat},Mo n l=true->Ds n l j=Ds n l k->j=k
 | [],j,k,_,h=>by simp only [Ds] at h; omega
 | h::l,0,0,_,_=>rfl
 | h::l,j+1,k+1,b,e=>by simp only [Mo,Bool.and_eq_true] at b; simp only [Ds] at e; rw [Ail (l:=l) b.2 e]
 | h::l,0,k+1,b,e=>by
  simp only [Mo,Bool.and_eq_true] at b;simp only [Ds] at e;rcases Nat.lt_or_ge k l.length with hk | hk
  .have:=Adg (n:=n) hk;rw [<-e] at this;simp [this] at b
  .have h1:=Uu (n:=n) hk;have h2:=Gi b.1.1;omega
 | h::l,j+1,0,b,e=>by
  simp only [Mo,Bool.and_eq_true] at b;simp only [Ds] at e;rcases Nat.lt_or_ge j l.length with hk | hk
  .have:=Adg (n:=n) hk;rw [e] at this;simp [this] at b
  .have h1:=Uu (n:=n) hk;have h2:=Gi b.1.1;omega
theorem Aim {es:Nat->Nat}:∀{os:List Bh} {k i:Nat} {o:Bh},os[i]? = some o->(es (k+i),Ht es o)∈wrs es k os
 | [],k,i,o,h=>by simp at h
 | p::os,k,0,o,h=>by simp at h; subst h; simp [wrs]
 | p::os,k,i+1,o,h=>by simp only [wrs];refine List.mem_cons_of_mem _ ?_;have:=Aim (es:=es) (k:=k+1) (i:=i) (by simpa using h);rwa [show k+(i+1)=k+1+i by omega]
theorem Y2 {es:Nat->Nat}:∀{os:List Bh} {k x:Nat} {H:Hp},(∀i,i<os.length->es (k+i)≠x)->Cg H (wrs es k os) x=H x
 | [],k,x,H,h=>rfl
 | q::os,k,x,H,h=>by simp only [wrs,Cg];rw [Y2 (λi hi=>by rw [show k+1+i=k+(i+1) by omega]; exact h (i+1) (by simpa using hi)),Cz _ _ (Ne.symm (by simpa using h 0 ψ))]
theorem Ain {es:Nat->Nat} (b:∀i j,es i=es j->i=j):∀{os:List Bh} {k i:Nat} {o:Bh} {H:Hp},os[i]? = some o->Cg H (wrs es k os) (es (k+i))=Ht es o
 | [],k,i,o,H,h=>by simp at h
 | q::os,k,0,o,H,h=>by simp at h; subst h;simp only [wrs,Cg];rw [Y2 (λi hi e=>by have:=b _ _ e; omega)];exact Ce _ _ _
 | q::os,k,i+1,o,H,h=>by simp only [wrs,Cg];rw [show k+(i+1)=k+1+i by omega];exact Ain b (by simpa using h)
theorem Aio {es:Nat->Nat}:∀{c k i:Nat},i<c->(es (k+i),Bh.none)∈B5 es k c
 | 0,k,i,h=>ω
 | c+1,k,0,h=>by simp [B5]
 | c+1,k,i+1,h=>by simp only [B5];refine List.mem_cons_of_mem _ ?_;have:=Aio (es:=es) (c:=c) (k:=k+1) (i:=i) ω;rwa [show k+(i+1)=k+1+i by omega]
theorem Aip {es:Nat->Nat}:∀{c k:Nat} {p:Nat×Bh},p∈B5 es k c->∃i,i<c/\p=(es (k+i),Bh.none)
 | 0,k,p,h=>by simp [B5] at h
 | c+1,k,p,h=>by
  simp only [B5,List.mem_cons] at h;rcases h with rfl | h
  .exact ⟨0,ω,rfl⟩
  .obtain ⟨i,h1,h2⟩:=Aip h;exact ⟨i+1,ω,by rw [h2,show k+(i+1)=k+1+i by omega]⟩
theorem Pt.spec {H:Hp}:∀{l:List (Nat×Bh)},Pt H l->∀p∈l,H p.1=p.2
 | [],_,p,hp=>by cases hp
 | q::l,h,p,hp=>by
  rcases List.mem_cons.1 hp with rfl | hp
  .exact h.1
  .exact Pt.spec h.2 p hp
theorem Uv {b:List Bh} {k:Nat} (h:k<b.length):b[k]? = some (hp b k):=by simp [hp,h]
theorem Nn {b:List Bh} {k:Nat} (h:b.length<=k):hp b k = .none:=by simp [hp,List.getElem?_eq_none h]
section
variable {P:Program} {o:Oper} {ρ:Operand->AV} {a:Act} {w w':World}
open Classical in
theorem As9 {n:Nat} {c:Call} {x:Operand} {f:FuncId} {caps:List AV} {l:List Nat} {largs:List AV} {hs:List Bh} {r:AV} {hs':List Bh} (ho:o.op = .call c) (hcal:c.callee = .value x) (hx:ρ x = .fn f caps) (hp0:Bo P f largs hs r hs') (ha:largs.map (ren (Ds n l))=c.args.toList.map ρ ++ caps) (ok:R6 n l largs hs r hs'=true) : B0 P o ρ ⟨ren (Ds n l) r,wrs (Ds n l) 0 hs++B5 (Ds n l) l.length (hs'.length-l.length),wrs (Ds n l) 0 hs'⟩:=by
 intro σ ι H F W w a next Q s hop hrd hk
 simp only [R6,Bool.and_eq_true] at ok;obtain ⟨⟨⟨⟨⟨⟨o1,o2⟩,o3⟩,o4⟩,o5⟩,o6⟩,o7⟩:=ok;have o2:=Nat.eq_of_beq_eq_true o2;have o3:=Nat.le_of_ble_eq_true o3;generalize hes:Ds n l=es at *;have inj:∀i j,es i=es j->i=j:=λi j e=>by rw [<-hes] at e; exact Ail o1 e
 obtain ⟨⟨fn,hf,hname,hbody⟩,hpp⟩:=hp0;have hxv:=hop x (by simp [ho,Op.operands,Call.operands,hcal]);rw [hx] at hxv;obtain ⟨vs,hv,hl,hcap⟩:=hxv.fn_inv;have hall:Kt σ ι H (c.args.toList.map ρ ++ caps) (c.args.map a.eval++vs) :=
  Adc (λy hy=>hop y (by simp only [ho,Op.operands,Call.operands,hcal]; simp at hy ⊢; exact .inr hy)) hl hcap
 have hrun:(execOp a.eval o).run P w = .ok (.enter f (c.args.map a.eval++vs)) w:=by have hcf:(callFunc f (c.args.map a.eval++vs)).run P w = .ok (.enter f (c.args.map a.eval++vs)) w:=(by unfold callFunc;simp only [Sem.run_bind,program,Sem.run,Result.andThen_ok,hf,hname,hbody,Bool.false_eq_true,if_false,Sem.run_pure]);simp only [execOp,ho,resolve,hcal,hv,Deferred.ofValue,invoke,Sem.run_bind,Sem.run_pure,Result.andThen_ok,Array.empty_append,hcf]
 unfold Oper.wp;rw [hrun];simp only [Oper.upon];have hgiven:∀k,k<hs.length->H (es k)=Ht es (hp hs k):=by intro k hk';have:=hrd _ (List.mem_append_left _ (Aim (es:=es) (k:=0) (Uv hk')));simpa using this
 have hnew:∀k,hs.length<=k->k<hs'.length->H (es k) = .none:=by intro k h1 h2;have:=hrd _ (List.mem_append_right _ (Aio (es:=es) (k:=l.length) (c:=hs'.length-l.length) (i:=k-l.length) ω));rwa [show l.length+(k-l.length)=k by omega] at this
 let ιl:Br:=λk=>if k<hs.length then ι (es k) else .none
 let mine:Nat->Prop:=λb=>∃k,k<hs.length/\(hp hs k).live=true/\(ι (es k)).block? = some b
 let Fl:A1:=λb=>if σ b=none/\¬mine b then w.heap[b]? else none
 have hιl:∀k,k<hs.length->ιl k=ι (es k):=λk h=>if_pos h;have hlive:∀k,k<hs.length->(H (es k)).live=(hp hs k).live:=λk h=>by rw [hgiven k h,Y1]
 have hunder:∀k,k<hs.length->(hp hs k).under hs.length=true:=by intro k h;have:=List.all_eq_true.1 o5 _ (List.mem_of_getElem? (Uv h));rw [o2]; exact this
 have hFb:∀k,k<hs.length->∀b,(hp hs k).live=true->(ιl k).block? = some b->F b=none/\Fl b=none:=by intro k h b h1 h2;rw [hιl k h] at h2;exact ⟨(s.block (by rw [hlive k h]; exact h1) h2).2.2,if_neg (λhn=>hn.2 ⟨k,h,h1,h2⟩)⟩
 have sl:St σ ιl (hp hs) Fl W w:=by
  refine ⟨s.sto,λb ob hb=>?_,λk=>?_,λk k' b h1 h2 h3 h4=>?_,s.os,s.tape,s.output,s.glo,s.drw⟩
  .by_cases hc:σ b=none/\¬mine b
   .simp only [Fl,if_pos hc] at hb; exact ⟨hb,hc.1⟩
   .simp only [Fl,if_neg hc] at hb; cases hb
  .by_cases hk':k<hs.length
   .refine (Aij (es:=es) hιl hgiven hk' (hunder k hk') (λb h1 h2=>?_)).1 (s.obj (es k));obtain ⟨h3,h4⟩:=hFb k hk' b h1 h2;rw [h3,h4]
   .unfold Ci;rw [Nn ω];exact if_neg hk'
  .have lt:∀k,(hp hs k).live=true->k<hs.length:=by
    intro k h;rcases Nat.lt_or_ge k hs.length with h' | h'
    .exact h'
    .rw [Nn h'] at h; cases h
   have k1:=lt k h1;have k2:=lt k' h2;rw [hιl k k1] at h3;rw [hιl k' k2] at h4;exact inj _ _ (s.inj _ _ b (by rw [hlive k k1]; exact h1) (by rw [hlive k' k2]; exact h2) h3 h4)
 have hargs:Kt σ ιl (hp hs) largs (c.args.map a.eval++vs):=by rw [<-ha] at hall;refine ⟨by simpa using hall.1,λi b u h1 h2=>?_⟩;have:=hall.2 i (ren es b) u (by simp [h1]) h2;refine (Aii (es:=es) hιl hgiven ?_).1 this;rw [o2]; exact List.all_eq_true.1 o4 b (List.mem_of_getElem? h1)
 refine (hpp σ Fl W w ιl (c.args.map a.eval++vs) sl hargs).mono ?_;rintro e w' ⟨v,σ',ι'l,rfl,le',s',hc'⟩;let ι':Br:=λh=>if hh:∃k,k<hs'.length/\es k=h then ι'l hh.choose else ι h
 have hι':∀k,k<hs'.length->ι'l k=ι' (es k):=by intro k h;have hh:∃k',k' < hs'.length/\es k'=es k:=⟨k,h,rfl⟩;have:hh.choose=k:=inj _ _ hh.choose_spec.2;simp only [ι',dif_pos hh,this]
 have hιo:∀h,(∀k,k<hs'.length->es k≠h)->ι' h=ι h:=by intro h hno;exact dif_neg (λ⟨k,k1,k2⟩=>hno k k1 k2)
 have hH':∀k,k<hs'.length->Cg H (wrs es 0 hs') (es k)=Ht es (hp hs' k):=by intro k h;have:=Ain (es:=es) inj (k:=0) (H:=H) (Uv h);simpa using this
 have hHo:∀h,(∀k,k<hs'.length->es k≠h)->Cg H (wrs es 0 hs') h=H h:=by intro h hno;exact Y2 (λi hi=>by simpa using hno i hi)
 have hle2:hs.length<=hs'.length:=ω;have lel:Le σ ι H σ' ι' (Cg H (wrs es 0 hs')):=by
  refine ⟨le'.sto,λh=>?_⟩;by_cases hh:∃k,k<hs'.length/\es k=h
  .obtain ⟨k,hk',rfl⟩:=hh;rw [<-hι' k hk',hH' k hk'];by_cases hk2:k<hs.length
   .have q:=le'.obj k;rw [hιl k hk2] at q;rw [hgiven k hk2];refine ⟨q.box,λh=>?_,λh1 E sz xs h2=>?_⟩
    .rw [Ne,Add] at h ⊢; exact q.some h
    .rw [Ne,Add] at h1;rw [Ade] at h2;obtain ⟨E0,sz0,xs0,e0,r0⟩:=q.rows h1 E sz xs h2;exact ⟨E0,sz0,xs0,Ade.2 e0,r0⟩
   .have h0:=hnew k ω hk';have:ι (es k) = .none:=(by have:=s.obj (es k); unfold Ci at this; rw [h0] at this; exact this);rw [h0,this];exact HLe.of_none
  .have hno:∀k,k<hs'.length->es k≠h:=λk h1 h2=>hh ⟨k,h1,h2⟩;rw [hιo h hno,hHo h hno];exact HLe.refl _ _
 have keep:∀b,σ b=none->¬mine b->∀ob,w.heap[b]? = some ob->w'.heap[b]? = some ob/\σ' b=none/\Fl b=some ob:=by intro b h1 h2 ob h3;have:Fl b=some ob:=(by simp only [Fl]; rw [if_pos ⟨h1,h2⟩]; exact h3);exact ⟨(s'.fra b ob this).1,(s'.fra b ob this).2,this⟩
 have notmine:∀h b,(∀k,k<hs'.length->es k≠h)->(H h).live=true->(ι h).block? = some b->¬mine b:=by rintro h b hno h1 h2 ⟨k,k1,k2,k3⟩;exact hno k ω (s.inj _ _ b (by rw [hlive k k1]; exact k2) h1 k3 h2)
 have notmineF:∀b ob,F b=some ob->¬mine b:=by rintro b ob hb ⟨k,k1,k2,k3⟩;have:=(s.block (by rw [hlive k k1]; exact k2) k3).2.2;rw [this] at hb; cases hb
 have hunder':∀k,k<hs'.length->(hp hs' k).under hs'.length=true:=λk h=>List.all_eq_true.1 o7 _ (List.mem_of_getElem? (Uv h));have st':St σ' ι' (Cg H (wrs es 0 hs')) F W w':=by
  refine ⟨s'.sto,λb ob hb=>?_,λh=>?_,λh h' b h1 h2 h3 h4=>?_,s'.os,s'.tape,s'.output,s'.glo,s'.drw⟩
  .obtain ⟨h1,h2⟩:=s.fra b ob hb;obtain ⟨k1,k2,_⟩:=keep b h2 (notmineF b ob hb) ob h1;exact ⟨k1,k2⟩
  .by_cases hh:∃k,k<hs'.length/\es k=h
   .obtain ⟨k,hk',rfl⟩:=hh;refine (Aij (es:=es) hι' hH' hk' (hunder' k hk') (λb h1 h2=>?_)).2 (s'.obj k);have hf0:=(s'.block h1 h2).2.2;refine ⟨λ_=>hf0,λ_=>?_⟩;cases hFb:F b with| none=>rfl| some ob=>obtain ⟨h3,h4⟩:=s.fra b ob hFb;have:=(keep b h4 (notmineF b ob hFb) ob h3).2.2;rw [hf0] at this; cases this
   .have hno:∀k,k<hs'.length->es k≠h:=λk h1 h2=>hh ⟨k,h1,h2⟩;have hob:=s.obj h;have hnm:=λb h1 h2=>notmine h b hno h1 h2;unfold Ci at hob ⊢;rw [hHo h hno,hιo h hno];cases hx:H h with
    | none=>rw [hx] at hob; exact hob
    | dead=>trivial
    | cells E cs=>rw [hx] at hob hnm;obtain ⟨b,C,e1,h1,h2,h3,h4,h5⟩:=hob;obtain ⟨k1,k2,_⟩:=keep b h1 (hnm b rfl (by rw [e1]; rfl)) _ h3;exact ⟨b,C,e1,k2,h2,k1,h4,λi c v x y=>(h5 i c v x y).mono lel⟩
    | rows E sz xs=>
     rw [hx] at hob hnm;obtain ⟨z1,z2,⟨e1,e2⟩ | ⟨b,tot,C,e1,h1,h2,h3,h4,h5,h6⟩⟩:=hob
     .exact ⟨z1,z2,.inl ⟨e1,e2⟩⟩
     .obtain ⟨k1,k2,_⟩:=keep b h1 (hnm b rfl (by rw [e1]; rfl)) _ h3;exact ⟨z1,z2,.inr ⟨b,tot,C,e1,k2,h2,k1,h4,h5,h6.mono le'.sto⟩⟩
    | map l=>rw [hx] at hob hnm;obtain ⟨b,M,q,e1,h1,h2,h3,h4⟩:=hob;obtain ⟨k1,k2,_⟩:=keep b h1 (hnm b rfl (by rw [e1]; rfl)) _ h3;exact ⟨b,M,q,e1,k2,h2,k1,h4.mono le'.sto⟩
  .have Uw:∀k,k<hs'.length->∀h,(∀k,k<hs'.length->es k≠h)->(Cg H (wrs es 0 hs') (es k)).live=true->(Cg H (wrs es 0 hs') h).live=true->(ι' (es k)).block? = some b->(ι' h).block? = some b->False:=(by intro k hk' h hno g1 g2 g3 g4;rw [hH' k hk',Y1] at g1;rw [hHo h hno] at g2;rw [<-hι' k hk'] at g3;rw [hιo h hno] at g4;have hf0:=(s'.block g1 g3).2.2;have hb:=s.block g2 g4;have hget:w.heap[b]? = some w.heap[b]:=(by simp [hb.1]);have:=(keep b hb.2.1 (notmine h b hno g2 g4) _ hget).2.2;rw [hf0] at this; cases this);by_cases hh:∃k,k<hs'.length/\es k=h
   .obtain ⟨k,hk',rfl⟩:=hh;by_cases hh':∃k,k<hs'.length/\es k=h'
    .obtain ⟨k',hk2,rfl⟩:=hh';rw [hH' k hk',Y1] at h1;rw [hH' k' hk2,Y1] at h2;rw [<-hι' k hk'] at h3;rw [<-hι' k' hk2] at h4;rw [s'.inj k k' b h1 h2 h3 h4]
    .exact (Uw k hk' h' (λk h1 h2=>hh' ⟨k,h1,h2⟩) h1 h2 h3 h4).elim
   .have hno:∀k,k<hs'.length->es k≠h:=λk h1 h2=>hh ⟨k,h1,h2⟩;by_cases hh':∃k,k<hs'.length/\es k=h'
    .obtain ⟨k',hk2,rfl⟩:=hh';exact (Uw k' hk2 h hno h2 h1 h4 h3).elim
    .have hno':∀k,k<hs'.length->es k≠h':=λk h1 h2=>hh' ⟨k,h1,h2⟩;rw [hHo h hno] at h1;rw [hHo h' hno'] at h2;rw [hιo h hno] at h3;rw [hιo h' hno'] at h4;exact s.inj h h' b h1 h2 h3 h4
 exact hk σ' ι' v w' lel st' ((Aii (es:=es) hι' hH' o6).2 hc')
end
end Go.Ab
namespace Go.Ab
section
variable {P:Program} {T:Cl} {an:Nat->Ann} {n:Nat} {o:Oper} {ρ:Operand->AV} {H:Hp} {K:Eff->Nat->Prop}
theorem Fk {b:Bool} {X:Prop} (h:bif b then X else False):b=true/\X:=by cases b with| false=>exact h.elim| true=>exact ⟨rfl,h⟩
theorem Y3 {x:AV} (h:J2 x=true):x = .val (.slice none 0 0):=by
 unfold J2 at h;split at h
 .rfl
 .cases h
theorem Ata {x:AV} (h:Ut x=true):∀vs,x≠.val (.agg vs):=by intro vs e; subst e; cases h
theorem Adh {i:TI} (h1:Nat.beq (Eo i).cells.length i.zero.length=true) (h2:Ut (Eo i)=true) (h3:Jk i.size (Eo i)=true):(Eo i).cells=i.zero.map .val:=by
 have _:=h1; have _:=h3
 unfold Eo at h2 ⊢;cases hd:i.d with
 | struct fs=>rfl
 | _=>
  rw [hd] at h2;cases b:i.zero with
  | nil=>rfl
  | cons v l=>
   cases l with
   | cons _ _=>rfl
   | nil=>rw [b] at h2;cases v <;> first | rfl | cases h2
theorem No {α:Type} {c:Array α} {x y:α} (h:c.toList = [x,y]):c = #[x,y]:=by apply Array.ext'; simpa using h
theorem Sd {α:Type} {c:Array α} {x:α} (h:c.toList = [x]):c = #[x]:=by apply Array.ext'; simpa using h
theorem Px {c:Call} {b:Builtin} {xs:Array Operand} {f:Array TypeId} (h1:c.callee = .builtin b) (h2:c.args=xs) (h3:c.argTypes=f):c = {callee:=.builtin b,args:=xs,argTypes:=f}:=by cases c; simp_all
def El (H:Hp) (n:Nat):Prop:=∀m,n<=m->H m = .none
def Kw (P:Program) (o:Oper) (ρ:Operand->AV) (H:Hp) (n:Nat) (K:Eff->Nat->Prop):Prop := ∃b m,B0 P o ρ b/\(∀p∈b.rd,H p.1=p.2)/\K b m/\n<=m/\El (Cg H b.wr) m
theorem C5 (b:El H n) {r:AV} (h:B0 P o ρ ⟨r,[],[]⟩) (k:K ⟨r,[],[]⟩ n):Kw P o ρ H n K:=⟨_,n,h,ψ,k,Nat.le_refl _,b⟩
theorem J3 (c:El H n) {r:AV} {x:Nat} {b:Bh} (h:B0 P o ρ ⟨r,[(x,b)],[]⟩) (hx:H x=b) (k:K ⟨r,[(x,b)],[]⟩ n):Kw P o ρ H n K := ⟨_,n,h,by simpa using hx,k,Nat.le_refl _,c⟩
theorem Kx (g:El H n) {r:AV} {x:Nat} {c b:Bh} (h:B0 P o ρ ⟨r,[(x,c)],[(x,b)]⟩) (hx:H x=c) (f:c≠.none) (k:K ⟨r,[(x,c)],[(x,b)]⟩ n):Kw P o ρ H n K:=by
 refine ⟨_,n,h,by simpa using hx,k,Nat.le_refl _,λm i=>?_⟩;have j:x<n:=by
  rcases Nat.lt_or_ge x n with h | h
  .exact h
  .exact (f (hx ▸ g x h)).elim
 show A4 H x b m=_;rw [Cz _ _ ω]; exact g m i
theorem Np (c:El H n) {r:AV} {b:Bh} (h:B0 P o ρ ⟨r,[(n,.none)],[(n,b)]⟩) (k:K ⟨r,[(n,.none)],[(n,b)]⟩ (n+1)):Kw P o ρ H n K:=by refine ⟨_,n+1,h,by simpa using c n (Nat.le_refl _),k,ω,λm f=>?_⟩;show A4 H n b m=_;rw [Cz _ _ ω]; exact c m ω
theorem Atb (j:El H n) {l:List Nat} {c:List AV} {f b:List Bh} {r:AV} (g:R6 n l c f r b=true) (hh:Pt H (wrs (Ds n l) 0 f)) (h:B0 P o ρ ⟨ren (Ds n l) r,wrs (Ds n l) 0 f++B5 (Ds n l) l.length (b.length-l.length),wrs (Ds n l) 0 b⟩) (k:K ⟨ren (Ds n l) r,wrs (Ds n l) 0 f++B5 (Ds n l) l.length (b.length-l.length),wrs (Ds n l) 0 b⟩ (n+(b.length-l.length))):Kw P o ρ H n K:=by
 simp only [R6,Bool.and_eq_true] at g;have s:=g.1.1.1.1.1.1;have u:=Nat.le_of_ble_eq_true g.1.1.1.1.2;refine ⟨_,n+(b.length-l.length),h,λp hp=>?_,k,ω,λq hq=>?_⟩
 .rcases List.mem_append.1 hp with hp | hp
  .exact hh.spec p hp
  .obtain ⟨i,hi,rfl⟩:=Aip hp;refine j _ ?_;show n<=Ds n l (l.length+i);rw [Uu ω]; omega
 .show Cg H (wrs (Ds n l) 0 b) q = .none;rw [Y2 (λi hi e=>?_)]
  .exact j q ω
  .rcases Nat.lt_or_ge (0+i) l.length with h1 | h1
   .have:=Aik s h1;omega
   .have:=Uu (n:=n) h1;omega
theorem Atc (l:Cm P T) (g:El H n) {t:TypeId} {x:Operand} (f:o.op = .load t x) (h:Dw P T an n o ρ H K):Kw P o ρ H n K:=by
 unfold Dw at h;rw [f] at h;dsimp only at h;split at h
 .rename_i i ht;split at h
  .rename_i cs hx;cases b:i.isAgg with
   | true=>rw [b] at h;simp only [cond_true] at h;obtain ⟨h1,h2⟩:=Fk h;exact C5 g (Aqs l f ht b hx (Nat.le_of_ble_eq_true h1)) h2
   | false=>
    rw [b] at h;simp only [cond_false] at h;split at h
    .exact C5 g (Aqr l f ht b hx) h
    .exact h.elim
  .rename_i hd off hx;split at h
   .rename_i E cs hh;cases b:i.isAgg with
    | true=>rw [b] at h;simp only [cond_true] at h;obtain ⟨h1,h2⟩:=Fk h;exact J3 g (Aqu l f ht b hx (Nat.le_of_ble_eq_true h1)) hh h2
    | false=>
     rw [b] at h;simp only [cond_false] at h;split at h
     .rename_i c hc;exact J3 g (Aqt l f ht b hx hc) hh h
     .exact h.elim
   .exact h.elim
  .rename_i hd k q j hx;split at h
   .rename_i E sz xs hh;obtain ⟨y,hk,hy,h⟩:=h;cases b:i.isAgg with
    | true=>rw [b] at h;simp only [cond_true] at h;obtain ⟨h1,h2⟩:=Fk h;exact J3 g (Aqw l f ht b hx hk hy (Nat.le_of_ble_eq_true h1)) hh h2
    | false=>
     rw [b] at h;simp only [cond_false] at h;split at h
     .rename_i c hc;exact J3 g (Aqv l f ht b hx hk hy hc) hh h
     .exact h.elim
   .exact h.elim
  .exact h.elim
 .exact h.elim
theorem Atd (g:Cm P T) (f:El H n) {t:TypeId} {x y:Operand} (c:o.op = .store t x y) (h:Dw P T an n o ρ H K):Kw P o ρ H n K:=by
 unfold Dw at h;rw [c] at h;dsimp only at h;split at h
 .rename_i i ht;split at h
  .rename_i hd off hx;split at h
   .rename_i E cs hh;obtain ⟨h1,h2⟩:=Fk h;simp only [Bool.and_eq_true] at h1;exact Kx f (Aqy g c ht hx (Nat.eq_of_beq_eq_true h1.1.1) (Nat.le_of_ble_eq_true h1.1.2) h1.2) hh (by intro e; cases e) h2
   .exact h.elim
  .rename_i hd k q j hx;split at h
   .rename_i E sz xs hh;obtain ⟨z,hk,l,h⟩:=h;obtain ⟨h1,h2⟩:=Fk h;simp only [Bool.and_eq_true] at h1;obtain ⟨⟨⟨⟨g1,g2⟩,g3⟩,g4⟩,g5⟩:=h1;rw [Yz,Sb] at h2;obtain ⟨s,b,h2⟩:=h2;subst b;exact Kx f (Aq0 g c ht hx hk l (Nat.eq_of_beq_eq_true g1) (Nat.le_of_ble_eq_true g2) (Nat.le_of_ble_eq_true g3) g4 (Ata g5)) hh (by intro e; cases e) h2
   .exact h.elim
  .exact h.elim
 .exact h.elim
theorem Ate (q:Cm P T) (g:El H n) {op:BinOp} {t s:TypeId} {x y:Operand} (f:o.op = .binOp op t x y s) (h:Dw P T an n o ρ H K):Kw P o ρ H n K:=by
 unfold Dw at h;rw [f] at h;dsimp only at h;split at h
 .rename_i k a j b hx hy;split at h
  .obtain ⟨c,h1,h2,h3⟩:=h;exact C5 g (Ara f hx hy h1 h2) h3
  .obtain ⟨c,h1,h2,h3⟩:=h;exact C5 g (Aq9 f hx hy h1 h2) h3
  .replace h:=Fk h; obtain ⟨hk,h⟩:=h;have hk:k=j:=(by simpa using hk);subst hk;split at h
   .obtain ⟨c,h1,h2⟩:=h; exact C5 g (Aq2 f hx hy h1) h2
   .obtain ⟨c,h1,h2⟩:=h; exact C5 g (Aq3 f hx hy h1) h2
   .obtain ⟨c,h1,h2⟩:=h; exact C5 g (Aq4 f hx hy h1) h2
   .obtain ⟨c,h1,h2,h3⟩:=h; exact C5 g (Aq5 f hx hy h1 h2) h3
   .obtain ⟨c,h1,h2,h3⟩:=h; exact C5 g (Aq6 f hx hy h1 h2) h3
   .split at h
    .rename_i l i; exact C5 g (Aq7 f hx hy i) h
    .split at h
     .rename_i c hc; exact C5 g (Aq8 f hx hy hc) h
     .exact h.elim
 .rename_i a b hx hy;split at h
  .rename_i B A z ht;split at h
   .rename_i l i; exact C5 g (Ard q f ht rfl hx hy i) h
   .exact h.elim
  .exact h.elim
 .rename_i xs ys hx hy;split at h
  .rename_i u h1;split at h
   .rename_i vs h2;split at h
    .obtain ⟨b,hb,h⟩:=h;exact C5 g (Ah0 f hx hy h1 h2 hb (.inl ⟨rfl,rfl⟩)) h
    .obtain ⟨b,hb,h⟩:=h;exact C5 g (Ah0 f hx hy h1 h2 hb (.inr ⟨rfl,rfl⟩)) h
    .exact h.elim
   .exact h.elim
  .exact h.elim
 .rename_i k a j b hx hy;replace h:=Fk h; obtain ⟨hk,h⟩:=h;have hk:k=j:=(by simpa using hk);subst hk;obtain ⟨c,h1,h2⟩:=h;exact C5 g (Ark f hx hy h1) h2
 .rename_i a b hx hy;split at h
  .obtain ⟨h1,h2⟩:=h; exact C5 g (Arg f hx hy h1) h2
  .split at h
   .rename_i l i; exact C5 g (Arf f hx hy i) h
   .exact h.elim
 .rename_i p I G E D hx hy;split at h
  .split at h
   .rename_i M e2 L J ht; exact C5 g (Are q f ht rfl hx hy) h
   .exact h.elim
  .exact h.elim
 .exact h.elim
theorem Atf (q:Cm P T) (j:El H n) {t:TypeId} {x:Operand} {lo hi:Option Operand} (g:o.op = .slice t x lo hi none) (h:Dw P T an n o ρ H K):Kw P o ρ H n K:=by
 unfold Dw at h;rw [g] at h;dsimp only at h;split at h
 .rename_i e B A z ht;split at h
  .rename_i i' u;split at h
   .rename_i sz xs hx;split at h
    .rename_i y h0 c hh;replace h:=Fk h; obtain ⟨g1,h⟩:=h;obtain ⟨l,i,ys,el,b,h1,h2,hy,k⟩:=h;subst el; subst b; subst hy;exact C5 j (Arz q g ht rfl u (Nat.eq_of_beq_eq_true g1) hx c hh h1 h2) k
    .exact h.elim
   .rename_i hd k off len hx;split at h
    .rename_i E sz xs f;split at h
     .rename_i y h0 c hh;replace h:=Fk h; obtain ⟨g1,h⟩:=h;cases h with| mk l i hk el b h1 h2 h3 k=>subst el; subst b;exact J3 j (Ar1 q g ht rfl u (Nat.eq_of_beq_eq_true g1) hx hk c hh h1 h2 h3) f k| mkE l hk el b h2 k=>subst el; subst b;exact J3 j (Asn q g ht rfl u hx hk c hh h2) f k
     .exact h.elim
    .exact h.elim
   .exact h.elim
  .exact h.elim
 .rename_i B A z ht;split at h
  .rename_i s hx;split at h
   .rename_i y h0 c hh;obtain ⟨l,i,el,b,h1,h2,k⟩:=h;subst el; subst b;exact C5 j (Ar0 q g ht rfl hx c hh h1 h2) k
   .exact h.elim
  .exact h.elim
 .exact h.elim
theorem Atg (B:Cm P T) (A:El H n) {c:Call} (u:o.op = .call c) (h:Dw P T an n o ρ H K):Kw P o ρ H n K:=by
 unfold Dw at h;rw [u] at h;dsimp only at h;split at h
 .rename_i x i;split at h
  .rename_i f ad hx;split at h
   .rename_i j ah;split at h
    .rename_i hd k len hj;split at h
     .rename_i E sz xs hh;obtain ⟨hk,I,r,hp,hf,h⟩:=h;subst hk;rw [<-I] at hj;exact Kx A (As6 u i hx hj hp hf) hh (by intro e; cases e) h
     .exact h.elim
    .exact h.elim
   .cases h with| mk r hp hf k=>exact C5 A (As5 u i hx hp hf) k| act l ab hs r ag hp ha ok hh k=>exact Atb A ok hh (As9 u i hx hp ha ok) k
  .exact h.elim
 .exact h.elim
 .rename_i i;split at h
  .rename_i x t ha z;rw [Px i (Sd ha) (Sd z)] at u;split at h
   .rename_i e Y X V ht;split at h
    .rename_i sz xs hx;split at h
     .obtain ⟨c,hc,h⟩:=h;subst hc;exact C5 A (Ahp B u ht rfl hx) h
     .exact C5 A (Ahp B u ht rfl hx) h
    .rename_i p m cap hx; exact C5 A (Arr B u ht rfl hx) h
    .rename_i hd k off len hx;split at h
     .rename_i E sz xs hh;obtain ⟨hk,h⟩:=h;exact J3 A (Aru B u ht rfl hx hk) hh h
     .exact h.elim
    .exact h.elim
   .rename_i Y X V ht;split at h
    .rename_i s hx; exact C5 A (Art B u ht rfl hx) h
    .exact h.elim
   .exact h.elim
  .exact h.elim
 .rename_i i;split at h
  .rename_i x t ha z;rw [Px i (Sd ha) (Sd z)] at u;split at h
   .rename_i e Y X V ht;split at h
    .rename_i p m cap hx; exact C5 A (Ars B u ht rfl hx) h
    .exact h.elim
   .exact h.elim
  .exact h.elim
 .rename_i i;split at h
  .rename_i x y t t' ha z;rw [Px i (No ha) (No z)] at u;split at h
   .rename_i e Y X V ht;split at h
    .rename_i i' J;split at h
     .rename_i h2 k2 a1 a6 hy;split at h
      .rename_i hd k off len hx;split at h
       .rename_i E sz xs hh;replace h:=Fk h; obtain ⟨g5,h⟩:=h;simp only [Bool.and_eq_true] at g5;have L:=Nat.eq_of_beq_eq_true g5.1.1.1;have e2:=Nat.eq_of_beq_eq_true g5.1.1.2;have e3:=Nat.eq_of_beq_eq_true g5.1.2;have e4:0<i'.size:=Nat.le_of_ble_eq_true g5.2;subst L; subst e2; subst e3;obtain ⟨U,c,hk,I,R,N,G,hc,k⟩:=h;subst G; subst hc;exact Kx A (Asl B u ht rfl J e4 hx hk I hy R N) hh (by intro e; cases e) k
       .exact h.elim
      .rename_i q hx;split at h
       .rename_i E sz xs hh;replace h:=Fk h; obtain ⟨g5,h⟩:=h;have L:=Nat.eq_of_beq_eq_true g5;subst L;obtain ⟨hk,k⟩:=h;exact J3 A (Asm B u ht rfl J hx hy hk) hh k
       .exact h.elim
      .exact h.elim
     .exact h.elim
    .exact h.elim
   .exact h.elim
  .exact h.elim
 .rename_i i;split at h
  .rename_i x t ha z;rw [Px i (Sd ha) (Sd z)] at u;split at h
   .rename_i e Y X V ht;split at h
    .rename_i i' J;split at h
     .rename_i hd k off len hx;split at h
      .rename_i E sz xs hh;replace h:=Fk h; obtain ⟨g5,h⟩:=h;simp only [Bool.and_eq_true] at g5;have L:=Nat.eq_of_beq_eq_true g5.1.1.1.1.1;have e2:=Nat.eq_of_beq_eq_true g5.1.1.1.1.2;have e3:0<i'.size:=Nat.le_of_ble_eq_true g5.1.1.1.2;subst L; subst e2;obtain ⟨U,hk,I,G,k⟩:=h;subst G;exact Kx A (Aso B u ht rfl J e3 g5.1.1.2 (Adh g5.1.2 g5.2 g5.1.1.2) hx hk I) hh (by intro e; cases e) k
      .exact h.elim
     .rename_i q hx; exact C5 A (Asp B u ht rfl hx) h
     .exact h.elim
    .exact h.elim
   .exact h.elim
  .exact h.elim
 .rename_i i;split at h
  .rename_i x y t t' ha z;rw [Px i (No ha) (No z)] at u;split at h
   .rename_i e Y X V e' aa a8 a7 ht D;split at h
    .rename_i i' J;replace h:=Fk h; obtain ⟨g,h⟩:=h;simp only [Bool.and_eq_true] at g;obtain ⟨⟨g1,g2⟩,g3⟩:=g;have g1:0<i'.size:=Nat.le_of_ble_eq_true g1;have g2:=Nat.eq_of_beq_eq_true g2;have g3:=Nat.le_of_ble_eq_true g3;split at h
     .rename_i sz ys hy;replace h:=Fk h; obtain ⟨g4,h⟩:=h;have g4:=Nat.eq_of_beq_eq_true g4;subst g4;split at h
      .rename_i hd k len hx;split at h
       .rename_i E Z xs hh;replace h:=Fk h; obtain ⟨g5,h⟩:=h;simp only [Bool.and_eq_true] at g5;have L:=Nat.eq_of_beq_eq_true g5.1;have e2:=Nat.eq_of_beq_eq_true g5.2;subst L; subst e2;cases h with| mk U m hk I hb G M k=>subst I; subst G; subst M;exact Kx A (Ar8 B u ht rfl D rfl J g1 g2 g3 hx hk hy hb) hh (by intro e; cases e) k| mkP U k' m hk I hb G S M k=>subst G; subst M; subst S;exact Kx A (Ash B u ht rfl D rfl J g1 g2 g3 hx hk I hy hb) hh (by intro e; cases e) k
       .exact h.elim
      .rename_i hx;obtain ⟨U,m,hb,G,M,k⟩:=h;subst G; subst M;exact Np A (Asd B n u ht rfl D rfl J g1 g2 g3 hx hy hb) k
      .rename_i af ae hx;obtain ⟨ac,k⟩:=h;subst ac;exact C5 A (Asj B u ht rfl D rfl J g1 hx hy) k
      .exact h.elim
     .rename_i h2 k2 a1 a6 hy;split at h
      .rename_i hd k len hx;split at h
       .rename_i E Z xs hh;replace h:=Fk h; obtain ⟨g5,h⟩:=h;simp only [Bool.and_eq_true] at g5;have L:=Nat.eq_of_beq_eq_true g5.1.1;have e2:=Nat.eq_of_beq_eq_true g5.1.2;have e3:=Nat.eq_of_beq_eq_true g5.2;subst L; subst e2; subst e3;obtain ⟨U,k',m,hk,I,R,N,hb,G,S,M,k⟩:=h;subst G; subst M; subst S;exact Kx A (Ask B u ht rfl D rfl J g1 g2 g3 hx hk I hy R N hb) hh (by intro e; cases e) k
       .exact h.elim
      .exact h.elim
     .exact h.elim
    .exact h.elim
   .rename_i e Y X V aa a8 a7 ht D;split at h
    .rename_i i' J;replace h:=Fk h; obtain ⟨g,h⟩:=h;simp only [Bool.and_eq_true] at g;obtain ⟨⟨g1,g2⟩,g3⟩:=g;have g1:=Nat.eq_of_beq_eq_true g1;have g2:=Nat.eq_of_beq_eq_true g2;have g3:=Nat.le_of_ble_eq_true g3;split at h
     .rename_i s hy;split at h
      .rename_i hd k len hx;split at h
       .rename_i E Z xs hh;replace h:=Fk h; obtain ⟨g5,h⟩:=h;simp only [Bool.and_eq_true] at g5;have L:=Nat.eq_of_beq_eq_true g5.1;have e2:=Nat.eq_of_beq_eq_true g5.2;subst L; subst e2;obtain ⟨_,_,_,_,_,_,_,_,_,k⟩ | ⟨U,m,hk,I,hb,G,M,k⟩:=h
        .exact k.elim
        subst I; subst G; subst M;exact Kx A (Asb B u ht rfl D rfl J g1 g2 g3 hx hk hy hb) hh (by intro e; cases e) k
       .exact h.elim
      .exact h.elim
     .exact h.elim
    .exact h.elim
   .exact h.elim
  .exact h.elim
 .rename_i i;split at h
  .rename_i x y t t' ha z;rw [Px i (No ha) (No z)] at u;split at h
   .rename_i k a k' b hx hy;exact C5 A (Asf u hx hy) h
   .exact h.elim
  .exact h.elim
 .rename_i i;split at h
  .rename_i x y t t' ha z;rw [Px i (No ha) (No z)] at u;split at h
   .rename_i k a k' b hx hy;exact C5 A (Asg u hx hy) h
   .exact h.elim
  .exact h.elim
 .exact h.elim
theorem Aiq (B:Cm P T) (A:El H n) (h:Dw P T an n o ρ H K):Kw P o ρ H n K:=by
 cases u:o.op with
 | load t x=>exact Atc B A u h
 | store t x y=>exact Atd B A u h
 | binOp op t x y yt=>exact Ate B A u h
 | call c=>exact Atg B A u h
 | slice t x lo hi mx=>cases mx with| none=>exact Atf B A u h| some m=>unfold Dw at h; rw [u] at h; exact h.elim
 | move x=>unfold Dw at h; rw [u] at h; exact C5 A (Aqn u) h
 | assign x=>
  unfold Dw at h; rw [u] at h; dsimp only at h;split at h
  .exact C5 A (Un u) h
  .split at h
   .exact C5 A (Un u) h
   .exact C5 A (Un u) h
   .exact C5 A (Un u) h
   .cases hb:J2 (ρ x) with
    | false=>rw [hb] at h; exact C5 A (Un u) h
    | true=>
     rw [hb] at h;simp only [cond_true] at h;split at h
     .rename_i e I G J ht;split at h
      .rename_i i' D;replace h:=Fk h; obtain ⟨g1,h⟩:=h;exact Np A (Ase B n u (Y3 hb) ht rfl D (Nat.le_of_ble_eq_true g1)) h
      .exact h.elim
     .exact h.elim
 | pick c a b=>
  unfold Dw at h; rw [u] at h; dsimp only at h;split at h
  .rename_i t hc; exact C5 A (Aqo u hc) h
  .exact h.elim
 | alloc t=>
  unfold Dw at h; rw [u] at h; dsimp only at h;split at h
  .rename_i i ht; exact Np A (Aqp B n u ht) h
  .exact h.elim
 | box t x=>unfold Dw at h; rw [u] at h; exact Np A (Aqq n u) h
 | build t parts=>
  unfold Dw at h; rw [u] at h; dsimp only at h;split at h
  .rename_i fs I G z ht;split at h
   .rename_i cs hc; exact C5 A (Ar2 B u ht rfl hc) h
   .exact h.elim
  .exact h.elim
 | buildSlice t len parts=>
  unfold Dw at h; rw [u] at h; dsimp only at h;split at h
  .rename_i e I G J ht;split at h
   .rename_i i' D;replace h:=Fk h; obtain ⟨g,h⟩:=h;simp only [Bool.and_eq_true] at g;obtain ⟨⟨⟨g1,g2⟩,g3⟩,g4⟩:=g;have g2:parts.toList.map (·.1)=List.range' 0 len:=(by simpa using g2);have g4:∀p∈parts.toList,Jk i'.size (ρ p.2)=true:=List.all_eq_true.1 g4;split at h
    .exact h.elim
    .rw [Y0] at h;exact C5 A (Ahu B u ht rfl D (Nat.le_of_ble_eq_true g1) g2 (Nat.le_of_ble_eq_true g3) g4) h
    .rw [Y0] at h;exact C5 A (Ahu B u ht rfl D (Nat.le_of_ble_eq_true g1) g2 (Nat.le_of_ble_eq_true g3) g4) h
    .rw [Y0] at h;exact Np A (Ar4 B n u ht rfl D (Nat.le_of_ble_eq_true g1) g2 (Nat.le_of_ble_eq_true g3) g4) h
   .exact h.elim
  .exact h.elim
 | nilCheck x=>unfold Dw at h; rw [u] at h; dsimp only at h;replace h:=Fk h; obtain ⟨g1,h⟩:=h;exact C5 A (Aq1 u g1) h
 | unOp op t x=>
  unfold Dw at h; rw [u] at h; dsimp only at h;split at h
  .rename_i b hx; exact C5 A (Arh u hx) h
  .rename_i k m hx;obtain ⟨c,h1,h2⟩:=h;exact C5 A (Ari u hx h1) h2
  .exact h.elim
 | convert s d x=>
  unfold Dw at h; rw [u] at h; dsimp only at h;split at h
  .rename_i i k I G J M m hs hd hx;obtain ⟨c,h1,h2⟩:=h;exact C5 A (Arj B u hs hd rfl hx h1) h2
  .rename_i v0 k0 I G J k1 m h1 h2 hx;exact C5 A (Arl B u h1 h2 rfl hx) h
  .rename_i v0 k0 I G J q m h1 h2 hx;obtain ⟨c,g1,g2⟩:=h;exact C5 A (Arm B u h1 h2 rfl hx g1) g2
  .exact h.elim
 | makeFunc fn first Z=>
  cases fn with
  | func f=>
   unfold Dw at h; rw [u] at h; dsimp only at h;replace h:=Fk h; obtain ⟨g1,h⟩:=h;have:first = #[]:=by simpa using g1
   subst this;exact C5 A (Ary u) h
  | _=>unfold Dw at h; rw [u] at h; exact h.elim
 | makeSlice t x y=>
  unfold Dw at h; rw [u] at h; dsimp only at h;split at h
  .rename_i e I G J ht;split at h
   .rename_i i' D;split at h
    .rename_i k l M c hx hy;replace h:=Fk h; obtain ⟨g,h⟩:=h;simp only [Bool.and_eq_true] at g;obtain ⟨⟨⟨g1,g2⟩,g3⟩,g4⟩:=g;rcases h with ⟨l',c',zs,el,Y,h1,h2,h3,S,k⟩ | ⟨z',V,l',c',zs,el,Y,h1,h2,h3,S,k⟩
     .subst el; subst Y; subst S;exact Np A (Ar5 B n u ht rfl D (Nat.le_of_ble_eq_true g1) hx hy h1 h2 h3 g2 (Adh g3 g4 g2)) k
     .subst el; subst Y; subst S;exact Np A (Ar6 B z' n u ht rfl D (Nat.le_of_ble_eq_true g1) hx hy h1 h2 h3 g2 (Adh g3 g4 g2) V) k
    .exact h.elim
   .exact h.elim
  .exact h.elim
 | fieldAddr s x f=>
  unfold Dw at h; rw [u] at h; dsimp only at h;split at h
  .rename_i fs I G J ht;split at h
   .rename_i q R;split at h
    .rename_i hd off hx; exact C5 A (Aro B u ht rfl R hx) h
    .rename_i cs hx; exact C5 A (Arp B u ht rfl R hx) h
    .rename_i hd k m j hx;split at h
     .rename_i E sz xs hh;obtain ⟨hk,h⟩:=h;exact J3 A (Arq B u ht rfl R hx hk) hh h
     .exact h.elim
    .exact h.elim
   .exact h.elim
  .exact h.elim
 | indexAddr t x y=>
  unfold Dw at h; rw [u] at h; dsimp only at h;split at h
  .rename_i e I G J ht;split at h
   .rename_i i' D;split at h
    .rename_i sz xs k i hx hy;replace h:=Fk h; obtain ⟨g1,h⟩:=h;obtain ⟨m,z,hi,S,M⟩:=h;subst hi;exact C5 A (Arv B u ht rfl D (Nat.eq_of_beq_eq_true g1) hx hy S) M
    .rename_i hd k off len kk i hx hy;split at h
     .rename_i E sz xs hh;replace h:=Fk h; obtain ⟨g1,h⟩:=h;obtain ⟨m,hk,hi,hm,M⟩:=h;subst hi;exact J3 A (Arw B u ht rfl D hx hk hy hm (Nat.eq_of_beq_eq_true g1)) hh M
     .exact h.elim
    .exact h.elim
   .exact h.elim
  .exact h.elim
 | index t x y=>
  unfold Dw at h; rw [u] at h; dsimp only at h;split at h
  .rename_i I G J ht;split at h
   .rename_i s k i hx hy;obtain ⟨m,c,hi,hc,M⟩:=h;subst hi;exact C5 A (Arx B u ht rfl hx hy hc) M
   .exact h.elim
  .exact h.elim
 | field t x f=>
  unfold Dw at h; rw [u] at h; dsimp only at h;split at h
  .rename_i fs I G J ht;split at h
   .rename_i q hq;split at h
    .rename_i cs hx;obtain ⟨ft,R,h⟩:=h;split at h
     .rename_i U D;cases L:U.isAgg with
      | true=>rw [L] at h;simp only [cond_true] at h;obtain ⟨h1,h2⟩:=Fk h;exact C5 A (Ah1 B u ht rfl hq R D hx (.inl ⟨L,Nat.le_of_ble_eq_true h1,rfl⟩)) h2
      | false=>
       rw [L] at h;simp only [cond_false] at h;split at h
       .rename_i c hc;exact C5 A (Ah1 B u ht rfl hq R D hx (.inr ⟨L,hc⟩)) h
       .exact h.elim
     .exact h.elim
    .exact h.elim
   .exact h.elim
  .exact h.elim
 | makeMap t r=>cases r with| none=>unfold Dw at h; rw [u] at h; exact Np A (Asq n u) h| some q=>unfold Dw at h; rw [u] at h; exact h.elim
 | lookup t x y ok=>
  unfold Dw at h; rw [u] at h; dsimp only at h;split at h
  .rename_i kt et I G J ht;split at h
   .rename_i q1 q2 q3 hk;split at h
    .rename_i U D;split at h
     .rename_i hd hx;split at h
      .rename_i s hy;split at h
       .rename_i es hh;obtain ⟨r,N,h⟩:=h;exact J3 A (Asr B u ht rfl hk rfl D hx hy N) hh h
       .exact h.elim
      .exact h.elim
     .exact h.elim
    .exact h.elim
   .split at h
    .rename_i U D;split at h
     .rename_i hd hx;split at h
      .rename_i ks hy;split at h
       .rename_i us hu;split at h
        .rename_i es hh;obtain ⟨r,hc,N,h⟩:=h;exact J3 A (Ast B u ht rfl D hx hy hu hc N) hh h
        .exact h.elim
       .exact h.elim
      .exact h.elim
     .exact h.elim
    .exact h.elim
   .exact h.elim
  .exact h.elim
 | mapUpdate t x y z=>
  unfold Dw at h; rw [u] at h; dsimp only at h;split at h
  .rename_i kt et I G J ht;split at h
   .rename_i q1 q2 q3 hk;split at h
    .rename_i hd hx;split at h
     .rename_i s hy;split at h
      .rename_i es hh;obtain ⟨g1,h⟩:=Fk h;rw [Sb] at h;obtain ⟨X,N,h⟩:=h;exact Kx A (Ass B u ht rfl hk rfl hx hy g1 N) hh (by intro e; cases e) h
      .exact h.elim
     .exact h.elim
    .exact h.elim
   .split at h
    .rename_i hd hx;split at h
     .rename_i ks hy;split at h
      .rename_i us hu;split at h
       .rename_i es hh;obtain ⟨g1,h⟩:=Fk h;rw [Sb] at h;obtain ⟨X,hc,N,rfl,h⟩:=h;exact Kx A (Asu B u ht rfl hx hy hu g1 hc N) hh (by intro e; cases e) h
       .exact h.elim
      .exact h.elim
     .exact h.elim
    .exact h.elim
   .exact h.elim
  .exact h.elim
 | extract x i=>
  unfold Dw at h; rw [u] at h; dsimp only at h;split at h
  .rename_i cs hx;split at h
   .rename_i c hc; exact C5 A (Arn u hx hc) h
   .exact h.elim
  .exact h.elim
 | _=>unfold Dw at h; rw [u] at h; exact h.elim
end
end Go.Ab
namespace Go.Ab
theorem Fm {t:Bool} {A B:Prop} (h:t=true) (k:A):bif t then A else B:=by rw [h]; exact k
theorem Adi {t:Bool} {A B:Prop} (h:t=false) (k:B):bif t then A else B:=by rw [h]; exact k
abbrev Hm:=List (List Nat×List Nat)
def J4 (l:List (Nat×Nat)):Nat->List AV->List AV
 | _,[]=>[]
 | i,x::xs=>(bif J2 x then (match l.lookup i with | some sz=>.sl sz [] | none=>x) else x)::J4 l (i+1) xs
def elN (l:List (Nat×Nat)) (x:AV):AV := match x with
 | .val (.agg vs)=>.agg (J4 l 1000 (vs.toList.map .val))
 | .agg cs=>.agg (J4 l 1000 cs)
 | x=>x
def J5 (l:List (Nat×Nat)) (x:AV):AV := match l with
 | []=>x
 | p::l=> match x with
  | .sl sz xs=>bif Nat.ble 1000 p.1 then .sl sz (xs.map (elN (p::l))) else .sl sz xs
  | .agg cs=>.agg (J4 (p::l) 0 cs)
  | x=>bif J2 x then .sl p.2 [] else x
def Ky (nl:Nat->List (Nat×Nat)):Option Nat->List (Nat×Nat)
 | none=>[]
 | some d=>nl d
theorem Y4 {σ:A1} {ι:Br} {H:Hp} {x:AV} {v:Value} {sz:Nat} (hx:J2 x=true) (h:Conc σ ι H x v):Conc σ ι H (.sl sz []) v:=by rw [Y3 hx] at h;rw [h.val_inv];exact .cc (.nil sz none 0)
theorem Adj {l:List (Nat×Nat)}:∀{cs:List AV} {i k:Nat} {c:AV},(J4 l k cs)[i]? = some c->∃b,cs[i]? = some b/\(c=b\/(J2 b=true/\∃sz,c = .sl sz []))
 | [],i,k,c,h=>by simp [J4] at h
 | x::xs,0,k,c,h=>by
  simp only [J4,List.getElem?_cons_zero,Option.some.injEq] at h;refine ⟨x,rfl,?_⟩;cases hx:J2 x with
  | false=>rw [hx] at h; exact .inl h.symm
  | true=>
   rw [hx] at h;simp only [cond_true] at h;split at h
   .rename_i sz _; exact .inr ⟨rfl,sz,h.symm⟩
   .exact .inl h.symm
 | x::xs,i+1,k,c,h=>by simp only [J4,List.getElem?_cons_succ] at h;obtain ⟨b,h1,h2⟩:=Adj h;exact ⟨b,by simpa using h1,h2⟩
theorem Adk {l:List (Nat×Nat)}:∀{cs:List AV} {k:Nat},(J4 l k cs).length=cs.length
 | [],_=>rfl
 | x::xs,k=>by simp only [J4,List.length_cons,Adk]
theorem Ath {l:List (Nat×Nat)} {σ:A1} {x:AV}:(elN l x).cells.length=x.cells.length/\∀(j:Nat) (c b:AV) (u:Value),x.cells[j]? = some c->(elN l x).cells[j]? = some b->CC σ c u->CC σ b u:=by
 have key:∀cs:List AV,(J4 l 1000 cs).length=cs.length/\∀(j:Nat) (c b:AV) (u:Value),cs[j]? = some c->(J4 l 1000 cs)[j]? = some b->CC σ c u->CC σ b u:=by
  intro cs;refine ⟨Adk,λj c b u h1 h2 h3=>?_⟩;obtain ⟨f,g1,rfl | ⟨g2,sz,rfl⟩⟩:=Adj h2
  .rw [h1] at g1; cases g1; exact h3
  .rw [h1] at g1; cases g1;rw [Y3 g2] at h3;cases h3;exact .nil sz none 0
 unfold elN;split
 .exact key _
 .exact key _
 .exact ⟨rfl,λj c b u h1 h2 h3=>by rw [h1] at h2; cases h2; exact h3⟩
theorem CC.mapEl {σ:A1} {sz:Nat} {xs:List AV} {v:Value} (f:AV->AV) (B:∀x,(f x).cells.length=x.cells.length/\∀(j:Nat) (c k:AV) (u:Value),x.cells[j]? = some c->(f x).cells[j]? = some k->CC σ c u->CC σ k u) (h:CC σ (.sl sz xs) v):CC σ (.sl sz (xs.map f)) v:=by
 cases h with
 | nil sz a cap=>exact .nil sz a cap
 | sl _ b off cap _ C E fr g D G hc h1 J I s=>
  have q:(xs.map f).length=xs.length:=ψ;have l:∀(i:Nat) (y:AV) (j:Nat) (k:AV),(xs.map f)[i]? = some y->y.cells[j]? = some k->∃x c,xs[i]? = some x/\x.cells[j]? = some c/\y=f x:=(by intro i y j k g1 g2;rw [List.getElem?_map] at g1;cases hx:xs[i]? with| none=>rw [hx] at g1; cases g1| some x=>rw [hx] at g1; cases g1;have hj:j<x.cells.length:=(by rw [<-(B x).1]; exact (List.getElem?_eq_some_iff.1 g2).1);exact ⟨x,x.cells[j],rfl,List.getElem?_eq_getElem hj,rfl⟩);rw [<-q];refine .sl (xs.map f) b off cap sz C E fr g D ?_ ?_ ?_ (λi j hi hj=>J i j (by simpa using hi) hj) (by simpa using I) (by simpa using s)
  .intro i y hy;rw [List.getElem?_map] at hy;cases hx:xs[i]? with| none=>rw [hx] at hy; cases hy| some x=>rw [hx] at hy; cases hy; rw [(B x).1]; exact G i x hx
  .intro i y j k g1 g2;obtain ⟨x,c,A,z,rfl⟩:=l i y j k g1 g2;exact (B x).2 j c k _ z g2 (hc i x j c A z)
  .intro i y j k g1 g2;obtain ⟨x,c,A,z,rfl⟩:=l i y j k g1 g2;exact h1 i x j c A z
theorem Ati {l:List (Nat×Nat)} {σ:A1} {ι:Br} {H:Hp} {x:AV} {v:Value} (h:Conc σ ι H x v):Conc σ ι H (J5 l x) v:=by
 unfold J5;split
 .exact h
 .split
  .rename_i _ p l _ sz xs;cases hb:Nat.ble 1000 p.1 with| false=>exact h| true=>exact .cc (h.sl_inv.mapEl _ λx=>Ath)
  .rename_i cs;obtain ⟨vs,rfl,b,hv⟩:=h.agg_inv;refine .agg _ vs (by rw [Adk]; exact b) λi c u h1 h2=>?_;obtain ⟨f,h3,rfl | ⟨h4,sz,rfl⟩⟩:=Adj h1
   .exact hv i _ u h3 h2
   .exact Y4 h4 (hv i _ u h3 h2)
  .cases hx:J2 x with| false=>exact h| true=>exact Y4 hx h
theorem B0.nils {P:Program} {o:Oper} {ρ:Operand->AV} {b:Eff} (l:List (Nat×Nat)) (h:B0 P o ρ b):B0 P o ρ ⟨J5 l b.r,b.rd,b.wr⟩ := λσ ι H F W w a next Q s hx g hk=>h σ ι H F W w a next Q s hx g λc f v w' le s' hc=>hk c f v w' le s' (Ati hc)
def Is (e:Bn) (d:Option Nat) (r:AV) (H:Hp) (b:List (Nat×Bh)) (K:Bn->Hp->Prop):Prop :=
 match d with
 | none=>
  (match b with
  | []=>K e H
  | [p]=>K e (A4 H p.1 p.2)
  | p::q::l=>K e (Cg H (p::q::l)))
 | some t=>
  (match b with
  | []=>K (A4 e t r) H
  | [p]=>K (A4 e t r) (A4 H p.1 p.2)
  | p::q::l=>K (A4 e t r) (Cg H (p::q::l)))
theorem Y5 (e:Bn) (d:Option Nat) (r:AV) (H:Hp) (b:List (Nat×Bh)) (K:Bn->Hp->Prop):Is e d r H b K=K (put e d r) (Cg H b):=by cases d <;> cases b with| nil=>rfl| cons p l=>cases l <;> rfl
def It (P:Program) (T:Cl) (an:Nat->Ann) (nl:Nat->List (Nat×Nat)) (ops:Array Oper):List Oper->List Nat->Nat->Bn->Hp->Hm->(Nat->Bn->Hp->Hm->Prop)->Prop
 | [],_,n,e,H,acc,K=>K n e H acc
 | o::os,f,n,e,H,acc,K=>
  match o.guard with
  | none=>Dw P T an n o (ev e) H λc m=>Jn (J5 (Ky nl o.dst) c.r) λr=>Lv c.wr λwr=>H7 c.rd λh=>H7 wr λg=>Is e o.dst r H wr λe H=>It P T an nl ops os f m e H (acc++[(h,g)]) K
  | some p=>
   match (ops[p.1]?).bind (·.dst) with
   | none=>False
   | some s=>
    match e s with
    | .val (.bool b)=>
     match f.elem s with
     | true=>
      (match b with
      | true=>
       (match p.2 with
       | true=>Dw P T an n o (ev e) H λc m=>Jn (J5 (Ky nl o.dst) c.r) λr=>Lv c.wr λwr=>H7 c.rd λh=>H7 wr λg=>Is e o.dst r H wr λe H=>It P T an nl ops os f m e H (acc++[(h,g)]) K
       | false=>Is e o.dst (.val undef) H [] λe H=>It P T an nl ops os f n e H (acc++[([],[])]) K)
      | false=>
       (match p.2 with
       | true=>Is e o.dst (.val undef) H [] λe H=>It P T an nl ops os f n e H (acc++[([],[])]) K
       | false=>Dw P T an n o (ev e) H λc m=>Jn (J5 (Ky nl o.dst) c.r) λr=>Lv c.wr λwr=>H7 c.rd λh=>H7 wr λg=>Is e o.dst r H wr λe H=>It P T an nl ops os f m e H (acc++[(h,g)]) K))
     | false=>
      bif b then
       (match p.2 with
       | true=>Dw P T an n o (ev (A4 e s (.val (.bool true)))) H λc m=>Jn (J5 (Ky nl o.dst) c.r) λr=>Lv c.wr λwr=>H7 c.rd λh=>H7 wr λg=>Is (A4 e s (.val (.bool true))) o.dst r H wr λe H=>It P T an nl ops os (s::f) m e H (acc++[(h,g)]) K
       | false=>Is (A4 e s (.val (.bool true))) o.dst (.val undef) H [] λe H=>It P T an nl ops os (s::f) n e H (acc++[([],[])]) K)
      else
       (match p.2 with
       | true=>Is (A4 e s (.val (.bool false))) o.dst (.val undef) H [] λe H=>It P T an nl ops os (s::f) n e H (acc++[([],[])]) K
       | false=>Dw P T an n o (ev (A4 e s (.val (.bool false)))) H λc m=>Jn (J5 (Ky nl o.dst) c.r) λr=>Lv c.wr λwr=>H7 c.rd λh=>H7 wr λg=>Is (A4 e s (.val (.bool false))) o.dst r H wr λe H=>It P T an nl ops os (s::f) m e H (acc++[(h,g)]) K)
    | .val (.tuple _)=>Is e o.dst (.val undef) H [] λe H=>It P T an nl ops os f n e H (acc++[([],[])]) K
    | _=>False
inductive Kz (ops:List Oper) (acc:Hm) (K:Prop):Prop where
 | mk (h:Ac1 ops acc=true) (k:K)
inductive Ex where
 | normal
 | exit (id:Nat)
 | ret
def Gj (e:Bn):List (Nat×AV)->Prop
 | []=>True
 | p::l=>e p.1=p.2/\Gj e l
def Gk (H H':Hp):Nat->Nat->Prop
 | 0,_=>True
 | k+1,n=>(H k=H' k/\(H' k).under n=true)/\Gk H H' k n
def I3 (b:List Nat) (e:Bn) (u:Nat->Value) (l:List (Nat×AV)):Bn:=l.foldr (λp e=>A4 e p.1 p.2) (b.foldr (λs e=>A4 e s (.val (u s))) e)
def Jo (n:Nat) (b:List (Nat×AV)) (hv:List (Nat×Bh)):Bool:=(b.all λp=>p.2.under n)&&hv.all λp=>Nat.blt p.1 n
inductive Atj (n:Nat) (ws:List Nat) (e:Bn) (H:Hp) (body:(Nat->Bn->Hp->Prop)->Nat->Bn->Hp->Prop):Prop where
 | mk (I:Type) (inv:I->Prop) (iv:I->List (Nat×AV)) (hv:I->List (Nat×Bh)) (m:I->Nat) (i0:I) (hb:∀i,Jo n (iv i) (hv i)=true)
   (h0:inv i0) (hs:Gj e (iv i0)) (hh:Gk H (Cg H (hv i0)) n n)
   (step:∀(i:I) (u:Nat->Value),inv i->body (λ_ e' H'=>∃i',inv i'/\Gj e' (iv i')/\Gk H' (Cg H (hv i')) n n/\m i' < m i) n (I3 ws e u (iv i)) (Cg H (hv i)))
def Ev:Code->List Nat
 | .region _ ops _=>ops.toList.filterMap (·.dst)
 | .seq a b=>Ev a++Ev b
 | .cond _ a b=>Ev a++Ev b
 | .block _ b=>Ev b
 | .loop b=>Ev b
 | .scope b=>Ev b
 | _=>[]
def Y6:List Nat->Bn->Hp->(Bn->Hp->Prop)->Prop
 | [],e,H,K=>K e H
 | s::b,e,H,K=> match e s with
  | .arr h k 0 len=> match H h with
   | .rows _ sz xs=>F2 k xs (F2 len xs (Y6 b (A4 e s (.sl sz xs)) (A4 H h .dead) K))
   | _=>False
  | _=>False
structure Cfg where
 T:Cl
 an:Nat->Ann:=λ_=>.std
 gh:Nat->List Nat:=λ_=>[]
 nl:Nat->List (Nat×Nat):=λ_=>[]
def Air (x:AV) (A B:Prop):Prop := match x with
 | .val (.bool t)=>bif t then A else B
 | _=>False
def vc (P:Program) (C:Cfg):Code->(Ex->Nat->Bn->Hp->Prop)->Nat->Bn->Hp->Prop
 | .skip,Q,n,e,H=>Q .normal n e H
 | .region id ops draw,Q,n,e,H=>Y6 (C.gh id) e H λe H=> It P C.T C.an C.nl ops ops.toList [] n e H [] λn e H acc=>bif draw then Kz ops.toList acc (Q .normal n e H) else Q .normal n e H
 | .seq a b,Q,n,e,H=>vc P C a (λx n e H=>match x with
   | .normal=>vc P C b Q n e H
   | .exit id=>Q (.exit id) n e H
   | .ret=>Q .ret n e H) n e H
 | .cond c a b,Q,n,e,H=>Air (ev e c) (vc P C a Q n e H) (vc P C b Q n e H)
 | .block id b,Q,n,e,H=>vc P C b (λx n e H=>match x with
   | .normal=>Q .normal n e H
   | .exit i=>bif Nat.beq i id then Q .normal n e H else Q (.exit i) n e H
   | .ret=>Q .ret n e H) n e H
 | .loop b,Q,n,e,H=>Atj n (Ev b) e H λK n e H=>vc P C b (λx n e H=>match x with
   | .normal=>K n e H
   | .exit id=>Q (.exit id) n e H
   | .ret=>Q .ret n e H) n e H
 | .exit id,Q,n,e,H=>Q (.exit id) n e H
 | .ret,Q,n,e,H=>Q .ret n e H
 | _,_,_,_,_=>False
def Ais (N:Nat) (x:Operand):Bool := match x with
 | .tmp t=>Nat.blt t N
 | _=>true
def Iu (N:Nat):Code->Bool
 | .region _ ops _=>ops.toList.all λo=>(Jm ops o).all λs=>Nat.blt s N
 | .seq a b=>Iu N a&&Iu N b
 | .cond c a b=>Ais N c&&Iu N a&&Iu N b
 | .block _ b=>Iu N b
 | .loop b=>Iu N b
 | .scope b=>Iu N b
 | _=>true
def Ex.out:Ex->Exit
 | .normal=>.normal
 | .exit id=>.exit id
 | .ret=>.ret
section
variable {P:Program} {T:Cl} {an:Nat->Ann} {nl:Nat->List (Nat×Nat)} {ops:Array Oper} {F:A1} {W:World} {Q:Exit->Act->World->Prop}
theorem Y7 {α:Type} {e:Nat->α} {s:Nat} {v:α} (h:e s=v):A4 e s v=e:=by subst h; exact Hi e s
theorem Adl (M:Cm P T):∀(os:List Oper) (g:List Nat) (i n:Nat) (e:Bn) (H:Hp) (acc:Hm) (K:Nat->Bn->Hp->Hm->Prop),ops.toList.drop i=os->acc.length=i->El H n->It P T an nl ops os g n e H acc K -> ∃f e' H' accs,K f e' H' accs/\accs.take i=acc/\accs.length=i+os.length/\n<=f/\El H' f/\Run P ops (λk=>accs.getD k ([],[])) (List.range' i os.length) e H e' H'
 | [],g,i,n,e,H,acc,K,hd,y,D,h=>⟨n,e,H,acc,h,by rw [<-y]; simp,by simpa using y,Nat.le_refl _,D,.nil e H⟩
 | o::os,g,i,n,e,H,acc,K,hd,y,D,h=>by
  have N:ops[i]? = some o:=(by have:=congrArg (λl=>l[0]?) hd;simpa using this);have A:ops.toList.drop (i+1)=os:=(by have:=congrArg (List.drop 1) hd;simpa [List.drop_drop] using this);have run:∀(u:Bn) (g:List Nat),Hk ops o u true->(Dw P T an n o (ev u) H λc m=>Jn (J5 (Ky nl o.dst) c.r) λr=>Lv c.wr λwr=>H7 c.rd λS=>H7 wr λR=>Is u o.dst r H wr λe H=>It P T an nl ops os g m e H (acc++[(S,R)]) K) ->
    ∃f e' H' accs,K f e' H' accs/\accs.take i=acc/\accs.length=i+(o::os).length/\n<=f/\El H' f/\Run P ops (λk=>accs.getD k ([],[])) (List.range' i (o::os).length) u H e' H':=by
   intro u g j x;obtain ⟨c,m,h1,h2,h3,h4,X⟩:=Aiq M D x;simp only [Sb,Ada,Adb,Y5] at h3;obtain ⟨f,e',H',accs,I,B,V,U,G,E⟩:=Adl M os g (i+1) m _ _ _ K A (by simp [y]) X h3;have L:accs[i]? = some (c.rd.map (·.1),c.wr.map (·.1)):=(by have Y:(accs.take (i+1))[i]? = accs[i]?:=List.getElem?_take_of_lt ω;rw [<-Y,B,List.getElem?_append_right ω];simp [y]);have z:accs.getD i ([],[])=(c.rd.map (·.1),c.wr.map (·.1)):=(by simp [List.getD,L]);refine ⟨f,e',H',accs,I,?_,by simp only [List.length_cons]; omega,ω,G,?_⟩
   .have:=congrArg (List.take i) B;rw [List.take_take] at this;simpa [y] using this
   .rw [List.length_cons,List.range'_succ];refine .cons o (J5 (Ky nl o.dst) c.r) c.wr ⟨N,.inl ⟨j,_,h1.nils (Ky nl o.dst),h2,?_,?_,rfl,rfl⟩⟩ E
    .intro p hp; show p.1∈(accs.getD i ([],[])).1; rw [z]; exact List.mem_map_of_mem hp
    .intro p hp; show p.1∈(accs.getD i ([],[])).2; rw [z]; exact List.mem_map_of_mem hp
  have skip:∀(u:Bn) (g:List Nat),Hk ops o u false->(Is u o.dst (.val undef) H [] λe H=>It P T an nl ops os g n e H (acc++[([],[])]) K) ->
    ∃f e' H' accs,K f e' H' accs/\accs.take i=acc/\accs.length=i+(o::os).length/\n<=f/\El H' f/\Run P ops (λk=>accs.getD k ([],[])) (List.range' i (o::os).length) u H e' H':=by
   intro u g j x;rw [Y5] at x;obtain ⟨f,e',H',accs,I,B,V,U,G,E⟩:=Adl M os g (i+1) n _ _ _ K A (by simp [y]) D x;refine ⟨f,e',H',accs,I,?_,by simp only [List.length_cons]; omega,ω,G,?_⟩
   .have:=congrArg (List.take i) B;rw [List.take_take] at this;simpa [y] using this
   .rw [List.length_cons,List.range'_succ];exact .cons o (.val undef) [] ⟨N,.inr ⟨j,rfl,rfl⟩⟩ E
  simp only [It] at h;cases q:o.guard with
  | none=>rw [q] at h;exact run e g (by unfold Hk; rw [q]) h
  | some p=>
   rw [q] at h;simp only [] at h;cases x:(ops[p.1]?).bind (·.dst) with
   | none=>rw [x] at h; exact h.elim
   | some s=>
    rw [x] at h;simp only [] at h;split at h
    .rename_i b hb;have j:∀on,on=(b==p.2)->Hk ops o e on:=(by intro on J;unfold Hk; rw [q];exact ⟨s,.bool b,x,hb,by rw [J]; cases b <;> cases p.2 <;> rfl⟩);cases hk:g.elem s with
     | true=>
      rw [hk] at h;simp only [] at h;cases b with
      | true=>cases hp:p.2 with| true=>rw [hp] at h; exact run e _ (j true (by rw [hp]; rfl)) h| false=>rw [hp] at h; exact skip e _ (j false (by rw [hp]; rfl)) h
      | false=>cases hp:p.2 with| true=>rw [hp] at h; exact skip e _ (j false (by rw [hp]; rfl)) h| false=>rw [hp] at h; exact run e _ (j true (by rw [hp]; rfl)) h
     | false=>
      rw [hk] at h;simp only [] at h;cases b with
      | true=>rw [Y7 hb] at h;simp only [cond_true] at h;cases hp:p.2 with| true=>rw [hp] at h; exact run e _ (j true (by rw [hp]; rfl)) h| false=>rw [hp] at h; exact skip e _ (j false (by rw [hp]; rfl)) h
      | false=>rw [Y7 hb] at h;simp only [cond_false] at h;cases hp:p.2 with| true=>rw [hp] at h; exact skip e _ (j false (by rw [hp]; rfl)) h| false=>rw [hp] at h; exact run e _ (j true (by rw [hp]; rfl)) h
    .rename_i vs hv;exact skip e _ (by unfold Hk; rw [q]; exact ⟨s,_,x,hv,rfl⟩) h
    .exact h.elim
end
end Go.Ab
namespace Go.Ab
section
variable {P:Program} {C:Cfg} {F:A1} {W:World}
theorem Ait {c:Code} {Q:Exit->Act->World->Prop} {a:Act} {w:World} (J:Nat->Act->World->Prop) (B:Nat) (h0:J B a w) (g:∀k a w,J k a w->c.wp P (Exit.then (λq w'=>∃s,s<k/\J s q w') Q) a w):(Code.loop c).wp P Q a w:=by
 intro b u cs;have key:∀k a w,J k a w->∃e q w',Q e q w'/\Arrives P (lone (b.at a (.code c :: .inLoop c::u)) cs w) b u cs e q w':=by
  intro k;induction k using Nat.strongRecOn with
  | _ k ih=>intro a w E;obtain ⟨e,j,i,hq,f⟩:=g k a w E b (.inLoop c::u) cs;cases e with| normal=>obtain ⟨s,z,A⟩:=hq;obtain ⟨G,I,D,y,h⟩:=ih s z j i A;exact ⟨G,I,D,y,.of_steps (Steps.trans f (.one step_inLoop)) h⟩| exit id=>exact ⟨_,j,i,hq,.pass (x:=.inLoop c) rfl (λ_ _=>.inl ψ) f⟩| goto l=>exact ⟨_,j,i,hq,.pass (x:=.inLoop c) rfl (λ_ _=>.inl ψ) f⟩| ret=>exact ⟨_,j,i,hq,.pass (x:=.inLoop c) rfl (λ_ _=>.inl ψ) f⟩| panic L=>exact ⟨_,j,i,hq,.pass (x:=.inLoop c) rfl (λ_ _=>.inl ψ) f⟩| outgrown=>exact ⟨_,j,i,hq,.pass (x:=.inLoop c) rfl (λ_ _=>.inl ψ) f⟩
 obtain ⟨e,q,w',hq,f⟩:=key B a w h0;exact ⟨e,q,w',hq,.of_steps (.one step_loop) f⟩
theorem Atk {n:Nat} {x:AV} (h:x.under2 n=true) (hx:∀cs,x≠.agg cs):x.under1 n=true:=by cases x <;> first | exact h | exact (hx _ rfl).elim
theorem Conc.restrict {σ:A1} {ι B:Br} {H H':Hp} {n:Nat} (D:∀h,h<n->B h=ι h) (G:∀h,h<n->H' h=H h) {x:AV} {v:Value} (hx:x.under n=true) (h:Conc σ ι H x v):Conc σ B H' x v:=by
 have l:∀{x:AV} {v:Value},x.under0 n=true->Conc σ ι H x v->Conc σ B H' x v:=by intro x v hx h;cases h with| cc h=>exact .cc h| loc h off b hb=>exact .loc h off b (by rw [D h (Gi hx)]; exact hb)| mp h b hb=>exact .mp h b (by rw [D h (Gi hx)]; exact hb)| arr h k off len v I hv z=>have y:=Gi hx;exact .arr h k off len v (by rw [G h y]; exact I) (by rw [D h y,G h y]; exact hv) z| el h k i j v I hv z=>have y:=Gi hx;exact .el h k i j v (by rw [G h y]; exact I) (by rw [D h y,G h y]; exact hv) z| ref cs b off C E fr g R hc h1 S=>exact .ref cs b off C E fr g R hc h1 S| agg=>cases hx| tup=>cases hx| fn=>cases hx
 have key:∀{x:AV} {v:Value},x.under1 n=true->Conc σ ι H x v->Conc σ B H' x v:=by intro x v hx h;cases x with| fn f cs=>obtain ⟨vs,rfl,A,h⟩:=h.fn_inv;exact .fn f cs vs A λi c u h1 h2=>l (List.all_eq_true.1 hx c (List.mem_of_getElem? h1)) (h i c u h1 h2)| agg cs=>cases hx| tup cs=>cases hx| val u=>exact l (x:=(.val u)) hx h| loc q off=>exact l (x:=(.loc q off)) hx h| arr q k off len=>exact l (x:=(.arr q k off len)) hx h| el q k i j=>exact l (x:=(.el q k i j)) hx h| mp q=>exact l (x:=(.mp q)) hx h| ref cs=>exact l (x:=(.ref cs)) hx h| sl sz xs=>exact l (x:=(.sl sz xs)) hx h| fb s=>exact l (x:=(.fb s)) hx h
 have cells:∀{cs:List AV},cs.all (AV.under1 n)=true->∀(i:Nat) (c:AV) (u:Value),cs[i]? = some c->Conc σ ι H c u->Conc σ B H' c u :=
  λL i c u hc h=>key (List.all_eq_true.1 L c (List.mem_of_getElem? hc)) h
 cases x with
 | agg cs=>cases h with| cc h=>exact .cc h| agg _ vs A h=>exact .agg cs vs A λi c u h1 h2=>cells hx i c u h1 (h i c u h1 h2)
 | tup cs=>
  cases h with
  | cc h=>exact .cc h
  | tup _ vs A h=>refine .tup cs vs A λi c u h1 h2=>?_;have M:=List.all_eq_true.1 hx c (List.mem_of_getElem? h1);have hc:=h i c u h1 h2;cases c with| agg ds=>obtain ⟨N,rfl,J,hv⟩:=hc.agg_inv;exact .agg ds N J λj d v g1 g2=>cells M j d v g1 (hv j d v g1 g2)| _=>exact key (Atk M (by intro cs e; cases e)) hc
 | fn f cs=>cases h with| cc h=>exact .cc h| fn _ _ vs A h=>exact .fn f cs vs A λi c u h1 h2=>cells hx i c u h1 (h i c u h1 h2)
 | val v=>exact key rfl h
 | loc h off=>exact key hx h
 | arr h k off len=>exact key hx h
 | el h k i j=>exact key hx h
 | mp h=>exact key hx h
 | ref cs=>exact key rfl h
 | sl sz xs=>exact key rfl h
 | fb s=>exact key rfl h
theorem Gk.spec {H H':Hp} {n:Nat}:∀{k:Nat},Gk H H' k n->∀h,h<k->H h=H' h/\(H' h).under n=true
 | 0,_,h,b=>ω
 | k+1,hh,h,b=>by
  by_cases e:h=k
  .subst e; exact hh.1
  .exact Gk.spec hh.2 h ω
theorem Gj.spec {e:Bn}:∀{l:List (Nat×AV)},Gj e l->∀p∈l,e p.1=p.2
 | [],_,p,hp=>by cases hp
 | q::l,h,p,hp=>by
  rcases List.mem_cons.1 hp with rfl | hp
  .exact h.1
  .exact Gj.spec h.2 p hp
theorem Aiu (c:List Nat) (e:Bn) (u:Nat->Value) (l:List (Nat×AV)) (s:Nat):(∃p∈l,p.1=s/\I3 c e u l s=p.2)\/(s∈c/\I3 c e u l s = .val (u s))\/(s ∉ c/\I3 c e u l s=e s):=by
 have base:(s∈c/\(c.foldr (λs e=>A4 e s (.val (u s))) e) s = .val (u s))\/(s ∉ c/\(c.foldr (λs e=>A4 e s (.val (u s))) e) s=e s):=by
  induction c with
  | nil=>exact .inr ⟨ψ,rfl⟩
  | cons t c ih=>
   simp only [List.foldr_cons];by_cases b:s=t
   .subst b; exact .inl ⟨ψ,Ce _ _ _⟩
   .rw [Cz _ _ b];rcases ih with ⟨h1,h2⟩ | ⟨h1,h2⟩
    .exact .inl ⟨by simp [h1],h2⟩
    .exact .inr ⟨by simp [h1,b],h2⟩
 unfold I3;induction l with
 | nil=>exact .inr base
 | cons p l ih=>
  simp only [List.foldr_cons];by_cases b:s=p.1
  .exact .inl ⟨p,ψ,b.symm,by rw [b]; exact Ce _ _ _⟩
  .rw [Cz _ _ b];rcases ih with ⟨q,hq,h1,h2⟩ | h | h
   .exact .inl ⟨q,by simp [hq],h1,h2⟩
   .exact .inr (.inl h)
   .exact .inr (.inr h)
theorem Aiv:∀(i:List Nat) {e:Bn} {H:Hp} {K:Bn->Hp->Prop} {n:Nat} {σ:A1} {ι:Br} {a:Act} {w:World},Y6 i e H K->St σ ι H F W w->Ea σ ι H e a->El H n -> ∃g e' H',K e' H'/\Le σ ι H g ι H'/\St g ι H' F W w/\Ea g ι H' e' a/\El H' n
 | [],e,H,K,n,σ,ι,a,w,h,s,f,c=>⟨σ,e,H,h,Le.refl _ _ _,s,f,c⟩
 | t::i,e,H,K,n,σ,ι,a,w,h,s,f,c=>by
  simp only [Y6] at h;split at h
  .rename_i hd k len hx;split at h
   .rename_i E sz xs hh;obtain ⟨hk,R,h⟩:=h;obtain ⟨B,b,D,u⟩:=s.freeze hh;have x:Ea B ι (A4 H hd .dead) (A4 e t (.sl sz xs)) a:=by
     intro q hq;by_cases z:q=t
     .subst z;rw [Ce];have hc:=f q hq;rw [hx] at hc;have:=u 0 len _ ω (hc.arr_inv hh hk);rw [List.drop_zero,List.take_of_length_le ω] at this;exact .cc this
     .rw [Cz _ _ z]; exact (f q hq).mono b
    have j:El (A4 H hd .dead) n:=(by intro m y;have l:hd≠m:=(by intro e2; subst e2;have:=c hd y; rw [hh] at this; cases this);rw [Cz _ _ (Ne.symm l)]; exact c m y);obtain ⟨A,e2,N,M,L,J,I,G⟩:=Aiv i h D x j;exact ⟨A,e2,N,M,b.trans L,J,I,G⟩
   .exact h.elim
  .exact h.elim
theorem Aiw {N:Nat} {ops:Array Oper} (h:(ops.toList.all λo=>(Jm ops o).all λs=>Nat.blt s N)=true):Yn ops N:=by intro i o c s b;rw [List.all_eq_true] at h;have:=h o (by simpa using Array.mem_of_getElem? c);rw [List.all_eq_true] at this;exact Gi (this s b)
theorem Py (hT:Cm P C.T) (hm:P.follows .mixedOrders=true):∀(c:Code) (Q':Ex->Nat->Bn->Hp->Prop) (n:Nat) (e:Bn) (H:Hp) (σ:A1) (ι:Br) (a:Act) (w:World) (Q:Exit->Act->World->Prop), Iu a.tmps.size c=true->vc P C c Q' n e H->St σ ι H F W w->Ea σ ι H e a->El H n -> (∀x n' e' H' σ' ι' a' w',Q' x n' e' H'->Le σ ι H σ' ι' H'->St σ' ι' H' F W w'->Ea σ' ι' H' e' a'->El H' n'->n<=n'->a'.tmps.size=a.tmps.size->a'.defers=a.defers->Eu (Ev c) a a'->Q x.out a' w')->c.wp P Q a w
 | .skip,Q',n,e,H,σ,ι,a,w,Q,_,h,s,U,S,hk=>wp_skip (hk .normal n e H σ ι a w h (Le.refl _ _ _) s U S (Nat.le_refl _) rfl rfl (Eu.refl _ _))
 | .exit id,Q',n,e,H,σ,ι,a,w,Q,_,h,s,U,S,hk=>wp_exit (hk (.exit id) n e H σ ι a w h (Le.refl _ _ _) s U S (Nat.le_refl _) rfl rfl (Eu.refl _ _))
 | .ret,Q',n,e,H,σ,ι,a,w,Q,_,h,s,U,S,hk=>wp_ret (hk .ret n e H σ ι a w h (Le.refl _ _ _) s U S (Nat.le_refl _) rfl rfl (Eu.refl _ _))
 | .region id ops draw,Q',n,e,H,σ,ι,a,w,Q,u,h,s,U,S,hk=>by
  simp only [vc] at h;obtain ⟨σ0,e0,b3,h,ap,s0,az,ba⟩:=Aiv _ h s U S;obtain ⟨n',e',H',accs,hK,_,bg,av,hf,aj⟩:=Adl hT ops.toList [] 0 n e0 b3 [] _ ψ rfl ba h;have ar:=Aiw u;cases draw with
  | false=>simp only [cond_false] at hK;refine wp_region ?_;have:List.range ops.size=List.range' 0 ops.toList.length:=(by rw [List.range_eq_range']; simp);rw [this];refine aj.wpOps s0 az ar ?_;intro σ' ι' a' w' le s' ao g l hu;exact hk .normal n' e' H' σ' ι' a' w' hK (ap.trans le) s' ao hf av g l hu
  | true=>
   simp only [cond_true] at hK;obtain ⟨b9,hK⟩:=hK;refine wp_region_any hm ?_;have L:ops=ops.toList.toArray:=ψ;rw [L];simp only [List.size_toArray];refine Ac3 (accs:=accs) (e':=e') (H':=H') b9 ops.toList.length _ (List.range' 0 ops.toList.length) e0 b3 σ0 ι a _ (by rw [<-L]; exact aj) (List.pairwise_lt_range' ..) ?_ ψ ?_ ψ (s0.drew _) az (by rw [<-L]; exact ar) ?_
   .intro i;simp only [List.mem_range'_1,Array.getD_eq_getD_getElem?];constructor
    .rintro ⟨_,h2⟩;refine ⟨ω,?_⟩;have:i<ops.size:=(by simpa using h2);simp [this]
    .rintro ⟨h1,_⟩; omega
   .intro k o bf hl;exfalso;simp only [Array.getD_eq_getD_getElem?] at hl;by_cases ah:k<ops.size
    .simp [ah] at hl
    .simp [ah] at hl
   .intro σ' ι' a' w' le s' ao g l hu;exact hk .normal n' e' H' σ' ι' a' w' hK (ap.trans le) s' ao hf av g l (by rw [<-L] at hu; exact hu)
 | .seq c1 c2,Q',n,e,H,σ,ι,a,w,Q,u,h,s,U,S,hk=>by simp only [Iu,Bool.and_eq_true] at u;simp only [vc] at h;refine wp_seq (Py hT hm c1 _ n e H σ ι a w _ u.1 h s U S ?_);intro x n1 L N D G a1 R hq f A j z B g l hu;cases x with| normal=>refine Py hT hm c2 Q' n1 L N D G a1 R Q (by rw [g]; exact u.2) hq A j z ?_;intro x n2 e2 H2 σ2 ι2 a2 w2 b8 V s2 ae ag ac X Y ab;exact hk x n2 e2 H2 σ2 ι2 a2 w2 b8 (f.trans V) s2 ae ag ω (X.trans g) (Y.trans l) ((hu.mono (by simp [Ev]; exact λs h=>.inl h)).trans (ab.mono (by simp [Ev]; exact λs h=>.inr h)))| exit id=>exact hk (.exit id) n1 L N D G a1 R hq f A j z B g l (hu.mono (by simp [Ev]; exact λs h=>.inl h))| ret=>exact hk .ret n1 L N D G a1 R hq f A j z B g l (hu.mono (by simp [Ev]; exact λs h=>.inl h))
 | .cond x c1 c2,Q',n,e,H,σ,ι,a,w,Q,u,h,s,U,S,hk=>by
  simp only [Iu,Bool.and_eq_true] at u;simp only [vc,Air] at h;split at h
  .rename_i t hx;have hc:=U.eval (x:=x) (λt ht=>by cases x with| tmp q=>cases ht; exact Gi u.1.1| _=>cases ht)
   rw [hx] at hc;have hv:=hc.val_inv;cases t with| true=>refine wp_cond_true hv (Py hT hm c1 Q' n e H σ ι a w Q u.1.2 h s U S ?_);intro x n1 L N D G a1 R hq f A j z B g l hu;exact hk x n1 L N D G a1 R hq f A j z B g l (hu.mono (by simp [Ev]; exact λs h=>.inl h))| false=>refine wp_cond_false hv (Py hT hm c2 Q' n e H σ ι a w Q u.2 h s U S ?_);intro x n1 L N D G a1 R hq f A j z B g l hu;exact hk x n1 L N D G a1 R hq f A j z B g l (hu.mono (by simp [Ev]; exact λs h=>.inr h))
  .exact h.elim
 | .block id c,Q',n,e,H,σ,ι,a,w,Q,u,h,s,U,S,hk=>by
  simp only [vc] at h;refine wp_block (Py hT hm c _ n e H σ ι a w _ u h s U S ?_);intro x n1 L N D G a1 R hq f A j z B g l hu;cases x with
  | normal=>exact hk .normal n1 L N D G a1 R hq f A j z B g l hu
  | exit i=>
   simp only [Ex.out,Exit.inBlock];by_cases hi:i=id
   .subst hi;rw [if_pos rfl];have:Nat.beq i i=true:=Nat.beq_refl i;simp only [this,cond_true] at hq;exact hk .normal n1 L N D G a1 R hq f A j z B g l hu
   .rw [if_neg hi];have:Nat.beq i id=false:=by
     cases hb:Nat.beq i id
     .rfl
     .exact (hi (Nat.eq_of_beq_eq_true hb)).elim
    simp only [this,cond_false] at hq;exact hk (.exit i) n1 L N D G a1 R hq f A j z B g l hu
  | ret=>exact hk .ret n1 L N D G a1 R hq f A j z B g l hu
 | .loop c,Q',n,e,H,σ,ι,a,w,Q,u,h,s,U,S,hk=>by
  simp only [vc] at h;obtain ⟨I,aq,iv,hv,m,i0,hb,h0,b6,bd,step⟩:=h;have b4:∀x,n<=x->ι x = .none:=(by intro x hx;have:=s.obj x; unfold Ci at this; rw [S x hx] at this; exact this);have am:∀i,∀p∈hv i,p.1<n:=(by intro i p hp;have:=hb i;unfold Jo at this;rw [Bool.and_eq_true,List.all_eq_true,List.all_eq_true] at this;exact Gi (this.2 p hp));have ax:∀i,∀p∈iv i,p.2.under n=true:=(by intro i p hp;have:=hb i;unfold Jo at this;rw [Bool.and_eq_true,List.all_eq_true,List.all_eq_true] at this;exact this.1 p hp);have ai:∀i,El (Cg H (hv i)) n:=(by intro i x hx;rw [R5 (λp hp e=>by have:=am i p hp; omega)]; exact S x hx);let J:Nat->Act->World->Prop:=λk a' w'=>∃i σ' ι',m i=k/\aq i/\Le σ ι H σ' ι' (Cg H (hv i))/\St σ' ι' (Cg H (hv i)) F W w' /\
   Ea σ' ι' (Cg H (hv i)) (I3 (Ev c) e (λs=>a'.tmps.getD s undef) (iv i)) a'/\a'.tmps.size=a.tmps.size/\a'.defers=a.defers/\Eu (Ev c) a a'
  have a6:∀(i:I) (D:A1) (G:Br) (N:Hp) (L:Bn) (a1:Act) (R:World),aq i->Gj L (iv i)->Gk N (Cg H (hv i)) n n->Le σ ι H D G N->St D G N F W R->Ea D G N L a1->a1.tmps.size=a.tmps.size ->
    a1.defers=a.defers->Eu (Ev c) a a1->J (m i) a1 R:=by
   intro i D G N L a1 R hi au ay f A j M Z a8;let ι2:Br:=λx=>if x<n then G x else .none
   have a7:∀x,x<n->ι2 x=G x:=λx hx=>if_pos hx;have aa:∀x,x<n->Cg H (hv i) x=N x:=λx hx=>((ay.spec) x hx).1.symm;have V:Le σ ι H D ι2 (Cg H (hv i)):=by
    refine ⟨f.sto,λx=>?_⟩;by_cases hx:x<n
    .rw [a7 x hx,aa x hx]; exact f.obj x
    .rw [b4 x ω,S x ω]; exact HLe.of_none
   have s2:St D ι2 (Cg H (hv i)) F W R:=by
    refine ⟨A.sto,A.fra,λx=>?_,?_,A.os,A.tape,A.output,A.glo,A.drw⟩
    .by_cases hx:x<n
     .have ho:=A.obj x;have ak:=((ay.spec) x hx).2;unfold Ci at ho ⊢;rw [aa x hx] at ak ⊢;rw [a7 x hx];cases af:N x with
      | none=>rw [af] at ho; exact ho
      | dead=>trivial
      | cells E cs=>rw [af] at ho ak;obtain ⟨b,Cc,g1,g2,g3,g4,g5,g6⟩:=ho;refine ⟨b,Cc,g1,g2,g3,g4,g5,λq cq v hq b5=>(g6 q cq v hq b5).restrict a7 aa ?_⟩;have:=List.all_eq_true.1 ak cq (List.mem_of_getElem? hq);exact Adf this
      | rows E sz xs=>rw [af] at ho; exact ho
      | map es=>rw [af] at ho; exact ho
     .unfold Ci;rw [ai i x ω];exact if_neg hx
    .intro x y b lx ly bx b0;have hx:x<n:=by
      rcases Nat.lt_or_ge x n with hx | hx
      .exact hx
      .rw [ai i x hx] at lx; cases lx
     have hy:y<n:=by
      rcases Nat.lt_or_ge y n with hy | hy
      .exact hy
      .rw [ai i y hy] at ly; cases ly
     rw [aa x hx] at lx; rw [aa y hy] at ly;rw [a7 x hx] at bx; rw [a7 y hy] at b0;exact A.inj x y b lx ly bx b0
   refine ⟨i,D,ι2,rfl,hi,V,s2,?_,M,Z,a8⟩;intro q hq;rcases Aiu (Ev c) e (λs=>a1.tmps.getD s undef) (iv i) q with ⟨p,hp,rfl,ad⟩ | ⟨hw,ad⟩ | ⟨hw,ad⟩
   .rw [ad,<-au.spec p hp];refine (j p.1 hq).restrict a7 aa ?_;rw [au.spec p hp]; exact ax i p hp
   .rw [ad]; exact .of_val _
   .rw [ad,a8 q hw]; exact (U q ω).mono V
  refine Ait J (m i0) (a6 i0 σ ι H e a w h0 b6 bd (Le.refl _ _ _) s U rfl rfl (Eu.refl _ _)) ?_;rintro k a1 R ⟨i,D,G,rfl,hi,f,A,j,M,Z,a8⟩;refine Py hT hm c _ n _ _ D G a1 R _ (by rw [M]; exact u) (step i (λs=>a1.tmps.getD s undef) hi) A j (ai i) ?_;intro x n2 e2 H2 σ2 ι2 a2 w2 hq V s2 ae ag ac X Y ab;cases x with| normal=>obtain ⟨i',bb,b7,be,ah⟩:=hq;exact ⟨m i',ah,a6 i' σ2 ι2 H2 e2 a2 w2 bb b7 be (f.trans V) s2 ae (X.trans M) (Y.trans Z) (a8.trans ab)⟩| exit id=>exact hk (.exit id) n2 e2 H2 σ2 ι2 a2 w2 hq (f.trans V) s2 ae ag ac (X.trans M) (Y.trans Z) (a8.trans ab)| ret=>exact hk .ret n2 e2 H2 σ2 ι2 a2 w2 hq (f.trans V) s2 ae ag ac (X.trans M) (Y.trans Z) (a8.trans ab)
 | .rangeFunc ..,_,_,_,_,_,_,_,_,_,_,h,_,_,_,_=>by simp only [vc] at h
 | .scope _,_,_,_,_,_,_,_,_,_,_,h,_,_,_,_=>by simp only [vc] at h
 | .label _,_,_,_,_,_,_,_,_,_,_,h,_,_,_,_=>by simp only [vc] at h
 | .goto _,_,_,_,_,_,_,_,_,_,_,h,_,_,_,_=>by simp only [vc] at h
 | .refuse _,_,_,_,_,_,_,_,_,_,_,h,_,_,_,_=>by simp only [vc] at h
end
end Go.Ab
namespace Go.Ab
def Y8 (T:Cl) (e:Bn) (H:Hp):ResultVar->Option AV
 | .tmp t=>some (e t)
 | .cell a t=> match e a with
  | .loc h off=> match H h with
   | .cells _ cs=> match T t with
    | some i=>bif i.isAgg then (bif Nat.ble (off+i.size) cs.length then some (.agg ((cs.drop off).take i.size)) else none) else cs[off]?
    | none=>none
   | _=>none
  | _=>none
def Y9 (x:AV) (H:Hp) (K:AV->Hp->Prop):Prop := match x with
 | .arr h k 0 len=> match H h with
  | .rows _ sz xs=>F2 k xs (F2 len xs (K (.sl sz xs) (A4 H h .dead)))
  | _=>False
 | x=>K x H
def Za:List AV->Hp->(List AV->Hp->Prop)->Prop
 | [],H,K=>K [] H
 | x::xs,H,K=>Y9 x H λy H=>Za xs H λys H=>K (y::ys) H
def fin (x:AV) (H:Hp) (K:AV->Hp->Prop):Prop := match x with
 | .agg cs=>Za cs H λcs H=>K (.agg cs) H
 | x=>Y9 x H K
def Zb:List AV->Hp->(List AV->Prop)->Prop
 | [],_,K=>K []
 | x::xs,H,K=>fin x H λy H=>Zb xs H λys=>K (y::ys)
def Se (T:Cl) (e:Bn) (H:Hp):List ResultVar->Option (List AV)
 | []=>some []
 | r::rs=> match Y8 T e H r with
  | none=>none
  | some x=> match Se T e H rs with
   | none=>none
   | some xs=>some (x::xs)
def Ux:List AV->AV
 | [x]=>x
 | xs=>.tup xs
def Pz (T:Cl) (b:List ResultVar) (K:AV->Prop) (e:Bn) (H:Hp):Prop := match Se T e H b with
 | none=>False
 | some xs=>Zb xs H λys=>K (Ux ys)
def Sf (args:List AV):Bn:=λn=>args.getD n (.val undef)
def P0:ResultVar->Nat
 | .tmp t=>t
 | .cell a _=>a
def Sg (fn:Func) (c:Code) (k:Nat):Bool:=Iu fn.ntmps c&&(fn.results.toList.all λr=>Nat.blt (P0 r) fn.ntmps)&&Nat.ble k fn.ntmps
section
variable {P:Program} {T:Cl} {F:A1} {W w:World}
theorem Aix {x:AV} {H:Hp} {K:AV->Hp->Prop} {σ:A1} {ι:Br} {v:Value} (h:Y9 x H K) (s:St σ ι H F W w) (hc:Conc σ ι H x v) : ∃b y H',K y H'/\Le σ ι H b ι H'/\St b ι H' F W w/\Conc b ι H' y v:=by
 unfold Y9 at h;split at h
 .rename_i hd k len;split at h
  .rename_i E sz xs hh;obtain ⟨hk,j,h⟩:=h;obtain ⟨g,c,i,f⟩:=s.freeze hh;refine ⟨g,.sl sz xs,A4 H hd .dead,h,c,i,.cc ?_⟩;have:=f 0 len _ ω (hc.arr_inv hh hk);rwa [List.drop_zero,List.take_of_length_le ω] at this
  .exact h.elim
 .exact ⟨σ,_,H,h,Le.refl _ _ _,s,hc⟩
theorem Aiy:∀{cs:List AV} {vs:List Value} {H:Hp} {K:List AV->Hp->Prop} {σ:A1} {ι:Br},Za cs H K->St σ ι H F W w->vs.length=cs.length->(∀(i:Nat) (c:AV) (v:Value),cs[i]? = some c->vs[i]? = some v->Conc σ ι H c v) -> ∃j ys H',K ys H'/\Le σ ι H j ι H'/\St j ι H' F W w/\vs.length=ys.length/\∀(i:Nat) (c:AV) (v:Value),ys[i]? = some c->vs[i]? = some v->Conc j ι H' c v
 | [],vs,H,K,σ,ι,h,s,g,hc=>⟨σ,[],H,h,Le.refl _ _ _,s,g,hc⟩
 | x::cs,[],H,K,σ,ι,h,s,g,hc=>by simp at g
 | x::cs,v::vs,H,K,σ,ι,h,s,g,hc=>by simp only [Za] at h;obtain ⟨E,y,G,h1,f,z,B⟩:=Aix h s (hc 0 x v ψ ψ);obtain ⟨l,ys,D,h2,b,q,k,A⟩:=Aiy (vs:=vs) h1 z (by simpa using g) (λi c u hi hu=>(hc (i+1) c u (by simpa using hi) (by simpa using hu)).mono f);refine ⟨l,y::ys,D,h2,f.trans b,q,by simp [k],λi c u hi hu=>?_⟩;cases i with| zero=>simp at hi hu; subst hi; subst hu; exact B.mono b| succ i=>exact A i c u (by simpa using hi) (by simpa using hu)
theorem Aiz {x:AV} {H:Hp} {K:AV->Hp->Prop} {σ:A1} {ι:Br} {v:Value} (h:fin x H K) (s:St σ ι H F W w) (hc:Conc σ ι H x v) : ∃b y H',K y H'/\Le σ ι H b ι H'/\St b ι H' F W w/\Conc b ι H' y v:=by
 unfold fin at h;split at h
 .rename_i cs;obtain ⟨vs,rfl,l,hv⟩:=hc.agg_inv;obtain ⟨j,ys,z,h1,f,k,g,q⟩:=Aiy (vs:=vs.toList) h s (by simpa using l) (λi c u hi hu=>hv i c u hi (by simpa using hu));exact ⟨j,.agg ys,z,h1,f,k,.agg ys vs (by simpa using g) (λi c u hi hu=>q i c u hi (by simpa using hu))⟩
 .exact Aix h s hc
theorem Ai0:∀{xs:List AV} {vs:List Value} {H:Hp} {K:List AV->Prop} {σ:A1} {ι:Br},Zb xs H K->St σ ι H F W w->vs.length=xs.length->(∀(i:Nat) (c:AV) (v:Value),xs[i]? = some c->vs[i]? = some v->Conc σ ι H c v) -> ∃j ys H',K ys/\Le σ ι H j ι H'/\St j ι H' F W w/\vs.length=ys.length/\∀(i:Nat) (c:AV) (v:Value),ys[i]? = some c->vs[i]? = some v->Conc j ι H' c v
 | [],vs,H,K,σ,ι,h,s,g,hc=>⟨σ,[],H,h,Le.refl _ _ _,s,g,hc⟩
 | x::cs,[],H,K,σ,ι,h,s,g,hc=>by simp at g
 | x::cs,v::vs,H,K,σ,ι,h,s,g,hc=>by simp only [Zb] at h;obtain ⟨E,y,G,h1,f,z,B⟩:=Aiz h s (hc 0 x v ψ ψ);obtain ⟨l,ys,D,h2,b,q,k,A⟩:=Ai0 (vs:=vs) h1 z (by simpa using g) (λi c u hi hu=>(hc (i+1) c u (by simpa using hi) (by simpa using hu)).mono f);refine ⟨l,y::ys,D,h2,f.trans b,q,by simp [k],λi c u hi hu=>?_⟩;cases i with| zero=>simp at hi hu; subst hi; subst hu; exact B.mono b| succ i=>exact A i c u (by simpa using hi) (by simpa using hu)
def P1 (b:Array Value):ResultVar->Sem Value
 | .tmp t=>pure (b.getD t undef)
 | .cell a t=>do loadVar t (<-asAddr (b.getD a undef))
theorem Atl (B:Cm P T) {e:Bn} {H:Hp} {σ:A1} {ι:Br} {a:Act} (s:St σ ι H F W w) (A:Ea σ ι H e a) {r:ResultVar} {x:AV} (z:P0 r<a.tmps.size) (h:Y8 T e H r=some x) : ∃v,(P1 a.tmps r).run P w = .ok v w/\Conc σ ι H x v:=by
 cases r with
 | tmp t=>simp only [Y8] at h; cases h;exact ⟨_,rfl,A t z⟩
 | cell p t=>
  simp only [Y8] at h;split at h
  .rename_i hd off hx;split at h
   .rename_i E cs hh;split at h
    .rename_i i ht;have hc:=A p z;rw [hx] at hc;obtain ⟨b,hb,hv⟩:=hc.loc_inv;have k:=s.obj hd;unfold Ci at k; rw [hh] at k;obtain ⟨J,C,I,_,_,h3,h4,G⟩:=k;rw [hb] at I; cases I;have h1:=X9 (B t i ht) w;cases y:i.isAgg with
     | true=>rw [y] at h h1;simp only [cond_true] at h;cases g:Nat.ble (off+i.size) cs.length with| false=>rw [g] at h; cases h| true=>rw [g] at h; cases h;have g:=Nat.le_of_ble_eq_true g;have h2:=Ks (B t i ht) w;have D:=run_loadCells_list (P:=P) w ⟨b,off,none⟩ ((C.toList.drop off).take i.size) (by intro j v hj;have f:j<i.size:=(by have:=(List.getElem?_eq_some_iff.1 hj).1; simp at this; omega);rw [List.getElem?_take_of_lt f,List.getElem?_drop,Array.getElem?_toList] at hj;rw [I2,Ig h3]; exact hj);have q:((C.toList.drop off).take i.size).length=i.size:=(by simp; omega);rw [q] at D;refine ⟨_,by simp only [P1,hv,asAddr,Sem.run_bind,Sem.run_pure,Result.andThen_ok,loadVar,h1,if_true,h2,D]; rfl,?_⟩;refine .agg _ _ (by simp; omega) (λj c u g1 g2=>?_);have f:j<i.size:=(by have:=(List.getElem?_eq_some_iff.1 g1).1; simp at this; omega);rw [List.getElem?_take_of_lt f,List.getElem?_drop] at g1;rw [List.getElem?_toArray,List.getElem?_take_of_lt f,List.getElem?_drop,Array.getElem?_toList] at g2;exact G _ c u g1 g2
     | false=>rw [y] at h h1;simp only [cond_false] at h;have f:off<C.size:=(by rw [h4]; exact (List.getElem?_eq_some_iff.1 h).1);have l:w.cell? ⟨b,off,none⟩=some C[off]:=(by rw [Ig h3]; simp [f]);exact ⟨C[off],by simp [P1,hv,asAddr,loadVar,h1,l],G off x _ h (by simp [f])⟩
    .cases h
   .cases h
  .cases h
theorem Adm (k:Cm P T) {e:Bn} {H:Hp} {σ:A1} {ι:Br} {a:Act} (s:St σ ι H F W w) (j:Ea σ ι H e a):∀{b:List ResultVar} {xs:List AV},(∀r∈b,P0 r<a.tmps.size)->Se T e H b=some xs -> ∃vs:List Value,(b.mapM (P1 a.tmps)).run P w = .ok vs w/\vs.length=xs.length/\∀(i:Nat) (c:AV) (v:Value),xs[i]? = some c->vs[i]? = some v->Conc σ ι H c v
 | [],xs,_,h=>by simp only [Se] at h; cases h;exact ⟨[],ψ,rfl,ψ⟩
 | r::b,xs,g,h=>by
  simp only [Se] at h;split at h
  .cases h
  .rename_i x hx;split at h
   .cases h
   .rename_i ys hy;cases h;obtain ⟨v,h1,z⟩:=Atl k s j (g r ψ) hx;obtain ⟨vs,h2,q,y⟩:=Adm k s j (λl f=>g l (by simp [f])) hy;refine ⟨v::vs,by simp [List.mapM_cons,h1,h2],by simp [q],λi c u hi hu=>?_⟩;cases i with| zero=>simp at hi hu; subst hi; subst hu; exact z| succ i=>exact y i c u (by simpa using hi) (by simpa using hu)
theorem Ai1 (fn:Func) (b:Array Value):results fn b=(fn.results.mapM (P1 b) >>= λvs=>pure (if h:vs.size=1 then vs[0] else .tuple vs)):=by unfold results;congr 1
theorem Atm (A:Cm P T) {fn:Func} {K:AV->Prop} {e:Bn} {H:Hp} {σ:A1} {ι:Br} {a:Act} (s:St σ ι H F W w) (z:Ea σ ι H e a) (q:∀r∈fn.results.toList,P0 r<a.tmps.size) (h:Pz T fn.results.toList K e H) : ∃v f H' r,(results fn a.tmps).run P w = .ok v w/\K r/\Le σ ι H f ι H'/\St f ι H' F W w/\Conc f ι H' r v:=by
 unfold Pz at h;split at h
 .exact h.elim
 .rename_i xs hx;obtain ⟨vs,h1,x,B⟩:=Adm A s z q hx;obtain ⟨f,ys,H',k,le,s',b,j⟩:=Ai0 h s x B;have g:(fn.results.mapM (P1 a.tmps)).run P w = .ok vs.toArray w:=(by rw [Array.mapM_eq_mapM_toList];simp [h1]);refine ⟨if h:vs.toArray.size=1 then vs.toArray[0] else .tuple vs.toArray,f,H',Ux ys,?_,k,le,s',?_⟩
  .rw [Ai1,Sem.run_bind,g]; rfl
  .match ys,vs,b,j with| [y],[v],_,j=>exact j 0 y v rfl rfl| [],[],_,_=>exact .tup [] #[] rfl ψ| y::D::ys,v::l::vs,b,j=>have:¬(v::l::vs).toArray.size=1:=ψ;rw [dif_neg this];exact .tup _ _ (by simpa using b) (λi c u hi hu=>j i c u hi (by simpa using hu))| [],_::_,b,_=>simp at b| _::_,[],b,_=>simp at b| [_],_::_::_,b,_=>simp at b| _::_::_,[_],b,_=>simp at b
theorem St.forget {σ:A1} {ι:Br} {H:Hp} (s:St σ ι H F W w):St σ ι0 H0 F W w := ⟨s.sto,s.fra,λ_=>rfl,(λ_ _ _ b=>by cases b),s.os,s.tape,s.output,s.glo,s.drw⟩
theorem Ai2 {σ:A1} {ι:Br} {H:Hp} {args:List AV} {vs:Array Value} {N:Nat} (h:Kt σ ι H args vs):Ea σ ι H (Sf args) ⟨vs++Array.replicate (N-vs.size) undef,[]⟩:=by
 intro q hq;simp only [Sf,Array.getD_eq_getD_getElem?];by_cases b:q<args.length
 .have hq':q<vs.size:=(by rw [h.1]; exact b);rw [Array.getElem?_append_left hq'];have h1:args[q]? = some args[q]:=List.getElem?_eq_getElem b;have h2:vs[q]? = some vs[q]:=Array.getElem?_eq_getElem hq';have:=h.2 q _ _ h1 h2;simpa [List.getD,h1,h2] using this
 .rw [Array.getElem?_append_right (by rw [h.1]; omega)];have h1:args[q]? = none:=List.getElem?_eq_none ω;have hq':q-vs.size<N-vs.size:=(by simp at hq;have:=h.1;omega);simp only [List.getD,h1,Option.getD_none];simp [hq'];exact .of_val undef
end
end Go.Ab
namespace Go.Ab
inductive Tr where
 | leaf
 | node (l:Tr) (k:Nat) (v:TI) (r:Tr)
def Tr.find:Tr->Nat->Option TI
 | .leaf,_=>none
 | .node l k v r,t=>bif Nat.beq t k then some v else bif Nat.blt t k then l.find t else r.find t
def Tr.toList:Tr->List (Nat×TI)
 | .leaf=>[]
 | .node l k v r=>l.toList++(k,v)::r.toList
theorem Tr.find_mem:∀(t:Tr) (k:Nat) (v:TI),t.find k=some v->(k,v)∈t.toList
 | .leaf,k,v,h=>by cases h
 | .node l b f r,k,v,h=>by
  simp only [Tr.find] at h;simp only [Tr.toList,List.mem_append,List.mem_cons];cases hb:Nat.beq k b with
  | true=>rw [hb] at h; simp only [cond_true] at h; cases h;rw [Nat.eq_of_beq_eq_true hb];exact .inr (.inl rfl)
  | false=>rw [hb] at h; simp only [cond_false] at h;cases c:Nat.blt k b with| true=>rw [c] at h; exact .inl (Tr.find_mem l k v h)| false=>rw [c] at h; exact .inr (.inr (Tr.find_mem r k v h))
theorem Tr.ok {P:Program} {t:Tr} (h:t.toList.map (λp=>Gy P p.1)=t.toList.map (λp=>some p.2)):Cm P t.find:=by intro k v hk;have b:=t.find_mem k v hk;obtain ⟨i,hi⟩:=List.getElem?_of_mem b;have:=congrArg (λl=>l[i]?) h;simpa [hi] using this
end Go.Ab
namespace Go.Ab
def Zc:List AV->Hp->(List AV->Hp->Prop)->Prop
 | [],H,K=>K [] H
 | x::xs,H,K=>fin x H λy H=>Zc xs H λys H=>K (y::ys) H
def Nq (H:Hp):Nat->List Bh->Prop
 | _,[]=>True
 | k,o::os=>H k=o/\Nq H (k+1) os
def P3 (T:Cl) (fz:Bool) (c:List ResultVar) (r:AV) (b:List Bh) (e:Bn) (H:Hp):Prop := match Se T e H c with
 | none=>False
 | some xs=>bif fz then Zc xs H λys H=>Ux ys=r/\Nq H 0 b else Ux xs=r/\Nq H 0 b
section
variable {P:Program} {T:Cl} {F:A1} {W w:World}
theorem Nq.spec {H:Hp}:∀{os:List Bh} {k:Nat},Nq H k os->∀i,i<os.length->H (k+i)=hp os i
 | [],k,_,i,hi=>by simp at hi
 | o::os,k,h,0,_=>by simpa [hp] using h.1
 | o::os,k,h,i+1,hi=>by have:=Nq.spec h.2 i (by simpa using hi);rw [show k+(i+1)=k+1+i by omega,this];simp [hp]
theorem Ai3:∀{xs:List AV} {vs:List Value} {H:Hp} {K:List AV->Hp->Prop} {σ:A1} {ι:Br},Zc xs H K->St σ ι H F W w->vs.length=xs.length->(∀(i:Nat) (c:AV) (v:Value),xs[i]? = some c->vs[i]? = some v->Conc σ ι H c v) -> ∃j ys H',K ys H'/\Le σ ι H j ι H'/\St j ι H' F W w/\vs.length=ys.length/\∀(i:Nat) (c:AV) (v:Value),ys[i]? = some c->vs[i]? = some v->Conc j ι H' c v
 | [],vs,H,K,σ,ι,h,s,g,hc=>⟨σ,[],H,h,Le.refl _ _ _,s,g,hc⟩
 | x::cs,[],H,K,σ,ι,h,s,g,hc=>by simp at g
 | x::cs,v::vs,H,K,σ,ι,h,s,g,hc=>by simp only [Zc] at h;obtain ⟨E,y,G,h1,f,z,B⟩:=Aiz h s (hc 0 x v ψ ψ);obtain ⟨l,ys,D,h2,b,q,k,A⟩:=Ai3 (vs:=vs) h1 z (by simpa using g) (λi c u hi hu=>(hc (i+1) c u (by simpa using hi) (by simpa using hu)).mono f);refine ⟨l,y::ys,D,h2,f.trans b,q,by simp [k],λi c u hi hu=>?_⟩;cases i with| zero=>simp at hi hu; subst hi; subst hu; exact B.mono b| succ i=>exact A i c u (by simpa using hi) (by simpa using hu)
theorem Atn (D:Cm P T) {fn:Func} {fz:Bool} {r:AV} {q:List Bh} {e:Bn} {H:Hp} {σ:A1} {ι:Br} {a:Act} (s:St σ ι H F W w) (B:Ea σ ι H e a) (l:∀r∈fn.results.toList,P0 r<a.tmps.size) (h:P3 T fz fn.results.toList r q e H):∃v f H',(results fn a.tmps).run P w = .ok v w/\Nq H' 0 q/\Le σ ι H f ι H'/\St f ι H' F W w/\Conc f ι H' r v:=by
 unfold P3 at h;split at h
 .exact h.elim
 .rename_i xs hx;obtain ⟨vs,h1,x,z⟩:=Adm D s B l hx;have key:∃f ys H',(Ux ys=r/\Nq H' 0 q)/\Le σ ι H f ι H'/\St f ι H' F W w/\vs.length=ys.length/\∀(i:Nat) (c:AV) (v:Value),ys[i]? = some c->vs[i]? = some v->Conc f ι H' c v:=(by cases fz with| true=>exact Ai3 h s x z| false=>exact ⟨σ,xs,H,h,Le.refl _ _ _,s,x,z⟩);obtain ⟨f,ys,H',⟨rfl,k⟩,le,s',b,j⟩:=key;have g:(fn.results.mapM (P1 a.tmps)).run P w = .ok vs.toArray w:=(by rw [Array.mapM_eq_mapM_toList];simp [h1]);refine ⟨if h:vs.toArray.size=1 then vs.toArray[0] else .tuple vs.toArray,f,H',?_,k,le,s',?_⟩
  .rw [Ai1,Sem.run_bind,g]; rfl
  .match ys,vs,b,j with| [y],[v],_,j=>exact j 0 y v rfl rfl| [],[],_,_=>exact .tup [] #[] rfl ψ| y::E::ys,v::A::vs,b,j=>have:¬(v::A::vs).toArray.size=1:=ψ;rw [dif_neg this];exact .tup _ _ (by simpa using b) (λi c u hi hu=>j i c u hi (by simpa using hu))| [],_::_,b,_=>simp at b| _::_,[],b,_=>simp at b| [_],_::_::_,b,_=>simp at b| _::_::_,[_],b,_=>simp at b
theorem St.first {σ:A1} {ι:Br} {H:Hp} (s:St σ ι H F W w) (f:List Bh) (hk:∀i,i<f.length->H i=hp f i) (hu:f.all (Bh.under f.length)=true) : St σ (λk=>if k<f.length then ι k else .none) (hp f) F W w:=by
 have A:∀h,h<f.length->(λk=>if k<f.length then ι k else Loc.none) h=ι h:=λh j=>if_pos j;have hH:∀h,h<f.length->hp f h=H h:=λh j=>(hk h j).symm;have lt:∀k,(hp f k).live=true->k<f.length:=by
  intro k h;rcases Nat.lt_or_ge k f.length with h' | h'
  .exact h'
  .rw [Nn h'] at h; cases h
 refine ⟨s.sto,s.fra,λk=>?_,λk q b h1 h2 h3 h4=>?_,s.os,s.tape,s.output,s.glo,s.drw⟩
 .by_cases j:k<f.length
  .have g:=s.obj k;have l:=List.all_eq_true.1 hu _ (List.mem_of_getElem? (Uv j));unfold Ci at g ⊢;rw [hk k j] at g;dsimp only;rw [if_pos j];cases hx:hp f k with| none=>rw [hx] at g; exact g| dead=>trivial| rows E sz xs=>rw [hx] at g; exact g| map es=>rw [hx] at g; exact g| cells E cs=>rw [hx] at g l;obtain ⟨b,C,D,h1,h2,h3,h4,B⟩:=g;refine ⟨b,C,D,h1,h2,h3,h4,λi c v x y=>?_⟩;have hc:=List.all_eq_true.1 l c (List.mem_of_getElem? x);refine (B i c v x y).restrict (n:=f.length) A hH ?_;exact Adf hc
  .unfold Ci;rw [Nn ω];exact if_neg j
 .have z:=lt k h1;have u:=lt q h2;rw [if_pos z] at h3;rw [if_pos u] at h4;rw [hH k z] at h1;rw [hH q u] at h2;exact s.inj k q b h1 h2 h3 h4
def Adn (c:List Bh) (r:AV) (b:List Bh):Bool:=Nat.ble c.length b.length&&r.under b.length&&b.all (Bh.under b.length)
def Sub (x y:AV):Prop:=∀(σ:A1) (ι:Br) (H:Hp) (v:Value),Conc σ ι H x v->Conc σ ι H y v
theorem Sub.refl (x:AV):Sub x x:=λ_ _ _ _ h=>h
theorem Sub.nil (sz:Nat):Sub (.val (.slice none 0 0)) (.sl sz []):=λ_ _ _ _ h=>Y4 rfl h
def Nr:List AV->List AV->Prop
 | [],[]=>True
 | x::xs,y::ys=>Sub x y/\Nr xs ys
 | _,_=>False
theorem Nr.spec:∀{xs ys:List AV},Nr xs ys->xs.length=ys.length/\∀(i:Nat) (y:AV),ys[i]? = some y->∃x,xs[i]? = some x/\Sub x y
 | [],[],_=>⟨rfl,ψ⟩
 | [],_::_,h=>h.elim
 | _::_,[],h=>h.elim
 | x::xs,y::ys,h=>by obtain ⟨h1,h2⟩:=Nr.spec h.2;refine ⟨by simp [h1],λi z b=>?_⟩;cases i with| zero=>simp at b; subst b; exact ⟨x,rfl,h.1⟩| succ i=>simpa using h2 i z (by simpa using b)
theorem Sub.agg {xs ys:List AV} (h:Nr xs ys):Sub (.agg xs) (.agg ys):=by intro σ ι H v hc;obtain ⟨vs,rfl,b,hv⟩:=hc.agg_inv;obtain ⟨h1,h2⟩:=h.spec;refine .agg _ vs (by rw [<-h1]; exact b) λi c u h3 h4=>?_;obtain ⟨x,g,f⟩:=h2 i c h3;exact f _ _ _ _ (hv i x u g h4)
theorem As.sub {f:FuncId} {args b:List AV} {r j:AV} (h:As P f b r) (ha:Nr args b) (l:Sub r j):As P f args j:=by
 refine ⟨h.1,λσ F W w vs s hc=>?_⟩;obtain ⟨h1,h2⟩:=ha.spec;refine (h.2 σ F W w vs s ⟨by rw [<-h1]; exact hc.1,λi a v h3 h4=>?_⟩).mono ?_
 .obtain ⟨x,g,c⟩:=h2 i a h3;exact c _ _ _ _ (hc.2 i x v g h4)
 .rintro e w' ⟨v,k,h3,h4,g,c⟩;exact ⟨v,k,h3,h4,g,l _ _ _ _ c⟩
theorem Bo.sub {f:FuncId} {args b:List AV} {g c:List Bh} {r:AV} (h:Bo P f b g r c) (ha:Nr args b):Bo P f args g r c:=by refine ⟨h.1,λσ F W w ι vs s hc=>?_⟩;obtain ⟨h1,h2⟩:=ha.spec;refine h.2 σ F W w ι vs s ⟨by rw [<-h1]; exact hc.1,λi a v h3 h4=>?_⟩;obtain ⟨x,k,j⟩:=h2 i a h3;exact j _ _ _ _ (hc.2 i x v k h4)
end
end Go.Ab
namespace Go.Ab
inductive Ep (K:Prop):Prop where
 | mk (k:K)
def opK (P:Program) (T:Cl) (an:Nat->Ann) (nl:Nat->List (Nat×Nat)) (o:Oper) (n:Nat) (e:Bn) (H:Hp) (acc:Hm) (K:Nat->Bn->Hp->Hm->Prop):Prop := Dw P T an n o (ev e) H λb m=>Jn (J5 (Ky nl o.dst) b.r) λr=>Lv b.wr λwr=>H7 b.rd λf=>H7 wr λc=>Is e o.dst r H wr λe H=>Ep (K m e H (acc++[(f,c)]))
def Uy (o:Oper) (n:Nat) (e:Bn) (H:Hp) (acc:Hm) (K:Nat->Bn->Hp->Hm->Prop):Prop := Is e o.dst (.val undef) H [] λe H=>Ep (K n e H (acc++[([],[])]))
def Eg (P:Program) (T:Cl) (an:Nat->Ann) (nl:Nat->List (Nat×Nat)) (ops:Array Oper):List Oper->Nat->Bn->Hp->Hm->(Nat->Bn->Hp->Hm->Prop)->Prop
 | [],n,e,H,acc,K=>K n e H acc
 | o::os,n,e,H,acc,K=> match o.guard with
  | none=>opK P T an nl o n e H acc λn e H acc=>Eg P T an nl ops os n e H acc K
  | some p=> match (ops[p.1]?).bind (·.dst) with
   | none=>False
   | some s=> match e s with
    | .val v=>bif Ps v==some p.2 then opK P T an nl o n e H acc λn e H acc=>Eg P T an nl ops os n e H acc K else Uy o n e H acc λn e H acc=>Eg P T an nl ops os n e H acc K
    | _=>False
section
variable {P:Program} {T:Cl} {an:Nat->Ann} {nl:Nat->List (Nat×Nat)} {ops:Array Oper}
theorem Ado (G:Cm P T):∀(os:List Oper) (i n:Nat) (e:Bn) (H:Hp) (acc:Hm) (K:Nat->Bn->Hp->Hm->Prop),ops.toList.drop i=os->acc.length=i->El H n->Eg P T an nl ops os n e H acc K -> ∃b e' H' accs,K b e' H' accs/\accs.take i=acc/\accs.length=i+os.length/\n<=b/\El H' b/\Run P ops (λk=>accs.getD k ([],[])) (List.range' i os.length) e H e' H'
 | [],i,n,e,H,acc,K,hd,j,y,h=>⟨n,e,H,acc,h,by rw [<-j]; simp,by simpa using j,Nat.le_refl _,y,.nil e H⟩
 | o::os,i,n,e,H,acc,K,hd,j,y,h=>by
  have I:ops[i]? = some o:=(by have:=congrArg (λl=>l[0]?) hd;simpa using this);have u:ops.toList.drop (i+1)=os:=(by have:=congrArg (List.drop 1) hd;simpa [List.drop_drop] using this);have run:Hk ops o e true->(opK P T an nl o n e H acc λn e H acc=>Eg P T an nl ops os n e H acc K) ->
    ∃b e' H' accs,K b e' H' accs/\accs.take i=acc/\accs.length=i+(o::os).length/\n<=b/\El H' b/\Run P ops (λk=>accs.getD k ([],[])) (List.range' i (o::os).length) e H e' H':=by
   intro D g;obtain ⟨c,m,h1,h2,h3,h4,M⟩:=Aiq G y g;simp only [Sb,Ada,Adb,Y5] at h3;obtain ⟨b,e',H',accs,B,x,L,J,A,z⟩:=Ado G os (i+1) m _ _ _ K u (by simp [j]) M h3.1;have E:accs[i]? = some (c.rd.map (·.1),c.wr.map (·.1)):=(by have N:(accs.take (i+1))[i]? = accs[i]?:=List.getElem?_take_of_lt ω;rw [<-N,x,List.getElem?_append_right ω];simp [j]);have q:accs.getD i ([],[])=(c.rd.map (·.1),c.wr.map (·.1)):=(by simp [List.getD,E]);refine ⟨b,e',H',accs,B,?_,by simp only [List.length_cons]; omega,ω,A,?_⟩
   .have:=congrArg (List.take i) x;rw [List.take_take] at this;simpa [j] using this
   .rw [List.length_cons,List.range'_succ];refine .cons o (J5 (Ky nl o.dst) c.r) c.wr ⟨I,.inl ⟨D,_,h1.nils (Ky nl o.dst),h2,?_,?_,rfl,rfl⟩⟩ z
    .intro p hp; show p.1∈(accs.getD i ([],[])).1; rw [q]; exact List.mem_map_of_mem hp
    .intro p hp; show p.1∈(accs.getD i ([],[])).2; rw [q]; exact List.mem_map_of_mem hp
  have skip:Hk ops o e false->(Uy o n e H acc λn e H acc=>Eg P T an nl ops os n e H acc K) ->
    ∃b e' H' accs,K b e' H' accs/\accs.take i=acc/\accs.length=i+(o::os).length/\n<=b/\El H' b/\Run P ops (λk=>accs.getD k ([],[])) (List.range' i (o::os).length) e H e' H':=by
   intro D g;unfold Uy at g;rw [Y5] at g;obtain ⟨b,e',H',accs,B,x,L,J,A,z⟩:=Ado G os (i+1) n _ _ _ K u (by simp [j]) y g.1;refine ⟨b,e',H',accs,B,?_,by simp only [List.length_cons]; omega,ω,A,?_⟩
   .have:=congrArg (List.take i) x;rw [List.take_take] at this;simpa [j] using this
   .rw [List.length_cons,List.range'_succ];exact .cons o (.val undef) [] ⟨I,.inr ⟨D,rfl,rfl⟩⟩ z
  simp only [Eg] at h;cases f:o.guard with
  | none=>rw [f] at h;exact run (by unfold Hk; rw [f]) h
  | some p=>
   rw [f] at h;simp only [] at h;cases g:(ops[p.1]?).bind (·.dst) with
   | none=>rw [g] at h; exact h.elim
   | some s=>
    rw [g] at h;simp only [] at h;split at h
    .rename_i v hv;cases hb:Ps v==some p.2 with| true=>rw [hb] at h; exact run (by unfold Hk; rw [f]; exact ⟨s,v,g,hv,hb.symm⟩) h| false=>rw [hb] at h; exact skip (by unfold Hk; rw [f]; exact ⟨s,v,g,hv,hb.symm⟩) h
    .exact h.elim
variable {o:Oper} {os:List Oper} {n:Nat} {e:Bn} {H:Hp} {acc:Hm} {K:Nat->Bn->Hp->Hm->Prop} {β:Type} {r:β}
theorem nx (k:opK P T an nl o n e H acc λn e H acc=>Eg P T an nl ops os n e H acc K) (b:o.guard=none:=by exact rfl):Ep (Eg P T an nl ops (o::os) n e H acc K):=.mk (by simp only [Eg,b]; exact k)
theorem K0 (k:K n e H acc):Ep (Eg P T an nl ops [] n e H acc K):=.mk k
theorem Ato (p:Nat×Bool) (s:Nat) (k:opK P T an nl o n e H acc λn e H acc=>Eg P T an nl ops os n e H acc K) (c:o.guard=some p:=by exact rfl) (b:(ops[p.1]?).bind (·.dst)=some s:=by exact rfl) (hb:e s = .val (.bool p.2):=by exact rfl):Ep (Eg P T an nl ops (o::os) n e H acc K) :=
 .mk (by simp only [Eg,c,b,hb,Ps,BEq.rfl,cond_true]; exact k)
theorem Atp (p:Nat×Bool) (s:Nat) (v:Value) (k:Uy o n e H acc λn e H acc=>Eg P T an nl ops os n e H acc K) (c:o.guard=some p:=by exact rfl) (b:(ops[p.1]?).bind (·.dst)=some s:=by exact rfl) (hb:e s = .val v:=by exact rfl) (hv:(Ps v==some p.2)=false:=by exact rfl):Ep (Eg P T an nl ops (o::os) n e H acc K) :=
 .mk (by simp only [Eg,c,b,hb,hv,cond_false]; exact k)
theorem Ns {p:Nat×Bool} {s:Nat} (k:opK P T an nl o n e H acc λn e H acc=>Eg P T an nl ops os n e H acc K) (c:o.guard=some p:=by exact rfl) (b:(ops[p.1]?).bind (·.dst)=some s:=by exact rfl) (hb:e s = .val (.bool p.2):=by exact rfl):Ep (Eg P T an nl ops (o::os) n e H acc K):=Ato p s k c b hb
theorem Nt {p:Nat×Bool} {s:Nat} {v:Value} (k:Uy o n e H acc λn e H acc=>Eg P T an nl ops os n e H acc K) (c:o.guard=some p:=by exact rfl) (b:(ops[p.1]?).bind (·.dst)=some s:=by exact rfl) (hb:e s = .val v:=by exact rfl) (hv:(Ps v==some p.2)=false:=by exact rfl):Ep (Eg P T an nl ops (o::os) n e H acc K):=Atp p s v k c b hb hv
theorem Atq {s:Nat} {b:Bool} {m c:Option β} {X:List Oper} (h:(bif b then m else c)=some r) (h1:b=true->m=some r->Ep (Eg P T an nl ops X n (A4 e s (.val (.bool true))) H acc K)) (h2:b=false->c=some r->Ep (Eg P T an nl ops X n (A4 e s (.val (.bool false))) H acc K)) (hb:e s = .val (.bool b):=by exact rfl):Ep (Eg P T an nl ops X n e H acc K):=by cases b with| true=>have:=h1 rfl h; rwa [Y7 hb] at this| false=>have:=h2 rfl h; rwa [Y7 hb] at this
end
end Go.Ab
namespace Go.Ab
theorem St.recell {σ:A1} {ι:Br} {H:Hp} {F:A1} {W w:World} (s:St σ ι H F W w) (h:Nat) (E:TypeId) (cs f:List AV) (hh:H h = .cells E cs) (l:f.length=cs.length) (hc:∀(i:Nat) (c j:AV) (v:Value),cs[i]? = some c->f[i]? = some j->Conc σ ι H c v->Conc σ ι H j v) : St σ ι (A4 H h (.cells E f)) F W w/\Le σ ι H σ ι (A4 H h (.cells E f)):=by
 have k:=s.obj h;unfold Ci at k;rw [hh] at k;obtain ⟨b,C,hb,h1,h2,h3,h4,z⟩:=k;have le:Le σ ι H σ ι (A4 H h (.cells E f)):=by have:=Le.upd (ι:=ι) (H:=H) (A1.le_refl σ) h (ι h) (.cells E f) (by rw [hh]; exact ⟨λ_ e=>e,(λ_ e=>by cases e),(λ_ _ _ _ e=>by cases e)⟩);rwa [Hi] at this
 refine ⟨s.touch h b (λ_ _=>rfl) (λx e=>Cz _ _ e) le (λx e=>rfl) (λ_ _=>rfl) (λo e=>by rw [h1] at e; cases e) ?_ h2 ?_ ?_ rfl rfl rfl,le⟩
 .intro x e l q;exact e (s.inj x h b l (by rw [hh]; rfl) q (by rw [hb]; rfl))
 .intro A _ u;exact .inr ⟨by rw [hh]; rfl,u⟩
 .unfold Ci;rw [Ce];refine ⟨b,C,hb,h1,h2,h3,ω,λi j v x y=>?_⟩;have hi:i<cs.length:=(by rw [<-l]; exact (List.getElem?_eq_some_iff.1 x).1);have g:cs[i]? = some cs[i]:=List.getElem?_eq_getElem hi;exact (hc i _ j v g x (z i _ v g y)).mono le
inductive Gh where
 | fz (s:Nat)
 | own (s j:Nat) (e:TypeId) (sz:Nat)
 | nil (s j sz:Nat)
 | fzc (s j:Nat)
 | fzp (s:Nat)
 | fzcp (s j:Nat)
def gxs:List Gh->Nat->Bn->Hp->(Nat->Bn->Hp->Prop)->Prop
 | [],n,e,H,K=>K n e H
 | .fz s::gs,n,e,H,K=> match e s with
  | .arr h k 0 len=> match H h with
   | .rows _ sz xs=>F2 k xs (F2 len xs (gxs gs n (A4 e s (.sl sz xs)) (A4 H h .dead) K))
   | _=>False
  | _=>False
 | .fzp s::gs,n,e,H,K=> match e s with
  | .arr h k 0 len=> match H h with
   | .rows _ sz xs=>F2 k xs (Ac6 len k (Ac7 xs len λys=>gxs gs n (A4 e s (.sl sz ys)) (A4 H h .dead) K))
   | _=>False
  | _=>False
 | .own s j E sz::gs,n,e,H,K=> match e s with
  | .loc h _=> match H h with
   | .cells T cs=> match cs[j]? with
    | some x=>bif J2 x&&Nat.blt 0 sz then gxs gs (n+1) e (A4 (A4 H n (.rows E sz [])) h (.cells T (cs.set j (.arr n 0 0 0)))) K else False
    | none=>False
   | _=>False
  | _=>False
 | .nil s j sz::gs,n,e,H,K=> match e s with
  | .loc h _=> match H h with
   | .cells T cs=> match cs[j]? with
    | some x=>bif J2 x then gxs gs n e (A4 H h (.cells T (cs.set j (.sl sz [])))) K else False
    | none=>False
   | _=>False
  | _=>False
 | .fzc s j::gs,n,e,H,K=> match e s with
  | .loc h _=> match H h with
   | .cells T cs=> match cs[j]? with
    | some (.arr h' k 0 len)=> match H h' with
     | .rows _ sz xs=>F2 k xs (F2 len xs (gxs gs n e (A4 (A4 H h' .dead) h (.cells T (cs.set j (.sl sz xs)))) K))
     | _=>False
    | _=>False
   | _=>False
  | _=>False
 | .fzcp s j::gs,n,e,H,K=> match e s with
  | .loc h _=> match H h with
   | .cells T cs=> match cs[j]? with
    | some (.arr h' k 0 len)=> match H h' with
     | .rows _ sz xs=>F2 k xs (Ac6 len k (Ac7 xs len λys=>gxs gs n e (A4 (A4 H h' .dead) h (.cells T (cs.set j (.sl sz ys)))) K))
     | _=>False
    | _=>False
   | _=>False
  | _=>False
section
variable {F:A1} {W:World}
theorem Ai4 {cs:List AV} {j i:Nat} {y c b:AV} {P:AV->AV->Prop} (h1:cs[i]? = some c) (h2:(cs.set j y)[i]? = some b) (f:P c c) (hy:i=j->P c y):P c b:=by
 rw [List.getElem?_set] at h2;split at h2
 .rename_i e;split at h2
  .cases h2; exact hy e.symm
  .cases h2
 .rw [h1] at h2; cases h2; exact f
theorem Nu {H:Hp} {n h:Nat} {o:Bh} (b:El H n) (hh:H h≠.none):El (A4 H h o) n:=by intro m c;rw [Cz _ _ (λe=>hh (by rw [<-e]; exact b m c))]; exact b m c
theorem Ai5 {σ:A1} {ι:Br} {w:World} {H:Hp} {hd h' j k len:Nat} {T E:TypeId} {sz:Nat} {cs xs ys:List AV} (s:St σ ι H F W w) (hh:H hd = .cells T cs) (hj:cs[j]? = some (.arr h' k 0 len)) (g:H h' = .rows E sz xs) (hk:xs.length=k) (V:len<=xs.length) (hy:xs.take len=ys) : ∃c,Le σ ι H c ι (A4 (A4 H h' .dead) hd (.cells T (cs.set j (.sl sz ys))))/\St c ι (A4 (A4 H h' .dead) hd (.cells T (cs.set j (.sl sz ys)))) F W w:=by
 obtain ⟨c,G,D,M⟩:=s.freeze g;have J:hd≠h':=by intro B; subst B; rw [hh] at g; cases g
 have f:A4 H h' .dead hd = .cells T cs:=by rw [Cz _ _ J]; exact hh
 have h:=s.obj hd;unfold Ci at h; rw [hh] at h;obtain ⟨b,C,B,g1,g2,g3,g4,g5⟩:=h;have l:∀v,C[j]? = some v->Conc c ι (A4 H h' .dead) (.sl sz ys) v:=by intro v hv;have hc:=g5 j _ v hj hv;have:=M 0 len _ ω (hc.arr_inv g hk);rw [List.drop_zero,hy] at this;exact .cc this
 have U:St c ι (A4 (A4 H h' .dead) hd (.cells T (cs.set j (.sl sz ys)))) F W w/\Le c ι (A4 H h' .dead) c ι (A4 (A4 H h' .dead) hd (.cells T (cs.set j (.sl sz ys)))):=by
  have I:=D.obj hd;unfold Ci at I; rw [f] at I;obtain ⟨b',C',A,z,u,q,X,S⟩:=I;rw [B] at A; cases A;rw [g3] at q; cases q;have le:Le c ι (A4 H h' .dead) c ι (A4 (A4 H h' .dead) hd (.cells T (cs.set j (.sl sz ys)))):=(by have:=Le.upd (ι:=ι) (H:=A4 H h' .dead) (A1.le_refl c) hd (ι hd) (.cells T (cs.set j (.sl sz ys))) (by rw [f]; exact ⟨λ_ e=>e,(λ_ e=>by cases e),(λ_ _ _ _ e=>by cases e)⟩);rwa [Hi] at this);refine ⟨D.touch hd b (λ_ _=>rfl) (λx e=>Cz _ _ e) le (λx e=>rfl) (λ_ _=>rfl) (λo e=>by rw [z] at e; cases e) ?_ u ?_ ?_ rfl rfl rfl,le⟩
  .intro x e V N;exact e (D.inj x hd b V (by rw [f]; rfl) N (by rw [B]; rfl))
  .intro Z _ R;exact .inr ⟨by rw [f]; rfl,R⟩
  .unfold Ci;rw [Ce];refine ⟨b,C,B,z,u,g3,by simpa using g4,λi Y v x y=>?_⟩;rw [List.getElem?_set] at x;split at x
   .rename_i L;split at x
    .cases x; subst L; exact (l v y).mono le
    .cases x
   .exact (S i Y v x y).mono le
 exact ⟨c,G.trans U.2,U.1⟩
theorem P4:∀(y:List Gh) {n:Nat} {e:Bn} {H:Hp} {K:Nat->Bn->Hp->Prop} {σ:A1} {ι:Br} {a:Act} {w:World},gxs y n e H K->St σ ι H F W w->Ea σ ι H e a->El H n -> ∃σ' ι' n' e' H',K n' e' H'/\Le σ ι H σ' ι' H'/\St σ' ι' H' F W w/\Ea σ' ι' H' e' a/\El H' n'/\n<=n'
 | [],n,e,H,K,σ,ι,a,w,h,s,u,l=>⟨σ,ι,n,e,H,h,Le.refl _ _ _,s,u,l,Nat.le_refl _⟩
 | .fz t::y,n,e,H,K,σ,ι,a,w,h,s,u,l=>by
  simp only [gxs] at h;split at h
  .rename_i hd k len hx;split at h
   .rename_i E sz xs hh;obtain ⟨hk,hl,h⟩:=h;obtain ⟨Y,f,B,V⟩:=s.freeze hh;have X:Ea Y ι (A4 H hd .dead) (A4 e t (.sl sz xs)) a:=by
     intro q hq;by_cases N:q=t
     .subst N;rw [Ce];have hc:=u q hq;rw [hx] at hc;have:=V 0 len _ ω (hc.arr_inv hh hk);rw [List.drop_zero,List.take_of_length_le ω] at this;exact .cc this
     .rw [Cz _ _ N]; exact (u q hq).mono f
    obtain ⟨z,A,D,e2,R,M,L,J,I,G,S⟩:=P4 y h B X (Nu l (by rw [hh]; intro e; cases e));exact ⟨z,A,D,e2,R,M,f.trans L,J,I,G,S⟩
   .exact h.elim
  .exact h.elim
 | .fzp t::y,n,e,H,K,σ,ι,a,w,h,s,u,l=>by
  simp only [gxs] at h;split at h
  .rename_i hd k len hx;split at h
   .rename_i E sz xs hh;obtain ⟨hk,hl,ys,hy,h⟩:=h;obtain ⟨Y,f,B,V⟩:=s.freeze hh;have X:Ea Y ι (A4 H hd .dead) (A4 e t (.sl sz ys)) a:=by
     intro q hq;by_cases N:q=t
     .subst N;rw [Ce];have hc:=u q hq;rw [hx] at hc;have:=V 0 len _ ω (hc.arr_inv hh hk);rw [List.drop_zero,hy] at this;exact .cc this
     .rw [Cz _ _ N]; exact (u q hq).mono f
    obtain ⟨z,A,D,e2,R,M,L,J,I,G,S⟩:=P4 y h B X (Nu l (by rw [hh]; intro e; cases e));exact ⟨z,A,D,e2,R,M,f.trans L,J,I,G,S⟩
   .exact h.elim
  .exact h.elim
 | .own t j E sz::y,n,e,H,K,σ,ι,a,w,h,s,u,l=>by
  simp only [gxs] at h;split at h
  .rename_i hd off hx;split at h
   .rename_i T cs hh;split at h
    .rename_i x hj;obtain ⟨hb,h⟩:=Fk h;rw [Bool.and_eq_true] at hb;have a6:hd≠n:=(by intro N; subst N;have:=l hd (Nat.le_refl _); rw [hh] at this; cases this);obtain ⟨s0,Z⟩:=s.newNil n (l n (Nat.le_refl _)) E sz (Gi hb.2);have a1:A4 H n (.rows E sz []) hd = .cells T cs:=(by rw [Cz _ _ a6]; exact hh);obtain ⟨B,f⟩:=s0.recell hd T cs (cs.set j (.arr n 0 0 0)) a1 ψ (by intro i c c' v h1 h2 h3;refine Ai4 (P:=λa b=>Conc σ _ _ a v->Conc σ _ _ b v) h1 h2 (λh=>h) (λU h=>?_) h3;subst U;rw [hj] at h1; cases h1;rw [Y3 hb.1] at h;rw [h.val_inv];refine .arr _ _ _ _ _ (by rw [Ce]; intro e; cases e) (λE' aa a8 e'=>?_) rfl;rw [Ce] at e'; cases e';exact ⟨ψ,λ_=>by rw [Ce]; exact ⟨rfl,rfl,rfl⟩⟩);have a7:El (A4 (A4 H n (.rows E sz [])) hd (.cells T (cs.set j (.arr n 0 0 0)))) (n+1):=(by refine Nu ?_ (by rw [a1]; intro e; cases e);intro m hm;rw [Cz _ _ ω]; exact l m ω);obtain ⟨z,A,D,e2,R,M,L,J,I,G,S⟩:=P4 y h B (u.mono (Z.trans f)) a7;exact ⟨z,A,D,e2,R,M,(Z.trans f).trans L,J,I,G,ω⟩
    .exact h.elim
   .exact h.elim
  .exact h.elim
 | .nil t j sz::y,n,e,H,K,σ,ι,a,w,h,s,u,l=>by
  simp only [gxs] at h;split at h
  .rename_i hd off hx;split at h
   .rename_i T cs hh;split at h
    .rename_i x hj;obtain ⟨hb,h⟩:=Fk h;obtain ⟨B,f⟩:=s.recell hd T cs (cs.set j (.sl sz [])) hh ψ (by intro i c c' v h1 h2 h3;refine Ai4 (P:=λa b=>Conc σ _ _ a v->Conc σ _ _ b v) h1 h2 (λh=>h) (λU h=>?_) h3;subst U;rw [hj] at h1; cases h1;exact Y4 hb h);obtain ⟨z,A,D,e2,R,M,L,J,I,G,S⟩:=P4 y h B (u.mono f) (Nu l (by rw [hh]; intro e; cases e));exact ⟨z,A,D,e2,R,M,f.trans L,J,I,G,S⟩
    .exact h.elim
   .exact h.elim
  .exact h.elim
 | .fzc t j::y,n,e,H,K,σ,ι,a,w,h,s,u,l=>by
  simp only [gxs] at h;split at h
  .rename_i hd off hx;split at h
   .rename_i T cs hh;split at h
    .rename_i h' k len hj;split at h
     .rename_i E sz xs g;obtain ⟨hk,hl,h⟩:=h;obtain ⟨Y,f,B⟩:=Ai5 s hh hj g hk ω (List.take_of_length_le ω);obtain ⟨z,A,D,e2,R,M,L,J,I,G,S⟩:=P4 y h B (u.mono f) (Nu (Nu l (by rw [g]; intro e; cases e)) (by rw [Cz _ _ (by intro N; subst N; rw [hh] at g; cases g)]; rw [hh]; intro e; cases e));exact ⟨z,A,D,e2,R,M,f.trans L,J,I,G,S⟩
     .exact h.elim
    .exact h.elim
   .exact h.elim
  .exact h.elim
 | .fzcp t j::y,n,e,H,K,σ,ι,a,w,h,s,u,l=>by
  simp only [gxs] at h;split at h
  .rename_i hd off hx;split at h
   .rename_i T cs hh;split at h
    .rename_i h' k len hj;split at h
     .rename_i E sz xs g;obtain ⟨hk,hl,ys,hy,h⟩:=h;obtain ⟨Y,f,B⟩:=Ai5 s hh hj g hk ω (hy);obtain ⟨z,A,D,e2,R,M,L,J,I,G,S⟩:=P4 y h B (u.mono f) (Nu (Nu l (by rw [g]; intro e; cases e)) (by rw [Cz _ _ (by intro N; subst N; rw [hh] at g; cases g)]; rw [hh]; intro e; cases e));exact ⟨z,A,D,e2,R,M,f.trans L,J,I,G,S⟩
     .exact h.elim
    .exact h.elim
   .exact h.elim
  .exact h.elim
end
end Go.Ab
namespace Go.Ab
def Hu {S E:Type} (step:S->Option (S⊕E)):Nat->S->Option E
 | 0,_=>none
 | n+1,s=> match step s with
  | none=>none
  | some (.inl s')=>Hu step n s'
  | some (.inr e)=>some e
theorem Adp {S E:Type} {step:S->Option (S⊕E)}:∀{n:Nat} {s:S} {e:E},Hu step n s=some e->∀m,n<=m->Hu step m s=some e
 | 0,s,e,h,_,_=>by cases h
 | n+1,s,e,h,0,c=>ω
 | n+1,s,e,h,m+1,c=>by
  simp only [Hu] at h ⊢;cases b:step s with
  | none=>rw [b] at h; cases h
  | some o=>rw [b] at h;cases o with| inl s'=>exact Adp (n:=n) h m ω| inr e'=>exact h
theorem Ai6 {S E:Type} {step:S->Option (S⊕E)} {n m:Nat} {s:S} {e e':E} (h:Hu step n s=some e) (h':Hu step m s=some e'):e=e':=by have h1:=Adp h (max n m) ω;have h2:=Adp h' (max n m) ω;rw [h1] at h2; exact Option.some.inj h2
open Classical in
noncomputable def Al {S E:Type} (step:S->Option (S⊕E)) (s:S):Option E := match Hu step 4096 s with
 | some e=>some e
 | none=>if h:∃n e,Hu step n s=some e then some (Classical.choose (Classical.choose_spec h)) else none
theorem Adq {S E:Type} {step:S->Option (S⊕E)} {s:S} {e:E} (h:Al step s=some e):∃n,Hu step n s=some e:=by
 unfold Al at h;split at h
 .rename_i e' b;cases h;exact ⟨_,b⟩
 .split at h
  .rename_i hx;cases h;exact ⟨_,Classical.choose_spec (Classical.choose_spec hx)⟩
  .cases h
theorem Adr {S E:Type} {step:S->Option (S⊕E)} {s:S} {e:E} {n:Nat} (h:Hu step n s=some e):Al step s=some e:=by
 have hx:∃n e,Hu step n s=some e:=⟨n,e,h⟩;unfold Al;split
 .rename_i e' b;exact congrArg some (Ai6 b h)
 rw [dif_pos hx];exact congrArg some (Ai6 (Classical.choose_spec (Classical.choose_spec hx)) h)
theorem F3 {S E:Type} {step:S->Option (S⊕E)} {s:S} {e:E} (h:step s=some (.inr e)):Al step s=some e := Adr (n:=1) (by simp only [Hu,h])
theorem K1 {S E:Type} {step:S->Option (S⊕E)} {s s':S} (h:step s=some (.inl s')):Al step s=Al step s':=by
 cases h':Al step s' with
 | some e=>obtain ⟨n,b⟩:=Adq h';exact Adr (n:=n+1) (by simp only [Hu,h]; exact b)
 | none=>
  cases c:Al step s with
  | none=>rfl
  | some e=>obtain ⟨n,b⟩:=Adq c;cases n with| zero=>cases b| succ n=>simp only [Hu,h] at b;rw [Adr b] at h'; cases h'
theorem P5 {S E:Type} {step:S->Option (S⊕E)} (c:S->Prop) (m:S->Nat) (b:E->Prop) (f:∀s,c s->(∃s',step s=some (.inl s')/\c s'/\m s' < m s)\/(∃e,step s=some (.inr e)/\b e)) (s:S) (h0:c s):∃e,Al step s=some e/\b e:=by
 generalize hk:m s=k;induction k using Nat.strongRecOn generalizing s with
 | _ k ih=>
  rcases f s h0 with ⟨s',h1,h2,h3⟩ | ⟨e,h1,h2⟩
  .obtain ⟨e,h4,g⟩:=ih (m s') ω s' h2 rfl;exact ⟨e,by rw [K1 h1]; exact h4,g⟩
  .exact ⟨e,F3 h1,h2⟩
def Ae {α:Type} (l:List α) (i:Int):Option α:=if 0<=i then l[i.toNat]? else none
def G1 {α:Type} (l:List α) (lo hi:Int):Option (List α):=if 0<=lo/\lo<=hi/\hi<=l.length then some ((l.take hi.toNat).drop lo.toNat) else none
def Bx {α:Type} (b:Nat) (xs ys:List α):Option (List α):=if (xs.length+ys.length)*b<=140737488355328 then some (xs++ys) else none
def Ew {α:Type} (c:Nat) (len b:Int) (z:α):Option (List α):=if 0<=len/\len<=b/\c*b.toNat<=281474976710656/\b<=140737488355328 then some (List.replicate len.toNat z) else none
def Fb {α:Type} (l:List α) (off n:Nat) (i:Int):Option α:=if 0<=i/\i<n then l[off+i.toNat]? else none
def I4 (n:Nat) (lo hi:Int):Option (Nat×Nat):=if 0<=lo/\lo<=hi/\hi<=n/\(lo=0\/lo<hi) then some (lo.toNat,hi.toNat) else none
def Uz {α:Type} (b:Nat) (xs:List α) (n:Nat) (ys:List α):Option (List α×Nat):=if n<=xs.length/\(xs.length+ys.length)*b<=140737488355328 then some (C8 xs n ys,n+ys.length) else none
def Mq {α:Type} (xs:List α) (off n b c:Nat):Option (List α):=if off+n<=xs.length/\b+c<=xs.length then some (C8 xs off ((xs.drop b).take (min c n))) else none
def Nv {α:Type} (xs:List α) (off n:Nat) (z:α):Option (List α):=if off+n<=xs.length then some (C8 xs off (List.replicate n z)) else none
def P6 {α:Type} (xs:List α) (n:Nat):Option (List α):=if n<=xs.length then some (xs.take n) else none
def Sh (n:Nat) (hi:Int):Option Nat:=if 0<=hi/\hi<=n then some hi.toNat else none
def Jp (n:Nat) (lo hi:Int):Option ((Nat×Nat)⊕Unit):=if 0<=lo/\lo<=hi/\hi<=n then (if lo=0\/lo<hi then some (.inl (lo.toNat,hi.toNat)) else some (.inr ())) else none
def Gt {α:Type} (n:Nat) (l:List α):Option Unit:=if n=l.length then some () else none
theorem Ii {α:Type} {n:Nat} {l:List α} {u:Unit} (h:Gt n l=some u):n=l.length:=by
 unfold Gt at h;split at h
 .assumption
 .cases h
theorem Zd (off:Nat) {i:Int} {n:Nat} (h:i=n):((off:Nat):Int)+i=((off+n:Nat):Int):=ω
def Nw (n:Int):Option ByteArray:=if -9223372036854775808<=n/\n<=9223372036854775807 then some ⟨(Lib.itoa n).toArray⟩ else none
def Ai7 (l:List Int):Option (List Int):=some (l.mergeSort λx y=>decide (x<=y))
def Ads (a b:Int):Option ByteArray:=bif b==10 then Nw a else none
def E7 (l:List Int):List UInt8:=l.map λn=>UInt8.ofNat n.toNat
def U1 (l:List Int):Option ByteArray:=if (∀x∈l,0<=x/\x<256) then some ⟨(E7 l).toArray⟩ else none
def Mr (s:ByteArray):List Int:=s.data.toList.map λb=>(b.toNat:Int)
def Cf {α:Type} (l:List α) (i:Int) (x:α):List α:=l.set i.toNat x
def Fv (k:IntKind) (a b:Int):Option Int:=if b=0 then none else some (k.wrap (a.tdiv b))
def Gl (a b:Int):Option Int:=if b=0 then none else some (a.tmod b)
def Ai8 (k:IntKind) (a b:Int):Option Int:=if 0<=b then some (k.wrap (a*2 ^ (min b.toNat k.bits))) else none
def U2 (k:IntKind) (a b:Int):Option Int:=if 0<=b then some (a.fdiv (2 ^ (min b.toNat k.bits))) else none
def E8 (s:ByteArray) (i:Int):Option UInt8:=if 0<=i then s[i.toNat]? else none
def F4 (a b:ByteArray):Option ByteArray:=if a.size+b.size<=9223372036854775807 then some (a++b) else none
def Dt (s:ByteArray) (lo hi:Int):Option ByteArray:=if 0<=lo/\lo<=hi/\hi<=s.size then some (s.extract lo.toNat hi.toNat) else none
abbrev Aa (n:Int):Int:=IntKind.i64.wrap n
abbrev A2 (n:Int):Int:=IntKind.u64.wrap n
abbrev B7 (n:Int):Int:=IntKind.u32.wrap n
abbrev wu8 (n:Int):Int:=IntKind.u8.wrap n
theorem Ai9 {α:Type} {l:List α} {i:Int} {x:α} (h:Ae l i=some x):∃n:Nat,i=n/\l[n]? = some x:=by
 unfold Ae at h;split at h
 .exact ⟨i.toNat,ω,h⟩
 .cases h
section
variable {β:Type} {r:β}
theorem C4 {α:Type} {o:Option α} {m:α->Option β} {G:Prop} (h:o.bind m=some r) (k:∀x,o=some x->m x=some r->G):G:=by cases o with| none=>cases h| some x=>exact k x rfl h
theorem Ze {α:Type} {o:Option α} {m:α->Option β} {G:Prop} (h:o.bind m=some r) (k:∀x,o=some x->(∀y,y=x->m y=some r)->G):G:=by cases o with| none=>cases h| some x=>exact k x rfl (λy hy=>by subst hy; exact h)
theorem Aja {α:Type} {l:List α} {f:α->AV} {ys:List AV} (g:ys=l.map f) {i:Int} {m:α->Option β} {K:Nat->AV->Prop} (h:(Ae l i).bind m=some r) (k:∀(n:Nat) (x:α),i=n->l[n]? = some x->m x=some r->K n (f x)):Us ys i K:=by subst g;refine C4 h λx hx h=>?_;obtain ⟨n,b,c⟩:=Ai9 hx;exact .mk n (f x) b (by simp [c]) (k n x b c h)
theorem Atr {α:Type} {l:List α} {f:α->AV} {ys:List AV} (q:ys=l.map f) {i:Int} {m:α->Option β} {K:Nat->Prop} {len b:Nat} (j:len=l.length) (hk:b=l.length) (h:(Ae l i).bind m=some r) (k:∀(n:Nat) (x:α),i=n->l[n]? = some x->m x=some r->K n):Pu len b ys i K:=by subst q;refine C4 h λx hx h=>?_;obtain ⟨n,c,g⟩:=Ai9 hx;exact .mk n (by rw [hk]; simp) c (by rw [j]; exact (List.getElem?_eq_some_iff.1 g).1) (k n x c g h)
theorem Ats {α:Type} {l:List α} {f:α->AV} {ys:List AV} (c:ys=l.map f) {i:Int} {m:α->Option β} {K:Nat->Prop} {off len b:Nat} (hk:b=l.length) (h:(Fb l off len i).bind m=some r) (k:∀(n:Nat) (x:α),i=n->l[off+n]? = some x->m x=some r->K n):Pu len b ys i K:=by
 subst c;refine C4 h λx hx h=>?_;unfold Fb at hx;split at hx
 .rename_i hc;exact .mk i.toNat (by rw [hk]; simp) ω ω (k _ x ω hx h)
 .cases hx
theorem Si {α:Type} {l:List α} {f:α->AV} {ys:List AV} (c:ys=l.map f) {b n:Nat} (hk:b=l.length) {lo hi:Int} {m:Nat×Nat->Option β} {K:Nat->Nat->Prop} {g:Prop} (h:(I4 n lo hi).bind m=some r) (k:∀v:Nat×Nat,m v=some r->K v.1 v.2):Yu b ys n lo hi K g:=by
 subst c;refine C4 h λx hx h=>?_;unfold I4 at hx;split at hx
 .rename_i hc;cases hx;exact .mk lo.toNat hi.toNat (by rw [hk]; simp) ω ω ω ω ω (k _ h)
 .cases hx
theorem Adt {α β:Type} (f:α->β) (xs:List α) (d:Nat) (ys:List α):C8 (xs.map f) d (ys.map f)=(C8 xs d ys).map f:=by unfold C8;simp [List.map_take,List.map_drop]
theorem Ajb {α:Type} {l ys:List α} {f:α->AV} {xs c:List AV} (q:xs=l.map f) (j:c=ys.map f) {b g len:Nat} {m:List α×Nat->Option β} {K:List AV->Nat->Prop} {i:List AV->Nat->Nat->Prop} (hk:g=l.length) (h:(Uz b l len ys).bind m=some r) (k:∀o:List α×Nat,m o=some r->i (o.1.map f) o.1.length o.2):Ku xs c g len b K i:=by
 subst q; subst j; subst hk;refine C4 h λx hx h=>?_;unfold Uz at hx;split at hx
 .rename_i hc;cases hx;exact .mkP _ _ _ ψ (by simpa using hc.1) (by simpa using hc.2) (Adt f l len ys) ψ ψ (k _ h)
 .cases hx
theorem Ajc {α:Type} {l:List α} {f:α->AV} {xs:List AV} (s:xs=l.map f) {j off len q c b:Nat} {m:List α->Option β} {K:List AV->Nat->Prop} (hk:j=l.length) (i:q=l.length) (h:(Mq l off len c b).bind m=some r) (k:∀o:List α,Mq l off len c b=some o->m o=some r->K (o.map f) (min b len)):Aib xs j off len q c b K:=by
 subst s; subst hk; subst i;refine C4 h λx hx h=>?_;have g:=hx;unfold Mq at hx;split at hx
 .rename_i hc;cases hx;exact .mk _ _ ψ (by simpa using hc.1) ψ (by simpa using hc.2) (by rw [<-List.map_drop,<-List.map_take,Adt]) rfl (k _ g h)
 .cases hx
theorem Ajd {α:Type} {l o:List α} {k off n b c:Nat} (hk:k=l.length) (h:Mq l off n b c=some o):k=o.length:=by
 unfold Mq at h;split at h
 .rename_i hc;cases h;rw [Po ω]; simp; omega
 .cases h
theorem Att {α:Type} {l:List α} {f:α->AV} {xs:List AV} {z:α} {c:AV} (j:xs=l.map f) (i:c=f z) {g off len:Nat} {m:List α->Option β} {K:List AV->Prop} (hk:g=l.length) (h:(Nv l off len z).bind m=some r) (k:∀o:List α,Nv l off len z=some o->m o=some r->K (o.map f)):Aic xs g off len c K:=by
 subst j; subst hk; subst i;refine C4 h λx hx h=>?_;have b:=hx;unfold Nv at hx;split at hx
 .rename_i hc;cases hx;exact .mk _ ψ (by simpa using hc) (by rw [<-List.map_replicate,Adt]) (k _ b h)
 .cases hx
theorem Aje {α:Type} {l o:List α} {k off n:Nat} {z:α} (hk:k=l.length) (h:Nv l off n z=some o):k=o.length:=by
 unfold Nv at h;split at h
 .cases h;rw [Po ω]; simp; omega
 .cases h
theorem Ajf {α:Type} {l:List α} {f:α->AV} {xs:List AV} (c:xs=l.map f) {b len:Nat} {m:List α->Option β} {K:List AV->Prop} (hk:b=l.length) (h:(P6 l len).bind m=some r) (k:∀o:List α,m o=some r->K (o.map f)):F2 b xs (Ac6 len b (Ac7 xs len K)):=by
 subst c; subst hk;refine C4 h λx hx h=>?_;unfold P6 at hx;split at hx
 .rename_i hc;cases hx;exact .mk ψ (.mk hc (.mk _ (by rw [List.map_take]) (k _ h)))
 .cases hx
theorem Ajg {α:Type} {l:List α} {f:α->AV} {ys:List AV} (c:ys=l.map f) {b n:Nat} (hk:b=l.length) {hi:Int} {m:Nat->Option β} {K:Nat->Nat->Prop} {g:Prop} (h:(Sh n hi).bind m=some r) (k:∀v:Nat,m v=some r->K 0 v):Yu b ys n 0 hi K g:=by
 subst c;refine C4 h λx hx h=>?_;unfold Sh at hx;split at hx
 .rename_i hc;cases hx;exact .mk 0 hi.toNat (by rw [hk]; simp) ω ω ω ω ω (k _ h)
 .cases hx
theorem Adu {α:Type} {l:List α} {f:α->AV} {ys:List AV} (i:ys=l.map f) {b n:Nat} (hk:b=l.length) {lo hi:Int} {m:(Nat×Nat)⊕Unit->Option β} {K:Nat->Nat->Prop} {c:Prop} (h:(Jp n lo hi).bind m=some r) (k:∀v:Nat×Nat,m (.inl v)=some r->K v.1 v.2) (g:m (.inr ())=some r->c):Yu b ys n lo hi K c:=by
 subst i;refine C4 h λx hx h=>?_;unfold Jp at hx;split at hx
 .rename_i hc;split at hx
  .cases hx;exact .mk lo.toNat hi.toNat (by rw [hk]; simp) ω ω ω ω ω (k _ h)
  .cases hx;exact .mkE lo.toNat (by rw [hk]; simp) ω ω ω (g h)
 .cases hx
theorem Ajh {op:BinOp} {q:FloatKind} {a b:Nat} {m:Nat->Option β} {K:Nat->Prop} (h:(floatBits op q a b).bind m=some r) (k:∀c,m c=some r->K c):Yx op q a b K := C4 h λx hx h=>.mk x hx (k x h)
theorem Aji {q:FloatKind} {a:Nat} {z:IntKind} {m:Int->Option β} {K:Int->Prop} (h:(floatToIntVal q a z).bind m=some r) (k:∀c,m c=some r->K c):Yy q a z K := C4 h λx hx h=>.mk x hx (k x h)
theorem Atu {α:Type} {l:List α} {f:α->AV} {ys:List AV} (c:ys=l.map f) {n i b:Nat} {x:α} {K:AV->Prop} (hk:b=l.length) (hi:i=n) (hx:l[n]? = some x) (k:K (f x)):J1 b i ys K:=by subst c; subst hi;exact .mk (f x) (by rw [hk]; simp) (by simp [hx]) k
theorem I5 {α:Type} {l:List α} {f:α->AV} {ys:List AV} (b:ys=l.map f) {n i:Nat} {j:Int} {x:α} {p:AV} {K:List AV->Prop} (hp:p=f x) (hi:i=n) (hj:j=(n:Int)) (k:K ((Cf l j x).map f)):R8 ys i p K:=by subst b; subst hi; subst hp; subst hj;exact .mk _ (by simp [Cf,List.map_set]) k
theorem Atv {α:Type} {g:List α->List AV} {f:α->AV} (b:∀l,g l=l.map f) {l:List α} {ys:List AV} (c:ys=l.map f) {n i:Nat} {j:Int} {x:α} {p:AV} {K:List AV->Prop} (hp:p=f x) (hi:i=n) (hj:j=(n:Int)) (k:K (g (Cf l j x))):R8 ys i p K := I5 c hp hi hj (by rw [<-b]; exact k)
theorem Gu {α:Type} {l:List α} {k:Nat} (h:k=l.length) (j:Int) (x:α):k=(Cf l j x).length:=by simp [Cf,h]
theorem Ajj {α:Type} {l:List α} {f:α->AV} {ys:List AV} (c:ys=l.map f) {lo hi:Int} {m:List α->Option β} {K:List AV->Prop} (h:(G1 l lo hi).bind m=some r) (k:∀b:List α,m b=some r->K (b.map f)):Pv ys lo hi K:=by
 subst c;refine C4 h λx hx h=>?_;unfold G1 at hx;split at hx
 .rename_i hc;cases hx;exact .mk lo.toNat hi.toNat _ ω ω ω (by simp; omega) (by rw [<-List.map_take,<-List.map_drop]) (k _ h)
 .cases hx
theorem Atw {α:Type} {l:List α} {f:α->AV} {ys:List AV} (c:ys=l.map f) {lo:Int} {m:List α->Option β} {K:List AV->Prop} (h:(G1 l lo l.length).bind m=some r) (k:∀b:List α,m b=some r->K (b.map f)):Pv ys lo ys.length K:=by
 have e:((ys.length:Nat):Int)=(l.length:Int):=by rw [c]; simp
 rw [e];exact Ajj c h k
theorem Adv {α:Type} {l ys:List α} {f:α->AV} {xs c:List AV} (q:xs=l.map f) (i:c=ys.map f) {b g len:Nat} {m:List α->Option β} {K:List AV->Nat->Prop} {s:List AV->Nat->Nat->Prop} (hk:g=l.length) (j:len=l.length) (h:(Bx b l ys).bind m=some r) (k:∀o:List α,m o=some r->K (o.map f) o.length):Ku xs c g len b K s:=by
 subst q; subst i; subst hk; subst j;refine C4 h λx hx h=>?_;unfold Bx at hx;split at hx
 .rename_i hc;cases hx;exact .mk _ _ ψ rfl (by simpa using hc) ψ ψ (k _ h)
 .cases hx
theorem Atx {l:List Int} {s:ByteArray} {xs:List AV} (i:xs=l.map λn=>.val (.int .u8 n)) {b c len:Nat} {m:List Int->Option β} {K:List AV->Nat->Prop} {j:List AV->Nat->Nat->Prop} (hk:c=l.length) (g:len=l.length) (h:(Bx b l (Mr s)).bind m=some r) (k:∀o:List Int,m o=some r->K (o.map λn=>.val (.int .u8 n)) o.length):Ku xs (H5 s) c len b K j:=by refine Adv (f:=λn=>.val (.int .u8 n)) i ?_ hk g h k;simp [H5,Mr]
theorem Ajk {α:Type} {ys:List α} {f:α->AV} {c:List AV} (g:c=ys.map f) {b:Nat} {m:List α->Option β} {K:List AV->Nat->Prop} (h:(Bx b [] ys).bind m=some r) (k:∀o:List α,m o=some r->K (o.map f) o.length):Pw c b K:=by
 subst g;refine C4 h λx hx h=>?_;unfold Bx at hx;split at hx
 .rename_i hc;cases hx;exact .mk _ _ (by simpa using hc) ψ ψ (k _ h)
 .cases hx
theorem Aty {α:Type} {g:List α->List AV} {f:α->AV} (s:∀l,g l=l.map f) {l ys:List α} {xs c:List AV} (u:xs=l.map f) (j:c=ys.map f) {b i len:Nat} {m:List α->Option β} {K:List AV->Nat->Prop} {x:List AV->Nat->Nat->Prop} (hk:i=l.length) (q:len=l.length) (h:(Bx b l ys).bind m=some r) (k:∀o:List α,m o=some r->K (g o) o.length):Ku xs c i len b K x := Adv u j hk q h λo h=>by rw [<-s]; exact k o h
theorem Ajl {α:Type} {g:List α->List AV} {f:α->AV} (j:∀l,g l=l.map f) {ys:List α} {c:List AV} (i:c=ys.map f) {b:Nat} {m:List α->Option β} {K:List AV->Nat->Prop} (h:(Bx b [] ys).bind m=some r) (k:∀o:List α,m o=some r->K (g o) o.length):Pw c b K := Ajk i h λo h=>by rw [<-j]; exact k o h
theorem Atz {α:Type} {z:α} {f:α->AV} {g:AV} (i:g=f z) {len c:Int} {b:Nat} {m:List α->Option β} {K:Nat->List AV->Prop} (h:(Ew b len c z).bind m=some r) (k:∀o:List α,m o=some r->K o.length (o.map f)):R7 len c b g K:=by
 subst i;refine C4 h λx hx h=>?_;unfold Ew at hx;split at hx
 .rename_i hc;cases hx;exact .mk _ c.toNat _ (by simp; omega) ω (by simp; omega) hc.2.2.1 ω ψ (k _ h)
 .cases hx
theorem Nx {α:Type} {z:α} {f:α->AV} {g:AV} (i:E2 g.cells (f z).cells) {len c:Int} {b:Nat} {m:List α->Option β} {K:Nat->List AV->Prop} (h:(Ew b len c z).bind m=some r) (k:∀o:List α,m o=some r->K o.length (o.map f)):R7 len c b g K:=by
 refine C4 h λx hx h=>?_;unfold Ew at hx;split at hx
 .rename_i hc;cases hx;exact .mkN (f z) i _ c.toNat _ (by simp; omega) ω (by simp; omega) hc.2.2.1 ω ψ (k _ h)
 .cases hx
theorem Ajm {α:Type} {l:List α} {f:α->AV} {ys:List AV} (b:ys=l.map f) {K:Int->Prop} (k:K (l.length:Int)):Kv ys K:=by subst b; exact .mk _ ψ k
theorem At0 {α:Type} {l:List α} {f:α->AV} {ys:List AV} (c:ys=l.map f) {b:Nat} (hk:b=l.length) {K:Prop} (k:K):F2 b ys K:=by subst c; exact .mk (by rw [hk]; simp) k
def Fw {α:Type} (l:List (ByteArray×α)) (s:ByteArray):Bool:=l.any λp=>s==p.1
def Iv {α:Type} (l:List (ByteArray×α)) (s:ByteArray) (z:α):α:=((l.find? λp=>s==p.1).map (·.2)).getD z
def Fx {α:Type}:List (ByteArray×α)->ByteArray->α->List (ByteArray×α)
 | [],s,v=>[(s,v)]
 | p::l,s,v=>bif s==p.1 then (s,v)::l else p::Fx l s v
def Bu {α:Type} (f:α->AV) (l:List (ByteArray×α)):List (AV×AV):=l.map λp=>(.val (.string p.1),f p.2)
theorem Adw {α:Type} (f:α->AV) (s:ByteArray) (z:α):∀(l:List (ByteArray×α)) (i:Nat), (Fw l s=false/\H6 s (Bu f l) i=some none)\/(Fw l s=true/\∃j,H6 s (Bu f l) i=some (some (i+j,f (Iv l s z)))/\∀v,Bu f (Fx l s v)=(Bu f l).set j (.val (.string s),f v))
 | [],i=>.inl ⟨rfl,rfl⟩
 | p::l,i=>by
  cases hp:s==p.1 with
  | true=>
   refine .inr ⟨by simp [Fw,hp],0,?_,λv=>?_⟩
   .simp [Bu,H6,Iv,hp]
   .simp [Bu,Fx,hp]
  | false=>
   rcases Adw f s z l (i+1) with ⟨h1,h2⟩ | ⟨h1,j,h2,h3⟩
   .refine .inl ⟨by simp only [Fw,List.any_cons,hp,Bool.false_or]; exact h1,?_⟩;have:H6 s (Bu f (p::l)) i=H6 s (Bu f l) (i+1):=(by simp [Bu,H6,hp]);rw [this,h2]
   .refine .inr ⟨by simp only [Fw,List.any_cons,hp,Bool.false_or]; exact h1,j+1,?_,λv=>?_⟩
    .have:H6 s (Bu f (p::l)) i=H6 s (Bu f l) (i+1):=(by simp [Bu,H6,hp]);have e2:Iv (p::l) s z=Iv l s z:=(by simp [Iv,hp]);rw [this,h2,e2]; congr 3; omega
    .have b:Bu f (Fx (p::l) s v)=(.val (.string p.1),f p.2)::Bu f (Fx l s v):=(by simp [Bu,Fx,hp]);rw [b,h3 v]; rfl
theorem Ajn {α:Type} (f:α->AV) {s:ByteArray} {v:α}:∀{l:List (ByteArray×α)},Fw l s=false->Bu f (Fx l s v)=Bu f l++[(.val (.string s),f v)]
 | [],_=>rfl
 | p::l,h=>by simp only [Fw,List.any_cons,Bool.or_eq_false_iff] at h;have:=Ajn f (v:=v) (l:=l) h.2;simp only [Fx,h.1,cond_false];simp only [Bu,List.map_cons,List.cons_append] at this ⊢;rw [this]
theorem Zf {α:Type} {f:α->AV} {l:List (ByteArray×α)} {es:List (AV×AV)} (i:es=Bu f l) (z:α) {s:ByteArray} {m b:Option β} {K:Option (Nat×AV)->Prop} (h:(bif Fw l s then m else b)=some r) (g:∀j,Fw l s=true->m=some r->K (some (j,f (Iv l s z)))) (c:Fw l s=false->b=some r->K none):Aid s es K:=by
 subst i;rcases Adw f s z l 0 with ⟨h1,h2⟩ | ⟨h1,j,h2,_⟩
 .rw [h1] at h; exact .mk _ h2 (c h1 h)
 .rw [h1] at h; exact .mk _ h2 (g _ h1 h)
theorem U3 {α:Type} {f:α->AV} {l:List (ByteArray×α)} {es:List (AV×AV)} (b:es=Bu f l) {s:ByteArray} {x:α} {v:AV} (hv:v=f x) {K:List (AV×AV)->Prop} (k:K (Bu f (Fx l s x))):Aie s v es K:=by
 subst b; subst hv;refine .mk _ ?_ k;unfold Yj;rcases Adw f s x l 0 with ⟨h1,h2⟩ | ⟨h1,j,h2,h3⟩
 .rw [h2,Ajn f h1]
 .rw [h2,h3 x]; simp
theorem U4 {k:IntKind} {a b:Int} {m:Int->Option β} {K:Int->Prop} (h:(Fv k a b).bind m=some r) (f:∀c:Int,m c=some r->K c):Yp k a b K:=by
 refine C4 h λx hx h=>?_;unfold Fv at hx;split at hx
 .cases hx
 .rename_i hb; cases hx; exact .mk _ hb rfl (f _ h)
theorem Zg {a b:Int} {m:Int->Option β} {K:Int->Prop} (h:(Gl a b).bind m=some r) (f:∀c:Int,m c=some r->K c):Yq a b K:=by
 refine C4 h λx hx h=>?_;unfold Gl at hx;split at hx
 .cases hx
 .rename_i hb; cases hx; exact .mk _ hb rfl (f _ h)
theorem Ajo {k:IntKind} {a b:Int} {m:Int->Option β} {K:Int->Prop} (h:(Ai8 k a b).bind m=some r) (f:∀c:Int,m c=some r->K c):Ys k a b K:=by
 refine C4 h λx hx h=>?_;unfold Ai8 at hx;split at hx
 .rename_i hb; cases hx; exact .mk _ hb rfl (f _ h)
 .cases hx
theorem Ajp {k:IntKind} {a b:Int} {m:Int->Option β} {K:Int->Prop} (h:(U2 k a b).bind m=some r) (f:∀c:Int,m c=some r->K c):Yr k a b K:=by
 refine C4 h λx hx h=>?_;unfold U2 at hx;split at hx
 .rename_i hb; cases hx; exact .mk _ hb rfl (f _ h)
 .cases hx
theorem K2 {s:ByteArray} {i:Int} {m:UInt8->Option β} {K:UInt8->Prop} (h:(E8 s i).bind m=some r) (b:∀c:UInt8,m c=some r->K c):Yv s i K:=by
 refine C4 h λx hx h=>?_;unfold E8 at hx;split at hx
 .exact .mk i.toNat x ω hx (b _ h)
 .cases hx
theorem Gp {a b:ByteArray} {m:ByteArray->Option β} {K:Prop} (h:(F4 a b).bind m=some r) (k:m (a++b)=some r->K):Yw (a.size+b.size) K:=by
 refine C4 h λx hx h=>?_;unfold F4 at hx;split at hx
 .rename_i hc; cases hx; exact .mk hc (k h)
 .cases hx
theorem Adx {s:ByteArray} {lo hi:Int} {m:ByteArray->Option β} {K:Nat->Nat->Prop} (h:(Dt s lo hi).bind m=some r) (k:∀l h',lo=((l:Nat):Int)->hi=((h':Nat):Int)->m (s.extract l h')=some r->K l h'):Yt s.size lo hi K:=by
 refine C4 h λx hx h=>?_;unfold Dt at hx;split at hx
 .rename_i hc;cases hx;exact .mk lo.toNat hi.toNat ω ω ω ω (k _ _ ω ω h)
 .cases hx
end
def Zh (Qn:Nat->Bn->Hp->Prop) (Qe:Nat->Nat->Bn->Hp->Prop) (Qr:Nat->Bn->Hp->Prop) (x:Ex) (n:Nat) (e:Bn) (H:Hp):Prop := match x with
 | .normal=>Qn n e H
 | .exit i=>Qe i n e H
 | .ret=>Qr n e H
def wc (P:Program) (C:Cfg) (c:Code) (Qn:Nat->Bn->Hp->Prop) (Qe:Nat->Nat->Bn->Hp->Prop) (Qr:Nat->Bn->Hp->Prop) (n:Nat) (e:Bn) (H:Hp):Prop := Cm P C.T->P.follows .mixedOrders=true->∀(F:A1) (W:World) (σ:A1) (ι:Br) (a:Act) (w:World) (Q:Exit->Act->World->Prop), Iu a.tmps.size c=true->St σ ι H F W w->Ea σ ι H e a->El H n -> (∀x h e' H' f g b w',Zh Qn Qe Qr x h e' H'->Le σ ι H f g H'->St f g H' F W w'->Ea f g H' e' b->El H' h->n<=h->b.tmps.size=a.tmps.size->b.defers=a.defers->Eu (Ev c) a b->Q x.out b w')->c.wp P Q a w
section
variable {P:Program} {C:Cfg} {Qn:Nat->Bn->Hp->Prop} {Qe:Nat->Nat->Bn->Hp->Prop} {Qr:Nat->Bn->Hp->Prop} {n:Nat} {e:Bn} {H:Hp} {β:Type} {r:β}
theorem Ady {c:Code} (h:vc P C c (Zh Qn Qe Qr) n e H):wc P C c Qn Qe Qr n e H := λj g _ _ σ ι a w Q b s i f hk=>Py j g c _ n e H σ ι a w Q b h s i f hk
theorem J6 (k:Qn n e H):wc P C .skip Qn Qe Qr n e H:=Ady k
theorem Adz (k:Qr n e H):wc P C .ret Qn Qe Qr n e H:=Ady k
theorem Fo {id:Nat} (k:Qe id n e H):wc P C (.exit id) Qn Qe Qr n e H:=Ady k
theorem Ajq {id:Nat} {ops:Array Oper} {b:Bool} (h:Ep (Eg P C.T C.an C.nl ops ops.toList n e H [] λn e H acc=>bif b then Kz ops.toList acc (Qn n e H) else Qn n e H)):wc P C (.region id ops b) Qn Qe Qr n e H:=by
 intro Y S F W σ ι a w Q E s V M hk;have q:=Le.refl σ ι H;have s0:=s;have z:=V;have R:=M;obtain ⟨L,e',H',accs,l,_,X,x,N,c⟩:=Ado Y ops.toList 0 n e H [] _ ψ rfl M h.1;have u:=Aiw E;cases b with
 | false=>simp only [cond_false] at l;refine wp_region ?_;have:List.range ops.size=List.range' 0 ops.toList.length:=(by rw [List.range_eq_range']; simp);rw [this];refine c.wpOps s0 z u ?_;intro B D J w' le s' g f j hu;exact hk .normal L e' H' B D J w' l (q.trans le) s' g N x f j hu
 | true=>
  simp only [cond_true] at l;obtain ⟨G,l⟩:=l;refine wp_region_any S ?_;have A:ops=ops.toList.toArray:=ψ;rw [A];simp only [List.size_toArray];refine Ac3 (accs:=accs) (e':=e') (H':=H') G ops.toList.length _ (List.range' 0 ops.toList.length) e H σ ι a _ (by rw [<-A]; exact c) (List.pairwise_lt_range' ..) ?_ ψ ?_ ψ (s0.drew _) z (by rw [<-A]; exact u) ?_
  .intro i;simp only [List.mem_range'_1,Array.getD_eq_getD_getElem?];constructor
   .rintro ⟨_,h2⟩;refine ⟨ω,?_⟩;have:i<ops.size:=(by simpa using h2);simp [this]
   .rintro ⟨h1,_⟩; omega
  .intro k o U I;exfalso;simp only [Array.getD_eq_getD_getElem?] at I;by_cases y:k<ops.size
   .simp [y] at I
   .simp [y] at I
  .intro B D J w' le s' g f j hu;exact hk .normal L e' H' B D J w' l (q.trans le) s' g N x f j (by rw [<-A] at hu; exact hu)
theorem Ajr {id:Nat} {os:List Oper} (k:Ep (Eg P C.T C.an C.nl os.toArray os n e H [] λn e H acc=>Kz os acc (Qn n e H))):wc P C (.region id os.toArray true) Qn Qe Qr n e H:=Ajq k
theorem B2 {id:Nat} {os:List Oper} (k:Ep (Eg P C.T C.an C.nl os.toArray os n e H [] λn e H _=>Qn n e H)):wc P C (.region id os.toArray false) Qn Qe Qr n e H:=Ajq k
theorem Dj {c:Code} (z:List Gh) (k:gxs z n e H λn e H=>Ep (wc P C c Qn Qe Qr n e H)):wc P C c Qn Qe Qr n e H:=by intro S M F W σ ι a w Q h s R L hk;obtain ⟨A,D,V,X,Y,J,b,G,l,i,N⟩:=P4 z k s R L;exact J.1 S M F W A D a w Q h G l i λx I e' H' B E U w' hq f s' q j y g u hu=> hk x I e' H' B E U w' hq (b.trans f) s' q j ω g u hu
theorem Ax {V U:Code} (k:wc P C V (λn e H=>wc P C U Qn Qe Qr n e H) Qe Qr n e H):wc P C (.seq V U) Qn Qe Qr n e H:=by intro R M F W σ ι a w Q f s he hn hk;simp only [Iu,Bool.and_eq_true] at f;refine wp_seq (k R M F W σ ι a w _ f.1 s he hn ?_);intro x L S X y z a1 A hq c B i g q b j hu;cases x with| normal=>refine hq R M F W y z a1 A Q (by rw [b]; exact f.2) B i g ?_;intro x n2 e2 H2 Y Z a2 w2 G D s2 J I N l u E;exact hk x n2 e2 H2 Y Z a2 w2 G (c.trans D) s2 J I ω (l.trans b) (u.trans j) ((hu.mono (by simp [Ev]; exact λs h=>.inl h)).trans (E.mono (by simp [Ev]; exact λs h=>.inr h)))| exit id=>exact hk (.exit id) L S X y z a1 A hq c B i g q b j (hu.mono (by simp [Ev]; exact λs h=>.inl h))| ret=>exact hk .ret L S X y z a1 A hq c B i g q b j (hu.mono (by simp [Ev]; exact λs h=>.inl h))
theorem Ad0 {l:Nat} (k:Qn n e H):wc P C (.label l) Qn Qe Qr n e H:=by intro h g F W σ ι a w Q b s f c hk;exact wp_label (hk .normal n e H σ ι a w k (Le.refl _ _ _) s f c (Nat.le_refl _) rfl rfl (Eu.refl _ _))
theorem Ad1 {c:Code} (k:wc P C c Qn Qe Qr n e H):wc P C (.scope c) Qn Qe Qr n e H:=by intro G D F W σ ι a w Q g s E B hk;refine wp_scope_straight (k G D F W σ ι a w _ g s E B ?_);intro x A I J q u a1 y hq b z j h i f l hu;have:=hk x A I J q u a1 y hq b z j h i f l hu;cases x <;> exact this
theorem I6 {id:Nat} {c:Code} (k:wc P C c Qn (λi n e H=>bif Nat.beq i id then Qn n e H else Qe i n e H) Qr n e H):wc P C (.block id c) Qn Qe Qr n e H:=by
 intro L I F W σ ι a w Q E s J G hk;refine wp_block (k L I F W σ ι a w _ E s J G ?_);intro x A B D q u a1 y hq b z j g h f l hu;cases x with
 | normal=>exact hk .normal A B D q u a1 y hq b z j g h f l hu
 | exit i=>
  simp only [Ex.out,Exit.inBlock];by_cases hi:i=id
  .subst hi;rw [if_pos rfl];have:Nat.beq i i=true:=Nat.beq_refl i;simp only [Zh,this,cond_true] at hq;exact hk .normal A B D q u a1 y hq b z j g h f l hu
  .rw [if_neg hi];have:Nat.beq i id=false:=by
    cases hb:Nat.beq i id
    .rfl
    .exact (hi (Nat.eq_of_beq_eq_true hb)).elim
   simp only [Zh,this,cond_false] at hq;exact hk (.exit i) A B D q u a1 y hq b z j g h f l hu
 | ret=>exact hk .ret A B D q u a1 y hq b z j g h f l hu
theorem Ajs {x:Operand} {σ:A1} {ι:Br} {a:Act} {t:Bool} (b:Ais a.tmps.size x=true) (c:Ea σ ι H e a) (hx:ev e x = .val (.bool t)):a.eval x = .bool t:=by
 have hc:=c.eval (x:=x) (λt ht=>by cases x with| tmp q=>cases ht; exact Gi b| _=>cases ht)
 rw [hx] at hc;exact hc.val_inv
theorem Zi {x:Operand} {u L:Code} (k:wc P C u Qn Qe Qr n e H) (hx:ev e x = .val (.bool true):=by exact rfl):wc P C (.cond x u L) Qn Qe Qr n e H:=by intro I G F W σ ι a w Q b s q E hk;simp only [Iu,Bool.and_eq_true] at b;refine wp_cond_true (Ajs b.1.1 q hx) (k I G F W σ ι a w Q b.1.2 s q E ?_);intro x D J M y z a1 A hq c B j g i f l hu;exact hk x D J M y z a1 A hq c B j g i f l (hu.mono (by simp [Ev]; exact λs h=>.inl h))
theorem Ny {x:Operand} {L u:Code} (k:wc P C u Qn Qe Qr n e H) (hx:ev e x = .val (.bool false):=by exact rfl):wc P C (.cond x L u) Qn Qe Qr n e H:=by intro I G F W σ ι a w Q b s q E hk;simp only [Iu,Bool.and_eq_true] at b;refine wp_cond_false (Ajs b.1.1 q hx) (k I G F W σ ι a w Q b.2 s q E ?_);intro x D J M y z a1 A hq c B j g i f l hu;exact hk x D J M y z a1 A hq c B j g i f l (hu.mono (by simp [Ev]; exact λs h=>.inr h))
theorem Am {c:Operand} {a b:Code} {t:Bool} {m f:Option β} (h:(bif t then m else f)=some r) (h1:t=true->m=some r->wc P C a Qn Qe Qr n e H) (h2:t=false->f=some r->wc P C b Qn Qe Qr n e H) (hx:ev e c = .val (.bool t):=by exact rfl):wc P C (.cond c a b) Qn Qe Qr n e H:=by cases t with| true=>exact Zi (h1 rfl h) hx| false=>exact Ny (h2 rfl h) hx
theorem Ajt {X:List Nat} {l:List (Nat×AV)} {h:List (Nat×Bh)} {F σ z:A1} {W w Y:World} {ι I:Br} {a a1:Act} {G:Hp} {e1:Bn} (hb:Jo n l h=true) (hn:El H n) (s:St σ ι H F W w) (he:Ea σ ι H e a) (M:Gj e1 l) (R:Gk G (Cg H h) n n) (L:Le σ ι H z I G) (i:St z I G F W Y) (a8:Ea z I G e1 a1) (aa:a1.tmps.size=a.tmps.size) (a7:Eu X a a1) : ∃A,Le σ ι H z A (Cg H h)/\St z A (Cg H h) F W Y/\Ea z A (Cg H h) (I3 X e (λs=>a1.tmps.getD s undef) l) a1/\El (Cg H h) n:=by
 have Z:∀x,n<=x->ι x = .none:=by intro x hx;have:=s.obj x; unfold Ci at this; rw [hn x hx] at this; exact this
 have D:∀p∈h,p.1<n:=by intro p hp;unfold Jo at hb;rw [Bool.and_eq_true,List.all_eq_true,List.all_eq_true] at hb;exact Gi (hb.2 p hp)
 have N:∀p∈l,p.2.under n=true:=by intro p hp;unfold Jo at hb;rw [Bool.and_eq_true,List.all_eq_true,List.all_eq_true] at hb;exact hb.1 p hp
 have u:El (Cg H h) n:=by intro x hx;rw [R5 (λp hp e=>by have:=D p hp; omega)]; exact hn x hx
 let A:Br:=λx=>if x<n then I x else .none
 have c:∀x,x<n->A x=I x:=λx hx=>if_pos hx;have f:∀x,x<n->Cg H h x=G x:=λx hx=>((R.spec) x hx).1.symm;have J:Le σ ι H z A (Cg H h):=by
  refine ⟨L.sto,λx=>?_⟩;by_cases hx:x<n
  .rw [c x hx,f x hx]; exact L.obj x
  .rw [Z x ω,hn x ω]; exact HLe.of_none
 have s2:St z A (Cg H h) F W Y:=by
  refine ⟨i.sto,i.fra,λx=>?_,?_,i.os,i.tape,i.output,i.glo,i.drw⟩
  .by_cases hx:x<n
   .have k:=i.obj x;have B:=((R.spec) x hx).2;unfold Ci at k ⊢;rw [f x hx] at B ⊢;rw [c x hx];cases j:G x with
    | none=>rw [j] at k; exact k
    | dead=>trivial
    | cells E cs=>rw [j] at k B;obtain ⟨b,Cc,g1,g2,g3,g4,g5,g6⟩:=k;refine ⟨b,Cc,g1,g2,g3,g4,g5,λq cq v hq a6=>(g6 q cq v hq a6).restrict c f ?_⟩;have:=List.all_eq_true.1 B cq (List.mem_of_getElem? hq);exact Adf this
    | rows E sz xs=>rw [j] at k; exact k
    | map es=>rw [j] at k; exact k
   .unfold Ci;rw [u x ω];exact if_neg hx
  .intro x y b V U bx S;have hx:x<n:=by
    rcases Nat.lt_or_ge x n with hx | hx
    .exact hx
    .rw [u x hx] at V; cases V
   have hy:y<n:=by
    rcases Nat.lt_or_ge y n with hy | hy
    .exact hy
    .rw [u y hy] at U; cases U
   rw [f x hx] at V; rw [f y hy] at U;rw [c x hx] at bx; rw [c y hy] at S;exact i.inj x y b V U bx S
 refine ⟨A,J,s2,?_,u⟩;intro q hq;rcases Aiu X e (λs=>a1.tmps.getD s undef) l q with ⟨p,hp,rfl,g⟩ | ⟨hw,g⟩ | ⟨hw,g⟩
 .rw [g,<-M.spec p hp];refine (a8 p.1 hq).restrict c f ?_;rw [M.spec p hp]; exact N p hp
 .rw [g]; exact .of_val _
 .rw [g,a7 q hw]; exact (he q ω).mono J
theorem Aju {S E:Type} {step:S->Option (S⊕E)} {s0:S} {J:E->Option β} {b:Code} (h:(Al step s0).bind J=some r) (I:S->List (Nat×AV)) (hv:S->List (Nat×Bh)) (j:S->Prop) (hb:∀s,Jo n (I s) (hv s)=true) (hs:Gj e (I s0)) (hh:Gk H (Cg H (hv s0)) n n) (h0:j s0) (a8:∀(s:S) (u:Nat->Value) (K:Nat->Bn->Hp->Prop) (o:S⊕E),step s=some o->(∀x,.inr x=o->J x=some r)->(∀s' n' e' H',.inl s'=o->Gj e' (I s')->Gk H' (Cg H (hv s')) n n->j s'->K n' e' H')->j s -> wc P C b K Qe Qr n (I3 (Ev b) e u (I s)) (Cg H (hv s))):wc P C (.loop b) Qn Qe Qr n e H:=by
 intro hT hm F W σ ι a w Q aa s he hn hk;refine C4 h λx hx h=>?_;obtain ⟨N,hN⟩:=Adq hx;let J':Nat->Act->World->Prop:=λk a' w'=>∃i σ' ι',(Hu step k i=some x/\j i)/\Le σ ι H σ' ι' (Cg H (hv i))/\St σ' ι' (Cg H (hv i)) F W w' /\
   Ea σ' ι' (Cg H (hv i)) (I3 (Ev b) e (λs=>a'.tmps.getD s undef) (I i)) a'/\a'.tmps.size=a.tmps.size/\a'.defers=a.defers/\Eu (Ev b) a a'
 have g:∀(k:Nat) (i:S) (D:A1) (X:Br) (H1:Hp) (e1:Bn) (a1:Act) (Z:World),(Hu step k i=some x/\j i)->Gj e1 (I i)->Gk H1 (Cg H (hv i)) n n->Le σ ι H D X H1->St D X H1 F W Z->Ea D X H1 e1 a1->a1.tmps.size=a.tmps.size ->
    a1.defers=a.defers->Eu (Ev b) a a1->J' k a1 Z:=by intro k i D X H1 e1 a1 Z hi ab ad q s1 U c f l;obtain ⟨Y,g1,g2,g3,_⟩:=Ajt (hb i) hn s he ab ad q s1 U c l;exact ⟨i,D,Y,hi,g1,g2,g3,c,f,l⟩
 refine Ait J' N (g N s0 σ ι H e a w ⟨hN,h0⟩ hs hh (Le.refl _ _ _) s he rfl rfl (Eu.refl _ _)) ?_;rintro k a1 Z ⟨i,D,X,⟨hi,a7⟩,q,s1,U,c,f,l⟩;have af:El (Cg H (hv i)) n:=by intro y hy;have V:=hb i;unfold Jo at V;rw [Bool.and_eq_true,List.all_eq_true,List.all_eq_true] at V;rw [R5 (λp hp e=>by have:=Gi (V.2 p hp); omega)]; exact hn y hy
 cases k with
 | zero=>cases hi
 | succ k=>
  simp only [Hu] at hi;cases ho:step i with
  | none=>rw [ho] at hi; cases hi
  | some o=>
   rw [ho] at hi;refine a8 i (λs=>a1.tmps.getD s undef) (λ_ e' H'=>∃s',(Hu step k s'=some x/\j s')/\Gj e' (I s')/\Gk H' (Cg H (hv s')) n n) o ho ?_ ?_ a7 hT hm F W D X a1 Z _ (by rw [c]; exact aa) s1 U af ?_
   .intro y hy; subst hy;simp only [Option.some.injEq] at hi;rw [hi]; exact h
   .intro s' n' e' H' M h1 h2 h3;subst M;exact ⟨s',⟨hi,h3⟩,h1,h2⟩
   .intro x n2 e2 H2 σ2 Y a2 w2 hq G s2 R a6 B z A L;cases x with| normal=>obtain ⟨i',ac,M,ae⟩:=hq;exact ⟨k,ω,g k i' σ2 Y H2 e2 a2 w2 ac M ae (q.trans G) s2 R (z.trans c) (A.trans f) (l.trans L)⟩| exit id=>exact hk (.exit id) n2 e2 H2 σ2 Y a2 w2 hq (q.trans G) s2 R a6 B (z.trans c) (A.trans f) (l.trans L)| ret=>exact hk .ret n2 e2 H2 σ2 Y a2 w2 hq (q.trans G) s2 R a6 B (z.trans c) (A.trans f) (l.trans L)
theorem P7 {S:Type} {c:Code} (J:S->Prop) (l:S->List (Nat×AV)) (hv:S->List (Nat×Bh)) (hb:∀s,Jo n (l s) (hv s)=true) (X:∀(K:Nat->Bn->Hp->Prop),(∀s U e' H',J s->Gj e' (l s)->Gk H' (Cg H (hv s)) n n->K U e' H')->wc P C c K Qe Qr n e H) (V:∀(s:S) (u:Nat->Value),J s->Qn n (I3 (Ev c) e u (l s)) (Cg H (hv s))):wc P C c Qn Qe Qr n e H:=by intro Z Y F W σ ι a w Q A s L I hk;refine X (λ_ e' H'=>∃s,J s/\Gj e' (l s)/\Gk H' (Cg H (hv s)) n n) (λs _ _ _ h1 h2 h3=>⟨s,h1,h2,h3⟩) Z Y F W σ ι a w _ A s L I ?_;intro x G M N q E a1 y hq f z g j k b h hu;cases x with| normal=>obtain ⟨i,hi,B,D⟩:=hq;obtain ⟨R,g1,g2,g3,g4⟩:=Ajt (hb i) I s L B D f z g b hu;exact hk .normal n _ _ q R a1 y (V i (λs=>a1.tmps.getD s undef) hi) g1 g2 g3 g4 (Nat.le_refl _) b h hu| exit id=>exact hk (.exit id) G M N q E a1 y hq f z g j k b h hu| ret=>exact hk .ret G M N q E a1 y hq f z g j k b h hu
theorem At1 (E:Cm P C.T) (J:P.follows .mixedOrders=true) {f:FuncId} {fn:Func} {c:Code} {args:List AV} {r:AV} (D:P.funcs[f]? = some fn) (hb:fn.body=some c) (g:(fn.name == "runtime.NumGoroutine")=false) (b:Sg fn c args.length=true) (h:r.free=true) (hv:wc P C c (λ_ e H=>Pz C.T fn.results.toList (· = r) e H) (λ_ _ _ _=>False) (λ_ e H=>Pz C.T fn.results.toList (· = r) e H) 0 (Sf args) H0):As P f args r:=by
 unfold Sg at b;simp only [Bool.and_eq_true] at b;obtain ⟨⟨u,y⟩,G⟩:=b;have G:=Nat.le_of_ble_eq_true G;refine ⟨⟨fn,D,g,by rw [hb]; rfl⟩,λσ F W w vs s hc=>?_⟩;have j:(vs++Array.replicate (fn.ntmps-vs.size) undef).size=fn.ntmps:=by have:=hc.1;simp; omega
 refine calls_of_wp D hb (hv E J F W σ ι0 _ w _ (by rw [j]; exact u) s (Ai2 hc) (λ_ _=>rfl) ?_);intro x S e' H' M N B w' hq le s' z _ _ i A _;have k:∀q∈fn.results.toList,P0 q<B.tmps.size:=by intro q hq';rw [i];have:=Gi (List.all_eq_true.1 y q hq');rw [j]; exact this
 have fin:Pz C.T fn.results.toList (· = r) e' H'->B.defers = []/\∃v,(results fn B.tmps).run P w' = .ok v w'/\∃v0 l,Ending.returned v = .returned v0/\σ.le l/\St l ι0 H0 F W w'/\Conc l ι0 H0 r v0:=by intro hq;obtain ⟨v,I,U,R,h1,h2,h3,h4,L⟩:=Atm E s' z k hq;subst h2;exact ⟨A,v,h1,v,I,rfl,A1.le_trans le.sto h3.sto,h4.forget,L.to0 h⟩
 cases x with| normal=>exact fin hq| ret=>exact fin hq| exit id=>exact hq.elim
theorem At2 (fz:Bool) (X:Cm P C.T) (hm:P.follows .mixedOrders=true) {f:FuncId} {fn:Func} {c:Code} {args:List AV} {r:AV} {B b:List Bh} (V:P.funcs[f]? = some fn) (hb:fn.body=some c) (l:(fn.name == "runtime.NumGoroutine")=false) (j:Sg fn c args.length=true) (g:Adn B r b=true) (hv:wc P C c (λ_ e H=>P3 C.T fz fn.results.toList r b e H) (λ_ _ _ _=>False) (λ_ e H=>P3 C.T fz fn.results.toList r b e H) B.length (Sf args) (hp B)):Bo P f args B r b:=by
 unfold Sg at j;unfold Adn at g;simp only [Bool.and_eq_true] at j g;obtain ⟨⟨I,L⟩,Y⟩:=j;obtain ⟨⟨E,J⟩,N⟩:=g;have E:=Nat.le_of_ble_eq_true E;have Y:=Nat.le_of_ble_eq_true Y;refine ⟨⟨fn,V,l,by rw [hb]; rfl⟩,λσ F W w ι vs s hc=>?_⟩;have A:(vs++Array.replicate (fn.ntmps-vs.size) undef).size=fn.ntmps:=by have:=hc.1;simp; omega
 refine calls_of_wp V hb (hv X hm F W σ ι _ w _ (by rw [A]; exact I) s (Ai2 hc) (λ_ h=>Nn h) ?_);intro x n' e' H' σ' ι' U w' hq le s' R _ _ z S _;have D:∀q∈fn.results.toList,P0 q<U.tmps.size:=by intro q hq';rw [z];have:=Gi (List.all_eq_true.1 L q hq');rw [A]; exact this
 have fin:P3 C.T fz fn.results.toList r b e' H'->U.defers = []/\∃v,(results fn U.tmps).run P w' = .ok v w'/\∃v0 G ι0,Ending.returned v = .returned v0/\Le σ ι (hp B) G ι0 (hp b)/\St G ι0 (hp b) F W w'/\Conc G ι0 (hp b) r v0:=by
  intro hq;obtain ⟨v,Z,H2,h1,h2,h3,h4,h5⟩:=Atn X s' R D hq;have u:∀i,i<b.length->H2 i=hp b i:=λi hi=>by simpa using h2.spec i hi
  refine ⟨S,v,h1,v,Z,(λk=>if k<b.length then ι' k else .none),rfl,?_,h4.first b u N,?_⟩
  .have y:=le.trans h3;refine ⟨y.sto,λk=>?_⟩;by_cases hk:k<b.length
   .rw [if_pos hk,<-u k hk]; exact y.obj k
   .rw [if_neg hk,Nn ω,Nn ω];have:ι k = .none:=(by have:=s.obj k; unfold Ci at this; rw [Nn ω] at this; exact this);rw [this]; exact HLe.refl _ _
  .exact h5.restrict (n:=b.length) (λh M=>if_pos M) (λh M=>(u h M).symm) J
 cases x with| normal=>exact fin hq| ret=>exact fin hq| exit id=>exact hq.elim
end
end Go.Ab
namespace Go.Ab
theorem Ajv {id:Nat}:∀{k b:List Item},exitTo id k=some b->b.length<k.length
 | [],b,h=>by cases h
 | x::k,b,h=>by
  have ih:exitTo id k=some b->b.length<(x::k).length:=λh=>Nat.lt_succ_of_lt (Ajv h);unfold exitTo at h;split at h
  .rename_i f c heq;cases heq;split at h
   .cases h; simp
   .exact ih h
  .rename_i g c _ heq;cases heq; exact ih h
  .rename_i heq; cases heq
theorem Ad2 {P:Program} {m f c:Machine} (h:step P m = .next f) (h':Steps P m c):c=m\/Steps P f c:=by obtain ⟨n,b⟩:=h';cases n with| zero=>left; simp only [runN,Stepped.next.injEq] at b; exact b.symm| succ n=>right; simp only [runN,h] at b; exact ⟨n,b⟩
theorem Ajw {b:Frame} {a f:Act} {k c:List Item} {cs:List Frame} {w w':World} (h:lone (b.at a k) cs w=lone (b.at f c) cs w'):k=c:=by simp only [lone,Machine.mk.injEq,Array.mk.injEq,List.cons.injEq,Goroutine.mk.injEq,Frame.at,Frame.mk.injEq] at h;exact h.2.1.1.1.2.2.1
def At3:Exit->Bool
 | .normal | .exit _ | .ret=>true
 | _=>false
theorem At4 {P:Program} {Q:Exit->Act->World->Prop} {a:Act} {w:World} {c:Code} (h:c.wp P (Exit.then (λB w'=>(Code.loop c).wp P (λe a w=>At3 e=true/\Q e a w) B w') Q) a w):(Code.loop c).wp P Q a w:=by
 intro b k cs;obtain ⟨e,a1,i,hq,f⟩:=h b (.inLoop c::k) cs;have first:Steps P (lone (b.at a (.code (.loop c)::k)) cs w) (lone (b.at a (.code c :: .inLoop c::k)) cs w):=.one step_loop
 cases e with
 | normal=>
  obtain ⟨e2,a2,u,⟨s,q⟩,g⟩:=hq b k cs;have j:Steps P (lone (b.at a (.code (.loop c)::k)) cs w) (lone (b.at a1 (.code c :: .inLoop c::k)) cs i):=first.trans (Steps.trans f (.one step_inLoop));refine ⟨e2,a2,u,q,.of_steps j ?_⟩;cases e2 with
  | normal=>
   rcases Ad2 step_loop g with e | e
   .have:=congrArg List.length (Ajw e); simp at this
   .exact e
  | exit id=>
   intro y hk;rcases Ad2 step_loop (g y hk) with e | e
   .have h1:=Ajv hk;have h2:=congrArg List.length (Ajw e); simp at h2; omega
   .exact e
  | ret=>
   obtain ⟨todo,z⟩:=g;rcases Ad2 step_loop z with e | e
   .simp only [lone,Machine.mk.injEq,Array.mk.injEq,List.cons.injEq,Goroutine.mk.injEq,Frame.at,Frame.mk.injEq] at e;simp at e
   .exact ⟨todo,e⟩
  | goto l=>cases s
  | panic A=>cases s
  | outgrown=>cases s
 | exit id=>exact ⟨_,a1,i,hq,.of_steps first (.pass (x:=.inLoop c) rfl (λ_ _=>.inl ψ) f)⟩
 | goto l=>exact ⟨_,a1,i,hq,.of_steps first (.pass (x:=.inLoop c) rfl (λ_ _=>.inl ψ) f)⟩
 | ret=>exact ⟨_,a1,i,hq,.of_steps first (.pass (x:=.inLoop c) rfl (λ_ _=>.inl ψ) f)⟩
 | panic A=>exact ⟨_,a1,i,hq,.of_steps first (.pass (x:=.inLoop c) rfl (λ_ _=>.inl ψ) f)⟩
 | outgrown=>exact ⟨_,a1,i,hq,.of_steps (b:=b) (k:=k) (cs:=cs) (e:=.outgrown) first (.pass (x:=.inLoop c) rfl (λ_ _=>.inl ψ) f)⟩
section
variable {P:Program} {C:Cfg} {Qn:Nat->Bn->Hp->Prop} {Qe:Nat->Nat->Bn->Hp->Prop} {Qr:Nat->Bn->Hp->Prop} {n:Nat} {e:Bn} {H:Hp}
theorem Zj {c:Code} (k:wc P C c (λn e H=>wc P C (.loop c) Qn Qe Qr n e H) Qe Qr n e H):wc P C (.loop c) Qn Qe Qr n e H:=by intro R M F W σ ι a w Q l s he hn hk;refine At4 (k R M F W σ ι a w _ l s he hn ?_);intro x L S U y z a1 A hq f B h g q b i hu;cases x with| normal=>refine hq R M F W y z a1 A _ (by rw [b]; exact l) B h g ?_;intro x n2 e2 H2 V X a2 Y G D Z J I N j u E;exact ⟨by cases x <;> rfl,hk x n2 e2 H2 V X a2 Y G (f.trans D) Z J I ω (j.trans b) (u.trans i) (hu.trans E)⟩| exit id=>exact hk (.exit id) L S U y z a1 A hq f B h g q b i hu| ret=>exact hk .ret L S U y z a1 A hq f B h g q b i hu
def Vw (x:AV) (v:Value):Prop:=∀sz xs,x = .sl sz xs->∃p c,v = .slice p xs.length c/\(p=none->xs = [])
theorem Ad3 {c:Code} (s:Nat) (k:∀v,Vw (e s) v->wc P C c Qn Qe Qr n (A4 e s (.val v)) H):wc P C c Qn Qe Qr n e H:=by
 intro z y F W σ ι a w Q f u l x hk;by_cases A:s<a.tmps.size
 .have hc:=l s A;refine k (a.tmps.getD s undef) ?_ z y F W σ ι a w Q f u ?_ x hk
  .intro sz xs hx;rw [hx] at hc;rcases hc.sl_inv.sl_inv with ⟨rfl,p,cap,e⟩ | ⟨b,off,cap,C,E,fr,g,e,_⟩
   .exact ⟨p,cap,e,λ_=>rfl⟩
   .exact ⟨_,cap,e,λh=>by cases h⟩
  .intro q hq;by_cases h:q=s
   .subst h; rw [Ce]; exact .of_val _
   .rw [Cz _ _ h]; exact l q hq
 .have hv:∃v,Vw (e s) v:=(by cases hx:e s with| sl sz xs=>exact ⟨.slice (some ⟨0,0,none⟩) xs.length 0,λj i h=>by cases h; exact ⟨_,_,rfl,λh=>by cases h⟩⟩| _=>exact ⟨undef,λj i h=>by cases h⟩);obtain ⟨v,hv⟩:=hv;refine k v hv z y F W σ ι a w Q f u ?_ x hk;intro q hq;rw [Cz _ _ ω]; exact l q hq
end
end Go.Ab
namespace Go.Ab
structure At5 {α:Type} (cf:α->α->Int):Prop where
 irr:∀x,¬cf x x<0
 trs:∀x y z,cf x y<0->cf y z<0->cf x z<0
 ntr:∀x y z,¬cf x y<0->¬cf y z<0->¬cf x z<0
def Ajx {α:Type} (cmp:α->α->Option Int) (l r:List α):Prop := ∃cf:α->α->Int,At5 cf/\(∀x∈l,∀y∈l,cmp x y=some (cf x y))/\r.Perm l/\r.Pairwise (λx y=>cf x y<0)
open Classical in
noncomputable def U5 {α:Type} (cmp:α->α->Option Int) (l:List α):Option (List α) := if h:∃r,Ajx cmp l r then some (Classical.choose h) else none
theorem At6 {α:Type} {cmp:α->α->Option Int} {l r:List α} (h:U5 cmp l=some r):Ajx cmp l r:=by
 unfold U5 at h;split at h
 .rename_i k;cases h; exact Classical.choose_spec k
 .cases h
def Zk {α:Type} (n:Nat) (a:List α):Option (List α×List α):=(Bx n [] a).bind λo=>some ([],o)
def Sj {α:Type} (n:Int):Option (List α):=bif decide (0<=n)&&decide (n<=1000000) then some [] else none
end Go.Ab
