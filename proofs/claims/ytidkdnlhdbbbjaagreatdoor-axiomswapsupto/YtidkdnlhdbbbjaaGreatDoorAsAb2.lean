/- Plain laws: what the plain functions answer. -/
import Derived.Test.YtidkdnlhdbbbjaaGreatDoorAsAb
namespace Go.Ab
def H0:Hp:=fun _=>.none
def ι0:Bo:=fun _=>.none
def Wf (P:Program) (f:FuncId):Prop:=∃fn,P.funcs[f]? = some fn/\(fn.name == "runtime.NumGoroutine")=false/\fn.body.isNone=false
def J9 (σ:Aq) (ι:Bo) (H:Hp) (args:List AV) (vs:Array Value):Prop :=
 vs.size=args.length/\∀(i:Nat) (a:AV) (v:Value),args[i]? = some a->vs[i]? = some v->Conc σ ι H a v
def Aw (P:Program) (f:FuncId) (args:List AV) (r:AV):Prop :=
 Wf P f/\∀(σ F:Aq) (W w:World) (vs:Array Value),St σ ι0 H0 F W w->J9 σ ι0 H0 args vs ->
  Calls P f vs w fun e w'=>∃v b,e = .returned v/\σ.le b/\St b ι0 H0 F W w'/\Conc b ι0 H0 r v
def AV.under0 (n:Nat):AV->Bool
 | .loc h _ | .mp h=>Nat.blt h n
 | .arr h _ _ _ | .el h _ _ _=>Nat.blt h n
 | .val _ | .sl _ _ | .ref _=>true
 | _=>false
def AV.under1 (n:Nat):AV->Bool
 | .loc h _ | .mp h=>Nat.blt h n
 | .arr h _ _ _ | .el h _ _ _=>Nat.blt h n
 | .val _ | .sl _ _ | .ref _=>true
 | .fn _ cs=>cs.all (AV.under0 n)
 | _=>false
def AV.under2 (n:Nat):AV->Bool
 | .agg cs=>cs.all (AV.under1 n)
 | x=>x.under1 n
def AV.under (n:Nat):AV->Bool
 | .agg cs | .fn _ cs=>cs.all (AV.under1 n)
 | .tup cs=>cs.all (AV.under2 n)
 | x=>x.under1 n
def Be.under (n:Nat):Be->Bool
 | .cells _ cs=>cs.all (AV.under1 n)
 | .map _=>true
 | .rows _ _ _=>true
 | .none=>true
 | .dead=>true
def Aau (es:Nat->Nat):AV->AV
 | .loc h off=>.loc (es h) off
 | .mp h=>.mp (es h)
 | .arr h k off len=>.arr (es h) k off len
 | .el h k i j=>.el (es h) k i j
 | x=>x
def K1 (es:Nat->Nat):AV->AV
 | .loc h off=>.loc (es h) off
 | .mp h=>.mp (es h)
 | .arr h k off len=>.arr (es h) k off len
 | .el h k i j=>.el (es h) k i j
 | .fn f cs=>.fn f (cs.map (Aau es))
 | x=>x
def Aav (es:Nat->Nat):AV->AV
 | .agg cs=>.agg (cs.map (K1 es))
 | x=>K1 es x
def ren (es:Nat->Nat):AV->AV
 | .agg cs=>.agg (cs.map (K1 es))
 | .tup cs=>.tup (cs.map (Aav es))
 | .fn f cs=>.fn f (cs.map (K1 es))
 | x=>K1 es x
def Gx (es:Nat->Nat):Be->Be
 | .cells E cs=>.cells E (cs.map (K1 es))
 | o=>o
def hp (b:List Be):Hp:=fun k=>b.getD k .none
def Br (P:Program) (f:FuncId) (args:List AV) (h:List Be) (r:AV) (b:List Be):Prop :=
 Wf P f/\∀(σ F:Aq) (W w:World) (ι:Bo) (vs:Array Value),St σ ι (hp h) F W w->J9 σ ι (hp h) args vs ->
  Calls P f vs w fun e w'=>∃v c g,e = .returned v/\Le σ ι (hp h) c g (hp b)/\St c g (hp b) F W w'/\Conc c g (hp b) r v
def Dk (n:Nat):List Nat->Nat->Nat
 | [],k=>n+k
 | h::_,0=>h
 | _::l,k+1=>Dk n l k
def Lp (n:Nat):List Nat->Bool
 | []=>true
 | h::l=>Nat.blt h n && !(l.elem h)&&Lp n l
def wrs (es:Nat->Nat):Nat->List Be->List (Nat×Be)
 | _,[]=>[]
 | k,o::os=>(es k,Gx es o)::wrs es (k+1) os
def Bv (es:Nat->Nat):Nat->Nat->List (Nat×Be)
 | _,0=>[]
 | k,c+1=>(es k,.none)::Bv es (k+1) c
def N0 (H:Hp):List (Nat×Be)->Prop
 | []=>True
 | p::l=>H p.1=p.2/\N0 H l
def P5 (n:Nat) (l:List Nat) (c:List AV) (f:List Be) (r:AV) (b:List Be):Bool :=
 Lp n l&&Nat.beq f.length l.length&&Nat.ble l.length b.length&&c.all (AV.under l.length)&&f.all (Be.under l.length)&&r.under b.length&&b.all (Be.under b.length)
inductive Ss (xs:List AV) (i:Int) (K:Nat->AV->Prop):Prop where
 | mk (n:Nat) (x:AV) (hi:i=n) (hx:xs[n]? = some x) (k:K n x)
inductive N1 (len:Nat) (kk:Nat) (xs:List AV) (i:Int) (K:Nat->Prop):Prop where
 | mk (n:Nat) (hk:xs.length=kk) (hi:i=n) (hn:n<len) (k:K n)
inductive Ge (k:IntKind) (n:Int) (K:Int->Prop):Prop where
 | mk (c:Int) (h:k.wrap n=c) (k:K c)
inductive Wg (k:IntKind) (m n:Int) (K:Int->Prop):Prop where
 | mk (c:Int) (hn:n≠0) (h:k.wrap (m.tdiv n)=c) (k:K c)
inductive Wh (m n:Int) (K:Int->Prop):Prop where
 | mk (c:Int) (hn:n≠0) (h:m.tmod n=c) (k:K c)
inductive Wi (k:IntKind) (m n:Int) (K:Int->Prop):Prop where
 | mk (c:Int) (hn:0<=n) (h:m.fdiv (2 ^ (min n.toNat k.bits))=c) (k:K c)
inductive Wj (k:IntKind) (m n:Int) (K:Int->Prop):Prop where
 | mk (c:Int) (hn:0<=n) (h:k.wrap (m*2 ^ (min n.toNat k.bits))=c) (k:K c)
inductive Wk (n:Nat) (lo hi:Int) (K:Nat->Nat->Prop):Prop where
 | mk (l h:Nat) (el:lo=l) (eh:hi=h) (h1:l<=h) (h2:h<=n) (k:K l h)
inductive N2 (xs:List AV) (lo hi:Int) (K:List AV->Prop):Prop where
 | mk (l h:Nat) (ys:List AV) (el:lo=l) (eh:hi=h) (h1:l<=h) (h2:h<=xs.length) (hy:(xs.take h).drop l=ys) (k:K ys)
inductive Afv (kk:Nat) (xs:List AV) (n:Nat) (lo hi:Int) (K:Nat->Nat->Prop) (KE:Prop):Prop where
 | mk (l h:Nat) (hk:xs.length=kk) (el:lo=l) (eh:hi=h) (h1:l<=h) (h2:h<=n) (h3:l=0\/l<h) (k:K l h)
 | mkE (l:Nat) (hk:xs.length=kk) (el:lo=l) (eh:hi=l) (h2:l<=n) (k:KE)
inductive Wl (s:ByteArray) (i:Int) (K:UInt8->Prop):Prop where
 | mk (n:Nat) (c:UInt8) (hi:i=n) (hc:s[n]? = some c) (k:K c)
inductive Wm (n:Nat) (K:Prop):Prop where
 | mk (h:n<=9223372036854775807) (k:K)
inductive P6 (len cap:Int) (bytes:Nat) (z:AV) (K:Nat->List AV->Prop):Prop where
 | mk (l c:Nat) (zs:List AV) (el:len=l) (ec:cap=c) (h1:l<=c) (h2:bytes*c<=281474976710656) (h3:c<=140737488355328) (hz:List.replicate l z=zs) (k:K l zs)
 | mkN (z':AV) (hn:E5 z.cells z'.cells) (l c:Nat) (zs:List AV) (el:len=l) (ec:cap=c) (h1:l<=c) (h2:bytes*c<=281474976710656) (h3:c<=140737488355328) (hz:List.replicate l z'=zs) (k:K l zs)
inductive K2 (xs ys:List AV) (kk len bytes:Nat) (K:List AV->Nat->Prop) (KP:List AV->Nat->Nat->Prop):Prop where
 | mkP (zs:List AV) (k' m:Nat) (hk:xs.length=kk) (hl:len<=kk) (hb:(xs.length+ys.length)*bytes<=140737488355328) (hz:El xs len ys=zs) (hk':zs.length=k') (hm:len+ys.length=m) (k:KP zs k' m)
 | mk (zs:List AV) (m:Nat) (hk:xs.length=kk) (hl:len=kk) (hb:(xs.length+ys.length)*bytes<=140737488355328) (hz:xs++ys=zs) (hm:kk+ys.length=m) (k:K zs m)
inductive Apq (ys:List AV) (K:Prop):Prop where
 | mk (hy:ys = []) (k:K)
inductive N3 (ys:List AV) (bytes:Nat) (K:List AV->Nat->Prop):Prop where
 | mk (zs:List AV) (m:Nat) (hb:ys.length*bytes<=140737488355328) (hz:ys=zs) (hm:ys.length=m) (k:K zs m)
inductive Apr (xs:List AV) (kk len k2 off2 len2 bytes:Nat) (K:List AV->Nat->Nat->Prop):Prop where
 | mk (zs:List AV) (k' m:Nat) (hk:xs.length=kk) (hl:len<=kk) (hk2:xs.length=k2) (hl2:off2+len2<=kk) (hb:(xs.length+len2)*bytes<=140737488355328) (hz:El xs len ((xs.drop off2).take len2)=zs) (hk':zs.length=k') (hm:len+len2=m) (k:K zs k' m)
inductive Aps (xs:List AV) (kk off len k2 off2 len2:Nat) (K:List AV->Nat->Prop):Prop where
 | mk (zs:List AV) (c:Nat) (hk:xs.length=kk) (hl:off+len<=kk) (hk2:xs.length=k2) (hl2:off2+len2<=kk) (hz:El xs off ((xs.drop off2).take (min len2 len))=zs) (hc:min len2 len=c) (k:K zs c)
inductive Apt (xs:List AV) (kk off len:Nat) (z:AV) (K:List AV->Prop):Prop where
 | mk (zs:List AV) (hk:xs.length=kk) (hl:off+len<=kk) (hz:El xs off (List.replicate len z)=zs) (k:K zs)
inductive Apu (a b:Nat) (K:Prop):Prop where
 | mk (h:a<=b) (k:K)
inductive Apv (xs:List AV) (n:Nat) (K:List AV->Prop):Prop where
 | mk (ys:List AV) (hy:xs.take n=ys) (k:K ys)
inductive Su (xs:List AV) (q:Nat) (p:AV) (K:List AV->Prop):Prop where
 | mk (zs:List AV) (hz:xs.set q p=zs) (k:K zs)
inductive Ka (xs:List AV) (K:Int->Prop):Prop where
 | mk (c:Int) (hc:(xs.length:Int)=c) (k:K c)
inductive Jq (kk i:Nat) (xs:List AV) (K:AV->Prop):Prop where
 | mk (x:AV) (hk:xs.length=kk) (hx:xs[i]? = some x) (k:K x)
inductive Fm (kk:Nat) (xs:List AV) (K:Prop):Prop where
 | mk (hk:xs.length=kk) (k:K)
inductive E6 (P:Program) (n:Nat) (H:Hp) (f:FuncId) (args:List AV) (K:Eff->Nat->Prop):Prop where
 | mk (r:AV) (h:Aw P f args r) (hf:args.all AV.free=true) (k:K ⟨r,[],[]⟩ n)
 | act (l:List Nat) (largs:List AV) (hs:List Be) (r:AV) (hs':List Be) (h:Br P f largs hs r hs') (ha:largs.map (ren (Dk n l))=args) (ok:P5 n l largs hs r hs'=true) (hh:N0 H (wrs (Dk n l) 0 hs))
   (k:K ⟨ren (Dk n l) r,wrs (Dk n l) 0 hs++Bv (Dk n l) l.length (hs'.length-l.length),wrs (Dk n l) 0 hs'⟩ (n+(hs'.length-l.length)))
inductive Afw (s:ByteArray) (es:List (AV×AV)) (K:Option (Nat×AV)->Prop):Prop where
 | mk (r:Option (Nat×AV)) (h:G9 s es 0=some r) (k:K r)
inductive Wn (op:BinOp) (k:FloatKind) (a b:Nat) (K:Nat->Prop):Prop where
 | mk (c:Nat) (h:floatBits op k a b=some c) (k:K c)
inductive Wo (k:FloatKind) (a:Nat) (q:IntKind) (K:Int->Prop):Prop where
 | mk (c:Int) (h:floatToIntVal k a q=some c) (k:K c)
inductive Apw (P:Program) (kt:TypeId) (us:List Value) (es:List (AV×AV)) (K:Option (Nat×AV)->Prop):Prop where
 | mk (r:Option (Nat×AV)) (hc:Wd P kt us) (h:K0 P kt us es 0 r) (k:K r)
inductive Apx (P:Program) (kt:TypeId) (ks:List AV) (us:List Value) (v:AV) (es:List (AV×AV)) (K:List (AV×AV)->Prop):Prop where
 | mk (es':List (AV×AV)) (hc:Wd P kt us) (h:K0 P kt us es 0 none) (he:es++[(.agg ks,v)]=es') (k:K es')
inductive Afx (s:ByteArray) (v:AV) (es:List (AV×AV)) (K:List (AV×AV)->Prop):Prop where
 | mk (es':List (AV×AV)) (h:Wa s v es=some es') (k:K es')
inductive Afy (P:Program) (t:TypeId) (us vs:List Value) (K:Bool->Prop):Prop where
 | mk (b:Bool) (h:Wc P t us vs b) (k:K b)
inductive Aaw (P:Program) (t:TypeId) (f:Nat) (K:TypeId->Prop):Prop where
 | mk (ft:TypeId) (h:Aao P t f=some ft) (k:K ft)
inductive Afz (P:Program) (f:FuncId) (args:List AV) (K:AV->Prop):Prop where
 | mk (r:AV) (h:Aw P f args r) (hf:args.all AV.free=true) (k:K r)
inductive Ann where
 | frz (j:Nat)
 | std
 | own
 | ask
def Jr:AV->Bool
 | .val (.slice none 0 0)=>true
 | _=>false
def Sv:AV->Bool
 | .val (.agg _)=>false
 | _=>true
def Aax (x:AV) (K:AV->Prop):Prop :=
 match x with
 | .val v=>K (.val v)
 | .loc h off=>K (.loc h off)
 | .arr h k off len=>K (.arr h k off len)
 | .el h k i j=>K (.el h k i j)
 | .mp h=>K (.mp h)
 | .ref cs=>K (.ref cs)
 | .sl sz xs=>K (.sl sz xs)
 | .agg cs=>K (.agg cs)
 | .tup cs=>K (.tup cs)
 | .fn f cs=>K (.fn f cs)
def Mo:List AV->(List AV->Prop)->Prop
 | [],K=>K []
 | x::xs,K=>Aax x fun x=>Mo xs fun xs=>K (x::xs)
def Jb (x:AV) (K:AV->Prop):Prop :=
 match x with
 | .agg cs=>Mo cs fun cs=>K (.agg cs)
 | .tup cs=>Mo cs fun cs=>K (.tup cs)
 | .fn f cs=>Mo cs fun cs=>K (.fn f cs)
 | x=>Aax x K
def P7:List AV->(List AV->Prop)->Prop
 | [],K=>K []
 | x::xs,K=>Jb x fun x=>P7 xs fun xs=>K (x::xs)
def Aay (o:Be) (K:Be->Prop):Prop :=
 match o with
 | .cells E cs=>Mo cs fun cs=>K (.cells E cs)
 | .rows E sz xs=>K (.rows E sz xs)
 | .map es=>K (.map es)
 | .none=>K .none
 | .dead=>K .dead
def K4:List (Nat×Be)->(List (Nat×Be)->Prop)->Prop
 | [],K=>K []
 | p::l,K=>Aay p.2 fun o=>K4 l fun l=>K ((p.1,o)::l)
def Ha:List (Nat×Be)->(List Nat->Prop)->Prop
 | [],K=>K []
 | p::l,K=>Ha l fun l=>K (p.1::l)
theorem Af0 (x:AV) (K:AV->Prop):Aax x K=K x:=by cases x <;> rfl
theorem Wp:∀(l:List AV) (K:List AV->Prop),Mo l K=K l
 | [],_=>rfl
 | x::xs,K=>by simp only [Mo,Af0,Wp xs]
theorem P8 (x:AV) (K:AV->Prop):Jb x K=K x:=by cases x <;> simp only [Jb,Wp,Af0]
theorem Wq:∀(l:List AV) (K:List AV->Prop),P7 l K=K l
 | [],_=>rfl
 | x::xs,K=>by simp only [P7,P8,Wq xs]
theorem Apy (o:Be) (K:Be->Prop):Aay o K=K o:=by cases o <;> simp only [Aay,Wp]
theorem Aaz:∀(l:List (Nat×Be)) (K:List (Nat×Be)->Prop),K4 l K=K l
 | [],_=>rfl
 | p::l,K=>by simp only [K4,Apy,Aaz l]
theorem Aa0:∀(l:List (Nat×Be)) (K:List Nat->Prop),Ha l K=K (l.map (·.1))
 | [],_=>rfl
 | p::l,K=>by simp only [Ha,Aa0 l,List.map_cons]
def Dp (P:Program) (T:Ch) (an:Nat->Ann) (n:Nat) (o:Oper) (ρ:Operand->AV) (H:Hp) (K:Eff->Nat->Prop):Prop :=
 match o.op with
 | .move x=>K ⟨ρ x,[],[]⟩ n
 | .assign x=>
  match o.dst with
  | none=>K ⟨ρ x,[],[]⟩ n
  | some d=>
   match an d with
   | .frz _=>K ⟨ρ x,[],[]⟩ n
   | .std=>K ⟨ρ x,[],[]⟩ n
   | .ask=>K ⟨ρ x,[],[]⟩ n
   | .own=>bif Jr (ρ x) then
     match T o.type with
     | some ⟨.slice e,_,_,_⟩=>
      match T e with
      | some g=>bif Nat.blt 0 g.size then K ⟨.arr n 0 0 0,[(n,.none)],[(n,.rows e g.size [])]⟩ (n+1) else False
      | none=>False
     | _=>False
    else K ⟨ρ x,[],[]⟩ n
 | .pick c a b=>
  match ρ c with
  | .val (.bool t)=>K ⟨bif t then ρ a else ρ b,[],[]⟩ n
  | _=>False
 | .alloc t=>
  match T t with
  | some i=>K ⟨.loc n 0,[(n,.none)],[(n,.cells t (i.zero.map .val))]⟩ (n+1)
  | none=>False
 | .box t x=>K ⟨.loc n 0,[(n,.none)],[(n,.cells t (ρ x).cells)]⟩ (n+1)
 | .build t parts=>
  match T t with
  | some ⟨.struct fs,_,_,z⟩=>
   match Pz fs (z.map .val) (parts.toList.map fun p=>(p.1,ρ p.2)) with
   | some cs=>K ⟨.agg cs,[],[]⟩ n
   | none=>False
  | _=>False
 | .buildSlice t len parts=>
  match T t with
  | some ⟨.slice e,_,_,_⟩=>
   match T e with
   | some g=>
    bif Nat.blt 0 g.size&&(parts.toList.map (·.1)==List.range' 0 len)&&Nat.ble (len*g.size) 16777216&&parts.toList.all (fun p=>I8 g.size (ρ p.2)) then
     match an (o.dst.getD 0) with
     | .frz _=>False
     | .std=>P7 (parts.toList.map fun p=>ρ p.2) fun xs=>K ⟨.sl g.size xs,[],[]⟩ n
     | .ask=>P7 (parts.toList.map fun p=>ρ p.2) fun xs=>K ⟨.sl g.size xs,[],[]⟩ n
     | .own=>P7 (parts.toList.map fun p=>ρ p.2) fun xs=>K ⟨.arr n len 0 len,[(n,.none)],[(n,.rows e g.size xs)]⟩ (n+1)
    else False
   | none=>False
  | _=>False
 | .load t x=>
  match T t with
  | some i=>
   match ρ x with
   | .ref cs=>bif i.isAgg then (bif Nat.ble i.size cs.length then K ⟨.agg (cs.take i.size),[],[]⟩ n else False) else
     match cs with
     | c::_=>K ⟨c,[],[]⟩ n
     | []=>False
   | .loc h off=>
    match H h with
    | .cells E cs=>bif i.isAgg then (bif Nat.ble (off+i.size) cs.length then K ⟨.agg ((cs.drop off).take i.size),[(h,.cells E cs)],[]⟩ n else False) else
      match cs[off]? with
      | some c=>K ⟨c,[(h,.cells E cs)],[]⟩ n
      | none=>False
    | _=>False
   | .el h k q j=>
    match H h with
    | .rows E sz xs=>Jq k q xs fun y=>bif i.isAgg then (bif Nat.ble (j+i.size) y.cells.length then K ⟨.agg ((y.cells.drop j).take i.size),[(h,.rows E sz xs)],[]⟩ n else False) else
      match y.cells[j]? with
      | some c=>K ⟨c,[(h,.rows E sz xs)],[]⟩ n
      | none=>False
    | _=>False
   | _=>False
  | none=>False
 | .store t x y=>
  match T t with
  | some i=>
   match ρ x with
   | .loc h off=>
    match H h with
    | .cells E cs=>bif Nat.beq (ρ y).cells.length i.size&&Nat.ble (off+i.size) cs.length&&(ρ y).cells.all AV.one then K ⟨.val undef,[(h,.cells E cs)],[(h,.cells E (J7 cs off (ρ y).cells))]⟩ n else False
    | _=>False
   | .el h k q j=>
    match H h with
    | .rows E sz xs=>Jq k q xs fun z=>bif Nat.beq (ρ y).cells.length i.size&&Nat.blt 0 i.size&&Nat.ble (j+i.size) z.cells.length&&(ρ y).cells.all AV.cl1&&Sv z then
      Mo (ρ y).cells fun ys=>Jb (Sp z j ys) fun p=>Su xs q p fun u=>K ⟨.val undef,[(h,.rows E sz xs)],[(h,.rows E sz u)]⟩ n else False
    | _=>False
   | _=>False
  | none=>False
 | .nilCheck x=>bif (ρ x).isPtr then K ⟨ρ x,[],[]⟩ n else False
 | .binOp op t x y _=>
  match ρ x,ρ y with
  | .val (.int k a),.val (.int I b)=>
   match op with
   | .shl=>Wj k a b fun c=>K ⟨.val (.int k c),[],[]⟩ n
   | .shr=>Wi k a b fun c=>K ⟨.val (.int k c),[],[]⟩ n
   | op=>bif decide (k=I) then
     match op with
     | .add=>Ge k (a+b) fun c=>K ⟨.val (.int k c),[],[]⟩ n
     | .sub=>Ge k (a-b) fun c=>K ⟨.val (.int k c),[],[]⟩ n
     | .mul=>Ge k (a*b) fun c=>K ⟨.val (.int k c),[],[]⟩ n
     | .quo=>Wg k a b fun c=>K ⟨.val (.int k c),[],[]⟩ n
     | .rem=>Wh a b fun c=>K ⟨.val (.int k c),[],[]⟩ n
     | op=>
      match Z6 op a b with
      | some t=>K ⟨.val (.bool t),[],[]⟩ n
      | none=>
       match Aac op k a b with
       | some c=>K ⟨.val (.int k c),[],[]⟩ n
       | none=>False
    else False
  | .val (.bool a),.val (.bool b)=>
   match T t with
   | some ⟨.bool,_,_,_⟩=>
    match Aad op a b with
    | some t=>K ⟨.val (.bool t),[],[]⟩ n
    | none=>False
   | _=>False
  | .agg xs,.agg ys=>
   match Gk xs with
   | some M=>
    match Gk ys with
    | some vs=>
     match op with
     | .eql=>Afy P t M vs fun b=>K ⟨.val (.bool b),[],[]⟩ n
     | .neq=>Afy P t M vs fun b=>K ⟨.val (.bool !b),[],[]⟩ n
     | _=>False
    | none=>False
   | none=>False
  | .val (.float k a),.val (.float I b)=>bif decide (k=I) then Wn op k a b fun c=>K ⟨.val (.float k c),[],[]⟩ n else False
  | .val (.string a),.val (.string b)=>
   match op with
   | .add=>Wm (a.size+b.size) (K ⟨.val (.string (a++b)),[],[]⟩ n)
   | op=>
    match Aae op a b with
    | some t=>K ⟨.val (.bool t),[],[]⟩ n
    | none=>False
  | .val (.slice p _ _),.val (.slice none _ _)=>
   match op with
   | .eql=>
    match T t with
    | some ⟨.slice _,_,_,_⟩=>K ⟨.val (.bool p.isNone),[],[]⟩ n
    | _=>False
   | _=>False
  | _,_=>False
 | .unOp op _ x=>
  match op,ρ x with
  | .not,.val (.bool b)=>K ⟨.val (.bool !b),[],[]⟩ n
  | .neg,.val (.int k m)=>Ge k (0-m) fun c=>K ⟨.val (.int k c),[],[]⟩ n
  | _,_=>False
 | .convert s d x=>
  match T s,T d,ρ x with
  | some _,some ⟨.int k,_,_,_⟩,.val (.int _ m)=>Ge k m fun c=>K ⟨.val (.int k c),[],[]⟩ n
  | some _,some ⟨.float k,_,_,_⟩,.val (.int _ m)=>K ⟨.val (.float k (floatOfInt k m)),[],[]⟩ n
  | some _,some ⟨.int k,_,_,_⟩,.val (.float q m)=>Wo q m k fun c=>K ⟨.val (.int k c),[],[]⟩ n
  | _,_,_=>False
 | .makeFunc (.func f) first A=>bif first.isEmpty then K ⟨.fn f (A.toList.map ρ),[],[]⟩ n else False
 | .makeSlice t x y=>
  match T t with
  | some ⟨.slice e,_,_,_⟩=>
   match T e with
   | some g=>
    match ρ x,ρ y with
    | .val (.int _ l),.val (.int _ c)=>
     bif Nat.blt 0 g.size&&I8 g.size (D7 g)&&Nat.beq (D7 g).cells.length g.zero.length&&Sv (D7 g) then
      P6 l c g.bytes (D7 g) fun l u=>K ⟨.arr n l 0 l,[(n,.none)],[(n,.rows e g.size u)]⟩ (n+1)
     else False
    | _,_=>False
   | none=>False
  | _=>False
 | .slice t x lo X none=>
  match T t with
  | some ⟨.slice e,_,_,_⟩=>
   match T e with
   | some g=>
    match ρ x with
    | .sl sz xs=>
     match Gd ρ 0 lo,Gd ρ xs.length X with
     | some l,some h=>bif Nat.beq sz g.size then N2 xs l h fun ys=>K ⟨.sl sz ys,[],[]⟩ n else False
     | _,_=>False
    | .arr hd k off len=>
     match H hd with
     | .rows E sz xs=>
      match Gd ρ 0 lo,Gd ρ len X with
      | some l,some h=>bif Nat.beq sz g.size then Afv k xs len l h (fun l h=>K ⟨.arr hd k (off+l) (h-l),[(hd,.rows E sz xs)],[]⟩ n) (K ⟨.sl g.size [],[(hd,.rows E sz xs)],[]⟩ n) else False
      | _,_=>False
     | _=>False
    | _=>False
   | none=>False
  | some ⟨.string,_,_,_⟩=>
   match ρ x with
   | .val (.string s)=>
    match Gd ρ 0 lo,Gd ρ s.size X with
    | some l,some h=>Wk s.size l h fun l h=>K ⟨.val (.string (s.extract l h)),[],[]⟩ n
    | _,_=>False
   | _=>False
  | _=>False
 | .fieldAddr s x f=>
  match T s with
  | some ⟨.struct fs,_,_,_⟩=>
   match fs[f]? with
   | some q=>
    match ρ x with
    | .loc h off=>K ⟨.loc h (off+q.1),[],[]⟩ n
    | .ref cs=>K ⟨.ref (cs.drop q.1),[],[]⟩ n
    | .el h k m j=>
     match H h with
     | .rows E sz xs=>Fm k xs (K ⟨.el h k m (j+q.1),[(h,.rows E sz xs)],[]⟩ n)
     | _=>False
    | _=>False
   | none=>False
  | _=>False
 | .indexAddr t x y=>
  match T t with
  | some ⟨.slice e,_,_,_⟩=>
   match T e with
   | some g=>
    match ρ x,ρ y with
    | .sl sz xs,.val (.int _ i)=>bif Nat.beq sz g.size then Ss xs i fun _ z=>K ⟨.ref z.cells,[],[]⟩ n else False
    | .arr h k off len,.val (.int _ i)=>
     match H h with
     | .rows E sz xs=>bif Nat.beq sz g.size then N1 len k xs i fun m=>K ⟨.el h k (off+m) 0,[(h,.rows E sz xs)],[]⟩ n else False
     | _=>False
    | _,_=>False
   | none=>False
  | _=>False
 | .index t x y=>
  match T t with
  | some ⟨.string,_,_,_⟩=>
   match ρ x,ρ y with
   | .val (.string s),.val (.int _ i)=>Wl s i fun c=>K ⟨.val (.int .u8 c.toNat),[],[]⟩ n
   | _,_=>False
  | _=>False
 | .field s x f=>
  match T s with
  | some ⟨.struct fs,_,_,_⟩=>
   match fs[f]? with
   | some q=>
    match ρ x with
    | .agg cs=>Aaw P s f fun ft=>
     match T ft with
     | some J=>bif J.isAgg then (bif Nat.ble (q.1+J.size) cs.length then K ⟨.agg ((cs.drop q.1).take J.size),[],[]⟩ n else False) else
       match cs[q.1]? with
       | some c=>K ⟨c,[],[]⟩ n
       | none=>False
     | none=>False
    | _=>False
   | none=>False
  | _=>False
 | .makeMap _ none=>K ⟨.mp n,[(n,.none)],[(n,.map [])]⟩ (n+1)
 | .lookup t x y ok=>
  match T t with
  | some ⟨.map N Z,_,_,_⟩=>
   match T N with
   | some ⟨.string,_,_,_⟩=>
    match T Z with
    | some J=>
     match ρ x with
     | .mp h=>
      match ρ y with
      | .val (.string s)=>
       match H h with
       | .map es=>Afw s es fun r=>K ⟨P2 ok J r,[(h,.map es)],[]⟩ n
       | _=>False
      | _=>False
     | _=>False
    | none=>False
   | some ⟨.struct _,_,_,_⟩=>
    match T Z with
    | some J=>
     match ρ x with
     | .mp h=>
      match ρ y with
      | .agg R=>
       match Gk R with
       | some M=>
        match H h with
        | .map es=>Apw P N M es fun r=>K ⟨P2 ok J r,[(h,.map es)],[]⟩ n
        | _=>False
       | none=>False
      | _=>False
     | _=>False
    | none=>False
   | _=>False
  | _=>False
 | .mapUpdate t x y z=>
  match T t with
  | some ⟨.map N _,_,_,_⟩=>
   match T N with
   | some ⟨.string,_,_,_⟩=>
    match ρ x with
    | .mp h=>
     match ρ y with
     | .val (.string s)=>
      match H h with
      | .map es=>bif (ρ z).free1 then Jb (ρ z) fun v=>Afx s v es fun L=>K ⟨.val undef,[(h,.map es)],[(h,.map L)]⟩ n else False
      | _=>False
     | _=>False
    | _=>False
   | some ⟨.struct _,_,_,_⟩=>
    match ρ x with
    | .mp h=>
     match ρ y with
     | .agg R=>
      match Gk R with
      | some M=>
       match H h with
       | .map es=>bif (ρ z).free1 then Jb (ρ z) fun v=>Apx P N R M v es fun L=>K ⟨.val undef,[(h,.map es)],[(h,.map L)]⟩ n else False
       | _=>False
      | none=>False
     | _=>False
    | _=>False
   | _=>False
  | _=>False
 | .extract x i=>
  match ρ x with
  | .tup cs=>
   match cs[i]? with
   | some c=>K ⟨c,[],[]⟩ n
   | none=>False
  | _=>False
 | .call c=>
  match c.callee with
  | .value x=>
   match ρ x with
   | .fn f A=>
    match an (o.dst.getD 0) with
    | .frz j=>
     (match (c.args.toList.map ρ ++ A)[j]? with
     | some (.arr h k 0 len)=>
      (match H h with
      | .rows E sz xs=>Fm k xs (Fm len xs (Afz P f ((c.args.toList.map ρ ++ A).set j (.sl sz xs)) fun r=>K ⟨r,[(h,.rows E sz xs)],[(h,.dead)]⟩ n))
      | _=>False)
     | _=>False)
    | _=>E6 P n H f (c.args.toList.map ρ ++ A) K
   | _=>False
  | .invoke _ _=>False
  | .builtin .len=>
   match c.args.toList,c.argTypes.toList with
   | [x],[t]=>
    match T t with
    | some ⟨.slice _,_,_,_⟩=>
     match ρ x with
     | .sl _ xs=>
      match an (o.dst.getD 0) with
      | .ask=>Ka xs fun c=>K ⟨.val (.int .i64 c),[],[]⟩ n
      | _=>K ⟨.val (.int .i64 xs.length),[],[]⟩ n
     | .val (.slice _ m _)=>K ⟨.val (.int .i64 m),[],[]⟩ n
     | .arr h k _ len=>
      match H h with
      | .rows E sz xs=>Fm k xs (K ⟨.val (.int .i64 len),[(h,.rows E sz xs)],[]⟩ n)
      | _=>False
     | _=>False
    | some ⟨.string,_,_,_⟩=>
     match ρ x with
     | .val (.string s)=>K ⟨.val (.int .i64 s.size),[],[]⟩ n
     | _=>False
    | _=>False
   | _,_=>False
  | .builtin .cap=>
   match c.args.toList,c.argTypes.toList with
   | [x],[t]=>
    match T t with
    | some ⟨.slice _,_,_,_⟩=>
     match ρ x with
     | .val (.slice _ _ m)=>K ⟨.val (.int .i64 m),[],[]⟩ n
     | _=>False
    | _=>False
   | _,_=>False
  | .builtin .copy=>
   match c.args.toList,c.argTypes.toList with
   | [x,y],[t,Y]=>
    match T t with
    | some ⟨.slice e,_,_,_⟩=>
     match T e with
     | some g=>
      match ρ y with
      | .arr h2 S D G=>
       match ρ x with
       | .arr h k off len=>
        match H h with
        | .rows E sz xs=>bif Nat.beq E e&&Nat.beq sz g.size&&Nat.beq h h2&&Nat.blt 0 g.size then
          Aps xs k off len S D G (fun u c=>K ⟨.val (.int .i64 c),[(h,.rows e g.size xs)],[(h,.rows e g.size u)]⟩ n) else False
        | _=>False
       | .sl _ []=>
        match H h2 with
        | .rows E sz xs=>bif Nat.beq sz g.size then Fm S xs (K ⟨.val (.int .i64 0),[(h2,.rows E g.size xs)],[]⟩ n) else False
        | _=>False
       | _=>False
      | _=>False
     | none=>False
    | _=>False
   | _,_=>False
  | .builtin .clear=>
   match c.args.toList,c.argTypes.toList with
   | [x],[t]=>
    match T t with
    | some ⟨.slice e,_,_,_⟩=>
     match T e with
     | some g=>
      match ρ x with
      | .arr h k off len=>
       match H h with
       | .rows E sz xs=>bif Nat.beq E e&&Nat.beq sz g.size&&Nat.blt 0 g.size&&I8 g.size (D7 g)&&Nat.beq (D7 g).cells.length g.zero.length&&Sv (D7 g) then
         Apt xs k off len (D7 g) (fun u=>K ⟨.tup [],[(h,.rows e g.size xs)],[(h,.rows e g.size u)]⟩ n) else False
       | _=>False
      | .sl _ []=>K ⟨.tup [],[],[]⟩ n
      | _=>False
     | none=>False
    | _=>False
   | _,_=>False
  | .builtin .append=>
   match c.args.toList,c.argTypes.toList with
   | [x,y],[t,Y]=>
    match T t,T Y with
    | some ⟨.slice e,_,_,_⟩,some ⟨.slice _,_,_,_⟩=>
     match T e with
     | some g=>
      bif Nat.blt 0 g.size&&Nat.beq g.zero.length g.size&&Nat.ble 1 g.bytes then
       match ρ y with
       | .sl sz ys=>
        bif Nat.beq sz g.size then
         match ρ x with
         | .arr h k 0 len=>
          match H h with
          | .rows E B xs=>bif Nat.beq E e&&Nat.beq B g.size then
            K2 xs ys k len g.bytes (fun u m=>K ⟨.arr h m 0 m,[(h,.rows e g.size xs)],[(h,.rows e g.size u)]⟩ n) (fun u I m=>K ⟨.arr h I 0 m,[(h,.rows e g.size xs)],[(h,.rows e g.size u)]⟩ n) else False
          | _=>False
         | .val (.slice none 0 0)=>N3 ys g.bytes fun u m=>K ⟨.arr n m 0 m,[(n,.none)],[(n,.rows e g.size u)]⟩ (n+1)
         | .sl V U=>Apq ys (K ⟨.sl V U,[],[]⟩ n)
         | _=>False
        else False
       | .arr h2 S D G=>
        match ρ x with
        | .arr h k 0 len=>
         match H h with
         | .rows E B xs=>bif Nat.beq E e&&Nat.beq B g.size&&Nat.beq h h2 then
           Apr xs k len S D G g.bytes (fun u I m=>K ⟨.arr h I 0 m,[(h,.rows e g.size xs)],[(h,.rows e g.size u)]⟩ n) else False
         | _=>False
        | _=>False
       | _=>False
      else False
     | none=>False
    | some ⟨.slice e,_,_,_⟩,some ⟨.string,_,_,_⟩=>
     match T e with
     | some g=>
      bif Nat.beq g.size 1&&Nat.beq g.zero.length g.size&&Nat.ble 1 g.bytes then
       match ρ y with
       | .val (.string s)=>
        match ρ x with
        | .arr h k 0 len=>
         match H h with
         | .rows E B xs=>bif Nat.beq E e&&Nat.beq B g.size then
           K2 xs (G8 s) k len g.bytes (fun u m=>K ⟨.arr h m 0 m,[(h,.rows e g.size xs)],[(h,.rows e g.size u)]⟩ n) (fun _ _ _=>False) else False
         | _=>False
        | _=>False
       | _=>False
      else False
     | none=>False
    | _,_=>False
   | _,_=>False
  | .builtin .max=>
   match c.args.toList,c.argTypes.toList with
   | [x,y],[_,_]=>
    match ρ x,ρ y with
    | .val (.int k a),.val (.int _ b)=>K ⟨.val (.int k (if b>a then b else a)),[],[]⟩ n
    | _,_=>False
   | _,_=>False
  | .builtin .min=>
   match c.args.toList,c.argTypes.toList with
   | [x,y],[_,_]=>
    match ρ x,ρ y with
    | .val (.int k a),.val (.int _ b)=>K ⟨.val (.int k (if b<a then b else a)),[],[]⟩ n
    | _,_=>False
   | _,_=>False
  | _=>False
 | _=>False
end Go.Ab
namespace Go.Ab
section
variable {P:Program} {o:Oper} {ρ:Operand->AV} {a:Act} {w w':World} {next:Act->World->Prop} {Q:Exit->Act->World->Prop}
def P9 (σ:Aq) (w:World):Aq:=fun b=>match σ b with | none=>w.heap[b]? | some _=>none
theorem St.lend {σ:Aq} {ι:Bo} {H:Hp} {F:Aq} {W:World} (s:St σ ι H F W w):St σ ι0 H0 (P9 σ w) W w:=by
 refine ⟨s.sto,fun b o hb=>?_,fun h=>rfl,(fun h h' b c=>by cases c),s.os,s.tape,s.output,s.glo,s.drw⟩
 unfold P9 at hb
 cases e:σ b with
 | none=>rw [e] at hb; exact ⟨hb,rfl⟩
 | some _=>rw [e] at hb; cases hb
theorem St.unlend {σ k:Aq} {ι:Bo} {H:Hp} {F:Aq} {W:World} (s:St σ ι H F W w) (g:σ.le k) (s':St k ι0 H0 (P9 σ w) W w'):St k ι H F W w':=by
 have key:∀b,σ b=none->∀o,w.heap[b]? = some o->w'.heap[b]? = some o/\k b=none:=by
  intro b hb o f
  exact s'.fra b o (by unfold P9; rw [hb]; exact f)
 have le:Le σ ι H k ι H:=⟨g,fun _=>HLe.refl _ _⟩
 refine ⟨s'.sto,fun b o hb=>?_,fun h=>?_,s.inj,s'.os,s'.tape,s'.output,s'.glo,s'.drw⟩
 .obtain ⟨h1,h2⟩:=s.fra b o hb
  exact key b h2 o h1
 .have f:=s.obj h
  unfold B9 at f ⊢
  cases A:H h with
  | none=>rw [A] at f; exact f
  | dead=>trivial
  | cells E cs=>
   rw [A] at f
   obtain ⟨b,C,j,h1,h2,h3,z,D⟩:=f
   obtain ⟨u,l⟩:=key b h1 _ h3
   exact ⟨b,C,j,l,h2,u,z,fun i c v x y=>(D i c v x y).mono le⟩
  | rows E sz xs=>
   rw [A] at f
   obtain ⟨G,z2,⟨j,J⟩ | ⟨b,B,C,j,h1,h2,h3,z,D,I⟩⟩:=f
   .exact ⟨G,z2,.inl ⟨j,J⟩⟩
   .obtain ⟨u,l⟩:=key b h1 _ h3
    exact ⟨G,z2,.inr ⟨b,B,C,j,l,h2,u,z,D,I.mono g⟩⟩
  | map es=>
   rw [A] at f
   obtain ⟨b,M,q,j,h1,h2,h3,z⟩:=f
   obtain ⟨u,l⟩:=key b h1 _ h3
   exact ⟨b,M,q,j,l,h2,u,z.mono g⟩
theorem Conc.of0 {σ:Aq} {ι:Bo} {H:Hp} {x:AV} {v:Value} (h:Conc σ ι0 H0 x v):Conc σ ι H x v:=by
 induction h with
 | cc h=>exact .cc h
 | loc h off b hb=>cases hb
 | mp h b hb=>cases hb
 | arr h k off len v s y c=>exact (s rfl).elim
 | el h k i j v s y c=>exact (s rfl).elim
 | ref cs b off C E fr g u hc h1 z=>exact .ref cs b off C E fr g u hc h1 z
 | agg cs vs l _ ih=>exact .agg cs vs l ih
 | tup cs vs l _ ih=>exact .tup cs vs l ih
 | fn f q vs l _ ih=>exact .fn f q vs l ih
theorem Apz {x:AV} (h:x.free1=true) (hx:∀cs,x≠.agg cs):x.cl1=true:=by
 cases x <;> first | exact h | exact (hx _ rfl).elim
theorem Conc.to0 {σ:Aq} {ι:Bo} {H:Hp} {x:AV} {v:Value} (hx:x.free=true) (h:Conc σ ι H x v):Conc σ ι0 H0 x v:=by
 have key:∀(cs:List AV),cs.all AV.cl1=true->∀(i:Nat) (c:AV) (u:Value),cs[i]? = some c->Conc σ ι H c u->Conc σ ι0 H0 c u:=by
  intro cs s i c u hc h
  exact .cc (h.cc_of (List.all_eq_true.1 s c (List.mem_of_getElem? hc))).1
 cases h with
 | cc h=>exact .cc h
 | loc=>cases hx
 | mp=>cases hx
 | arr=>cases hx
 | el=>cases hx
 | ref cs b off C E fr g A hc h1 D=>exact .ref cs b off C E fr g A hc h1 D
 | agg cs vs l h=>exact .agg cs vs l fun i c u h1 h2=>key cs hx i c u h1 (h i c u h1 h2)
 | tup cs vs l h=>
  refine .tup cs vs l fun i c u h1 h2=>?_
  have y:=List.all_eq_true.1 hx c (List.mem_of_getElem? h1)
  have hc:=h i c u h1 h2
  cases c with
  | agg ds=>
   obtain ⟨z,rfl,q,B⟩:=hc.agg_inv
   exact .agg ds z q fun j d v g1 g2=>key ds y j d v g1 (B j d v g1 g2)
  | _=>exact .cc (hc.cc_of (Apz y (by intro cs e; cases e))).1
 | fn f k vs l h=>exact .fn f k vs l fun i c u h1 h2=>key k hx i c u h1 (h i c u h1 h2)
theorem Conc.fn_inv {σ:Aq} {ι:Bo} {H:Hp} {f:FuncId} {b:List AV} {v:Value} (h:Conc σ ι H (.fn f b) v) :
  ∃vs:Array Value,v = .func (.func f) #[] vs/\vs.size=b.length/\∀(i:Nat) (c:AV) (u:Value),b[i]? = some c->vs[i]? = some u->Conc σ ι H c u:=by
 cases h with
 | cc h=>cases h
 | fn _ _ vs g h=>exact ⟨vs,rfl,g,h⟩
theorem Aa1 {σ:Aq} {ι:Bo} {H:Hp} {xs:Array Operand} {b:List AV} {vs:Array Value} (hx:∀x∈xs.toList,Conc σ ι H (ρ x) (a.eval x)) (h:vs.size=b.length)
  (g:∀(i:Nat) (c:AV) (u:Value),b[i]? = some c->vs[i]? = some u->Conc σ ι H c u):J9 σ ι H (xs.toList.map ρ ++ b) (xs.map a.eval++vs):=by
 refine ⟨by simp [h],fun i c u h1 h2=>?_⟩
 by_cases f:i<xs.size
 .rw [List.getElem?_append_left (by simpa using f),List.getElem?_map,Array.getElem?_toList] at h1
  rw [Array.getElem?_append_left (by simpa using f),Array.getElem?_map] at h2
  simp [f] at h1 h2
  subst h1; subst h2
  exact hx _ (by simp)
 .rw [List.getElem?_append_right (by simp; omega)] at h1
  rw [Array.getElem?_append_right (by simp; omega)] at h2
  simp at h1 h2
  exact g _ c u h1 h2
theorem Ap0 {c:Call} {x:Operand} {f:FuncId} {g:List AV} {r:AV} (G:o.op = .call c) (h:c.callee = .value x) (hx:ρ x = .fn f g) (hp:Aw P f (c.args.toList.map ρ ++ g) r)
  (l:(c.args.toList.map ρ ++ g).all AV.free=true):Bt P o ρ ⟨r,[],[]⟩:=by
 intro σ ι H F W w a next Q s B _ hk
 obtain ⟨⟨fn,N,k,q⟩,hp⟩:=hp
 have z:=B x (by simp [G,Op.operands,Call.operands,h])
 rw [hx] at z
 obtain ⟨vs,L,M,E⟩:=z.fn_inv
 have j:J9 σ ι H (c.args.toList.map ρ ++ g) (c.args.map a.eval++vs) :=
  Aa1 (fun y hy=>B y (by simp only [G,Op.operands,Call.operands,h]; simp at hy ⊢; exact .inr hy)) M E
 have A:(execOp a.eval o).run P w = .ok (.enter f (c.args.map a.eval++vs)) w:=by
  have I:(callFunc f (c.args.map a.eval++vs)).run P w = .ok (.enter f (c.args.map a.eval++vs)) w:=by
   unfold callFunc
   simp only [Sem.run_bind,program,Sem.run,Result.andThen_ok,N,k,q,Bool.false_eq_true,if_false,Sem.run_pure]
  simp only [execOp,G,resolve,h,L,Deferred.ofValue,invoke,Sem.run_bind,Sem.run_pure,Result.andThen_ok,Array.empty_append,I]
 unfold Oper.wp
 rw [A]
 simp only [Oper.upon]
 refine (hp σ (P9 σ w) W w (c.args.map a.eval++vs) s.lend ⟨j.1,fun i b u h1 h2=>(j.2 i b u h1 h2).to0 (List.all_eq_true.1 l b (List.mem_of_getElem? h1))⟩).mono ?_
 rintro e w' ⟨v,J,rfl,D,s',hc⟩
 exact hk J ι v w' ⟨D,fun _=>HLe.refl _ _⟩ (s.unlend D s') hc.of0
theorem Ap1 {c:Call} {x:Operand} {f:FuncId} {g:List AV} {r:AV} {j h sz:Nat} {E:TypeId} {xs:List AV} (S:o.op = .call c) (k:c.callee = .value x) (hx:ρ x = .fn f g)
  (hj:(c.args.toList.map ρ ++ g)[j]? = some (.arr h xs.length 0 xs.length)) (hp:Aw P f ((c.args.toList.map ρ ++ g).set j (.sl sz xs)) r)
  (A:((c.args.toList.map ρ ++ g).set j (.sl sz xs)).all AV.free=true):Bt P o ρ ⟨r,[(h,.rows E sz xs)],[(h,.dead)]⟩:=by
 intro σ ι H F W w a next Q s J R hk
 have Z:H h = .rows E sz xs:=R (h,.rows E sz xs) (by simp)
 obtain ⟨⟨fn,hf,z,B⟩,hp⟩:=hp
 have G:=J x (by simp [S,Op.operands,Call.operands,k])
 rw [hx] at G
 obtain ⟨vs,hv,hl,M⟩:=G.fn_inv
 have q:J9 σ ι H (c.args.toList.map ρ ++ g) (c.args.map a.eval++vs) :=
  Aa1 (fun y hy=>J y (by simp only [S,Op.operands,Call.operands,k]; simp at hy ⊢; exact .inr hy)) hl M
 obtain ⟨N,D,Y,V⟩:=s.freeze Z
 have l:J9 N ι (Ay H h .dead) ((c.args.toList.map ρ ++ g).set j (.sl sz xs)) (c.args.map a.eval++vs):=by
  refine ⟨by rw [List.length_set]; exact q.1,fun i b u h1 h2=>?_⟩
  rw [List.getElem?_set] at h1
  split at h1
  .rename_i U
   split at h1
   .cases h1
    subst U
    have hc:=q.2 j _ u hj h2
    have:=V 0 xs.length _ (by omega) (hc.arr_inv Z rfl)
    rw [List.drop_zero,List.take_of_length_le (by omega)] at this
    exact .cc this
   .cases h1
  .exact (q.2 i b u h1 h2).mono D
 have I:(execOp a.eval o).run P w = .ok (.enter f (c.args.map a.eval++vs)) w:=by
  have X:(callFunc f (c.args.map a.eval++vs)).run P w = .ok (.enter f (c.args.map a.eval++vs)) w:=by
   unfold callFunc
   simp only [Sem.run_bind,program,Sem.run,Result.andThen_ok,hf,z,B,Bool.false_eq_true,if_false,Sem.run_pure]
  simp only [execOp,S,resolve,k,hv,Deferred.ofValue,invoke,Sem.run_bind,Sem.run_pure,Result.andThen_ok,Array.empty_append,X]
 unfold Oper.wp
 rw [I]
 simp only [Oper.upon]
 refine (hp N (P9 N w) W w (c.args.map a.eval++vs) Y.lend ⟨l.1,fun i b u h1 h2=>(l.2 i b u h1 h2).to0 (List.all_eq_true.1 A b (List.mem_of_getElem? h1))⟩).mono ?_
 rintro e w' ⟨v,σ',rfl,L,s',hc⟩
 exact hk σ' ι v w' (D.trans ⟨L,fun _=>HLe.refl _ _⟩) (Y.unlend L s') hc.of0
end
end Go.Ab
namespace Go.Ab
theorem Fu {a b:Nat} (h:Nat.blt a b=true):a<b:=Nat.le_of_ble_eq_true h
theorem Aa2 {es:Nat->Nat} {o:Be}:Gx es o = .none↔o = .none:=by cases o <;> simp [Gx]
theorem Wr {es:Nat->Nat} {o:Be}:(Gx es o).live=o.live:=by cases o <;> rfl
theorem Aa3 {es:Nat->Nat} {o:Be} {E:TypeId} {sz:Nat} {xs:List AV}:Gx es o = .rows E sz xs↔o = .rows E sz xs:=by cases o <;> simp [Gx]
section
variable {es:Nat->Nat} {m:Nat} {σ:Aq} {ι ιl:Bo} {H Hl:Hp}
theorem Mp (f:∀k,k<m->ιl k=ι (es k)) (A:∀k,k<m->H (es k)=Gx es (Hl k)) {x:AV} {v:Value} (hx:x.under0 m=true):Conc σ ι H (Aau es x) v↔Conc σ ιl Hl x v:=by
 have rows:∀k,k<m->∀E sz xs,H (es k) = .rows E sz xs↔Hl k = .rows E sz xs:=fun k hk E sz xs=>by rw [A k hk]; exact Aa3
 have some:∀k,k<m->(H (es k)≠.none↔Hl k≠.none):=fun k hk=>by rw [A k hk]; exact not_congr Aa2
 constructor
 .intro h
  cases x with
  | val u=>cases h with | cc h=>exact .cc h
  | sl sz xs=>cases h with | cc h=>exact .cc h
  | ref cs=>
   cases h with
   | cc h=>exact .cc h
   | ref cs b off C E fr g y hc h1 z=>exact .ref cs b off C E fr g y hc h1 z
  | loc k off=>
   have hk:=Fu hx
   cases h with
   | cc h=>cases h
   | loc _ _ b hb=>exact .loc k off b (by rw [f k hk]; exact hb)
  | mp k=>
   have hk:=Fu hx
   cases h with
   | cc h=>cases h
   | mp _ b hb=>exact .mp k b (by rw [f k hk]; exact hb)
  | arr k q off len=>
   have hk:=Fu hx
   cases h with
   | cc h=>cases h
   | arr _ _ _ _ _ s l c=>
    exact .arr k q off len v ((some k hk).1 s) (fun E sz xs e=>by rw [f k hk]; exact l E sz xs ((rows k hk E sz xs).2 e)) c
  | el k q i j=>
   have hk:=Fu hx
   cases h with
   | cc h=>cases h
   | el _ _ _ _ _ s l c=>
    exact .el k q i j v ((some k hk).1 s) (fun E sz xs e=>by rw [f k hk]; exact l E sz xs ((rows k hk E sz xs).2 e)) c
  | agg=>cases hx
  | tup=>cases hx
  | fn=>cases hx
 .intro h
  cases x with
  | val u=>cases h with | cc h=>exact .cc h
  | sl sz xs=>cases h with | cc h=>exact .cc h
  | ref cs=>
   cases h with
   | cc h=>exact .cc h
   | ref cs b off C E fr g y hc h1 z=>exact .ref cs b off C E fr g y hc h1 z
  | loc k off=>
   have hk:=Fu hx
   cases h with
   | cc h=>cases h
   | loc _ _ b hb=>exact .loc (es k) off b (by rw [<-f k hk]; exact hb)
  | mp k=>
   have hk:=Fu hx
   cases h with
   | cc h=>cases h
   | mp _ b hb=>exact .mp (es k) b (by rw [<-f k hk]; exact hb)
  | arr k q off len=>
   have hk:=Fu hx
   cases h with
   | cc h=>cases h
   | arr _ _ _ _ _ s l c=>
    exact .arr (es k) q off len v ((some k hk).2 s) (fun E sz xs e=>by rw [<-f k hk]; exact l E sz xs ((rows k hk E sz xs).1 e)) c
  | el k q i j=>
   have hk:=Fu hx
   cases h with
   | cc h=>cases h
   | el _ _ _ _ _ s l c=>
    exact .el (es k) q i j v ((some k hk).2 s) (fun E sz xs e=>by rw [<-f k hk]; exact l E sz xs ((rows k hk E sz xs).1 e)) c
  | agg=>cases hx
  | tup=>cases hx
  | fn=>cases hx
theorem Gy (b:∀k,k<m->ιl k=ι (es k)) (g:∀k,k<m->H (es k)=Gx es (Hl k)) {x:AV} {v:Value} (hx:x.under1 m=true):Conc σ ι H (K1 es x) v↔Conc σ ιl Hl x v:=by
 have cells:∀{cs:List AV},cs.all (AV.under0 m)=true->∀(i:Nat) (c:AV),cs[i]? = some c->∀u,(Conc σ ι H (Aau es c) u↔Conc σ ιl Hl c u) :=
  fun q i c hc u=>Mp b g (List.all_eq_true.1 q c (List.mem_of_getElem? hc))
 cases x with
 | fn f cs=>
  constructor
  .intro h
   obtain ⟨vs,rfl,l,h⟩:=h.fn_inv
   exact .fn f cs vs (by simpa using l) fun i c u h1 h2=>(cells hx i c h1 u).1 (h i _ u (by simp [h1]) h2)
  .intro h
   obtain ⟨vs,rfl,l,h⟩:=h.fn_inv
   refine .fn f _ vs (by simpa using l) fun i c u h1 h2=>?_
   rw [List.getElem?_map] at h1
   cases hc:cs[i]? with
   | none=>rw [hc] at h1; cases h1
   | some s=>rw [hc] at h1; cases h1; exact (cells hx i s hc u).2 (h i s u hc h2)
 | agg cs=>cases hx
 | tup cs=>cases hx
 | val u=>exact Mp (x:=(.val u)) b g hx
 | loc h off=>exact Mp (x:=(.loc h off)) b g hx
 | arr h k off len=>exact Mp (x:=(.arr h k off len)) b g hx
 | el h k i j=>exact Mp (x:=(.el h k i j)) b g hx
 | mp h=>exact Mp (x:=(.mp h)) b g hx
 | ref cs=>exact Mp (x:=(.ref cs)) b g hx
 | sl sz xs=>exact Mp (x:=(.sl sz xs)) b g hx
theorem Ap2 {n:Nat} {x:AV} (h:x.under0 n=true):x.under1 n=true:=by
 cases x <;> first | exact h | cases h
theorem Aa4 {n:Nat} {x:AV} (h:x.under1 n=true):x.under n=true:=by
 cases x with
 | fn f cs=>exact List.all_eq_true.2 fun c hc=>Ap2 (List.all_eq_true.1 h c hc)
 | agg cs=>cases h
 | tup cs=>cases h
 | _=>exact h
theorem Ap3 (b:∀k,k<m->ιl k=ι (es k)) (g:∀k,k<m->H (es k)=Gx es (Hl k)) {x:AV} {v:Value} (hx:x.under2 m=true):Conc σ ι H (Aav es x) v↔Conc σ ιl Hl x v:=by
 have cells:∀{cs:List AV},cs.all (AV.under1 m)=true->∀(i:Nat) (c:AV),cs[i]? = some c->∀u,(Conc σ ι H (K1 es c) u↔Conc σ ιl Hl c u) :=
  fun q i c hc u=>Gy b g (List.all_eq_true.1 q c (List.mem_of_getElem? hc))
 cases x with
 | agg cs=>
  constructor
  .intro h
   obtain ⟨vs,rfl,l,h⟩:=h.agg_inv
   exact .agg cs vs (by simpa using l) fun i c u h1 h2=>(cells hx i c h1 u).1 (h i _ u (by simp [h1]) h2)
  .intro h
   obtain ⟨vs,rfl,l,h⟩:=h.agg_inv
   refine .agg _ vs (by simpa using l) fun i c u h1 h2=>?_
   rw [List.getElem?_map] at h1
   cases hc:cs[i]? with
   | none=>rw [hc] at h1; cases h1
   | some s=>rw [hc] at h1; cases h1; exact (cells hx i s hc u).2 (h i s u hc h2)
 | tup cs=>cases hx
 | fn f cs=>exact Gy (x:=(.fn f cs)) b g hx
 | val u=>exact Gy (x:=(.val u)) b g hx
 | loc h off=>exact Gy (x:=(.loc h off)) b g hx
 | arr h k off len=>exact Gy (x:=(.arr h k off len)) b g hx
 | el h k i j=>exact Gy (x:=(.el h k i j)) b g hx
 | mp h=>exact Gy (x:=(.mp h)) b g hx
 | ref cs=>exact Gy (x:=(.ref cs)) b g hx
 | sl sz xs=>exact Gy (x:=(.sl sz xs)) b g hx
theorem Af1 (l:∀k,k<m->ιl k=ι (es k)) (q:∀k,k<m->H (es k)=Gx es (Hl k)) {x:AV} {v:Value} (hx:x.under m=true):Conc σ ι H (ren es x) v↔Conc σ ιl Hl x v:=by
 have cells:∀{cs:List AV},cs.all (AV.under1 m)=true->∀(i:Nat) (c:AV),cs[i]? = some c->∀u,(Conc σ ι H (K1 es c) u↔Conc σ ιl Hl c u) :=
  fun y i c hc u=>Gy l q (List.all_eq_true.1 y c (List.mem_of_getElem? hc))
 have b:∀{cs:List AV},cs.all (AV.under2 m)=true->∀(i:Nat) (c:AV),cs[i]? = some c->∀u,(Conc σ ι H (Aav es c) u↔Conc σ ιl Hl c u) :=
  fun y i c hc u=>Ap3 l q (List.all_eq_true.1 y c (List.mem_of_getElem? hc))
 cases x with
 | agg cs=>
  constructor
  .intro h
   obtain ⟨vs,rfl,g,h⟩:=h.agg_inv
   exact .agg cs vs (by simpa using g) fun i c u h1 h2=>(cells hx i c h1 u).1 (h i _ u (by simp [h1]) h2)
  .intro h
   obtain ⟨vs,rfl,g,h⟩:=h.agg_inv
   refine .agg _ vs (by simpa using g) fun i c u h1 h2=>?_
   rw [List.getElem?_map] at h1
   cases hc:cs[i]? with
   | none=>rw [hc] at h1; cases h1
   | some s=>rw [hc] at h1; cases h1; exact (cells hx i s hc u).2 (h i s u hc h2)
 | tup cs=>
  constructor
  .intro h
   obtain ⟨vs,rfl,g,h⟩:=h.tup_inv
   exact .tup cs vs (by simpa using g) fun i c u h1 h2=>(b hx i c h1 u).1 (h i _ u (by simp [h1]) h2)
  .intro h
   obtain ⟨vs,rfl,g,h⟩:=h.tup_inv
   refine .tup _ vs (by simpa using g) fun i c u h1 h2=>?_
   rw [List.getElem?_map] at h1
   cases hc:cs[i]? with
   | none=>rw [hc] at h1; cases h1
   | some s=>rw [hc] at h1; cases h1; exact (b hx i s hc u).2 (h i s u hc h2)
 | fn f cs=>
  constructor
  .intro h
   obtain ⟨vs,rfl,g,h⟩:=h.fn_inv
   exact .fn f cs vs (by simpa using g) fun i c u h1 h2=>(cells hx i c h1 u).1 (h i _ u (by simp [h1]) h2)
  .intro h
   obtain ⟨vs,rfl,g,h⟩:=h.fn_inv
   refine .fn f _ vs (by simpa using g) fun i c u h1 h2=>?_
   rw [List.getElem?_map] at h1
   cases hc:cs[i]? with
   | none=>rw [hc] at h1; cases h1
   | some s=>rw [hc] at h1; cases h1; exact (cells hx i s hc u).2 (h i s u hc h2)
 | val u=>exact Gy (x:=(.val u)) l q hx
 | loc h off=>exact Gy (x:=(.loc h off)) l q hx
 | arr h k off len=>exact Gy (x:=(.arr h k off len)) l q hx
 | el h k i j=>exact Gy (x:=(.el h k i j)) l q hx
 | mp h=>exact Gy (x:=(.mp h)) l q hx
 | ref cs=>exact Gy (x:=(.ref cs)) l q hx
 | sl sz xs=>exact Gy (x:=(.sl sz xs)) l q hx
theorem Af2 (A:∀k,k<m->ιl k=ι (es k)) (B:∀k,k<m->H (es k)=Gx es (Hl k)) {F G:Aq} {w:World} {k:Nat} (hk:k<m) (hu:(Hl k).under m=true)
  (h:∀b,(Hl k).live=true->(ιl k).block? = some b->(F b=none↔G b=none)):B9 σ ι H F w (es k)↔B9 σ ιl Hl G w k:=by
 have cells:∀{cs:List AV},cs.all (AV.under1 m)=true->∀(i:Nat) (c:AV),cs[i]? = some c->∀u,(Conc σ ι H (K1 es c) u↔Conc σ ιl Hl c u) :=
  fun x i c hc u=>Gy A B (List.all_eq_true.1 x c (List.mem_of_getElem? hc))
 unfold B9
 rw [B k hk,<-A k hk]
 cases hx:Hl k with
 | none=>exact Iff.rfl
 | dead=>exact Iff.rfl
 | map l=>
  simp only [Gx]
  rw [hx] at h
  constructor
  .rintro ⟨b,M,q,f,h1,h2,h3⟩
   exact ⟨b,M,q,f,h1,(h b rfl (by rw [f]; rfl)).1 h2,h3⟩
  .rintro ⟨b,M,q,f,h1,h2,h3⟩
   exact ⟨b,M,q,f,h1,(h b rfl (by rw [f]; rfl)).2 h2,h3⟩
 | rows E sz xs=>
  simp only [Gx]
  rw [hx] at h
  refine and_congr Iff.rfl (and_congr Iff.rfl (or_congr Iff.rfl ?_))
  constructor
  .rintro ⟨b,j,C,f,h1,h2,h3⟩
   exact ⟨b,j,C,f,h1,(h b rfl (by rw [f]; rfl)).1 h2,h3⟩
  .rintro ⟨b,j,C,f,h1,h2,h3⟩
   exact ⟨b,j,C,f,h1,(h b rfl (by rw [f]; rfl)).2 h2,h3⟩
 | cells E cs=>
  simp only [Gx]
  rw [hx] at h hu
  constructor
  .rintro ⟨b,C,f,h1,h2,h3,z,y⟩
   refine ⟨b,C,f,h1,(h b rfl (by rw [f]; rfl)).1 h2,h3,by simpa using z,fun i c v hc s=>(cells hu i c hc v).1 (y i _ v (by simp [hc]) s)⟩
  .rintro ⟨b,C,f,h1,h2,h3,z,y⟩
   refine ⟨b,C,f,h1,(h b rfl (by rw [f]; rfl)).2 h2,h3,by simpa using z,fun i c v hc s=>?_⟩
   rw [List.getElem?_map] at hc
   cases g:cs[i]? with
   | none=>rw [g] at hc; cases hc
   | some D=>rw [g] at hc; cases hc; exact (cells hu i D g v).2 (y i D v g s)
end
theorem Af3 {n:Nat}:∀{l:List Nat} {k:Nat},Lp n l=true->k<l.length->Dk n l k<n
 | [],k,_,h=>by simp at h
 | h::l,0,b,_=>by simp only [Lp,Bool.and_eq_true] at b; exact Fu b.1.1
 | h::l,k+1,b,hk=>by simp only [Lp,Bool.and_eq_true] at b; exact Af3 (l:=l) b.2 (by simpa using hk)
theorem Sw {n:Nat}:∀{l:List Nat} {k:Nat},l.length<=k->Dk n l k=n+(k-l.length)
 | [],k,_=>by simp [Dk]
 | h::l,0,hk=>by simp at hk
 | h::l,k+1,hk=>by simp only [Dk,List.length_cons]; rw [Sw (l:=l) (by simpa using hk)]; omega
theorem Aa5 {n:Nat}:∀{l:List Nat} {k:Nat},k<l.length->Dk n l k∈l
 | [],k,h=>by simp at h
 | h::l,0,_=>by simp [Dk]
 | h::l,k+1,hk=>by simp only [Dk]; exact List.mem_cons_of_mem _ (Aa5 (by simpa using hk))
theorem Af4 {n:Nat}:∀{l:List Nat} {j k:Nat},Lp n l=true->Dk n l j=Dk n l k->j=k
 | [],j,k,_,h=>by simp only [Dk] at h; omega
 | h::l,0,0,_,_=>rfl
 | h::l,j+1,k+1,b,e=>by simp only [Lp,Bool.and_eq_true] at b; simp only [Dk] at e; rw [Af4 (l:=l) b.2 e]
 | h::l,0,k+1,b,e=>by
  simp only [Lp,Bool.and_eq_true] at b
  simp only [Dk] at e
  rcases Nat.lt_or_ge k l.length with hk | hk
  .have:=Aa5 (n:=n) hk
   rw [<-e] at this
   simp [this] at b
  .have h1:=Sw (n:=n) hk
   have h2:=Fu b.1.1
   omega
 | h::l,j+1,0,b,e=>by
  simp only [Lp,Bool.and_eq_true] at b
  simp only [Dk] at e
  rcases Nat.lt_or_ge j l.length with hk | hk
  .have:=Aa5 (n:=n) hk
   rw [e] at this
   simp [this] at b
  .have h1:=Sw (n:=n) hk
   have h2:=Fu b.1.1
   omega
theorem Af5 {es:Nat->Nat}:∀{os:List Be} {k i:Nat} {o:Be},os[i]? = some o->(es (k+i),Gx es o)∈wrs es k os
 | [],k,i,o,h=>by simp at h
 | p::os,k,0,o,h=>by simp at h; subst h; simp [wrs]
 | p::os,k,i+1,o,h=>by
  simp only [wrs]
  refine List.mem_cons_of_mem _ ?_
  have:=Af5 (es:=es) (k:=k+1) (i:=i) (by simpa using h)
  rwa [show k+(i+1)=k+1+i by omega]
theorem Ws {es:Nat->Nat}:∀{os:List Be} {k x:Nat} {H:Hp},(∀i,i<os.length->es (k+i)≠x)->B6 H (wrs es k os) x=H x
 | [],k,x,H,h=>rfl
 | q::os,k,x,H,h=>by
  simp only [wrs,B6]
  rw [Ws (fun i b=>by rw [show k+1+i=k+(i+1) by omega]; exact h (i+1) (by simpa using b)),C3 _ _ (Ne.symm (by simpa using h 0 (by simp)))]
theorem Af6 {es:Nat->Nat} (b:∀i j,es i=es j->i=j):∀{os:List Be} {k i:Nat} {o:Be} {H:Hp},os[i]? = some o->B6 H (wrs es k os) (es (k+i))=Gx es o
 | [],k,i,o,H,h=>by simp at h
 | q::os,k,0,o,H,h=>by
  simp at h; subst h
  simp only [wrs,B6]
  rw [Ws (fun i c e=>by have:=b _ _ e; omega)]
  exact B7 _ _ _
 | q::os,k,i+1,o,H,h=>by
  simp only [wrs,B6]
  rw [show k+(i+1)=k+1+i by omega]
  exact Af6 b (by simpa using h)
theorem Af7 {es:Nat->Nat}:∀{c k i:Nat},i<c->(es (k+i),Be.none)∈Bv es k c
 | 0,k,i,h=>by omega
 | c+1,k,0,h=>by simp [Bv]
 | c+1,k,i+1,h=>by
  simp only [Bv]
  refine List.mem_cons_of_mem _ ?_
  have:=Af7 (es:=es) (c:=c) (k:=k+1) (i:=i) (by omega)
  rwa [show k+(i+1)=k+1+i by omega]
theorem Af8 {es:Nat->Nat}:∀{c k:Nat} {p:Nat×Be},p∈Bv es k c->∃i,i<c/\p=(es (k+i),Be.none)
 | 0,k,p,h=>by simp [Bv] at h
 | c+1,k,p,h=>by
  simp only [Bv,List.mem_cons] at h
  rcases h with rfl | h
  .exact ⟨0,by omega,rfl⟩
  .obtain ⟨i,h1,h2⟩:=Af8 h
   exact ⟨i+1,by omega,by rw [h2,show k+(i+1)=k+1+i by omega]⟩
theorem N0.spec {H:Hp}:∀{l:List (Nat×Be)},N0 H l->∀p∈l,H p.1=p.2
 | [],_,p,hp=>by cases hp
 | q::l,h,p,hp=>by
  rcases List.mem_cons.1 hp with rfl | hp
  .exact h.1
  .exact N0.spec h.2 p hp
theorem Sx {b:List Be} {k:Nat} (h:k<b.length):b[k]? = some (hp b k):=by simp [hp,h]
theorem Mq {b:List Be} {k:Nat} (h:b.length<=k):hp b k = .none:=by simp [hp,List.getElem?_eq_none h]
section
variable {P:Program} {o:Oper} {ρ:Operand->AV} {a:Act} {w w':World}
open Classical in
theorem Ap4 {n:Nat} {c:Call} {x:Operand} {f:FuncId} {caps:List AV} {l:List Nat} {largs:List AV} {hs:List Be} {r:AV} {hs':List Be} (ho:o.op = .call c) (hcal:c.callee = .value x) (hx:ρ x = .fn f caps)
  (hp0:Br P f largs hs r hs') (ha:largs.map (ren (Dk n l))=c.args.toList.map ρ ++ caps) (ok:P5 n l largs hs r hs'=true) :
  Bt P o ρ ⟨ren (Dk n l) r,wrs (Dk n l) 0 hs++Bv (Dk n l) l.length (hs'.length-l.length),wrs (Dk n l) 0 hs'⟩:=by
 intro σ ι H F W w a next Q s hop hrd hk
 simp only [P5,Bool.and_eq_true] at ok
 obtain ⟨⟨⟨⟨⟨⟨o1,o2⟩,o3⟩,o4⟩,o5⟩,o6⟩,o7⟩:=ok
 have o2:=Nat.eq_of_beq_eq_true o2
 have o3:=Nat.le_of_ble_eq_true o3
 generalize hes:Dk n l=es at *
 have inj:∀i j,es i=es j->i=j:=fun i j e=>by rw [<-hes] at e; exact Af4 o1 e
 obtain ⟨⟨fn,hf,hname,hbody⟩,hpp⟩:=hp0
 have hxv:=hop x (by simp [ho,Op.operands,Call.operands,hcal])
 rw [hx] at hxv
 obtain ⟨vs,hv,hl,hcap⟩:=hxv.fn_inv
 have hall:J9 σ ι H (c.args.toList.map ρ ++ caps) (c.args.map a.eval++vs) :=
  Aa1 (fun y hy=>hop y (by simp only [ho,Op.operands,Call.operands,hcal]; simp at hy ⊢; exact .inr hy)) hl hcap
 have hrun:(execOp a.eval o).run P w = .ok (.enter f (c.args.map a.eval++vs)) w:=by
  have hcf:(callFunc f (c.args.map a.eval++vs)).run P w = .ok (.enter f (c.args.map a.eval++vs)) w:=by
   unfold callFunc
   simp only [Sem.run_bind,program,Sem.run,Result.andThen_ok,hf,hname,hbody,Bool.false_eq_true,if_false,Sem.run_pure]
  simp only [execOp,ho,resolve,hcal,hv,Deferred.ofValue,invoke,Sem.run_bind,Sem.run_pure,Result.andThen_ok,Array.empty_append,hcf]
 unfold Oper.wp
 rw [hrun]
 simp only [Oper.upon]
 have hgiven:∀k,k<hs.length->H (es k)=Gx es (hp hs k):=by
  intro k hk'
  have:=hrd _ (List.mem_append_left _ (Af5 (es:=es) (k:=0) (Sx hk')))
  simpa using this
 have hnew:∀k,hs.length<=k->k<hs'.length->H (es k) = .none:=by
  intro k h1 h2
  have:=hrd _ (List.mem_append_right _ (Af7 (es:=es) (k:=l.length) (c:=hs'.length-l.length) (i:=k-l.length) (by omega)))
  rwa [show l.length+(k-l.length)=k by omega] at this
 let ιl:Bo:=fun k=>if k<hs.length then ι (es k) else .none
 let mine:Nat->Prop:=fun b=>∃k,k<hs.length/\(hp hs k).live=true/\(ι (es k)).block? = some b
 let Fl:Aq:=fun b=>if σ b=none/\¬mine b then w.heap[b]? else none
 have hιl:∀k,k<hs.length->ιl k=ι (es k):=fun k h=>if_pos h
 have hlive:∀k,k<hs.length->(H (es k)).live=(hp hs k).live:=fun k h=>by rw [hgiven k h,Wr]
 have hunder:∀k,k<hs.length->(hp hs k).under hs.length=true:=by
  intro k h
  have:=List.all_eq_true.1 o5 _ (List.mem_of_getElem? (Sx h))
  rw [o2]; exact this
 have hFb:∀k,k<hs.length->∀b,(hp hs k).live=true->(ιl k).block? = some b->F b=none/\Fl b=none:=by
  intro k h b h1 h2
  rw [hιl k h] at h2
  exact ⟨(s.block (by rw [hlive k h]; exact h1) h2).2.2,if_neg (fun hn=>hn.2 ⟨k,h,h1,h2⟩)⟩
 have sl:St σ ιl (hp hs) Fl W w:=by
  refine ⟨s.sto,fun b ob hb=>?_,fun k=>?_,fun k k' b h1 h2 h3 h4=>?_,s.os,s.tape,s.output,s.glo,s.drw⟩
  .by_cases hc:σ b=none/\¬mine b
   .simp only [Fl,if_pos hc] at hb; exact ⟨hb,hc.1⟩
   .simp only [Fl,if_neg hc] at hb; cases hb
  .by_cases hk':k<hs.length
   .refine (Af2 (es:=es) hιl hgiven hk' (hunder k hk') (fun b h1 h2=>?_)).1 (s.obj (es k))
    obtain ⟨h3,h4⟩:=hFb k hk' b h1 h2
    rw [h3,h4]
   .unfold B9
    rw [Mq (by omega)]
    exact if_neg hk'
  .have lt:∀k,(hp hs k).live=true->k<hs.length:=by
    intro k h
    rcases Nat.lt_or_ge k hs.length with h' | h'
    .exact h'
    .rw [Mq h'] at h; cases h
   have k1:=lt k h1
   have k2:=lt k' h2
   rw [hιl k k1] at h3
   rw [hιl k' k2] at h4
   exact inj _ _ (s.inj _ _ b (by rw [hlive k k1]; exact h1) (by rw [hlive k' k2]; exact h2) h3 h4)
 have hargs:J9 σ ιl (hp hs) largs (c.args.map a.eval++vs):=by
  rw [<-ha] at hall
  refine ⟨by simpa using hall.1,fun i b u h1 h2=>?_⟩
  have:=hall.2 i (ren es b) u (by simp [h1]) h2
  refine (Af1 (es:=es) hιl hgiven ?_).1 this
  rw [o2]; exact List.all_eq_true.1 o4 b (List.mem_of_getElem? h1)
 refine (hpp σ Fl W w ιl (c.args.map a.eval++vs) sl hargs).mono ?_
 rintro e w' ⟨v,σ',ι'l,rfl,le',s',hc'⟩
 let ι':Bo:=fun h=>if hh:∃k,k<hs'.length/\es k=h then ι'l hh.choose else ι h
 have hι':∀k,k<hs'.length->ι'l k=ι' (es k):=by
  intro k h
  have hh:∃k',k' < hs'.length/\es k'=es k:=⟨k,h,rfl⟩
  have:hh.choose=k:=inj _ _ hh.choose_spec.2
  simp only [ι',dif_pos hh,this]
 have hιo:∀h,(∀k,k<hs'.length->es k≠h)->ι' h=ι h:=by
  intro h hno
  exact dif_neg (fun ⟨k,k1,k2⟩=>hno k k1 k2)
 have hH':∀k,k<hs'.length->B6 H (wrs es 0 hs') (es k)=Gx es (hp hs' k):=by
  intro k h
  have:=Af6 (es:=es) inj (k:=0) (H:=H) (Sx h)
  simpa using this
 have hHo:∀h,(∀k,k<hs'.length->es k≠h)->B6 H (wrs es 0 hs') h=H h:=by
  intro h hno
  exact Ws (fun i hi=>by simpa using hno i hi)
 have hle2:hs.length<=hs'.length:=by omega
 have lel:Le σ ι H σ' ι' (B6 H (wrs es 0 hs')):=by
  refine ⟨le'.sto,fun h=>?_⟩
  by_cases hh:∃k,k<hs'.length/\es k=h
  .obtain ⟨k,hk',rfl⟩:=hh
   rw [<-hι' k hk',hH' k hk']
   by_cases hk2:k<hs.length
   .have q:=le'.obj k
    rw [hιl k hk2] at q
    rw [hgiven k hk2]
    refine ⟨q.box,fun h=>?_,fun h1 E sz xs h2=>?_⟩
    .rw [Ne,Aa2] at h ⊢; exact q.some h
    .rw [Ne,Aa2] at h1
     rw [Aa3] at h2
     obtain ⟨E0,sz0,xs0,e0,r0⟩:=q.rows h1 E sz xs h2
     exact ⟨E0,sz0,xs0,Aa3.2 e0,r0⟩
   .have h0:=hnew k (by omega) hk'
    have:ι (es k) = .none:=by have:=s.obj (es k); unfold B9 at this; rw [h0] at this; exact this
    rw [h0,this]
    exact HLe.of_none
  .have hno:∀k,k<hs'.length->es k≠h:=fun k h1 h2=>hh ⟨k,h1,h2⟩
   rw [hιo h hno,hHo h hno]
   exact HLe.refl _ _
 have keep:∀b,σ b=none->¬mine b->∀ob,w.heap[b]? = some ob->w'.heap[b]? = some ob/\σ' b=none/\Fl b=some ob:=by
  intro b h1 h2 ob h3
  have:Fl b=some ob:=by simp only [Fl]; rw [if_pos ⟨h1,h2⟩]; exact h3
  exact ⟨(s'.fra b ob this).1,(s'.fra b ob this).2,this⟩
 have notmine:∀h b,(∀k,k<hs'.length->es k≠h)->(H h).live=true->(ι h).block? = some b->¬mine b:=by
  rintro h b hno h1 h2 ⟨k,k1,k2,k3⟩
  exact hno k (by omega) (s.inj _ _ b (by rw [hlive k k1]; exact k2) h1 k3 h2)
 have notmineF:∀b ob,F b=some ob->¬mine b:=by
  rintro b ob hb ⟨k,k1,k2,k3⟩
  have:=(s.block (by rw [hlive k k1]; exact k2) k3).2.2
  rw [this] at hb; cases hb
 have hunder':∀k,k<hs'.length->(hp hs' k).under hs'.length=true:=fun k h=>List.all_eq_true.1 o7 _ (List.mem_of_getElem? (Sx h))
 have st':St σ' ι' (B6 H (wrs es 0 hs')) F W w':=by
  refine ⟨s'.sto,fun b ob hb=>?_,fun h=>?_,fun h h' b h1 h2 h3 h4=>?_,s'.os,s'.tape,s'.output,s'.glo,s'.drw⟩
  .obtain ⟨h1,h2⟩:=s.fra b ob hb
   obtain ⟨k1,k2,_⟩:=keep b h2 (notmineF b ob hb) ob h1
   exact ⟨k1,k2⟩
  .by_cases hh:∃k,k<hs'.length/\es k=h
   .obtain ⟨k,hk',rfl⟩:=hh
    refine (Af2 (es:=es) hι' hH' hk' (hunder' k hk') (fun b h1 h2=>?_)).2 (s'.obj k)
    have hf0:=(s'.block h1 h2).2.2
    refine ⟨fun _=>hf0,fun _=>?_⟩
    cases hFb:F b with
    | none=>rfl
    | some ob=>
     obtain ⟨h3,h4⟩:=s.fra b ob hFb
     have:=(keep b h4 (notmineF b ob hFb) ob h3).2.2
     rw [hf0] at this; cases this
   .have hno:∀k,k<hs'.length->es k≠h:=fun k h1 h2=>hh ⟨k,h1,h2⟩
    have hob:=s.obj h
    have hnm:=fun b h1 h2=>notmine h b hno h1 h2
    unfold B9 at hob ⊢
    rw [hHo h hno,hιo h hno]
    cases hx:H h with
    | none=>rw [hx] at hob; exact hob
    | dead=>trivial
    | cells E cs=>
     rw [hx] at hob hnm
     obtain ⟨b,C,e1,h1,h2,h3,h4,h5⟩:=hob
     obtain ⟨k1,k2,_⟩:=keep b h1 (hnm b rfl (by rw [e1]; rfl)) _ h3
     exact ⟨b,C,e1,k2,h2,k1,h4,fun i c v x y=>(h5 i c v x y).mono lel⟩
    | rows E sz xs=>
     rw [hx] at hob hnm
     obtain ⟨z1,z2,⟨e1,e2⟩ | ⟨b,tot,C,e1,h1,h2,h3,h4,h5,h6⟩⟩:=hob
     .exact ⟨z1,z2,.inl ⟨e1,e2⟩⟩
     .obtain ⟨k1,k2,_⟩:=keep b h1 (hnm b rfl (by rw [e1]; rfl)) _ h3
      exact ⟨z1,z2,.inr ⟨b,tot,C,e1,k2,h2,k1,h4,h5,h6.mono le'.sto⟩⟩
    | map l=>
     rw [hx] at hob hnm
     obtain ⟨b,M,q,e1,h1,h2,h3,h4⟩:=hob
     obtain ⟨k1,k2,_⟩:=keep b h1 (hnm b rfl (by rw [e1]; rfl)) _ h3
     exact ⟨b,M,q,e1,k2,h2,k1,h4.mono le'.sto⟩
  .have Sy:∀k,k<hs'.length->∀h,(∀k,k<hs'.length->es k≠h)->(B6 H (wrs es 0 hs') (es k)).live=true->(B6 H (wrs es 0 hs') h).live=true->(ι' (es k)).block? = some b->(ι' h).block? = some b->False:=by
    intro k hk' h hno g1 g2 g3 g4
    rw [hH' k hk',Wr] at g1
    rw [hHo h hno] at g2
    rw [<-hι' k hk'] at g3
    rw [hιo h hno] at g4
    have hf0:=(s'.block g1 g3).2.2
    have hb:=s.block g2 g4
    have hget:w.heap[b]? = some w.heap[b]:=by simp [hb.1]
    have:=(keep b hb.2.1 (notmine h b hno g2 g4) _ hget).2.2
    rw [hf0] at this; cases this
   by_cases hh:∃k,k<hs'.length/\es k=h
   .obtain ⟨k,hk',rfl⟩:=hh
    by_cases hh':∃k,k<hs'.length/\es k=h'
    .obtain ⟨k',hk2,rfl⟩:=hh'
     rw [hH' k hk',Wr] at h1
     rw [hH' k' hk2,Wr] at h2
     rw [<-hι' k hk'] at h3
     rw [<-hι' k' hk2] at h4
     rw [s'.inj k k' b h1 h2 h3 h4]
    .exact (Sy k hk' h' (fun k h1 h2=>hh' ⟨k,h1,h2⟩) h1 h2 h3 h4).elim
   .have hno:∀k,k<hs'.length->es k≠h:=fun k h1 h2=>hh ⟨k,h1,h2⟩
    by_cases hh':∃k,k<hs'.length/\es k=h'
    .obtain ⟨k',hk2,rfl⟩:=hh'
     exact (Sy k' hk2 h hno h2 h1 h4 h3).elim
    .have hno':∀k,k<hs'.length->es k≠h':=fun k h1 h2=>hh' ⟨k,h1,h2⟩
     rw [hHo h hno] at h1
     rw [hHo h' hno'] at h2
     rw [hιo h hno] at h3
     rw [hιo h' hno'] at h4
     exact s.inj h h' b h1 h2 h3 h4
 exact hk σ' ι' v w' lel st' ((Af1 (es:=es) hι' hH' o6).2 hc')
end
end Go.Ab
namespace Go.Ab
section
variable {P:Program} {T:Ch} {an:Nat->Ann} {n:Nat} {o:Oper} {ρ:Operand->AV} {H:Hp} {K:Eff->Nat->Prop}
theorem Es {b:Bool} {X:Prop} (h:bif b then X else False):b=true/\X:=by
 cases b with
 | false=>exact h.elim
 | true=>exact ⟨rfl,h⟩
theorem Wt {x:AV} (h:Jr x=true):x = .val (.slice none 0 0):=by
 unfold Jr at h
 split at h
 .rfl
 .cases h
theorem Ap5 {x:AV} (h:Sv x=true):∀vs,x≠.val (.agg vs):=by
 intro vs e; subst e; cases h
theorem Aa6 {i:TI} (h1:Nat.beq (D7 i).cells.length i.zero.length=true) (h2:Sv (D7 i)=true) (h3:I8 i.size (D7 i)=true):(D7 i).cells=i.zero.map .val:=by
 have _:=h1; have _:=h3
 unfold D7 at h2 ⊢
 cases hd:i.d with
 | struct fs=>rfl
 | _=>
  rw [hd] at h2
  cases b:i.zero with
  | nil=>rfl
  | cons v l=>
   cases l with
   | cons _ _=>rfl
   | nil=>
    rw [b] at h2
    cases v <;> first | rfl | cases h2
theorem Mr {α:Type} {c:Array α} {x y:α} (h:c.toList = [x,y]):c = #[x,y]:=by
 apply Array.ext'; simpa using h
theorem Qa {α:Type} {c:Array α} {x:α} (h:c.toList = [x]):c = #[x]:=by
 apply Array.ext'; simpa using h
theorem N4 {c:Call} {b:Builtin} {xs:Array Operand} {ts:Array TypeId} (h1:c.callee = .builtin b) (h2:c.args=xs) (h3:c.argTypes=ts):c = {callee:=.builtin b,args:=xs,argTypes:=ts}:=by
 cases c; simp_all
def D6 (H:Hp) (n:Nat):Prop:=∀m,n<=m->H m = .none
def Kb (P:Program) (o:Oper) (ρ:Operand->AV) (H:Hp) (n:Nat) (K:Eff->Nat->Prop):Prop :=
 ∃b m,Bt P o ρ b/\(∀p∈b.rd,H p.1=p.2)/\K b m/\n<=m/\D6 (B6 H b.wr) m
theorem C5 (b:D6 H n) {r:AV} (h:Bt P o ρ ⟨r,[],[]⟩) (k:K ⟨r,[],[]⟩ n):Kb P o ρ H n K:=⟨_,n,h,by simp,k,Nat.le_refl _,b⟩
theorem Js (c:D6 H n) {r:AV} {x:Nat} {b:Be} (h:Bt P o ρ ⟨r,[(x,b)],[]⟩) (hx:H x=b) (k:K ⟨r,[(x,b)],[]⟩ n):Kb P o ρ H n K :=
 ⟨_,n,h,by simpa using hx,k,Nat.le_refl _,c⟩
theorem Kc (g:D6 H n) {r:AV} {x:Nat} {c b:Be} (h:Bt P o ρ ⟨r,[(x,c)],[(x,b)]⟩) (hx:H x=c) (f:c≠.none) (k:K ⟨r,[(x,c)],[(x,b)]⟩ n):Kb P o ρ H n K:=by
 refine ⟨_,n,h,by simpa using hx,k,Nat.le_refl _,fun m i=>?_⟩
 have j:x<n:=by
  rcases Nat.lt_or_ge x n with h | h
  .exact h
  .exact (f (hx ▸ g x h)).elim
 show Ay H x b m=_
 rw [C3 _ _ (by omega)]; exact g m i
theorem Ms (c:D6 H n) {r:AV} {b:Be} (h:Bt P o ρ ⟨r,[(n,.none)],[(n,b)]⟩) (k:K ⟨r,[(n,.none)],[(n,b)]⟩ (n+1)):Kb P o ρ H n K:=by
 refine ⟨_,n+1,h,by simpa using c n (Nat.le_refl _),k,by omega,fun m f=>?_⟩
 show Ay H n b m=_
 rw [C3 _ _ (by omega)]; exact c m (by omega)
theorem Ap6 (j:D6 H n) {l:List Nat} {c:List AV} {f b:List Be} {r:AV} (g:P5 n l c f r b=true) (x:N0 H (wrs (Dk n l) 0 f))
  (h:Bt P o ρ ⟨ren (Dk n l) r,wrs (Dk n l) 0 f++Bv (Dk n l) l.length (b.length-l.length),wrs (Dk n l) 0 b⟩)
  (k:K ⟨ren (Dk n l) r,wrs (Dk n l) 0 f++Bv (Dk n l) l.length (b.length-l.length),wrs (Dk n l) 0 b⟩ (n+(b.length-l.length))):Kb P o ρ H n K:=by
 simp only [P5,Bool.and_eq_true] at g
 have s:=g.1.1.1.1.1.1
 have y:=Nat.le_of_ble_eq_true g.1.1.1.1.2
 refine ⟨_,n+(b.length-l.length),h,fun p hp=>?_,k,by omega,fun q hq=>?_⟩
 .rcases List.mem_append.1 hp with hp | hp
  .exact x.spec p hp
  .obtain ⟨i,u,rfl⟩:=Af8 hp
   refine j _ ?_
   show n<=Dk n l (l.length+i)
   rw [Sw (by omega)]; omega
 .show B6 H (wrs (Dk n l) 0 b) q = .none
  rw [Ws (fun i u e=>?_)]
  .exact j q (by omega)
  .rcases Nat.lt_or_ge (0+i) l.length with h1 | h1
   .have:=Af3 s h1
    omega
   .have:=Sw (n:=n) h1
    omega
theorem Ap7 (l:Ci P T) (g:D6 H n) {t:TypeId} {x:Operand} (f:o.op = .load t x) (h:Dp P T an n o ρ H K):Kb P o ρ H n K:=by
 unfold Dp at h
 rw [f] at h
 dsimp only at h
 split at h
 .rename_i i ht
  split at h
  .rename_i cs hx
   cases b:i.isAgg with
   | true=>
    rw [b] at h
    simp only [cond_true] at h
    obtain ⟨h1,h2⟩:=Es h
    exact C5 g (Ani l f ht b hx (Nat.le_of_ble_eq_true h1)) h2
   | false=>
    rw [b] at h
    simp only [cond_false] at h
    split at h
    .exact C5 g (Anh l f ht b hx) h
    .exact h.elim
  .rename_i hd off hx
   split at h
   .rename_i E cs s
    cases b:i.isAgg with
    | true=>
     rw [b] at h
     simp only [cond_true] at h
     obtain ⟨h1,h2⟩:=Es h
     exact Js g (Ank l f ht b hx (Nat.le_of_ble_eq_true h1)) s h2
    | false=>
     rw [b] at h
     simp only [cond_false] at h
     split at h
     .rename_i c hc
      exact Js g (Anj l f ht b hx hc) s h
     .exact h.elim
   .exact h.elim
  .rename_i hd k q j hx
   split at h
   .rename_i E sz xs s
    obtain ⟨y,hk,hy,h⟩:=h
    cases b:i.isAgg with
    | true=>
     rw [b] at h
     simp only [cond_true] at h
     obtain ⟨h1,h2⟩:=Es h
     exact Js g (Anm l f ht b hx hk hy (Nat.le_of_ble_eq_true h1)) s h2
    | false=>
     rw [b] at h
     simp only [cond_false] at h
     split at h
     .rename_i c hc
      exact Js g (Anl l f ht b hx hk hy hc) s h
     .exact h.elim
   .exact h.elim
  .exact h.elim
 .exact h.elim
theorem Ap8 (l:Ci P T) (g:D6 H n) {t:TypeId} {x y:Operand} (c:o.op = .store t x y) (h:Dp P T an n o ρ H K):Kb P o ρ H n K:=by
 unfold Dp at h
 rw [c] at h
 dsimp only at h
 split at h
 .rename_i i ht
  split at h
  .rename_i hd off hx
   split at h
   .rename_i E cs f
    obtain ⟨h1,h2⟩:=Es h
    simp only [Bool.and_eq_true] at h1
    exact Kc g (Anp l c ht hx (Nat.eq_of_beq_eq_true h1.1.1) (Nat.le_of_ble_eq_true h1.1.2) h1.2) f (by intro e; cases e) h2
   .exact h.elim
  .rename_i hd k q j hx
   split at h
   .rename_i E sz xs f
    obtain ⟨z,hk,s,h⟩:=h
    obtain ⟨h1,h2⟩:=Es h
    simp only [Bool.and_eq_true] at h1
    obtain ⟨⟨⟨⟨g1,g2⟩,g3⟩,g4⟩,g5⟩:=h1
    rw [Wp,P8] at h2
    obtain ⟨u,b,h2⟩:=h2
    subst b
    exact Kc g (Anr l c ht hx hk s (Nat.eq_of_beq_eq_true g1) (Nat.le_of_ble_eq_true g2) (Nat.le_of_ble_eq_true g3) g4 (Ap5 g5)) f (by intro e; cases e) h2
   .exact h.elim
  .exact h.elim
 .exact h.elim
theorem Ap9 (l:Ci P T) (g:D6 H n) {op:BinOp} {t q:TypeId} {x y:Operand} (f:o.op = .binOp op t x y q) (h:Dp P T an n o ρ H K):Kb P o ρ H n K:=by
 unfold Dp at h
 rw [f] at h
 dsimp only at h
 split at h
 .rename_i k a i b hx hy
  split at h
  .obtain ⟨c,h1,h2,h3⟩:=h
   exact C5 g (An2 f hx hy h1 h2) h3
  .obtain ⟨c,h1,h2,h3⟩:=h
   exact C5 g (An1 f hx hy h1 h2) h3
  .replace h:=Es h; obtain ⟨hk,h⟩:=h
   have hk:k=i:=by simpa using hk
   subst hk
   split at h
   .obtain ⟨c,h1,h2⟩:=h; exact C5 g (Ant f hx hy h1) h2
   .obtain ⟨c,h1,h2⟩:=h; exact C5 g (Anu f hx hy h1) h2
   .obtain ⟨c,h1,h2⟩:=h; exact C5 g (Anv f hx hy h1) h2
   .obtain ⟨c,h1,h2,h3⟩:=h; exact C5 g (Anw f hx hy h1 h2) h3
   .obtain ⟨c,h1,h2,h3⟩:=h; exact C5 g (Anx f hx hy h1 h2) h3
   .split at h
    .rename_i j ht'; exact C5 g (Anz f hx hy ht') h
    .split at h
     .rename_i c hc; exact C5 g (An0 f hx hy hc) h
     .exact h.elim
 .rename_i a b hx hy
  split at h
  .rename_i A z u ht
   split at h
   .rename_i j ht'; exact C5 g (An5 l f ht rfl hx hy ht') h
   .exact h.elim
  .exact h.elim
 .rename_i xs ys hx hy
  split at h
  .rename_i s h1
   split at h
   .rename_i vs h2
    split at h
    .obtain ⟨b,hb,h⟩:=h
     exact C5 g (Afk f hx hy h1 h2 hb (.inl ⟨rfl,rfl⟩)) h
    .obtain ⟨b,hb,h⟩:=h
     exact C5 g (Afk f hx hy h1 h2 hb (.inr ⟨rfl,rfl⟩)) h
    .exact h.elim
   .exact h.elim
  .exact h.elim
 .rename_i k a i b hx hy
  replace h:=Es h; obtain ⟨hk,h⟩:=h
  have hk:k=i:=by simpa using hk
  subst hk
  obtain ⟨c,h1,h2⟩:=h
  exact C5 g (Aoc f hx hy h1) h2
 .rename_i a b hx hy
  split at h
  .obtain ⟨h1,h2⟩:=h; exact C5 g (An8 f hx hy h1) h2
  .split at h
   .rename_i j ht'; exact C5 g (An7 f hx hy ht') h
   .exact h.elim
 .rename_i p G E D B hx hy
  split at h
  .split at h
   .rename_i M L J I ht; exact C5 g (An6 l f ht rfl hx hy) h
   .exact h.elim
  .exact h.elim
 .exact h.elim
theorem Aqa (u:Ci P T) (q:D6 H n) {t:TypeId} {x:Operand} {lo G:Option Operand} (i:o.op = .slice t x lo G none) (h:Dp P T an n o ρ H K):Kb P o ρ H n K:=by
 unfold Dp at h
 rw [i] at h
 dsimp only at h
 split at h
 .rename_i e D B A ht
  split at h
  .rename_i I y
   split at h
   .rename_i sz xs hx
    split at h
    .rename_i z h0 c f
     replace h:=Es h; obtain ⟨g1,h⟩:=h
     obtain ⟨l,j,ys,el,b,h1,h2,hy,k⟩:=h
     subst el; subst b; subst hy
     exact C5 q (Aor u i ht rfl y (Nat.eq_of_beq_eq_true g1) hx c f h1 h2) k
    .exact h.elim
   .rename_i hd k off len hx
    split at h
    .rename_i E sz xs g
     split at h
     .rename_i z h0 c f
      replace h:=Es h; obtain ⟨g1,h⟩:=h
      cases h with
      | mk l j hk el b h1 h2 h3 k=>
       subst el; subst b
       exact Js q (Aot u i ht rfl y (Nat.eq_of_beq_eq_true g1) hx hk c f h1 h2 h3) g k
      | mkE l hk el b h2 k=>
       subst el; subst b
       exact Js q (Ape u i ht rfl y hx hk c f h2) g k
     .exact h.elim
    .exact h.elim
   .exact h.elim
  .exact h.elim
 .rename_i D B A ht
  split at h
  .rename_i s hx
   split at h
   .rename_i z h0 c f
    obtain ⟨l,j,el,b,h1,h2,k⟩:=h
    subst el; subst b
    exact C5 q (Aos u i ht rfl hx c f h1 h2) k
   .exact h.elim
  .exact h.elim
 .exact h.elim
theorem Aqb (D:Ci P T) (A:D6 H n) {c:Call} (u:o.op = .call c) (h:Dp P T an n o ρ H K):Kb P o ρ H n K:=by
 unfold Dp at h
 rw [u] at h
 dsimp only at h
 split at h
 .rename_i x i
  split at h
  .rename_i f ae hx
   split at h
   .rename_i j ai
    split at h
    .rename_i hd k len hj
     split at h
     .rename_i E sz xs B
      obtain ⟨hk,I,r,hp,hf,h⟩:=h
      subst hk
      rw [<-I] at hj
      exact Kc A (Ap1 u i hx hj hp hf) B (by intro e; cases e) h
     .exact h.elim
    .exact h.elim
   .cases h with
    | mk r hp hf k=>exact C5 A (Ap0 u i hx hp hf) k
    | act l ac hs r ah hp ha ok B k=>exact Ap6 A ok B (Ap4 u i hx hp ha ok) k
  .exact h.elim
 .exact h.elim
 .rename_i i
  split at h
  .rename_i x t ha z
   rw [N4 i (Qa ha) (Qa z)] at u
   split at h
   .rename_i e Z Y X ht
    split at h
    .rename_i sz xs hx
     split at h
     .obtain ⟨c,hc,h⟩:=h
      subst hc
      exact C5 A (Ae8 D u ht rfl hx) h
     .exact C5 A (Ae8 D u ht rfl hx) h
    .rename_i p m cap hx; exact C5 A (Aoj D u ht rfl hx) h
    .rename_i hd k off len hx
     split at h
     .rename_i E sz xs B
      obtain ⟨hk,h⟩:=h
      exact Js A (Aom D u ht rfl hx hk) B h
     .exact h.elim
    .exact h.elim
   .rename_i Z Y X ht
    split at h
    .rename_i s hx; exact C5 A (Aol D u ht rfl hx) h
    .exact h.elim
   .exact h.elim
  .exact h.elim
 .rename_i i
  split at h
  .rename_i x t ha z
   rw [N4 i (Qa ha) (Qa z)] at u
   split at h
   .rename_i e Z Y X ht
    split at h
    .rename_i p m cap hx; exact C5 A (Aok D u ht rfl hx) h
    .exact h.elim
   .exact h.elim
  .exact h.elim
 .rename_i i
  split at h
  .rename_i x y t t' ha z
   rw [N4 i (Mr ha) (Mr z)] at u
   split at h
   .rename_i e Z Y X ht
    split at h
    .rename_i i' J
     split at h
     .rename_i h2 k2 a6 a7 hy
      split at h
      .rename_i hd k off len hx
       split at h
       .rename_i E sz xs B
        replace h:=Es h; obtain ⟨g5,h⟩:=h
        simp only [Bool.and_eq_true] at g5
        have L:=Nat.eq_of_beq_eq_true g5.1.1.1
        have N:=Nat.eq_of_beq_eq_true g5.1.1.2
        have e3:=Nat.eq_of_beq_eq_true g5.1.2
        have e4:0<i'.size:=Nat.le_of_ble_eq_true g5.2
        subst L; subst N; subst e3
        obtain ⟨V,c,hk,I,S,R,G,hc,k⟩:=h
        subst G; subst hc
        exact Kc A (Apc D u ht rfl J e4 hx hk I hy S R) B (by intro e; cases e) k
       .exact h.elim
      .rename_i q hx
       split at h
       .rename_i E sz xs B
        replace h:=Es h; obtain ⟨g5,h⟩:=h
        have L:=Nat.eq_of_beq_eq_true g5
        subst L
        obtain ⟨hk,k⟩:=h
        exact Js A (Apd D u ht rfl J hx hy hk) B k
       .exact h.elim
      .exact h.elim
     .exact h.elim
    .exact h.elim
   .exact h.elim
  .exact h.elim
 .rename_i i
  split at h
  .rename_i x t ha z
   rw [N4 i (Qa ha) (Qa z)] at u
   split at h
   .rename_i e Z Y X ht
    split at h
    .rename_i i' J
     split at h
     .rename_i hd k off len hx
      split at h
      .rename_i E sz xs B
       replace h:=Es h; obtain ⟨g5,h⟩:=h
       simp only [Bool.and_eq_true] at g5
       have L:=Nat.eq_of_beq_eq_true g5.1.1.1.1.1
       have N:=Nat.eq_of_beq_eq_true g5.1.1.1.1.2
       have e3:0<i'.size:=Nat.le_of_ble_eq_true g5.1.1.1.2
       subst L; subst N
       obtain ⟨V,hk,I,G,k⟩:=h
       subst G
       exact Kc A (Apf D u ht rfl J e3 g5.1.1.2 (Aa6 g5.1.2 g5.2 g5.1.1.2) hx hk I) B (by intro e; cases e) k
      .exact h.elim
     .rename_i q hx; exact C5 A (Apg D u ht rfl hx) h
     .exact h.elim
    .exact h.elim
   .exact h.elim
  .exact h.elim
 .rename_i i
  split at h
  .rename_i x y t t' ha z
   rw [N4 i (Mr ha) (Mr z)] at u
   split at h
   .rename_i e Z Y X e' ab aa a8 ht ht'
    split at h
    .rename_i i' J
     replace h:=Es h; obtain ⟨g,h⟩:=h
     simp only [Bool.and_eq_true] at g
     obtain ⟨⟨g1,g2⟩,g3⟩:=g
     have g1:0<i'.size:=Nat.le_of_ble_eq_true g1
     have g2:=Nat.eq_of_beq_eq_true g2
     have g3:=Nat.le_of_ble_eq_true g3
     split at h
     .rename_i sz ys hy
      replace h:=Es h; obtain ⟨g4,h⟩:=h
      have g4:=Nat.eq_of_beq_eq_true g4
      subst g4
      split at h
      .rename_i hd k len hx
       split at h
       .rename_i E a1 xs B
        replace h:=Es h; obtain ⟨g5,h⟩:=h
        simp only [Bool.and_eq_true] at g5
        have L:=Nat.eq_of_beq_eq_true g5.1
        have N:=Nat.eq_of_beq_eq_true g5.2
        subst L; subst N
        cases h with
        | mk V m hk I hb G M k=>
         subst I; subst G; subst M
         exact Kc A (Ao0 D u ht rfl ht' rfl J g1 g2 g3 hx hk hy hb) B (by intro e; cases e) k
        | mkP V k' m hk I hb G U M k=>
         subst G; subst M; subst U
         exact Kc A (Ao8 D u ht rfl ht' rfl J g1 g2 g3 hx hk I hy hb) B (by intro e; cases e) k
       .exact h.elim
      .rename_i hx
       obtain ⟨V,m,hb,G,M,k⟩:=h
       subst G; subst M
       exact Ms A (Ao4 D n u ht rfl ht' rfl J g1 g2 g3 hx hy hb) k
      .rename_i ag af hx
       obtain ⟨ad,k⟩:=h
       subst ad
       exact C5 A (Apa D u ht rfl ht' rfl J g1 hx hy) k
      .exact h.elim
     .rename_i h2 k2 a6 a7 hy
      split at h
      .rename_i hd k len hx
       split at h
       .rename_i E a1 xs B
        replace h:=Es h; obtain ⟨g5,h⟩:=h
        simp only [Bool.and_eq_true] at g5
        have L:=Nat.eq_of_beq_eq_true g5.1.1
        have N:=Nat.eq_of_beq_eq_true g5.1.2
        have e3:=Nat.eq_of_beq_eq_true g5.2
        subst L; subst N; subst e3
        obtain ⟨V,k',m,hk,I,S,R,hb,G,U,M,k⟩:=h
        subst G; subst M; subst U
        exact Kc A (Apb D u ht rfl ht' rfl J g1 g2 g3 hx hk I hy S R hb) B (by intro e; cases e) k
       .exact h.elim
      .exact h.elim
     .exact h.elim
    .exact h.elim
   .rename_i e Z Y X ab aa a8 ht ht'
    split at h
    .rename_i i' J
     replace h:=Es h; obtain ⟨g,h⟩:=h
     simp only [Bool.and_eq_true] at g
     obtain ⟨⟨g1,g2⟩,g3⟩:=g
     have g1:=Nat.eq_of_beq_eq_true g1
     have g2:=Nat.eq_of_beq_eq_true g2
     have g3:=Nat.le_of_ble_eq_true g3
     split at h
     .rename_i s hy
      split at h
      .rename_i hd k len hx
       split at h
       .rename_i E a1 xs B
        replace h:=Es h; obtain ⟨g5,h⟩:=h
        simp only [Bool.and_eq_true] at g5
        have L:=Nat.eq_of_beq_eq_true g5.1
        have N:=Nat.eq_of_beq_eq_true g5.2
        subst L; subst N
        obtain ⟨_,_,_,_,_,_,_,_,_,k⟩ | ⟨V,m,hk,I,hb,G,M,k⟩:=h
        .exact k.elim
        subst I; subst G; subst M
        exact Kc A (Ao3 D u ht rfl ht' rfl J g1 g2 g3 hx hk hy hb) B (by intro e; cases e) k
       .exact h.elim
      .exact h.elim
     .exact h.elim
    .exact h.elim
   .exact h.elim
  .exact h.elim
 .rename_i i
  split at h
  .rename_i x y t t' ha z
   rw [N4 i (Mr ha) (Mr z)] at u
   split at h
   .rename_i k a k' b hx hy
    exact C5 A (Ao6 u hx hy) h
   .exact h.elim
  .exact h.elim
 .rename_i i
  split at h
  .rename_i x y t t' ha z
   rw [N4 i (Mr ha) (Mr z)] at u
   split at h
   .rename_i k a k' b hx hy
    exact C5 A (Ao7 u hx hy) h
   .exact h.elim
  .exact h.elim
 .exact h.elim
theorem Af9 (B:Ci P T) (A:D6 H n) (h:Dp P T an n o ρ H K):Kb P o ρ H n K:=by
 cases u:o.op with
 | load t x=>exact Ap7 B A u h
 | store t x y=>exact Ap8 B A u h
 | binOp op t x y yt=>exact Ap9 B A u h
 | call c=>exact Aqb B A u h
 | slice t x lo S mx=>
  cases mx with
  | none=>exact Aqa B A u h
  | some m=>unfold Dp at h; rw [u] at h; exact h.elim
 | move x=>unfold Dp at h; rw [u] at h; exact C5 A (Anc u) h
 | assign x=>
  unfold Dp at h; rw [u] at h; dsimp only at h
  split at h
  .exact C5 A (So u) h
  .split at h
   .exact C5 A (So u) h
   .exact C5 A (So u) h
   .exact C5 A (So u) h
   .cases hb:Jr (ρ x) with
    | false=>rw [hb] at h; exact C5 A (So u) h
    | true=>
     rw [hb] at h
     simp only [cond_true] at h
     split at h
     .rename_i e I G J ht
      split at h
      .rename_i X D
       replace h:=Es h; obtain ⟨g1,h⟩:=h
       exact Ms A (Ao5 B n u (Wt hb) ht rfl D (Nat.le_of_ble_eq_true g1)) h
      .exact h.elim
     .exact h.elim
 | pick c a b=>
  unfold Dp at h; rw [u] at h; dsimp only at h
  split at h
  .rename_i t hc; exact C5 A (Ane u hc) h
  .exact h.elim
 | alloc t=>
  unfold Dp at h; rw [u] at h; dsimp only at h
  split at h
  .rename_i i ht; exact Ms A (Anf B n u ht) h
  .exact h.elim
 | box t x=>unfold Dp at h; rw [u] at h; exact Ms A (Ang n u) h
 | build t parts=>
  unfold Dp at h; rw [u] at h; dsimp only at h
  split at h
  .rename_i fs I G z ht
   split at h
   .rename_i cs hc; exact C5 A (Aou B u ht rfl hc) h
   .exact h.elim
  .exact h.elim
 | buildSlice t len parts=>
  unfold Dp at h; rw [u] at h; dsimp only at h
  split at h
  .rename_i e I G J ht
   split at h
   .rename_i X D
    replace h:=Es h; obtain ⟨g,h⟩:=h
    simp only [Bool.and_eq_true] at g
    obtain ⟨⟨⟨g1,g2⟩,g3⟩,g4⟩:=g
    have g2:parts.toList.map (·.1)=List.range' 0 len:=by simpa using g2
    have g4:∀p∈parts.toList,I8 X.size (ρ p.2)=true:=List.all_eq_true.1 g4
    split at h
    .exact h.elim
    .rw [Wq] at h
     exact C5 A (Afd B u ht rfl D (Nat.le_of_ble_eq_true g1) g2 (Nat.le_of_ble_eq_true g3) g4) h
    .rw [Wq] at h
     exact C5 A (Afd B u ht rfl D (Nat.le_of_ble_eq_true g1) g2 (Nat.le_of_ble_eq_true g3) g4) h
    .rw [Wq] at h
     exact Ms A (Aow B n u ht rfl D (Nat.le_of_ble_eq_true g1) g2 (Nat.le_of_ble_eq_true g3) g4) h
   .exact h.elim
  .exact h.elim
 | nilCheck x=>
  unfold Dp at h; rw [u] at h; dsimp only at h
  replace h:=Es h; obtain ⟨g1,h⟩:=h
  exact C5 A (Ans u g1) h
 | unOp op t x=>
  unfold Dp at h; rw [u] at h; dsimp only at h
  split at h
  .rename_i b hx; exact C5 A (An9 u hx) h
  .rename_i k m hx
   obtain ⟨c,h1,h2⟩:=h
   exact C5 A (Aoa u hx h1) h2
  .exact h.elim
 | convert s d x=>
  unfold Dp at h; rw [u] at h; dsimp only at h
  split at h
  .rename_i i k I G J N m hs hd hx
   obtain ⟨c,h1,h2⟩:=h
   exact C5 A (Aob B u hs hd rfl hx h1) h2
  .rename_i v0 k0 I G J k1 m h1 h2 hx
   exact C5 A (Aod B u h1 h2 rfl hx) h
  .rename_i v0 k0 I G J q m h1 h2 hx
   obtain ⟨c,g1,g2⟩:=h
   exact C5 A (Aoe B u h1 h2 rfl hx g1) g2
  .exact h.elim
 | makeFunc fn first a6=>
  cases fn with
  | func f=>
   unfold Dp at h; rw [u] at h; dsimp only at h
   replace h:=Es h; obtain ⟨g1,h⟩:=h
   have:first = #[]:=by simpa using g1
   subst this
   exact C5 A (Aoq u) h
  | _=>unfold Dp at h; rw [u] at h; exact h.elim
 | makeSlice t x y=>
  unfold Dp at h; rw [u] at h; dsimp only at h
  split at h
  .rename_i e I G J ht
   split at h
   .rename_i X D
    split at h
    .rename_i k l N c hx hy
     replace h:=Es h; obtain ⟨g,h⟩:=h
     simp only [Bool.and_eq_true] at g
     obtain ⟨⟨⟨g1,g2⟩,g3⟩,g4⟩:=g
     rcases h with ⟨l',c',zs,el,ec,h1,h2,h3,V,k⟩ | ⟨z',Z,l',c',zs,el,ec,h1,h2,h3,V,k⟩
     .subst el; subst ec; subst V
      exact Ms A (Aox B n u ht rfl D (Nat.le_of_ble_eq_true g1) hx hy h1 h2 h3 g2 (Aa6 g3 g4 g2)) k
     .subst el; subst ec; subst V
      exact Ms A (Aoy B z' n u ht rfl D (Nat.le_of_ble_eq_true g1) hx hy h1 h2 h3 g2 (Aa6 g3 g4 g2) Z) k
    .exact h.elim
   .exact h.elim
  .exact h.elim
 | fieldAddr s x f=>
  unfold Dp at h; rw [u] at h; dsimp only at h
  split at h
  .rename_i fs I G J ht
   split at h
   .rename_i q U
    split at h
    .rename_i hd off hx; exact C5 A (Aog B u ht rfl U hx) h
    .rename_i cs hx; exact C5 A (Aoh B u ht rfl U hx) h
    .rename_i hd k m j hx
     split at h
     .rename_i E sz xs L
      obtain ⟨hk,h⟩:=h
      exact Js A (Aoi B u ht rfl U hx hk) L h
     .exact h.elim
    .exact h.elim
   .exact h.elim
  .exact h.elim
 | indexAddr t x y=>
  unfold Dp at h; rw [u] at h; dsimp only at h
  split at h
  .rename_i e I G J ht
   split at h
   .rename_i X D
    split at h
    .rename_i sz xs k i hx hy
     replace h:=Es h; obtain ⟨g1,h⟩:=h
     obtain ⟨m,z,S,V,N⟩:=h
     subst S
     exact C5 A (Aon B u ht rfl D (Nat.eq_of_beq_eq_true g1) hx hy V) N
    .rename_i hd k off len kk i hx hy
     split at h
     .rename_i E sz xs L
      replace h:=Es h; obtain ⟨g1,h⟩:=h
      obtain ⟨m,hk,S,hm,N⟩:=h
      subst S
      exact Js A (Aoo B u ht rfl D hx hk hy hm (Nat.eq_of_beq_eq_true g1)) L N
     .exact h.elim
    .exact h.elim
   .exact h.elim
  .exact h.elim
 | index t x y=>
  unfold Dp at h; rw [u] at h; dsimp only at h
  split at h
  .rename_i I G J ht
   split at h
   .rename_i s k i hx hy
    obtain ⟨m,c,S,hc,N⟩:=h
    subst S
    exact C5 A (Aop B u ht rfl hx hy hc) N
   .exact h.elim
  .exact h.elim
 | field t x f=>
  unfold Dp at h; rw [u] at h; dsimp only at h
  split at h
  .rename_i fs I G J ht
   split at h
   .rename_i q hq
    split at h
    .rename_i cs hx
     obtain ⟨ft,U,h⟩:=h
     split at h
     .rename_i Y D
      cases M:Y.isAgg with
      | true=>
       rw [M] at h
       simp only [cond_true] at h
       obtain ⟨h1,h2⟩:=Es h
       exact C5 A (Afl B u ht rfl hq U D hx (.inl ⟨M,Nat.le_of_ble_eq_true h1,rfl⟩)) h2
      | false=>
       rw [M] at h
       simp only [cond_false] at h
       split at h
       .rename_i c hc
        exact C5 A (Afl B u ht rfl hq U D hx (.inr ⟨M,hc⟩)) h
       .exact h.elim
     .exact h.elim
    .exact h.elim
   .exact h.elim
  .exact h.elim
 | makeMap t r=>
  cases r with
  | none=>unfold Dp at h; rw [u] at h; exact Ms A (Aph n u) h
  | some q=>unfold Dp at h; rw [u] at h; exact h.elim
 | lookup t x y ok=>
  unfold Dp at h; rw [u] at h; dsimp only at h
  split at h
  .rename_i kt et I G J ht
   split at h
   .rename_i q1 q2 q3 hk
    split at h
    .rename_i Y D
     split at h
     .rename_i hd hx
      split at h
      .rename_i s hy
       split at h
       .rename_i es L
        obtain ⟨r,R,h⟩:=h
        exact Js A (Api B u ht rfl hk rfl D hx hy R) L h
       .exact h.elim
      .exact h.elim
     .exact h.elim
    .exact h.elim
   .split at h
    .rename_i Y D
     split at h
     .rename_i hd hx
      split at h
      .rename_i ks hy
       split at h
       .rename_i us hu
        split at h
        .rename_i es L
         obtain ⟨r,hc,R,h⟩:=h
         exact Js A (Apk B u ht rfl D hx hy hu hc R) L h
        .exact h.elim
       .exact h.elim
      .exact h.elim
     .exact h.elim
    .exact h.elim
   .exact h.elim
  .exact h.elim
 | mapUpdate t x y z=>
  unfold Dp at h; rw [u] at h; dsimp only at h
  split at h
  .rename_i kt et I G J ht
   split at h
   .rename_i q1 q2 q3 hk
    split at h
    .rename_i hd hx
     split at h
     .rename_i s hy
      split at h
      .rename_i es L
       obtain ⟨g1,h⟩:=Es h
       rw [P8] at h
       obtain ⟨a1,R,h⟩:=h
       exact Kc A (Apj B u ht rfl hk rfl hx hy g1 R) L (by intro e; cases e) h
      .exact h.elim
     .exact h.elim
    .exact h.elim
   .split at h
    .rename_i hd hx
     split at h
     .rename_i ks hy
      split at h
      .rename_i us hu
       split at h
       .rename_i es L
        obtain ⟨g1,h⟩:=Es h
        rw [P8] at h
        obtain ⟨a1,hc,R,rfl,h⟩:=h
        exact Kc A (Apl B u ht rfl hx hy hu g1 hc R) L (by intro e; cases e) h
       .exact h.elim
      .exact h.elim
     .exact h.elim
    .exact h.elim
   .exact h.elim
  .exact h.elim
 | extract x i=>
  unfold Dp at h; rw [u] at h; dsimp only at h
  split at h
  .rename_i cs hx
   split at h
   .rename_i c hc; exact C5 A (Aof u hx hc) h
   .exact h.elim
  .exact h.elim
 | _=>unfold Dp at h; rw [u] at h; exact h.elim
end
end Go.Ab
namespace Go.Ab
theorem F2 {t:Bool} {A B:Prop} (h:t=true) (k:A):bif t then A else B:=by rw [h]; exact k
theorem Aa7 {t:Bool} {A B:Prop} (h:t=false) (k:B):bif t then A else B:=by rw [h]; exact k
abbrev Gm:=List (List Nat×List Nat)
def Jt (l:List (Nat×Nat)):Nat->List AV->List AV
 | _,[]=>[]
 | i,x::xs=>(bif Jr x then (match l.lookup i with | some sz=>.sl sz [] | none=>x) else x)::Jt l (i+1) xs
def elN (l:List (Nat×Nat)) (x:AV):AV :=
 match x with
 | .val (.agg vs)=>.agg (Jt l 1000 (vs.toList.map .val))
 | .agg cs=>.agg (Jt l 1000 cs)
 | x=>x
def Ju (l:List (Nat×Nat)) (x:AV):AV :=
 match l with
 | []=>x
 | p::l=>
  match x with
  | .sl sz xs=>bif Nat.ble 1000 p.1 then .sl sz (xs.map (elN (p::l))) else .sl sz xs
  | .agg cs=>.agg (Jt (p::l) 0 cs)
  | x=>bif Jr x then .sl p.2 [] else x
def Kd (nl:Nat->List (Nat×Nat)):Option Nat->List (Nat×Nat)
 | none=>[]
 | some d=>nl d
theorem Wu {σ:Aq} {ι:Bo} {H:Hp} {x:AV} {v:Value} {sz:Nat} (hx:Jr x=true) (h:Conc σ ι H x v):Conc σ ι H (.sl sz []) v:=by
 rw [Wt hx] at h
 rw [h.val_inv]
 exact .cc (.nil sz none 0)
theorem Aa8 {l:List (Nat×Nat)}:∀{cs:List AV} {i k:Nat} {c:AV},(Jt l k cs)[i]? = some c->∃b,cs[i]? = some b/\(c=b\/(Jr b=true/\∃sz,c = .sl sz []))
 | [],i,k,c,h=>by simp [Jt] at h
 | x::xs,0,k,c,h=>by
  simp only [Jt,List.getElem?_cons_zero,Option.some.injEq] at h
  refine ⟨x,rfl,?_⟩
  cases hx:Jr x with
  | false=>rw [hx] at h; exact .inl h.symm
  | true=>
   rw [hx] at h
   simp only [cond_true] at h
   split at h
   .rename_i sz _; exact .inr ⟨rfl,sz,h.symm⟩
   .exact .inl h.symm
 | x::xs,i+1,k,c,h=>by
  simp only [Jt,List.getElem?_cons_succ] at h
  obtain ⟨b,h1,h2⟩:=Aa8 h
  exact ⟨b,by simpa using h1,h2⟩
theorem Aa9 {l:List (Nat×Nat)}:∀{cs:List AV} {k:Nat},(Jt l k cs).length=cs.length
 | [],_=>rfl
 | x::xs,k=>by simp only [Jt,List.length_cons,Aa9]
theorem Aqc {l:List (Nat×Nat)} {σ:Aq} {x:AV}:(elN l x).cells.length=x.cells.length/\∀(j:Nat) (c b:AV) (u:Value),x.cells[j]? = some c->(elN l x).cells[j]? = some b->CC σ c u->CC σ b u:=by
 have key:∀cs:List AV,(Jt l 1000 cs).length=cs.length/\∀(j:Nat) (c b:AV) (u:Value),cs[j]? = some c->(Jt l 1000 cs)[j]? = some b->CC σ c u->CC σ b u:=by
  intro cs
  refine ⟨Aa9,fun j c b u h1 h2 h3=>?_⟩
  obtain ⟨f,g1,rfl | ⟨g2,sz,rfl⟩⟩:=Aa8 h2
  .rw [h1] at g1; cases g1; exact h3
  .rw [h1] at g1; cases g1
   rw [Wt g2] at h3
   cases h3
   exact .nil sz none 0
 unfold elN
 split
 .exact key _
 .exact key _
 .exact ⟨rfl,fun j c b u h1 h2 h3=>by rw [h1] at h2; cases h2; exact h3⟩
theorem CC.mapEl {σ:Aq} {sz:Nat} {xs:List AV} {v:Value} (f:AV->AV) (B:∀x,(f x).cells.length=x.cells.length/\∀(j:Nat) (c k:AV) (u:Value),x.cells[j]? = some c->(f x).cells[j]? = some k->CC σ c u->CC σ k u) (h:CC σ (.sl sz xs) v):CC σ (.sl sz (xs.map f)) v:=by
 cases h with
 | nil sz a cap=>exact .nil sz a cap
 | sl _ b off cap _ C E fr g D G hc h1 L I s=>
  have q:(xs.map f).length=xs.length:=by simp
  have l:∀(i:Nat) (y:AV) (j:Nat) (k:AV),(xs.map f)[i]? = some y->y.cells[j]? = some k->∃x c,xs[i]? = some x/\x.cells[j]? = some c/\y=f x:=by
   intro i y j k g1 g2
   rw [List.getElem?_map] at g1
   cases hx:xs[i]? with
   | none=>rw [hx] at g1; cases g1
   | some x=>
    rw [hx] at g1; cases g1
    have hj:j<x.cells.length:=by rw [<-(B x).1]; exact (List.getElem?_eq_some_iff.1 g2).1
    exact ⟨x,x.cells[j],rfl,List.getElem?_eq_getElem hj,rfl⟩
  rw [<-q]
  refine .sl (xs.map f) b off cap sz C E fr g D ?_ ?_ ?_ (fun i j J hj=>L i j (by simpa using J) hj) (by simpa using I) (by simpa using s)
  .intro i y hy
   rw [List.getElem?_map] at hy
   cases hx:xs[i]? with
   | none=>rw [hx] at hy; cases hy
   | some x=>rw [hx] at hy; cases hy; rw [(B x).1]; exact G i x hx
  .intro i y j k g1 g2
   obtain ⟨x,c,A,z,rfl⟩:=l i y j k g1 g2
   exact (B x).2 j c k _ z g2 (hc i x j c A z)
  .intro i y j k g1 g2
   obtain ⟨x,c,A,z,rfl⟩:=l i y j k g1 g2
   exact h1 i x j c A z
theorem Aqd {l:List (Nat×Nat)} {σ:Aq} {ι:Bo} {H:Hp} {x:AV} {v:Value} (h:Conc σ ι H x v):Conc σ ι H (Ju l x) v:=by
 unfold Ju
 split
 .exact h
 .split
  .rename_i _ p l _ sz xs
   cases hb:Nat.ble 1000 p.1 with
   | false=>exact h
   | true=>exact .cc (h.sl_inv.mapEl _ fun x=>Aqc)
  .rename_i cs
   obtain ⟨vs,rfl,f,b⟩:=h.agg_inv
   refine .agg _ vs (by rw [Aa9]; exact f) fun i c u h1 h2=>?_
   obtain ⟨j,h3,rfl | ⟨g,sz,rfl⟩⟩:=Aa8 h1
   .exact b i _ u h3 h2
   .exact Wu g (b i _ u h3 h2)
  .cases hx:Jr x with
   | false=>exact h
   | true=>exact Wu hx h
theorem Bt.nils {P:Program} {o:Oper} {ρ:Operand->AV} {b:Eff} (l:List (Nat×Nat)) (h:Bt P o ρ b):Bt P o ρ ⟨Ju l b.r,b.rd,b.wr⟩ :=
 fun σ ι H F W w a next Q s hx g hk=>h σ ι H F W w a next Q s hx g fun c f v w' le s' hc=>hk c f v w' le s' (Aqd hc)
def Hy (e:Bi) (d:Option Nat) (r:AV) (H:Hp) (b:List (Nat×Be)) (K:Bi->Hp->Prop):Prop :=
 match d with
 | none=>
  (match b with
  | []=>K e H
  | [p]=>K e (Ay H p.1 p.2)
  | p::q::l=>K e (B6 H (p::q::l)))
 | some t=>
  (match b with
  | []=>K (Ay e t r) H
  | [p]=>K (Ay e t r) (Ay H p.1 p.2)
  | p::q::l=>K (Ay e t r) (B6 H (p::q::l)))
theorem Wv (e:Bi) (d:Option Nat) (r:AV) (H:Hp) (b:List (Nat×Be)) (K:Bi->Hp->Prop):Hy e d r H b K=K (put e d r) (B6 H b):=by
 cases d <;> cases b with
 | nil=>rfl
 | cons p l=>cases l <;> rfl
def Hz (P:Program) (T:Ch) (an:Nat->Ann) (nl:Nat->List (Nat×Nat)) (ops:Array Oper):List Oper->List Nat->Nat->Bi->Hp->Gm->(Nat->Bi->Hp->Gm->Prop)->Prop
 | [],_,n,e,H,acc,K=>K n e H acc
 | o::os,f,n,e,H,acc,K=>
  match o.guard with
  | none=>Dp P T an n o (ev e) H fun c m=>Jb (Ju (Kd nl o.dst) c.r) fun r=>K4 c.wr fun wr=>Ha c.rd fun h=>Ha wr fun g=>Hy e o.dst r H wr fun e H=>Hz P T an nl ops os f m e H (acc++[(h,g)]) K
  | some p=>
   match (ops[p.1]?).bind (·.dst) with
   | none=>False
   | some s=>
    match e s with
    | .val (.bool b)=>
     match f.elem s with
     | true=>
      (match b with
      | true=>
       (match p.2 with
       | true=>Dp P T an n o (ev e) H fun c m=>Jb (Ju (Kd nl o.dst) c.r) fun r=>K4 c.wr fun wr=>Ha c.rd fun h=>Ha wr fun g=>Hy e o.dst r H wr fun e H=>Hz P T an nl ops os f m e H (acc++[(h,g)]) K
       | false=>Hy e o.dst (.val undef) H [] fun e H=>Hz P T an nl ops os f n e H (acc++[([],[])]) K)
      | false=>
       (match p.2 with
       | true=>Hy e o.dst (.val undef) H [] fun e H=>Hz P T an nl ops os f n e H (acc++[([],[])]) K
       | false=>Dp P T an n o (ev e) H fun c m=>Jb (Ju (Kd nl o.dst) c.r) fun r=>K4 c.wr fun wr=>Ha c.rd fun h=>Ha wr fun g=>Hy e o.dst r H wr fun e H=>Hz P T an nl ops os f m e H (acc++[(h,g)]) K))
     | false=>
      bif b then
       (match p.2 with
       | true=>Dp P T an n o (ev (Ay e s (.val (.bool true)))) H fun c m=>Jb (Ju (Kd nl o.dst) c.r) fun r=>K4 c.wr fun wr=>Ha c.rd fun h=>Ha wr fun g=>Hy (Ay e s (.val (.bool true))) o.dst r H wr fun e H=>Hz P T an nl ops os (s::f) m e H (acc++[(h,g)]) K
       | false=>Hy (Ay e s (.val (.bool true))) o.dst (.val undef) H [] fun e H=>Hz P T an nl ops os (s::f) n e H (acc++[([],[])]) K)
      else
       (match p.2 with
       | true=>Hy (Ay e s (.val (.bool false))) o.dst (.val undef) H [] fun e H=>Hz P T an nl ops os (s::f) n e H (acc++[([],[])]) K
       | false=>Dp P T an n o (ev (Ay e s (.val (.bool false)))) H fun c m=>Jb (Ju (Kd nl o.dst) c.r) fun r=>K4 c.wr fun wr=>Ha c.rd fun h=>Ha wr fun g=>Hy (Ay e s (.val (.bool false))) o.dst r H wr fun e H=>Hz P T an nl ops os (s::f) m e H (acc++[(h,g)]) K)
    | .val (.tuple _)=>Hy e o.dst (.val undef) H [] fun e H=>Hz P T an nl ops os f n e H (acc++[([],[])]) K
    | _=>False
inductive Ke (ops:List Oper) (acc:Gm) (K:Prop):Prop where
 | mk (h:Aar ops acc=true) (k:K)
inductive Ex where
 | normal
 | exit (id:Nat)
 | ret
def Fv (e:Bi):List (Nat×AV)->Prop
 | []=>True
 | p::l=>e p.1=p.2/\Fv e l
def Fw (H H':Hp):Nat->Nat->Prop
 | 0,_=>True
 | k+1,n=>(H k=H' k/\(H' k).under n=true)/\Fw H H' k n
def Ik (b:List Nat) (e:Bi) (u:Nat->Value) (l:List (Nat×AV)):Bi:=l.foldr (fun p e=>Ay e p.1 p.2) (b.foldr (fun s e=>Ay e s (.val (u s))) e)
def Jc (n:Nat) (b:List (Nat×AV)) (c:List (Nat×Be)):Bool:=(b.all fun p=>p.2.under n)&&c.all fun p=>Nat.blt p.1 n
inductive Aqe (n:Nat) (ws:List Nat) (e:Bi) (H:Hp) (body:(Nat->Bi->Hp->Prop)->Nat->Bi->Hp->Prop):Prop where
 | mk (I:Type) (inv:I->Prop) (iv:I->List (Nat×AV)) (hv:I->List (Nat×Be)) (m:I->Nat) (i0:I) (hb:∀i,Jc n (iv i) (hv i)=true)
   (h0:inv i0) (hs:Fv e (iv i0)) (hh:Fw H (B6 H (hv i0)) n n)
   (step:∀(i:I) (u:Nat->Value),inv i->body (fun _ e' H'=>∃i',inv i'/\Fv e' (iv i')/\Fw H' (B6 H (hv i')) n n/\m i' < m i) n (Ik ws e u (iv i)) (B6 H (hv i)))
def Ec:Code->List Nat
 | .region _ ops _=>ops.toList.filterMap (·.dst)
 | .seq a b=>Ec a++Ec b
 | .cond _ a b=>Ec a++Ec b
 | .block _ b=>Ec b
 | .loop b=>Ec b
 | .scope b=>Ec b
 | _=>[]
def Ww:List Nat->Bi->Hp->(Bi->Hp->Prop)->Prop
 | [],e,H,K=>K e H
 | s::b,e,H,K=>
  match e s with
  | .arr h k 0 len=>
   match H h with
   | .rows _ sz xs=>Fm k xs (Fm len xs (Ww b (Ay e s (.sl sz xs)) (Ay H h .dead) K))
   | _=>False
  | _=>False
structure Cfg where
 T:Ch
 an:Nat->Ann:=fun _=>.std
 gh:Nat->List Nat:=fun _=>[]
 nl:Nat->List (Nat×Nat):=fun _=>[]
def Aga (x:AV) (A B:Prop):Prop :=
 match x with
 | .val (.bool t)=>bif t then A else B
 | _=>False
def vc (P:Program) (C:Cfg):Code->(Ex->Nat->Bi->Hp->Prop)->Nat->Bi->Hp->Prop
 | .skip,Q,n,e,H=>Q .normal n e H
 | .region id ops draw,Q,n,e,H=>Ww (C.gh id) e H fun e H=>
   Hz P C.T C.an C.nl ops ops.toList [] n e H [] fun n e H acc=>bif draw then Ke ops.toList acc (Q .normal n e H) else Q .normal n e H
 | .seq a b,Q,n,e,H=>vc P C a (fun x n e H=>match x with
   | .normal=>vc P C b Q n e H
   | .exit id=>Q (.exit id) n e H
   | .ret=>Q .ret n e H) n e H
 | .cond c a b,Q,n,e,H=>Aga (ev e c) (vc P C a Q n e H) (vc P C b Q n e H)
 | .block id b,Q,n,e,H=>vc P C b (fun x n e H=>match x with
   | .normal=>Q .normal n e H
   | .exit i=>bif Nat.beq i id then Q .normal n e H else Q (.exit i) n e H
   | .ret=>Q .ret n e H) n e H
 | .loop b,Q,n,e,H=>Aqe n (Ec b) e H fun K n e H=>vc P C b (fun x n e H=>match x with
   | .normal=>K n e H
   | .exit id=>Q (.exit id) n e H
   | .ret=>Q .ret n e H) n e H
 | .exit id,Q,n,e,H=>Q (.exit id) n e H
 | .ret,Q,n,e,H=>Q .ret n e H
 | _,_,_,_,_=>False
def Agb (N:Nat) (x:Operand):Bool :=
 match x with
 | .tmp t=>Nat.blt t N
 | _=>true
def H3 (N:Nat):Code->Bool
 | .region _ ops _=>ops.toList.all fun o=>(Ja ops o).all fun s=>Nat.blt s N
 | .seq a b=>H3 N a&&H3 N b
 | .cond c a b=>Agb N c&&H3 N a&&H3 N b
 | .block _ b=>H3 N b
 | .loop b=>H3 N b
 | .scope b=>H3 N b
 | _=>true
def Ex.out:Ex->Exit
 | .normal=>.normal
 | .exit id=>.exit id
 | .ret=>.ret
section
variable {P:Program} {T:Ch} {an:Nat->Ann} {nl:Nat->List (Nat×Nat)} {ops:Array Oper} {F:Aq} {W:World} {Q:Exit->Act->World->Prop}
theorem Wx {α:Type} {e:Nat->α} {s:Nat} {v:α} (h:e s=v):Ay e s v=e:=by subst h; exact Gw e s
theorem Aba (M:Ci P T):∀(os:List Oper) (g:List Nat) (i n:Nat) (e:Bi) (H:Hp) (acc:Gm) (K:Nat->Bi->Hp->Gm->Prop),ops.toList.drop i=os->acc.length=i->D6 H n->Hz P T an nl ops os g n e H acc K ->
  ∃f e' H' accs,K f e' H' accs/\accs.take i=acc/\accs.length=i+os.length/\n<=f/\D6 H' f/\Run P ops (fun k=>accs.getD k ([],[])) (List.range' i os.length) e H e' H'
 | [],g,i,n,e,H,acc,K,hd,y,D,h=>⟨n,e,H,acc,h,by rw [<-y]; simp,by simpa using y,Nat.le_refl _,D,.nil e H⟩
 | o::os,g,i,n,e,H,acc,K,hd,y,D,h=>by
  have N:ops[i]? = some o:=by
   have:=congrArg (fun l=>l[0]?) hd
   simpa using this
  have A:ops.toList.drop (i+1)=os:=by
   have:=congrArg (List.drop 1) hd
   simpa [List.drop_drop] using this
  have run:∀(u:Bi) (g:List Nat),Gl ops o u true->(Dp P T an n o (ev u) H fun c m=>Jb (Ju (Kd nl o.dst) c.r) fun r=>K4 c.wr fun wr=>Ha c.rd fun S=>Ha wr fun R=>Hy u o.dst r H wr fun e H=>Hz P T an nl ops os g m e H (acc++[(S,R)]) K) ->
    ∃f e' H' accs,K f e' H' accs/\accs.take i=acc/\accs.length=i+(o::os).length/\n<=f/\D6 H' f/\Run P ops (fun k=>accs.getD k ([],[])) (List.range' i (o::os).length) u H e' H':=by
   intro u g j x
   obtain ⟨c,m,h1,h2,h3,h4,Y⟩:=Af9 M D x
   simp only [P8,Aaz,Aa0,Wv] at h3
   obtain ⟨f,e',H',accs,I,B,V,U,G,E⟩:=Aba M os g (i+1) m _ _ _ K A (by simp [y]) Y h3
   have L:accs[i]? = some (c.rd.map (·.1),c.wr.map (·.1)):=by
    have Z:(accs.take (i+1))[i]? = accs[i]?:=List.getElem?_take_of_lt (by omega)
    rw [<-Z,B,List.getElem?_append_right (by omega)]
    simp [y]
   have z:accs.getD i ([],[])=(c.rd.map (·.1),c.wr.map (·.1)):=by simp [List.getD,L]
   refine ⟨f,e',H',accs,I,?_,by simp only [List.length_cons]; omega,by omega,G,?_⟩
   .have:=congrArg (List.take i) B
    rw [List.take_take] at this
    simpa [y] using this
   .rw [List.length_cons,List.range'_succ]
    refine .cons o (Ju (Kd nl o.dst) c.r) c.wr ⟨N,.inl ⟨j,_,h1.nils (Kd nl o.dst),h2,?_,?_,rfl,rfl⟩⟩ E
    .intro p hp; show p.1∈(accs.getD i ([],[])).1; rw [z]; exact List.mem_map_of_mem hp
    .intro p hp; show p.1∈(accs.getD i ([],[])).2; rw [z]; exact List.mem_map_of_mem hp
  have skip:∀(u:Bi) (g:List Nat),Gl ops o u false->(Hy u o.dst (.val undef) H [] fun e H=>Hz P T an nl ops os g n e H (acc++[([],[])]) K) ->
    ∃f e' H' accs,K f e' H' accs/\accs.take i=acc/\accs.length=i+(o::os).length/\n<=f/\D6 H' f/\Run P ops (fun k=>accs.getD k ([],[])) (List.range' i (o::os).length) u H e' H':=by
   intro u g j x
   rw [Wv] at x
   obtain ⟨f,e',H',accs,I,B,V,U,G,E⟩:=Aba M os g (i+1) n _ _ _ K A (by simp [y]) D x
   refine ⟨f,e',H',accs,I,?_,by simp only [List.length_cons]; omega,by omega,G,?_⟩
   .have:=congrArg (List.take i) B
    rw [List.take_take] at this
    simpa [y] using this
   .rw [List.length_cons,List.range'_succ]
    exact .cons o (.val undef) [] ⟨N,.inr ⟨j,rfl,rfl⟩⟩ E
  simp only [Hz] at h
  cases q:o.guard with
  | none=>
   rw [q] at h
   exact run e g (by unfold Gl; rw [q]) h
  | some p=>
   rw [q] at h
   simp only [] at h
   cases x:(ops[p.1]?).bind (·.dst) with
   | none=>rw [x] at h; exact h.elim
   | some s=>
    rw [x] at h
    simp only [] at h
    split at h
    .rename_i b hb
     have j:∀on,on=(b==p.2)->Gl ops o e on:=by
      intro on J
      unfold Gl; rw [q]
      exact ⟨s,.bool b,x,hb,by rw [J]; cases b <;> cases p.2 <;> rfl⟩
     cases hk:g.elem s with
     | true=>
      rw [hk] at h
      simp only [] at h
      cases b with
      | true=>
       cases hp:p.2 with
       | true=>rw [hp] at h; exact run e _ (j true (by rw [hp]; rfl)) h
       | false=>rw [hp] at h; exact skip e _ (j false (by rw [hp]; rfl)) h
      | false=>
       cases hp:p.2 with
       | true=>rw [hp] at h; exact skip e _ (j false (by rw [hp]; rfl)) h
       | false=>rw [hp] at h; exact run e _ (j true (by rw [hp]; rfl)) h
     | false=>
      rw [hk] at h
      simp only [] at h
      cases b with
      | true=>
       rw [Wx hb] at h
       simp only [cond_true] at h
       cases hp:p.2 with
       | true=>rw [hp] at h; exact run e _ (j true (by rw [hp]; rfl)) h
       | false=>rw [hp] at h; exact skip e _ (j false (by rw [hp]; rfl)) h
      | false=>
       rw [Wx hb] at h
       simp only [cond_false] at h
       cases hp:p.2 with
       | true=>rw [hp] at h; exact skip e _ (j false (by rw [hp]; rfl)) h
       | false=>rw [hp] at h; exact run e _ (j true (by rw [hp]; rfl)) h
    .rename_i vs X
     exact skip e _ (by unfold Gl; rw [q]; exact ⟨s,_,x,X,rfl⟩) h
    .exact h.elim
end
end Go.Ab
namespace Go.Ab
section
variable {P:Program} {C:Cfg} {F:Aq} {W:World}
theorem Agc {c:Code} {Q:Exit->Act->World->Prop} {a:Act} {w:World} (J:Nat->Act->World->Prop) (k0:Nat) (h0:J k0 a w)
  (g:∀k a w,J k a w->c.wp P (Exit.then (fun q w'=>∃s,s<k/\J s q w') Q) a w):(Code.loop c).wp P Q a w:=by
 intro b u cs
 have key:∀k a w,J k a w->∃e q w',Q e q w'/\Arrives P (lone (b.at a (.code c :: .inLoop c::u)) cs w) b u cs e q w':=by
  intro k
  induction k using Nat.strongRecOn with
  | _ k ih=>
   intro a w D
   obtain ⟨e,j,i,hq,f⟩:=g k a w D b (.inLoop c::u) cs
   cases e with
   | normal=>
    obtain ⟨s,z,A⟩:=hq
    obtain ⟨E,G,B,y,h⟩:=ih s z j i A
    exact ⟨E,G,B,y,.of_steps (Steps.trans f (.one step_inLoop)) h⟩
   | exit id=>exact ⟨_,j,i,hq,.pass (x:=.inLoop c) rfl (fun _ _=>.inl (by simp)) f⟩
   | goto l=>exact ⟨_,j,i,hq,.pass (x:=.inLoop c) rfl (fun _ _=>.inl (by simp)) f⟩
   | ret=>exact ⟨_,j,i,hq,.pass (x:=.inLoop c) rfl (fun _ _=>.inl (by simp)) f⟩
   | panic I=>exact ⟨_,j,i,hq,.pass (x:=.inLoop c) rfl (fun _ _=>.inl (by simp)) f⟩
   | outgrown=>exact ⟨_,j,i,hq,.pass (x:=.inLoop c) rfl (fun _ _=>.inl (by simp)) f⟩
 obtain ⟨e,q,w',hq,f⟩:=key k0 a w h0
 exact ⟨e,q,w',hq,.of_steps (.one step_loop) f⟩
theorem Aqf {n:Nat} {x:AV} (h:x.under2 n=true) (hx:∀cs,x≠.agg cs):x.under1 n=true:=by
 cases x <;> first | exact h | exact (hx _ rfl).elim
theorem Conc.restrict {σ:Aq} {ι A:Bo} {H H':Hp} {n:Nat} (D:∀h,h<n->A h=ι h) (G:∀h,h<n->H' h=H h) {x:AV} {v:Value} (hx:x.under n=true) (h:Conc σ ι H x v):Conc σ A H' x v:=by
 have l:∀{x:AV} {v:Value},x.under0 n=true->Conc σ ι H x v->Conc σ A H' x v:=by
  intro x v hx h
  cases h with
  | cc h=>exact .cc h
  | loc h off b hb=>exact .loc h off b (by rw [D h (Fu hx)]; exact hb)
  | mp h b hb=>exact .mp h b (by rw [D h (Fu hx)]; exact hb)
  | arr h k off len v I B y=>
   have s:=Fu hx
   exact .arr h k off len v (by rw [G h s]; exact I) (by rw [D h s,G h s]; exact B) y
  | el h k i j v I B y=>
   have s:=Fu hx
   exact .el h k i j v (by rw [G h s]; exact I) (by rw [D h s,G h s]; exact B) y
  | ref cs b off C E fr g R hc h1 S=>exact .ref cs b off C E fr g R hc h1 S
  | agg=>cases hx
  | tup=>cases hx
  | fn=>cases hx
 have key:∀{x:AV} {v:Value},x.under1 n=true->Conc σ ι H x v->Conc σ A H' x v:=by
  intro x v hx h
  cases x with
  | fn f cs=>
   obtain ⟨vs,rfl,z,h⟩:=h.fn_inv
   exact .fn f cs vs z fun i c u h1 h2=>l (List.all_eq_true.1 hx c (List.mem_of_getElem? h1)) (h i c u h1 h2)
  | agg cs=>cases hx
  | tup cs=>cases hx
  | val u=>exact l (x:=(.val u)) hx h
  | loc q off=>exact l (x:=(.loc q off)) hx h
  | arr q k off len=>exact l (x:=(.arr q k off len)) hx h
  | el q k i j=>exact l (x:=(.el q k i j)) hx h
  | mp q=>exact l (x:=(.mp q)) hx h
  | ref cs=>exact l (x:=(.ref cs)) hx h
  | sl sz xs=>exact l (x:=(.sl sz xs)) hx h
 have cells:∀{cs:List AV},cs.all (AV.under1 n)=true->∀(i:Nat) (c:AV) (u:Value),cs[i]? = some c->Conc σ ι H c u->Conc σ A H' c u :=
  fun L i c u hc h=>key (List.all_eq_true.1 L c (List.mem_of_getElem? hc)) h
 cases x with
 | agg cs=>
  cases h with
  | cc h=>exact .cc h
  | agg _ vs z h=>exact .agg cs vs z fun i c u h1 h2=>cells hx i c u h1 (h i c u h1 h2)
 | tup cs=>
  cases h with
  | cc h=>exact .cc h
  | tup _ vs z h=>
   refine .tup cs vs z fun i c u h1 h2=>?_
   have M:=List.all_eq_true.1 hx c (List.mem_of_getElem? h1)
   have hc:=h i c u h1 h2
   cases c with
   | agg ds=>
    obtain ⟨N,rfl,J,B⟩:=hc.agg_inv
    exact .agg ds N J fun j d v g1 g2=>cells M j d v g1 (B j d v g1 g2)
   | _=>exact key (Aqf M (by intro cs e; cases e)) hc
 | fn f cs=>
  cases h with
  | cc h=>exact .cc h
  | fn _ _ vs z h=>exact .fn f cs vs z fun i c u h1 h2=>cells hx i c u h1 (h i c u h1 h2)
 | val v=>exact key rfl h
 | loc h off=>exact key hx h
 | arr h k off len=>exact key hx h
 | el h k i j=>exact key hx h
 | mp h=>exact key hx h
 | ref cs=>exact key rfl h
 | sl sz xs=>exact key rfl h
theorem Fw.spec {H H':Hp} {n:Nat}:∀{k:Nat},Fw H H' k n->∀h,h<k->H h=H' h/\(H' h).under n=true
 | 0,_,h,b=>by omega
 | k+1,c,h,b=>by
  by_cases e:h=k
  .subst e; exact c.1
  .exact Fw.spec c.2 h (by omega)
theorem Fv.spec {e:Bi}:∀{l:List (Nat×AV)},Fv e l->∀p∈l,e p.1=p.2
 | [],_,p,hp=>by cases hp
 | q::l,h,p,hp=>by
  rcases List.mem_cons.1 hp with rfl | hp
  .exact h.1
  .exact Fv.spec h.2 p hp
theorem Agd (c:List Nat) (e:Bi) (u:Nat->Value) (l:List (Nat×AV)) (s:Nat):(∃p∈l,p.1=s/\Ik c e u l s=p.2)\/(s∈c/\Ik c e u l s = .val (u s))\/(s ∉ c/\Ik c e u l s=e s):=by
 have base:(s∈c/\(c.foldr (fun s e=>Ay e s (.val (u s))) e) s = .val (u s))\/(s ∉ c/\(c.foldr (fun s e=>Ay e s (.val (u s))) e) s=e s):=by
  induction c with
  | nil=>exact .inr ⟨by simp,rfl⟩
  | cons t c ih=>
   simp only [List.foldr_cons]
   by_cases b:s=t
   .subst b; exact .inl ⟨by simp,B7 _ _ _⟩
   .rw [C3 _ _ b]
    rcases ih with ⟨h1,h2⟩ | ⟨h1,h2⟩
    .exact .inl ⟨by simp [h1],h2⟩
    .exact .inr ⟨by simp [h1,b],h2⟩
 unfold Ik
 induction l with
 | nil=>exact .inr base
 | cons p l ih=>
  simp only [List.foldr_cons]
  by_cases b:s=p.1
  .exact .inl ⟨p,by simp,b.symm,by rw [b]; exact B7 _ _ _⟩
  .rw [C3 _ _ b]
   rcases ih with ⟨q,hq,h1,h2⟩ | h | h
   .exact .inl ⟨q,by simp [hq],h1,h2⟩
   .exact .inr (.inl h)
   .exact .inr (.inr h)
theorem Age:∀(i:List Nat) {e:Bi} {H:Hp} {K:Bi->Hp->Prop} {n:Nat} {σ:Aq} {ι:Bo} {a:Act} {w:World},Ww i e H K->St σ ι H F W w->D0 σ ι H e a->D6 H n ->
  ∃g e' H',K e' H'/\Le σ ι H g ι H'/\St g ι H' F W w/\D0 g ι H' e' a/\D6 H' n
 | [],e,H,K,n,σ,ι,a,w,h,s,f,c=>⟨σ,e,H,h,Le.refl _ _ _,s,f,c⟩
 | t::i,e,H,K,n,σ,ι,a,w,h,s,f,c=>by
  simp only [Ww] at h
  split at h
  .rename_i hd k len hx
   split at h
   .rename_i E sz xs u
    obtain ⟨hk,U,h⟩:=h
    obtain ⟨G,b,I,x⟩:=s.freeze u
    have y:D0 G ι (Ay H hd .dead) (Ay e t (.sl sz xs)) a:=by
     intro q hq
     by_cases B:q=t
     .subst B
      rw [B7]
      have hc:=f q hq
      rw [hx] at hc
      have:=x 0 len _ (by omega) (hc.arr_inv u hk)
      rw [List.drop_zero,List.take_of_length_le (by omega)] at this
      exact .cc this
     .rw [C3 _ _ B]; exact (f q hq).mono b
    have j:D6 (Ay H hd .dead) n:=by
     intro m A
     have l:hd≠m:=by
      intro z; subst z
      have:=c hd A; rw [u] at this; cases this
     rw [C3 _ _ (Ne.symm l)]; exact c m A
    obtain ⟨D,z,S,R,N,M,L,J⟩:=Age i h I y j
    exact ⟨D,z,S,R,b.trans N,M,L,J⟩
   .exact h.elim
  .exact h.elim
theorem Agf {N:Nat} {ops:Array Oper} (h:(ops.toList.all fun o=>(Ja ops o).all fun s=>Nat.blt s N)=true):We ops N:=by
 intro i o c s b
 rw [List.all_eq_true] at h
 have:=h o (by simpa using Array.mem_of_getElem? c)
 rw [List.all_eq_true] at this
 exact Fu (this s b)
theorem N5 (hT:Ci P C.T) (hm:P.follows .mixedOrders=true):∀(c:Code) (Q':Ex->Nat->Bi->Hp->Prop) (n:Nat) (e:Bi) (H:Hp) (σ:Aq) (ι:Bo) (a:Act) (w:World) (Q:Exit->Act->World->Prop),
  H3 a.tmps.size c=true->vc P C c Q' n e H->St σ ι H F W w->D0 σ ι H e a->D6 H n ->
  (∀x n' e' H' σ' ι' a' w',Q' x n' e' H'->Le σ ι H σ' ι' H'->St σ' ι' H' F W w'->D0 σ' ι' H' e' a'->D6 H' n'->n<=n'->a'.tmps.size=a.tmps.size->a'.defers=a.defers->Eb (Ec c) a a'->Q x.out a' w')->c.wp P Q a w
 | .skip,Q',n,e,H,σ,ι,a,w,Q,_,h,s,U,S,hk=>wp_skip (hk .normal n e H σ ι a w h (Le.refl _ _ _) s U S (Nat.le_refl _) rfl rfl (Eb.refl _ _))
 | .exit id,Q',n,e,H,σ,ι,a,w,Q,_,h,s,U,S,hk=>wp_exit (hk (.exit id) n e H σ ι a w h (Le.refl _ _ _) s U S (Nat.le_refl _) rfl rfl (Eb.refl _ _))
 | .ret,Q',n,e,H,σ,ι,a,w,Q,_,h,s,U,S,hk=>wp_ret (hk .ret n e H σ ι a w h (Le.refl _ _ _) s U S (Nat.le_refl _) rfl rfl (Eb.refl _ _))
 | .region id ops draw,Q',n,e,H,σ,ι,a,w,Q,u,h,s,U,S,hk=>by
  simp only [vc] at h
  obtain ⟨σ0,e0,b3,h,ap,s0,az,ba⟩:=Age _ h s U S
  obtain ⟨n',e',H',accs,hK,_,bg,av,hf,aj⟩:=Aba hT ops.toList [] 0 n e0 b3 [] _ (by simp) rfl ba h
  have ar:=Agf u
  cases draw with
  | false=>
   simp only [cond_false] at hK
   refine wp_region ?_
   have:List.range ops.size=List.range' 0 ops.toList.length:=by rw [List.range_eq_range']; simp
   rw [this]
   refine aj.wpOps s0 az ar ?_
   intro σ' ι' a' w' le s' ao g l hu
   exact hk .normal n' e' H' σ' ι' a' w' hK (ap.trans le) s' ao hf av g l hu
  | true=>
   simp only [cond_true] at hK
   obtain ⟨b9,hK⟩:=hK
   refine wp_region_any hm ?_
   have L:ops=ops.toList.toArray:=by simp
   rw [L]
   simp only [List.size_toArray]
   refine Aat (accs:=accs) (e':=e') (H':=H') b9 ops.toList.length _ (List.range' 0 ops.toList.length) e0 b3 σ0 ι a _ (by rw [<-L]; exact aj) (List.pairwise_lt_range' ..) ?_ (by simp) ?_ (by simp) (s0.drew _) az (by rw [<-L]; exact ar) ?_
   .intro i
    simp only [List.mem_range'_1,Array.getD_eq_getD_getElem?]
    constructor
    .rintro ⟨_,h2⟩
     refine ⟨by omega,?_⟩
     have:i<ops.size:=by simpa using h2
     simp [this]
    .rintro ⟨h1,_⟩; omega
   .intro k o bf hl
    exfalso
    simp only [Array.getD_eq_getD_getElem?] at hl
    by_cases ah:k<ops.size
    .simp [ah] at hl
    .simp [ah] at hl
   .intro σ' ι' a' w' le s' ao g l hu
    exact hk .normal n' e' H' σ' ι' a' w' hK (ap.trans le) s' ao hf av g l (by rw [<-L] at hu; exact hu)
 | .seq c1 c2,Q',n,e,H,σ,ι,a,w,Q,u,h,s,U,S,hk=>by
  simp only [H3,Bool.and_eq_true] at u
  simp only [vc] at h
  refine wp_seq (N5 hT hm c1 _ n e H σ ι a w _ u.1 h s U S ?_)
  intro x n1 L N D G a1 R hq f A j z B g l hu
  cases x with
  | normal=>
   refine N5 hT hm c2 Q' n1 L N D G a1 R Q (by rw [g]; exact u.2) hq A j z ?_
   intro x n2 e2 H2 σ2 ι2 a2 w2 b8 V s2 ae ag ac X Y ab
   exact hk x n2 e2 H2 σ2 ι2 a2 w2 b8 (f.trans V) s2 ae ag (by omega) (X.trans g) (Y.trans l) ((hu.mono (by simp [Ec]; exact fun s h=>.inl h)).trans (ab.mono (by simp [Ec]; exact fun s h=>.inr h)))
  | exit id=>exact hk (.exit id) n1 L N D G a1 R hq f A j z B g l (hu.mono (by simp [Ec]; exact fun s h=>.inl h))
  | ret=>exact hk .ret n1 L N D G a1 R hq f A j z B g l (hu.mono (by simp [Ec]; exact fun s h=>.inl h))
 | .cond x c1 c2,Q',n,e,H,σ,ι,a,w,Q,u,h,s,U,S,hk=>by
  simp only [H3,Bool.and_eq_true] at u
  simp only [vc,Aga] at h
  split at h
  .rename_i t hx
   have hc:=U.eval (x:=x) (fun t ht=>by
    cases x with
    | tmp q=>cases ht; exact Fu u.1.1
    | _=>cases ht)
   rw [hx] at hc
   have hv:=hc.val_inv
   cases t with
   | true=>
    refine wp_cond_true hv (N5 hT hm c1 Q' n e H σ ι a w Q u.1.2 h s U S ?_)
    intro x n1 L N D G a1 R hq f A j z B g l hu
    exact hk x n1 L N D G a1 R hq f A j z B g l (hu.mono (by simp [Ec]; exact fun s h=>.inl h))
   | false=>
    refine wp_cond_false hv (N5 hT hm c2 Q' n e H σ ι a w Q u.2 h s U S ?_)
    intro x n1 L N D G a1 R hq f A j z B g l hu
    exact hk x n1 L N D G a1 R hq f A j z B g l (hu.mono (by simp [Ec]; exact fun s h=>.inr h))
  .exact h.elim
 | .block id c,Q',n,e,H,σ,ι,a,w,Q,u,h,s,U,S,hk=>by
  simp only [vc] at h
  refine wp_block (N5 hT hm c _ n e H σ ι a w _ u h s U S ?_)
  intro x n1 L N D G a1 R hq f A j z B g l hu
  cases x with
  | normal=>exact hk .normal n1 L N D G a1 R hq f A j z B g l hu
  | exit i=>
   simp only [Ex.out,Exit.inBlock]
   by_cases hi:i=id
   .subst hi
    rw [if_pos rfl]
    have:Nat.beq i i=true:=Nat.beq_refl i
    simp only [this,cond_true] at hq
    exact hk .normal n1 L N D G a1 R hq f A j z B g l hu
   .rw [if_neg hi]
    have:Nat.beq i id=false:=by
     cases hb:Nat.beq i id
     .rfl
     .exact (hi (Nat.eq_of_beq_eq_true hb)).elim
    simp only [this,cond_false] at hq
    exact hk (.exit i) n1 L N D G a1 R hq f A j z B g l hu
  | ret=>exact hk .ret n1 L N D G a1 R hq f A j z B g l hu
 | .loop c,Q',n,e,H,σ,ι,a,w,Q,u,h,s,U,S,hk=>by
  simp only [vc] at h
  obtain ⟨I,aq,iv,hv,m,i0,hb,h0,b6,bd,step⟩:=h
  have b4:∀x,n<=x->ι x = .none:=by
   intro x hx
   have:=s.obj x; unfold B9 at this; rw [S x hx] at this; exact this
  have am:∀i,∀p∈hv i,p.1<n:=by
   intro i p hp
   have:=hb i
   unfold Jc at this
   rw [Bool.and_eq_true,List.all_eq_true,List.all_eq_true] at this
   exact Fu (this.2 p hp)
  have ax:∀i,∀p∈iv i,p.2.under n=true:=by
   intro i p hp
   have:=hb i
   unfold Jc at this
   rw [Bool.and_eq_true,List.all_eq_true,List.all_eq_true] at this
   exact this.1 p hp
  have ai:∀i,D6 (B6 H (hv i)) n:=by
   intro i x hx
   rw [P4 (fun p hp e=>by have:=am i p hp; omega)]; exact S x hx
  let J:Nat->Act->World->Prop:=fun k a' w'=>∃i σ' ι',m i=k/\aq i/\Le σ ι H σ' ι' (B6 H (hv i))/\St σ' ι' (B6 H (hv i)) F W w' /\
   D0 σ' ι' (B6 H (hv i)) (Ik (Ec c) e (fun s=>a'.tmps.getD s undef) (iv i)) a'/\a'.tmps.size=a.tmps.size/\a'.defers=a.defers/\Eb (Ec c) a a'
  have a6:∀(i:I) (D:Aq) (G:Bo) (N:Hp) (L:Bi) (a1:Act) (R:World),aq i->Fv L (iv i)->Fw N (B6 H (hv i)) n n->Le σ ι H D G N->St D G N F W R->D0 D G N L a1->a1.tmps.size=a.tmps.size ->
    a1.defers=a.defers->Eb (Ec c) a a1->J (m i) a1 R:=by
   intro i D G N L a1 R hi au ay f A j M Z a8
   let ι2:Bo:=fun x=>if x<n then G x else .none
   have a7:∀x,x<n->ι2 x=G x:=fun x hx=>if_pos hx
   have aa:∀x,x<n->B6 H (hv i) x=N x:=fun x hx=>((ay.spec) x hx).1.symm
   have V:Le σ ι H D ι2 (B6 H (hv i)):=by
    refine ⟨f.sto,fun x=>?_⟩
    by_cases hx:x<n
    .rw [a7 x hx,aa x hx]; exact f.obj x
    .rw [b4 x (by omega),S x (by omega)]; exact HLe.of_none
   have s2:St D ι2 (B6 H (hv i)) F W R:=by
    refine ⟨A.sto,A.fra,fun x=>?_,?_,A.os,A.tape,A.output,A.glo,A.drw⟩
    .by_cases hx:x<n
     .have ho:=A.obj x
      have ak:=((ay.spec) x hx).2
      unfold B9 at ho ⊢
      rw [aa x hx] at ak ⊢
      rw [a7 x hx]
      cases af:N x with
      | none=>rw [af] at ho; exact ho
      | dead=>trivial
      | cells E cs=>
       rw [af] at ho ak
       obtain ⟨b,Cc,g1,g2,g3,g4,g5,g6⟩:=ho
       refine ⟨b,Cc,g1,g2,g3,g4,g5,fun q cq v hq b5=>(g6 q cq v hq b5).restrict a7 aa ?_⟩
       have:=List.all_eq_true.1 ak cq (List.mem_of_getElem? hq)
       exact Aa4 this
      | rows E sz xs=>rw [af] at ho; exact ho
      | map es=>rw [af] at ho; exact ho
     .unfold B9
      rw [ai i x (by omega)]
      exact if_neg hx
    .intro x y b lx ly bx b0
     have hx:x<n:=by
      rcases Nat.lt_or_ge x n with hx | hx
      .exact hx
      .rw [ai i x hx] at lx; cases lx
     have hy:y<n:=by
      rcases Nat.lt_or_ge y n with hy | hy
      .exact hy
      .rw [ai i y hy] at ly; cases ly
     rw [aa x hx] at lx; rw [aa y hy] at ly
     rw [a7 x hx] at bx; rw [a7 y hy] at b0
     exact A.inj x y b lx ly bx b0
   refine ⟨i,D,ι2,rfl,hi,V,s2,?_,M,Z,a8⟩
   intro q hq
   rcases Agd (Ec c) e (fun s=>a1.tmps.getD s undef) (iv i) q with ⟨p,hp,rfl,ad⟩ | ⟨hw,ad⟩ | ⟨hw,ad⟩
   .rw [ad,<-au.spec p hp]
    refine (j p.1 hq).restrict a7 aa ?_
    rw [au.spec p hp]; exact ax i p hp
   .rw [ad]; exact .of_val _
   .rw [ad,a8 q hw]; exact (U q (by omega)).mono V
  refine Agc J (m i0) (a6 i0 σ ι H e a w h0 b6 bd (Le.refl _ _ _) s U rfl rfl (Eb.refl _ _)) ?_
  rintro k a1 R ⟨i,D,G,rfl,hi,f,A,j,M,Z,a8⟩
  refine N5 hT hm c _ n _ _ D G a1 R _ (by rw [M]; exact u) (step i (fun s=>a1.tmps.getD s undef) hi) A j (ai i) ?_
  intro x n2 e2 H2 σ2 ι2 a2 w2 hq V s2 ae ag ac X Y ab
  cases x with
  | normal=>
   obtain ⟨i',bb,b7,be,ah⟩:=hq
   exact ⟨m i',ah,a6 i' σ2 ι2 H2 e2 a2 w2 bb b7 be (f.trans V) s2 ae (X.trans M) (Y.trans Z) (a8.trans ab)⟩
  | exit id=>exact hk (.exit id) n2 e2 H2 σ2 ι2 a2 w2 hq (f.trans V) s2 ae ag ac (X.trans M) (Y.trans Z) (a8.trans ab)
  | ret=>exact hk .ret n2 e2 H2 σ2 ι2 a2 w2 hq (f.trans V) s2 ae ag ac (X.trans M) (Y.trans Z) (a8.trans ab)
 | .rangeFunc ..,_,_,_,_,_,_,_,_,_,_,h,_,_,_,_=>by simp only [vc] at h
 | .scope _,_,_,_,_,_,_,_,_,_,_,h,_,_,_,_=>by simp only [vc] at h
 | .label _,_,_,_,_,_,_,_,_,_,_,h,_,_,_,_=>by simp only [vc] at h
 | .goto _,_,_,_,_,_,_,_,_,_,_,h,_,_,_,_=>by simp only [vc] at h
 | .refuse _,_,_,_,_,_,_,_,_,_,_,h,_,_,_,_=>by simp only [vc] at h
end
end Go.Ab
namespace Go.Ab
def Wy (T:Ch) (e:Bi) (H:Hp):ResultVar->Option AV
 | .tmp t=>some (e t)
 | .cell a t=>
  match e a with
  | .loc h off=>
   match H h with
   | .cells _ cs=>
    match T t with
    | some i=>bif i.isAgg then (bif Nat.ble (off+i.size) cs.length then some (.agg ((cs.drop off).take i.size)) else none) else cs[off]?
    | none=>none
   | _=>none
  | _=>none
def Wz (x:AV) (H:Hp) (K:AV->Hp->Prop):Prop :=
 match x with
 | .arr h k 0 len=>
  match H h with
  | .rows _ sz xs=>Fm k xs (Fm len xs (K (.sl sz xs) (Ay H h .dead)))
  | _=>False
 | x=>K x H
def W0:List AV->Hp->(List AV->Hp->Prop)->Prop
 | [],H,K=>K [] H
 | x::xs,H,K=>Wz x H fun y H=>W0 xs H fun ys H=>K (y::ys) H
def fin (x:AV) (H:Hp) (K:AV->Hp->Prop):Prop :=
 match x with
 | .agg cs=>W0 cs H fun cs H=>K (.agg cs) H
 | x=>Wz x H K
def W1:List AV->Hp->(List AV->Prop)->Prop
 | [],_,K=>K []
 | x::xs,H,K=>fin x H fun y H=>W1 xs H fun ys=>K (y::ys)
def Qb (T:Ch) (e:Bi) (H:Hp):List ResultVar->Option (List AV)
 | []=>some []
 | r::rs=>
  match Wy T e H r with
  | none=>none
  | some x=>
   match Qb T e H rs with
   | none=>none
   | some xs=>some (x::xs)
def Sz:List AV->AV
 | [x]=>x
 | xs=>.tup xs
def N6 (T:Ch) (b:List ResultVar) (K:AV->Prop) (e:Bi) (H:Hp):Prop :=
 match Qb T e H b with
 | none=>False
 | some xs=>W1 xs H fun ys=>K (Sz ys)
def Qc (args:List AV):Bi:=fun n=>args.getD n (.val undef)
def N7:ResultVar->Nat
 | .tmp t=>t
 | .cell a _=>a
def Qd (fn:Func) (c:Code) (k:Nat):Bool:=H3 fn.ntmps c&&(fn.results.toList.all fun r=>Nat.blt (N7 r) fn.ntmps)&&Nat.ble k fn.ntmps
section
variable {P:Program} {T:Ch} {F:Aq} {W w:World}
theorem Agg {x:AV} {H:Hp} {K:AV->Hp->Prop} {σ:Aq} {ι:Bo} {v:Value} (h:Wz x H K) (s:St σ ι H F W w) (hc:Conc σ ι H x v) :
  ∃b y H',K y H'/\Le σ ι H b ι H'/\St b ι H' F W w/\Conc b ι H' y v:=by
 unfold Wz at h
 split at h
 .rename_i hd k len
  split at h
  .rename_i E sz xs g
   obtain ⟨hk,l,h⟩:=h
   obtain ⟨i,c,j,f⟩:=s.freeze g
   refine ⟨i,.sl sz xs,Ay H hd .dead,h,c,j,.cc ?_⟩
   have:=f 0 len _ (by omega) (hc.arr_inv g hk)
   rwa [List.drop_zero,List.take_of_length_le (by omega)] at this
  .exact h.elim
 .exact ⟨σ,_,H,h,Le.refl _ _ _,s,hc⟩
theorem Agh:∀{cs:List AV} {vs:List Value} {H:Hp} {K:List AV->Hp->Prop} {σ:Aq} {ι:Bo},W0 cs H K->St σ ι H F W w->vs.length=cs.length->(∀(i:Nat) (c:AV) (v:Value),cs[i]? = some c->vs[i]? = some v->Conc σ ι H c v) ->
  ∃k ys H',K ys H'/\Le σ ι H k ι H'/\St k ι H' F W w/\vs.length=ys.length/\∀(i:Nat) (c:AV) (v:Value),ys[i]? = some c->vs[i]? = some v->Conc k ι H' c v
 | [],vs,H,K,σ,ι,h,s,g,hc=>⟨σ,[],H,h,Le.refl _ _ _,s,g,hc⟩
 | x::cs,[],H,K,σ,ι,h,s,g,hc=>by simp at g
 | x::cs,v::vs,H,K,σ,ι,h,s,g,hc=>by
  simp only [W0] at h
  obtain ⟨G,y,I,h1,f,A,D⟩:=Agg h s (hc 0 x v (by simp) (by simp))
  obtain ⟨q,ys,E,h2,b,z,l,B⟩:=Agh (vs:=vs) h1 A (by simpa using g) (fun i c u j hu=>(hc (i+1) c u (by simpa using j) (by simpa using hu)).mono f)
  refine ⟨q,y::ys,E,h2,f.trans b,z,by simp [l],fun i c u j hu=>?_⟩
  cases i with
  | zero=>simp at j hu; subst j; subst hu; exact D.mono b
  | succ i=>exact B i c u (by simpa using j) (by simpa using hu)
theorem Agi {x:AV} {H:Hp} {K:AV->Hp->Prop} {σ:Aq} {ι:Bo} {v:Value} (h:fin x H K) (s:St σ ι H F W w) (hc:Conc σ ι H x v) :
  ∃b y H',K y H'/\Le σ ι H b ι H'/\St b ι H' F W w/\Conc b ι H' y v:=by
 unfold fin at h
 split at h
 .rename_i cs
  obtain ⟨vs,rfl,z,q⟩:=hc.agg_inv
  obtain ⟨k,ys,B,h1,f,l,g,A⟩:=Agh (vs:=vs.toList) h s (by simpa using z) (fun i c u j hu=>q i c u j (by simpa using hu))
  exact ⟨k,.agg ys,B,h1,f,l,.agg ys vs (by simpa using g) (fun i c u j hu=>A i c u j (by simpa using hu))⟩
 .exact Agg h s hc
theorem Agj:∀{xs:List AV} {vs:List Value} {H:Hp} {K:List AV->Prop} {σ:Aq} {ι:Bo},W1 xs H K->St σ ι H F W w->vs.length=xs.length->(∀(i:Nat) (c:AV) (v:Value),xs[i]? = some c->vs[i]? = some v->Conc σ ι H c v) ->
  ∃k ys H',K ys/\Le σ ι H k ι H'/\St k ι H' F W w/\vs.length=ys.length/\∀(i:Nat) (c:AV) (v:Value),ys[i]? = some c->vs[i]? = some v->Conc k ι H' c v
 | [],vs,H,K,σ,ι,h,s,g,hc=>⟨σ,[],H,h,Le.refl _ _ _,s,g,hc⟩
 | x::cs,[],H,K,σ,ι,h,s,g,hc=>by simp at g
 | x::cs,v::vs,H,K,σ,ι,h,s,g,hc=>by
  simp only [W1] at h
  obtain ⟨G,y,I,h1,f,A,D⟩:=Agi h s (hc 0 x v (by simp) (by simp))
  obtain ⟨q,ys,E,h2,b,z,l,B⟩:=Agj (vs:=vs) h1 A (by simpa using g) (fun i c u j hu=>(hc (i+1) c u (by simpa using j) (by simpa using hu)).mono f)
  refine ⟨q,y::ys,E,h2,f.trans b,z,by simp [l],fun i c u j hu=>?_⟩
  cases i with
  | zero=>simp at j hu; subst j; subst hu; exact D.mono b
  | succ i=>exact B i c u (by simpa using j) (by simpa using hu)
def N8 (b:Array Value):ResultVar->Sem Value
 | .tmp t=>pure (b.getD t undef)
 | .cell a t=>do loadVar t (<-asAddr (b.getD a undef))
theorem Aqg (D:Ci P T) {e:Bi} {H:Hp} {σ:Aq} {ι:Bo} {a:Act} (s:St σ ι H F W w) (B:D0 σ ι H e a) {r:ResultVar} {x:AV} (A:N7 r<a.tmps.size) (h:Wy T e H r=some x) :
  ∃v,(N8 a.tmps r).run P w = .ok v w/\Conc σ ι H x v:=by
 cases r with
 | tmp t=>
  simp only [Wy] at h; cases h
  exact ⟨_,rfl,B t A⟩
 | cell p t=>
  simp only [Wy] at h
  split at h
  .rename_i hd off hx
   split at h
   .rename_i E cs L
    split at h
    .rename_i i ht
     have hc:=B p A
     rw [hx] at hc
     obtain ⟨b,hb,z⟩:=hc.loc_inv
     have k:=s.obj hd
     unfold B9 at k; rw [L] at k
     obtain ⟨N,C,J,_,_,h3,M,I⟩:=k
     rw [hb] at J; cases J
     have h1:=Vy (D t i ht) w
     cases y:i.isAgg with
     | true=>
      rw [y] at h h1
      simp only [cond_true] at h
      cases g:Nat.ble (off+i.size) cs.length with
      | false=>rw [g] at h; cases h
      | true=>
       rw [g] at h; cases h
       have g:=Nat.le_of_ble_eq_true g
       have h2:=J8 (D t i ht) w
       have G:=run_loadCells_list (P:=P) w ⟨b,off,none⟩ ((C.toList.drop off).take i.size) (by
        intro j v hj
        have f:j<i.size:=by
         have:=(List.getElem?_eq_some_iff.1 hj).1; simp at this; omega
        rw [List.getElem?_take_of_lt f,List.getElem?_drop,Array.getElem?_toList] at hj
        rw [Ij,Hv h3]; exact hj)
       have q:((C.toList.drop off).take i.size).length=i.size:=by simp; omega
       rw [q] at G
       refine ⟨_,by simp only [N8,z,asAddr,Sem.run_bind,Sem.run_pure,Result.andThen_ok,loadVar,h1,if_true,h2,G]; rfl,?_⟩
       refine .agg _ _ (by simp; omega) (fun j c u g1 g2=>?_)
       have f:j<i.size:=by
        have:=(List.getElem?_eq_some_iff.1 g1).1; simp at this; omega
       rw [List.getElem?_take_of_lt f,List.getElem?_drop] at g1
       rw [List.getElem?_toArray,List.getElem?_take_of_lt f,List.getElem?_drop,Array.getElem?_toList] at g2
       exact I _ c u g1 g2
     | false=>
      rw [y] at h h1
      simp only [cond_false] at h
      have f:off<C.size:=by rw [M]; exact (List.getElem?_eq_some_iff.1 h).1
      have l:w.cell? ⟨b,off,none⟩=some C[off]:=by rw [Hv h3]; simp [f]
      exact ⟨C[off],by simp [N8,z,asAddr,loadVar,h1,l],I off x _ h (by simp [f])⟩
    .cases h
   .cases h
  .cases h
theorem Abb (l:Ci P T) {e:Bi} {H:Hp} {σ:Aq} {ι:Bo} {a:Act} (s:St σ ι H F W w) (k:D0 σ ι H e a):∀{b:List ResultVar} {xs:List AV},(∀r∈b,N7 r<a.tmps.size)->Qb T e H b=some xs ->
  ∃vs:List Value,(b.mapM (N8 a.tmps)).run P w = .ok vs w/\vs.length=xs.length/\∀(i:Nat) (c:AV) (v:Value),xs[i]? = some c->vs[i]? = some v->Conc σ ι H c v
 | [],xs,_,h=>by
  simp only [Qb] at h; cases h
  exact ⟨[],by simp,rfl,by simp⟩
 | r::b,xs,j,h=>by
  simp only [Qb] at h
  split at h
  .cases h
  .rename_i x hx
   split at h
   .cases h
   .rename_i ys hy
    cases h
    obtain ⟨v,h1,A⟩:=Aqg l s k (j r (by simp)) hx
    obtain ⟨vs,h2,y,z⟩:=Abb l s k (fun q f=>j q (by simp [f])) hy
    refine ⟨v::vs,by simp [List.mapM_cons,h1,h2],by simp [y],fun i c u g hu=>?_⟩
    cases i with
    | zero=>simp at g hu; subst g; subst hu; exact A
    | succ i=>exact z i c u (by simpa using g) (by simpa using hu)
theorem Agk (fn:Func) (b:Array Value):results fn b=(fn.results.mapM (N8 b) >>= fun vs=>pure (if h:vs.size=1 then vs[0] else .tuple vs)):=by
 unfold results
 congr 1
theorem Aqh (B:Ci P T) {fn:Func} {K:AV->Prop} {e:Bi} {H:Hp} {σ:Aq} {ι:Bo} {a:Act} (s:St σ ι H F W w) (A:D0 σ ι H e a) (q:∀r∈fn.results.toList,N7 r<a.tmps.size) (h:N6 T fn.results.toList K e H) :
  ∃v f H' r,(results fn a.tmps).run P w = .ok v w/\K r/\Le σ ι H f ι H'/\St f ι H' F W w/\Conc f ι H' r v:=by
 unfold N6 at h
 split at h
 .exact h.elim
 .rename_i xs hx
  obtain ⟨vs,h1,x,D⟩:=Abb B s A q hx
  obtain ⟨f,ys,H',k,le,s',b,j⟩:=Agj h s x D
  have g:(fn.results.mapM (N8 a.tmps)).run P w = .ok vs.toArray w:=by
   rw [Array.mapM_eq_mapM_toList]
   simp [h1]
  refine ⟨if h:vs.toArray.size=1 then vs.toArray[0] else .tuple vs.toArray,f,H',Sz ys,?_,k,le,s',?_⟩
  .rw [Agk,Sem.run_bind,g]; rfl
  .match ys,vs,b,j with
   | [y],[v],_,j=>exact j 0 y v rfl rfl
   | [],[],_,_=>exact .tup [] #[] rfl (by simp)
   | y::E::ys,v::l::vs,b,j=>
    have:¬(v::l::vs).toArray.size=1:=by simp
    rw [dif_neg this]
    exact .tup _ _ (by simpa using b) (fun i c u z hu=>j i c u z (by simpa using hu))
   | [],_::_,b,_=>simp at b
   | _::_,[],b,_=>simp at b
   | [_],_::_::_,b,_=>simp at b
   | _::_::_,[_],b,_=>simp at b
theorem St.forget {σ:Aq} {ι:Bo} {H:Hp} (s:St σ ι H F W w):St σ ι0 H0 F W w :=
 ⟨s.sto,s.fra,fun _=>rfl,(fun _ _ _ b=>by cases b),s.os,s.tape,s.output,s.glo,s.drw⟩
theorem Agl {σ:Aq} {ι:Bo} {H:Hp} {args:List AV} {vs:Array Value} {N:Nat} (h:J9 σ ι H args vs):D0 σ ι H (Qc args) ⟨vs++Array.replicate (N-vs.size) undef,[]⟩:=by
 intro q hq
 simp only [Qc,Array.getD_eq_getD_getElem?]
 by_cases b:q<args.length
 .have hq':q<vs.size:=by rw [h.1]; exact b
  rw [Array.getElem?_append_left hq']
  have h1:args[q]? = some args[q]:=List.getElem?_eq_getElem b
  have h2:vs[q]? = some vs[q]:=Array.getElem?_eq_getElem hq'
  have:=h.2 q _ _ h1 h2
  simpa [List.getD,h1,h2] using this
 .rw [Array.getElem?_append_right (by rw [h.1]; omega)]
  have h1:args[q]? = none:=List.getElem?_eq_none (by omega)
  have hq':q-vs.size<N-vs.size:=by
   simp at hq
   have:=h.1
   omega
  simp only [List.getD,h1,Option.getD_none]
  simp [hq']
  exact .of_val undef
end
end Go.Ab
namespace Go.Ab
inductive Tr where
 | leaf
 | node (l:Tr) (k:Nat) (v:TI) (r:Tr)
def Tr.find:Tr->Nat->Option TI
 | .leaf,_=>none
 | .node l k v r,t=>bif Nat.beq t k then some v else bif Nat.blt t k then l.find t else r.find t
def Tr.toList:Tr->List (Nat×TI)
 | .leaf=>[]
 | .node l k v r=>l.toList++(k,v)::r.toList
theorem Tr.find_mem:∀(t:Tr) (k:Nat) (v:TI),t.find k=some v->(k,v)∈t.toList
 | .leaf,k,v,h=>by cases h
 | .node l b f r,k,v,h=>by
  simp only [Tr.find] at h
  simp only [Tr.toList,List.mem_append,List.mem_cons]
  cases hb:Nat.beq k b with
  | true=>
   rw [hb] at h; simp only [cond_true] at h; cases h
   rw [Nat.eq_of_beq_eq_true hb]
   exact .inr (.inl rfl)
  | false=>
   rw [hb] at h; simp only [cond_false] at h
   cases c:Nat.blt k b with
   | true=>rw [c] at h; exact .inl (Tr.find_mem l k v h)
   | false=>rw [c] at h; exact .inr (.inr (Tr.find_mem r k v h))
theorem Tr.ok {P:Program} {t:Tr} (h:t.toList.map (fun p=>Gc P p.1)=t.toList.map (fun p=>some p.2)):Ci P t.find:=by
 intro k v hk
 have b:=t.find_mem k v hk
 obtain ⟨i,c⟩:=List.getElem?_of_mem b
 have:=congrArg (fun l=>l[i]?) h
 simpa [c] using this
end Go.Ab
namespace Go.Ab
def W2:List AV->Hp->(List AV->Hp->Prop)->Prop
 | [],H,K=>K [] H
 | x::xs,H,K=>fin x H fun y H=>W2 xs H fun ys H=>K (y::ys) H
def Mt (H:Hp):Nat->List Be->Prop
 | _,[]=>True
 | k,o::os=>H k=o/\Mt H (k+1) os
def N9 (T:Ch) (fz:Bool) (c:List ResultVar) (r:AV) (b:List Be) (e:Bi) (H:Hp):Prop :=
 match Qb T e H c with
 | none=>False
 | some xs=>bif fz then W2 xs H fun ys H=>Sz ys=r/\Mt H 0 b else Sz xs=r/\Mt H 0 b
section
variable {P:Program} {T:Ch} {F:Aq} {W w:World}
theorem Mt.spec {H:Hp}:∀{os:List Be} {k:Nat},Mt H k os->∀i,i<os.length->H (k+i)=hp os i
 | [],k,_,i,b=>by simp at b
 | o::os,k,h,0,_=>by simpa [hp] using h.1
 | o::os,k,h,i+1,b=>by
  have:=Mt.spec h.2 i (by simpa using b)
  rw [show k+(i+1)=k+1+i by omega,this]
  simp [hp]
theorem Agm:∀{xs:List AV} {vs:List Value} {H:Hp} {K:List AV->Hp->Prop} {σ:Aq} {ι:Bo},W2 xs H K->St σ ι H F W w->vs.length=xs.length->(∀(i:Nat) (c:AV) (v:Value),xs[i]? = some c->vs[i]? = some v->Conc σ ι H c v) ->
  ∃k ys H',K ys H'/\Le σ ι H k ι H'/\St k ι H' F W w/\vs.length=ys.length/\∀(i:Nat) (c:AV) (v:Value),ys[i]? = some c->vs[i]? = some v->Conc k ι H' c v
 | [],vs,H,K,σ,ι,h,s,g,hc=>⟨σ,[],H,h,Le.refl _ _ _,s,g,hc⟩
 | x::cs,[],H,K,σ,ι,h,s,g,hc=>by simp at g
 | x::cs,v::vs,H,K,σ,ι,h,s,g,hc=>by
  simp only [W2] at h
  obtain ⟨G,y,I,h1,f,A,D⟩:=Agi h s (hc 0 x v (by simp) (by simp))
  obtain ⟨q,ys,E,h2,b,z,l,B⟩:=Agm (vs:=vs) h1 A (by simpa using g) (fun i c u j hu=>(hc (i+1) c u (by simpa using j) (by simpa using hu)).mono f)
  refine ⟨q,y::ys,E,h2,f.trans b,z,by simp [l],fun i c u j hu=>?_⟩
  cases i with
  | zero=>simp at j hu; subst j; subst hu; exact D.mono b
  | succ i=>exact B i c u (by simpa using j) (by simpa using hu)
theorem Aqi (E:Ci P T) {fn:Func} {fz:Bool} {r:AV} {q:List Be} {e:Bi} {H:Hp} {σ:Aq} {ι:Bo} {a:Act} (s:St σ ι H F W w) (D:D0 σ ι H e a) (l:∀r∈fn.results.toList,N7 r<a.tmps.size)
  (h:N9 T fz fn.results.toList r q e H):∃v f H',(results fn a.tmps).run P w = .ok v w/\Mt H' 0 q/\Le σ ι H f ι H'/\St f ι H' F W w/\Conc f ι H' r v:=by
 unfold N9 at h
 split at h
 .exact h.elim
 .rename_i xs hx
  obtain ⟨vs,h1,x,z⟩:=Abb E s D l hx
  have key:∃f ys H',(Sz ys=r/\Mt H' 0 q)/\Le σ ι H f ι H'/\St f ι H' F W w/\vs.length=ys.length/\∀(i:Nat) (c:AV) (v:Value),ys[i]? = some c->vs[i]? = some v->Conc f ι H' c v:=by
   cases fz with
   | true=>exact Agm h s x z
   | false=>exact ⟨σ,xs,H,h,Le.refl _ _ _,s,x,z⟩
  obtain ⟨f,ys,H',⟨rfl,k⟩,le,s',b,j⟩:=key
  have g:(fn.results.mapM (N8 a.tmps)).run P w = .ok vs.toArray w:=by
   rw [Array.mapM_eq_mapM_toList]
   simp [h1]
  refine ⟨if h:vs.toArray.size=1 then vs.toArray[0] else .tuple vs.toArray,f,H',?_,k,le,s',?_⟩
  .rw [Agk,Sem.run_bind,g]; rfl
  .match ys,vs,b,j with
   | [y],[v],_,j=>exact j 0 y v rfl rfl
   | [],[],_,_=>exact .tup [] #[] rfl (by simp)
   | y::G::ys,v::A::vs,b,j=>
    have:¬(v::A::vs).toArray.size=1:=by simp
    rw [dif_neg this]
    exact .tup _ _ (by simpa using b) (fun i c u B hu=>j i c u B (by simpa using hu))
   | [],_::_,b,_=>simp at b
   | _::_,[],b,_=>simp at b
   | [_],_::_::_,b,_=>simp at b
   | _::_::_,[_],b,_=>simp at b
theorem St.first {σ:Aq} {ι:Bo} {H:Hp} (s:St σ ι H F W w) (f:List Be) (hk:∀i,i<f.length->H i=hp f i) (hu:f.all (Be.under f.length)=true) :
  St σ (fun k=>if k<f.length then ι k else .none) (hp f) F W w:=by
 have B:∀h,h<f.length->(fun k=>if k<f.length then ι k else Loc.none) h=ι h:=fun h j=>if_pos j
 have hH:∀h,h<f.length->hp f h=H h:=fun h j=>(hk h j).symm
 have lt:∀k,(hp f k).live=true->k<f.length:=by
  intro k h
  rcases Nat.lt_or_ge k f.length with h' | h'
  .exact h'
  .rw [Mq h'] at h; cases h
 refine ⟨s.sto,s.fra,fun k=>?_,fun k u b h1 h2 h3 q=>?_,s.os,s.tape,s.output,s.glo,s.drw⟩
 .by_cases j:k<f.length
  .have g:=s.obj k
   have l:=List.all_eq_true.1 hu _ (List.mem_of_getElem? (Sx j))
   unfold B9 at g ⊢
   rw [hk k j] at g
   dsimp only
   rw [if_pos j]
   cases hx:hp f k with
   | none=>rw [hx] at g; exact g
   | dead=>trivial
   | rows E sz xs=>rw [hx] at g; exact g
   | map es=>rw [hx] at g; exact g
   | cells E cs=>
    rw [hx] at g l
    obtain ⟨b,C,G,h1,h2,h3,q,D⟩:=g
    refine ⟨b,C,G,h1,h2,h3,q,fun i c v x y=>?_⟩
    have hc:=List.all_eq_true.1 l c (List.mem_of_getElem? x)
    refine (D i c v x y).restrict (n:=f.length) B hH ?_
    exact Aa4 hc
  .unfold B9
   rw [Mq (by omega)]
   exact if_neg j
 .have A:=lt k h1
  have z:=lt u h2
  rw [if_pos A] at h3
  rw [if_pos z] at q
  rw [hH k A] at h1
  rw [hH u z] at h2
  exact s.inj k u b h1 h2 h3 q
def Abc (c:List Be) (r:AV) (b:List Be):Bool:=Nat.ble c.length b.length&&r.under b.length&&b.all (Be.under b.length)
def Sub (x y:AV):Prop:=∀(σ:Aq) (ι:Bo) (H:Hp) (v:Value),Conc σ ι H x v->Conc σ ι H y v
theorem Sub.refl (x:AV):Sub x x:=fun _ _ _ _ h=>h
theorem Sub.nil (sz:Nat):Sub (.val (.slice none 0 0)) (.sl sz []):=fun _ _ _ _ h=>Wu rfl h
def Mu:List AV->List AV->Prop
 | [],[]=>True
 | x::xs,y::ys=>Sub x y/\Mu xs ys
 | _,_=>False
theorem Mu.spec:∀{xs ys:List AV},Mu xs ys->xs.length=ys.length/\∀(i:Nat) (y:AV),ys[i]? = some y->∃x,xs[i]? = some x/\Sub x y
 | [],[],_=>⟨rfl,by simp⟩
 | [],_::_,h=>h.elim
 | _::_,[],h=>h.elim
 | x::xs,y::ys,h=>by
  obtain ⟨h1,h2⟩:=Mu.spec h.2
  refine ⟨by simp [h1],fun i z b=>?_⟩
  cases i with
  | zero=>simp at b; subst b; exact ⟨x,rfl,h.1⟩
  | succ i=>simpa using h2 i z (by simpa using b)
theorem Sub.agg {xs ys:List AV} (h:Mu xs ys):Sub (.agg xs) (.agg ys):=by
 intro σ ι H v hc
 obtain ⟨vs,rfl,f,b⟩:=hc.agg_inv
 obtain ⟨h1,h2⟩:=h.spec
 refine .agg _ vs (by rw [<-h1]; exact f) fun i c u h3 k=>?_
 obtain ⟨x,j,g⟩:=h2 i c h3
 exact g _ _ _ _ (b i x u j k)
theorem Aw.sub {f:FuncId} {args b:List AV} {r k:AV} (h:Aw P f b r) (ha:Mu args b) (q:Sub r k):Aw P f args k:=by
 refine ⟨h.1,fun σ F W w vs s hc=>?_⟩
 obtain ⟨h1,h2⟩:=ha.spec
 refine (h.2 σ F W w vs s ⟨by rw [<-h1]; exact hc.1,fun i a v h3 j=>?_⟩).mono ?_
 .obtain ⟨x,g,c⟩:=h2 i a h3
  exact c _ _ _ _ (hc.2 i x v g j)
 .rintro e w' ⟨v,l,h3,j,g,c⟩
  exact ⟨v,l,h3,j,g,q _ _ _ _ c⟩
theorem Br.sub {f:FuncId} {args b:List AV} {g c:List Be} {r:AV} (h:Br P f b g r c) (ha:Mu args b):Br P f args g r c:=by
 refine ⟨h.1,fun σ F W w ι vs s hc=>?_⟩
 obtain ⟨h1,h2⟩:=ha.spec
 refine h.2 σ F W w ι vs s ⟨by rw [<-h1]; exact hc.1,fun i a v h3 l=>?_⟩
 obtain ⟨x,k,j⟩:=h2 i a h3
 exact j _ _ _ _ (hc.2 i x v k l)
end
end Go.Ab
namespace Go.Ab
inductive D8 (K:Prop):Prop where
 | mk (k:K)
def opK (P:Program) (T:Ch) (an:Nat->Ann) (nl:Nat->List (Nat×Nat)) (o:Oper) (n:Nat) (e:Bi) (H:Hp) (acc:Gm) (K:Nat->Bi->Hp->Gm->Prop):Prop :=
 Dp P T an n o (ev e) H fun b m=>Jb (Ju (Kd nl o.dst) b.r) fun r=>K4 b.wr fun wr=>Ha b.rd fun f=>Ha wr fun c=>Hy e o.dst r H wr fun e H=>D8 (K m e H (acc++[(f,c)]))
def S0 (o:Oper) (n:Nat) (e:Bi) (H:Hp) (acc:Gm) (K:Nat->Bi->Hp->Gm->Prop):Prop :=
 Hy e o.dst (.val undef) H [] fun e H=>D8 (K n e H (acc++[([],[])]))
def D2 (P:Program) (T:Ch) (an:Nat->Ann) (nl:Nat->List (Nat×Nat)) (ops:Array Oper):List Oper->Nat->Bi->Hp->Gm->(Nat->Bi->Hp->Gm->Prop)->Prop
 | [],n,e,H,acc,K=>K n e H acc
 | o::os,n,e,H,acc,K=>
  match o.guard with
  | none=>opK P T an nl o n e H acc fun n e H acc=>D2 P T an nl ops os n e H acc K
  | some p=>
   match (ops[p.1]?).bind (·.dst) with
   | none=>False
   | some s=>
    match e s with
    | .val v=>bif Nz v==some p.2 then opK P T an nl o n e H acc fun n e H acc=>D2 P T an nl ops os n e H acc K
     else S0 o n e H acc fun n e H acc=>D2 P T an nl ops os n e H acc K
    | _=>False
section
variable {P:Program} {T:Ch} {an:Nat->Ann} {nl:Nat->List (Nat×Nat)} {ops:Array Oper}
theorem Abd (G:Ci P T):∀(os:List Oper) (i n:Nat) (e:Bi) (H:Hp) (acc:Gm) (K:Nat->Bi->Hp->Gm->Prop),ops.toList.drop i=os->acc.length=i->D6 H n->D2 P T an nl ops os n e H acc K ->
  ∃b e' H' accs,K b e' H' accs/\accs.take i=acc/\accs.length=i+os.length/\n<=b/\D6 H' b/\Run P ops (fun k=>accs.getD k ([],[])) (List.range' i os.length) e H e' H'
 | [],i,n,e,H,acc,K,hd,j,y,h=>⟨n,e,H,acc,h,by rw [<-j]; simp,by simpa using j,Nat.le_refl _,y,.nil e H⟩
 | o::os,i,n,e,H,acc,K,hd,j,y,h=>by
  have J:ops[i]? = some o:=by
   have:=congrArg (fun l=>l[0]?) hd
   simpa using this
  have u:ops.toList.drop (i+1)=os:=by
   have:=congrArg (List.drop 1) hd
   simpa [List.drop_drop] using this
  have run:Gl ops o e true->(opK P T an nl o n e H acc fun n e H acc=>D2 P T an nl ops os n e H acc K) ->
    ∃b e' H' accs,K b e' H' accs/\accs.take i=acc/\accs.length=i+(o::os).length/\n<=b/\D6 H' b/\Run P ops (fun k=>accs.getD k ([],[])) (List.range' i (o::os).length) e H e' H':=by
   intro D g
   obtain ⟨c,m,h1,h2,h3,S,N⟩:=Af9 G y g
   simp only [P8,Aaz,Aa0,Wv] at h3
   obtain ⟨b,e',H',accs,B,x,M,L,A,z⟩:=Abd G os (i+1) m _ _ _ K u (by simp [j]) N h3.1
   have E:accs[i]? = some (c.rd.map (·.1),c.wr.map (·.1)):=by
    have R:(accs.take (i+1))[i]? = accs[i]?:=List.getElem?_take_of_lt (by omega)
    rw [<-R,x,List.getElem?_append_right (by omega)]
    simp [j]
   have q:accs.getD i ([],[])=(c.rd.map (·.1),c.wr.map (·.1)):=by simp [List.getD,E]
   refine ⟨b,e',H',accs,B,?_,by simp only [List.length_cons]; omega,by omega,A,?_⟩
   .have:=congrArg (List.take i) x
    rw [List.take_take] at this
    simpa [j] using this
   .rw [List.length_cons,List.range'_succ]
    refine .cons o (Ju (Kd nl o.dst) c.r) c.wr ⟨J,.inl ⟨D,_,h1.nils (Kd nl o.dst),h2,?_,?_,rfl,rfl⟩⟩ z
    .intro p hp; show p.1∈(accs.getD i ([],[])).1; rw [q]; exact List.mem_map_of_mem hp
    .intro p hp; show p.1∈(accs.getD i ([],[])).2; rw [q]; exact List.mem_map_of_mem hp
  have skip:Gl ops o e false->(S0 o n e H acc fun n e H acc=>D2 P T an nl ops os n e H acc K) ->
    ∃b e' H' accs,K b e' H' accs/\accs.take i=acc/\accs.length=i+(o::os).length/\n<=b/\D6 H' b/\Run P ops (fun k=>accs.getD k ([],[])) (List.range' i (o::os).length) e H e' H':=by
   intro D g
   unfold S0 at g
   rw [Wv] at g
   obtain ⟨b,e',H',accs,B,x,M,L,A,z⟩:=Abd G os (i+1) n _ _ _ K u (by simp [j]) y g.1
   refine ⟨b,e',H',accs,B,?_,by simp only [List.length_cons]; omega,by omega,A,?_⟩
   .have:=congrArg (List.take i) x
    rw [List.take_take] at this
    simpa [j] using this
   .rw [List.length_cons,List.range'_succ]
    exact .cons o (.val undef) [] ⟨J,.inr ⟨D,rfl,rfl⟩⟩ z
  simp only [D2] at h
  cases f:o.guard with
  | none=>
   rw [f] at h
   exact run (by unfold Gl; rw [f]) h
  | some p=>
   rw [f] at h
   simp only [] at h
   cases g:(ops[p.1]?).bind (·.dst) with
   | none=>rw [g] at h; exact h.elim
   | some s=>
    rw [g] at h
    simp only [] at h
    split at h
    .rename_i v I
     cases hb:Nz v==some p.2 with
     | true=>rw [hb] at h; exact run (by unfold Gl; rw [f]; exact ⟨s,v,g,I,hb.symm⟩) h
     | false=>rw [hb] at h; exact skip (by unfold Gl; rw [f]; exact ⟨s,v,g,I,hb.symm⟩) h
    .exact h.elim
variable {o:Oper} {os:List Oper} {n:Nat} {e:Bi} {H:Hp} {acc:Gm} {K:Nat->Bi->Hp->Gm->Prop} {β:Type} {r:β}
theorem nx (k:opK P T an nl o n e H acc fun n e H acc=>D2 P T an nl ops os n e H acc K) (b:o.guard=none:=by exact rfl):D8 (D2 P T an nl ops (o::os) n e H acc K):=.mk (by simp only [D2,b]; exact k)
theorem Jv (k:K n e H acc):D8 (D2 P T an nl ops [] n e H acc K):=.mk k
theorem Aqj (p:Nat×Bool) (s:Nat) (k:opK P T an nl o n e H acc fun n e H acc=>D2 P T an nl ops os n e H acc K) (c:o.guard=some p:=by exact rfl) (b:(ops[p.1]?).bind (·.dst)=some s:=by exact rfl) (hb:e s = .val (.bool p.2):=by exact rfl):D8 (D2 P T an nl ops (o::os) n e H acc K) :=
 .mk (by simp only [D2,c,b,hb,Nz,BEq.rfl,cond_true]; exact k)
theorem Aqk (p:Nat×Bool) (s:Nat) (v:Value) (k:S0 o n e H acc fun n e H acc=>D2 P T an nl ops os n e H acc K) (f:o.guard=some p:=by exact rfl) (c:(ops[p.1]?).bind (·.dst)=some s:=by exact rfl) (hb:e s = .val v:=by exact rfl) (b:(Nz v==some p.2)=false:=by exact rfl):D8 (D2 P T an nl ops (o::os) n e H acc K) :=
 .mk (by simp only [D2,f,c,hb,b,cond_false]; exact k)
theorem Mv {p:Nat×Bool} {s:Nat} (k:opK P T an nl o n e H acc fun n e H acc=>D2 P T an nl ops os n e H acc K) (c:o.guard=some p:=by exact rfl) (b:(ops[p.1]?).bind (·.dst)=some s:=by exact rfl) (hb:e s = .val (.bool p.2):=by exact rfl):D8 (D2 P T an nl ops (o::os) n e H acc K):=Aqj p s k c b hb
theorem Mw {p:Nat×Bool} {s:Nat} {v:Value} (k:S0 o n e H acc fun n e H acc=>D2 P T an nl ops os n e H acc K) (f:o.guard=some p:=by exact rfl) (c:(ops[p.1]?).bind (·.dst)=some s:=by exact rfl) (hb:e s = .val v:=by exact rfl) (b:(Nz v==some p.2)=false:=by exact rfl):D8 (D2 P T an nl ops (o::os) n e H acc K):=Aqk p s v k f c hb b
theorem Aql {s:Nat} {b:Bool} {m c:Option β} {X:List Oper} (h:(bif b then m else c)=some r) (h1:b=true->m=some r->D8 (D2 P T an nl ops X n (Ay e s (.val (.bool true))) H acc K))
  (h2:b=false->c=some r->D8 (D2 P T an nl ops X n (Ay e s (.val (.bool false))) H acc K)) (hb:e s = .val (.bool b):=by exact rfl):D8 (D2 P T an nl ops X n e H acc K):=by
 cases b with
 | true=>have:=h1 rfl h; rwa [Wx hb] at this
 | false=>have:=h2 rfl h; rwa [Wx hb] at this
end
end Go.Ab
namespace Go.Ab
theorem St.recell {σ:Aq} {ι:Bo} {H:Hp} {F:Aq} {W w:World} (s:St σ ι H F W w) (h:Nat) (E:TypeId) (cs f:List AV) (j:H h = .cells E cs) (q:f.length=cs.length)
  (hc:∀(i:Nat) (c k:AV) (v:Value),cs[i]? = some c->f[i]? = some k->Conc σ ι H c v->Conc σ ι H k v) :
  St σ ι (Ay H h (.cells E f)) F W w/\Le σ ι H σ ι (Ay H h (.cells E f)):=by
 have l:=s.obj h
 unfold B9 at l
 rw [j] at l
 obtain ⟨b,C,hb,h1,h2,h3,D,B⟩:=l
 have le:Le σ ι H σ ι (Ay H h (.cells E f)):=by
  have:=Le.upd (ι:=ι) (H:=H) (Aq.le_refl σ) h (ι h) (.cells E f) (by rw [j]; exact ⟨fun _ e=>e,(fun _ e=>by cases e),(fun _ _ _ _ e=>by cases e)⟩)
  rwa [Gw] at this
 refine ⟨s.touch h b (fun _ _=>rfl) (fun x e=>C3 _ _ e) le (fun x e=>rfl) (fun _ _=>rfl) (fun o e=>by rw [h1] at e; cases e) ?_ h2 ?_ ?_ rfl rfl rfl,le⟩
 .intro x e q u
  exact e (s.inj x h b q (by rw [j]; rfl) u (by rw [hb]; rfl))
 .intro G _ z
  exact .inr ⟨by rw [j]; rfl,z⟩
 .unfold B9
  rw [B7]
  refine ⟨b,C,hb,h1,h2,h3,by omega,fun i k v x y=>?_⟩
  have A:i<cs.length:=by rw [<-q]; exact (List.getElem?_eq_some_iff.1 x).1
  have g:cs[i]? = some cs[i]:=List.getElem?_eq_getElem A
  exact (hc i _ k v g x (B i _ v g y)).mono le
inductive Gh where
 | fz (s:Nat)
 | own (s j:Nat) (e:TypeId) (sz:Nat)
 | nil (s j sz:Nat)
 | fzc (s j:Nat)
 | fzp (s:Nat)
def gxs:List Gh->Nat->Bi->Hp->(Nat->Bi->Hp->Prop)->Prop
 | [],n,e,H,K=>K n e H
 | .fz s::gs,n,e,H,K=>
  match e s with
  | .arr h k 0 len=>
   match H h with
   | .rows _ sz xs=>Fm k xs (Fm len xs (gxs gs n (Ay e s (.sl sz xs)) (Ay H h .dead) K))
   | _=>False
  | _=>False
 | .fzp s::gs,n,e,H,K=>
  match e s with
  | .arr h k 0 len=>
   match H h with
   | .rows _ sz xs=>Fm k xs (Apu len k (Apv xs len fun ys=>gxs gs n (Ay e s (.sl sz ys)) (Ay H h .dead) K))
   | _=>False
  | _=>False
 | .own s j E sz::gs,n,e,H,K=>
  match e s with
  | .loc h _=>
   match H h with
   | .cells T cs=>
    match cs[j]? with
    | some x=>bif Jr x&&Nat.blt 0 sz then gxs gs (n+1) e (Ay (Ay H n (.rows E sz [])) h (.cells T (cs.set j (.arr n 0 0 0)))) K else False
    | none=>False
   | _=>False
  | _=>False
 | .nil s j sz::gs,n,e,H,K=>
  match e s with
  | .loc h _=>
   match H h with
   | .cells T cs=>
    match cs[j]? with
    | some x=>bif Jr x then gxs gs n e (Ay H h (.cells T (cs.set j (.sl sz [])))) K else False
    | none=>False
   | _=>False
  | _=>False
 | .fzc s j::gs,n,e,H,K=>
  match e s with
  | .loc h _=>
   match H h with
   | .cells T cs=>
    match cs[j]? with
    | some (.arr h' k 0 len)=>
     match H h' with
     | .rows _ sz xs=>Fm k xs (Fm len xs (gxs gs n e (Ay (Ay H h' .dead) h (.cells T (cs.set j (.sl sz xs)))) K))
     | _=>False
    | _=>False
   | _=>False
  | _=>False
section
variable {F:Aq} {W:World}
theorem Agn {cs:List AV} {j i:Nat} {y c b:AV} {P:AV->AV->Prop} (h1:cs[i]? = some c) (h2:(cs.set j y)[i]? = some b) (f:P c c) (hy:i=j->P c y):P c b:=by
 rw [List.getElem?_set] at h2
 split at h2
 .rename_i e
  split at h2
  .cases h2; exact hy e.symm
  .cases h2
 .rw [h1] at h2; cases h2; exact f
theorem Qf {H:Hp} {n h:Nat} {o:Be} (b:D6 H n) (f:H h≠.none):D6 (Ay H h o) n:=by
 intro m c
 rw [C3 _ _ (fun e=>f (by rw [<-e]; exact b m c))]; exact b m c
theorem Qg:∀(L:List Gh) {n:Nat} {e:Bi} {H:Hp} {K:Nat->Bi->Hp->Prop} {σ:Aq} {ι:Bo} {a:Act} {w:World},gxs L n e H K->St σ ι H F W w->D0 σ ι H e a->D6 H n ->
  ∃σ' ι' n' e' H',K n' e' H'/\Le σ ι H σ' ι' H'/\St σ' ι' H' F W w/\D0 σ' ι' H' e' a/\D6 H' n'/\n<=n'
 | [],n,e,H,K,σ,ι,a,w,h,s,z,u=>⟨σ,ι,n,e,H,h,Le.refl _ _ _,s,z,u,Nat.le_refl _⟩
 | .fz t::L,n,e,H,K,σ,ι,a,w,h,s,z,u=>by
  simp only [gxs] at h
  split at h
  .rename_i hd k len hx
   split at h
   .rename_i E sz xs l
    obtain ⟨hk,hl,h⟩:=h
    obtain ⟨B,f,D,J⟩:=s.freeze l
    have a7:D0 B ι (Ay H hd .dead) (Ay e t (.sl sz xs)) a:=by
     intro q hq
     by_cases A:q=t
     .subst A
      rw [B7]
      have hc:=z q hq
      rw [hx] at hc
      have:=J 0 len _ (by omega) (hc.arr_inv l hk)
      rw [List.drop_zero,List.take_of_length_le (by omega)] at this
      exact .cc this
     .rw [C3 _ _ A]; exact (z q hq).mono f
    obtain ⟨M,N,R,Z,H2,Y,X,V,U,S,k6⟩:=Qg L h D a7 (Qf u (by rw [l]; intro e; cases e))
    exact ⟨M,N,R,Z,H2,Y,f.trans X,V,U,S,k6⟩
   .exact h.elim
  .exact h.elim
 | .fzp t::L,n,e,H,K,σ,ι,a,w,h,s,z,u=>by
  simp only [gxs] at h
  split at h
  .rename_i hd k len hx
   split at h
   .rename_i E sz xs l
    obtain ⟨hk,hl,ys,hy,h⟩:=h
    obtain ⟨B,f,D,J⟩:=s.freeze l
    have a7:D0 B ι (Ay H hd .dead) (Ay e t (.sl sz ys)) a:=by
     intro q hq
     by_cases A:q=t
     .subst A
      rw [B7]
      have hc:=z q hq
      rw [hx] at hc
      have:=J 0 len _ (by omega) (hc.arr_inv l hk)
      rw [List.drop_zero,hy] at this
      exact .cc this
     .rw [C3 _ _ A]; exact (z q hq).mono f
    obtain ⟨M,N,R,Z,H2,Y,X,V,U,S,k6⟩:=Qg L h D a7 (Qf u (by rw [l]; intro e; cases e))
    exact ⟨M,N,R,Z,H2,Y,f.trans X,V,U,S,k6⟩
   .exact h.elim
  .exact h.elim
 | .own t j E sz::L,n,e,H,K,σ,ι,a,w,h,s,z,u=>by
  simp only [gxs] at h
  split at h
  .rename_i hd off hx
   split at h
   .rename_i T cs l
    split at h
    .rename_i x hj
     obtain ⟨hb,h⟩:=Es h
     rw [Bool.and_eq_true] at hb
     have a6:hd≠n:=by
      intro A; subst A
      have:=u hd (Nat.le_refl _); rw [l] at this; cases this
     obtain ⟨s0,aa⟩:=s.newNil n (u n (Nat.le_refl _)) E sz (Fu hb.2)
     have g:Ay H n (.rows E sz []) hd = .cells T cs:=by rw [C3 _ _ a6]; exact l
     obtain ⟨D,f⟩:=s0.recell hd T cs (cs.set j (.arr n 0 0 0)) g (by simp) (by
      intro i c c' v h1 h2 h3
      refine Agn (P:=fun a b=>Conc σ _ _ a v->Conc σ _ _ b v) h1 h2 (fun h=>h) (fun G h=>?_) h3
      subst G
      rw [hj] at h1; cases h1
      rw [Wt hb.1] at h
      rw [h.val_inv]
      refine .arr _ _ _ _ _ (by rw [B7]; intro e; cases e) (fun E' ak aj e'=>?_) rfl
      rw [B7] at e'; cases e'
      exact ⟨by simp,fun _=>by rw [B7]; exact ⟨rfl,rfl,rfl⟩⟩)
     have af:D6 (Ay (Ay H n (.rows E sz [])) hd (.cells T (cs.set j (.arr n 0 0 0)))) (n+1):=by
      refine Qf ?_ (by rw [g]; intro e; cases e)
      intro m hm
      rw [C3 _ _ (by omega)]; exact u m (by omega)
     obtain ⟨M,N,R,Z,H2,Y,X,V,U,S,k6⟩:=Qg L h D (z.mono (aa.trans f)) af
     exact ⟨M,N,R,Z,H2,Y,(aa.trans f).trans X,V,U,S,by omega⟩
    .exact h.elim
   .exact h.elim
  .exact h.elim
 | .nil t j sz::L,n,e,H,K,σ,ι,a,w,h,s,z,u=>by
  simp only [gxs] at h
  split at h
  .rename_i hd off hx
   split at h
   .rename_i T cs l
    split at h
    .rename_i x hj
     obtain ⟨hb,h⟩:=Es h
     obtain ⟨D,f⟩:=s.recell hd T cs (cs.set j (.sl sz [])) l (by simp) (by
      intro i c c' v h1 h2 h3
      refine Agn (P:=fun a b=>Conc σ _ _ a v->Conc σ _ _ b v) h1 h2 (fun h=>h) (fun G h=>?_) h3
      subst G
      rw [hj] at h1; cases h1
      exact Wu hb h)
     obtain ⟨M,N,R,Z,H2,Y,X,V,U,S,k6⟩:=Qg L h D (z.mono f) (Qf u (by rw [l]; intro e; cases e))
     exact ⟨M,N,R,Z,H2,Y,f.trans X,V,U,S,k6⟩
    .exact h.elim
   .exact h.elim
  .exact h.elim
 | .fzc t j::L,n,e,H,K,σ,ι,a,w,h,s,z,u=>by
  simp only [gxs] at h
  split at h
  .rename_i hd off hx
   split at h
   .rename_i T cs l
    split at h
    .rename_i h' k len hj
     split at h
     .rename_i E sz xs I
      obtain ⟨hk,hl,h⟩:=h
      obtain ⟨B,f,D,J⟩:=s.freeze I
      have a6:hd≠h':=by intro A; subst A; rw [l] at I; cases I
      have g:Ay H h' .dead hd = .cells T cs:=by rw [C3 _ _ a6]; exact l
      have a1:=s.obj hd
      unfold B9 at a1; rw [l] at a1
      obtain ⟨b,C,A,g1,g2,g3,g4,g5⟩:=a1
      have a8:∀v,C[j]? = some v->Conc B ι (Ay H h' .dead) (.sl sz xs) v:=by
       intro v hv
       have hc:=g5 j _ v hj hv
       have:=J 0 len _ (by omega) (hc.arr_inv I hk)
       rw [List.drop_zero,List.take_of_length_le (by omega)] at this
       exact .cc this
      have s2:St B ι (Ay (Ay H h' .dead) hd (.cells T (cs.set j (.sl sz xs)))) F W w/\Le B ι (Ay H h' .dead) B ι (Ay (Ay H h' .dead) hd (.cells T (cs.set j (.sl sz xs)))):=by
       have ho:=D.obj hd
       unfold B9 at ho; rw [g] at ho
       obtain ⟨b',C',ae,ad,ac,ab,am,ai⟩:=ho
       rw [A] at ae; cases ae
       rw [g3] at ab; cases ab
       have le:Le B ι (Ay H h' .dead) B ι (Ay (Ay H h' .dead) hd (.cells T (cs.set j (.sl sz xs)))):=by
        have:=Le.upd (ι:=ι) (H:=Ay H h' .dead) (Aq.le_refl B) hd (ι hd) (.cells T (cs.set j (.sl sz xs))) (by rw [g]; exact ⟨fun _ e=>e,(fun _ e=>by cases e),(fun _ _ _ _ e=>by cases e)⟩)
        rwa [Gw] at this
       refine ⟨D.touch hd b (fun _ _=>rfl) (fun x e=>C3 _ _ e) le (fun x e=>rfl) (fun _ _=>rfl) (fun o e=>by rw [ad] at e; cases e) ?_ ac ?_ ?_ rfl rfl rfl,le⟩
       .intro x e hl ag
        exact e (D.inj x hd b hl (by rw [g]; rfl) ag (by rw [A]; rfl))
       .intro b0 _ ah
        exact .inr ⟨by rw [g]; rfl,ah⟩
       .unfold B9
        rw [B7]
        refine ⟨b,C,A,ad,ac,g3,by simpa using g4,fun i c' v x y=>?_⟩
        rw [List.getElem?_set] at x
        split at x
        .rename_i G
         split at x
         .cases x; subst G; exact (a8 v y).mono le
         .cases x
        .exact (ai i c' v x y).mono le
      obtain ⟨M,N,R,Z,H2,Y,X,V,U,S,k6⟩:=Qg L h s2.1 (z.mono (f.trans s2.2)) (Qf (Qf u (by rw [I]; intro e; cases e)) (by rw [g]; intro e; cases e))
      exact ⟨M,N,R,Z,H2,Y,(f.trans s2.2).trans X,V,U,S,k6⟩
     .exact h.elim
    .exact h.elim
   .exact h.elim
  .exact h.elim
end
end Go.Ab
namespace Go.Ab
def Gz {S E:Type} (step:S->Option (S⊕E)):Nat->S->Option E
 | 0,_=>none
 | n+1,s=>
  match step s with
  | none=>none
  | some (.inl s')=>Gz step n s'
  | some (.inr e)=>some e
theorem Abe {S E:Type} {step:S->Option (S⊕E)}:∀{n:Nat} {s:S} {e:E},Gz step n s=some e->∀m,n<=m->Gz step m s=some e
 | 0,s,e,h,_,_=>by cases h
 | n+1,s,e,h,0,c=>by omega
 | n+1,s,e,h,m+1,c=>by
  simp only [Gz] at h ⊢
  cases b:step s with
  | none=>rw [b] at h; cases h
  | some o=>
   rw [b] at h
   cases o with
   | inl s'=>exact Abe (n:=n) h m (by omega)
   | inr e'=>exact h
theorem Ago {S E:Type} {step:S->Option (S⊕E)} {n m:Nat} {s:S} {e e':E} (h:Gz step n s=some e) (h':Gz step m s=some e'):e=e':=by
 have h1:=Abe h (max n m) (by omega)
 have h2:=Abe h' (max n m) (by omega)
 rw [h1] at h2; exact Option.some.inj h2
open Classical in
noncomputable def Al {S E:Type} (step:S->Option (S⊕E)) (s:S):Option E :=
 match Gz step 4096 s with
 | some e=>some e
 | none=>if h:∃n e,Gz step n s=some e then some (Classical.choose (Classical.choose_spec h)) else none
theorem Abf {S E:Type} {step:S->Option (S⊕E)} {s:S} {e:E} (h:Al step s=some e):∃n,Gz step n s=some e:=by
 unfold Al at h
 split at h
 .rename_i e' b
  cases h
  exact ⟨_,b⟩
 .split at h
  .rename_i hx
   cases h
   exact ⟨_,Classical.choose_spec (Classical.choose_spec hx)⟩
  .cases h
theorem Abg {S E:Type} {step:S->Option (S⊕E)} {s:S} {e:E} {n:Nat} (h:Gz step n s=some e):Al step s=some e:=by
 have hx:∃n e,Gz step n s=some e:=⟨n,e,h⟩
 unfold Al
 split
 .rename_i e' b
  exact congrArg some (Ago b h)
 rw [dif_pos hx]
 exact congrArg some (Ago (Classical.choose_spec (Classical.choose_spec hx)) h)
theorem Em {S E:Type} {step:S->Option (S⊕E)} {s:S} {e:E} (h:step s=some (.inr e)):Al step s=some e :=
 Abg (n:=1) (by simp only [Gz,h])
theorem Jd {S E:Type} {step:S->Option (S⊕E)} {s s':S} (h:step s=some (.inl s')):Al step s=Al step s':=by
 cases h':Al step s' with
 | some e=>
  obtain ⟨n,b⟩:=Abf h'
  exact Abg (n:=n+1) (by simp only [Gz,h]; exact b)
 | none=>
  cases c:Al step s with
  | none=>rfl
  | some e=>
   obtain ⟨n,b⟩:=Abf c
   cases n with
   | zero=>cases b
   | succ n=>
    simp only [Gz,h] at b
    rw [Abg b] at h'; cases h'
theorem Lq {S E:Type} {step:S->Option (S⊕E)} (c:S->Prop) (m:S->Nat) (b:E->Prop)
  (f:∀s,c s->(∃s',step s=some (.inl s')/\c s'/\m s' < m s)\/(∃e,step s=some (.inr e)/\b e)) (s:S) (h0:c s):∃e,Al step s=some e/\b e:=by
 generalize hk:m s=k
 induction k using Nat.strongRecOn generalizing s with
 | _ k ih=>
  rcases f s h0 with ⟨s',h1,h2,h3⟩ | ⟨e,h1,h2⟩
  .obtain ⟨e,h,g⟩:=ih (m s') (by omega) s' h2 rfl
   exact ⟨e,by rw [Jd h1]; exact h,g⟩
  .exact ⟨e,Em h1,h2⟩
def Ag {α:Type} (l:List α) (i:Int):Option α:=if 0<=i then l[i.toNat]? else none
def F8 {α:Type} (l:List α) (lo b:Int):Option (List α):=if 0<=lo/\lo<=b/\b<=l.length then some ((l.take b.toNat).drop lo.toNat) else none
def Cf {α:Type} (b:Nat) (xs ys:List α):Option (List α):=if (xs.length+ys.length)*b<=140737488355328 then some (xs++ys) else none
def Eh {α:Type} (c:Nat) (len b:Int) (z:α):Option (List α):=if 0<=len/\len<=b/\c*b.toNat<=281474976710656/\b<=140737488355328 then some (List.replicate len.toNat z) else none
def H4 {α:Type} (l:List α) (off n:Nat) (i:Int):Option α:=if 0<=i/\i<n then l[off+i.toNat]? else none
def S3 (n:Nat) (lo b:Int):Option (Nat×Nat):=if 0<=lo/\lo<=b/\b<=n/\(lo=0\/lo<b) then some (lo.toNat,b.toNat) else none
def Fg {α:Type} (n:Nat) (l:List α):Option Unit:=if n=l.length then some () else none
theorem H5 {α:Type} {n:Nat} {l:List α} {u:Unit} (h:Fg n l=some u):n=l.length:=by
 unfold Fg at h
 split at h
 .assumption
 .cases h
theorem Aqm (off:Nat) {i:Int} {n:Nat} (h:i=n):((off:Nat):Int)+i=((off+n:Nat):Int):=by omega
def Lr (n:Int):Option ByteArray:=if -9223372036854775808<=n/\n<=9223372036854775807 then some ⟨(Lib.itoa n).toArray⟩ else none
def W3 (a b:Int):Option ByteArray:=bif b==10 then Lr a else none
def Ew (l:List Int):List UInt8:=l.map fun n=>UInt8.ofNat n.toNat
def S4 (l:List Int):Option ByteArray:=if (∀x∈l,0<=x/\x<256) then some ⟨(Ew l).toArray⟩ else none
def Kf (s:ByteArray):List Int:=s.data.toList.map fun b=>(b.toNat:Int)
def Cg {α:Type} (l:List α) (i:Int) (x:α):List α:=l.set i.toNat x
def E7 (k:IntKind) (a b:Int):Option Int:=if b=0 then none else some (k.wrap (a.tdiv b))
def Fx (a b:Int):Option Int:=if b=0 then none else some (a.tmod b)
def Agp (k:IntKind) (a b:Int):Option Int:=if 0<=b then some (k.wrap (a*2 ^ (min b.toNat k.bits))) else none
def S5 (k:IntKind) (a b:Int):Option Int:=if 0<=b then some (a.fdiv (2 ^ (min b.toNat k.bits))) else none
def Hb (s:ByteArray) (i:Int):Option UInt8:=if 0<=i then s[i.toNat]? else none
def Ef (a b:ByteArray):Option ByteArray:=if a.size+b.size<=9223372036854775807 then some (a++b) else none
def Et (s:ByteArray) (lo b:Int):Option ByteArray:=if 0<=lo/\lo<=b/\b<=s.size then some (s.extract lo.toNat b.toNat) else none
abbrev Ac (n:Int):Int:=IntKind.i64.wrap n
abbrev Au (n:Int):Int:=IntKind.u64.wrap n
abbrev Bx (n:Int):Int:=IntKind.u32.wrap n
abbrev wu8 (n:Int):Int:=IntKind.u8.wrap n
theorem Agq {α:Type} {l:List α} {i:Int} {x:α} (h:Ag l i=some x):∃n:Nat,i=n/\l[n]? = some x:=by
 unfold Ag at h
 split at h
 .exact ⟨i.toNat,by omega,h⟩
 .cases h
section
variable {β:Type} {r:β}
theorem Da {α:Type} {o:Option α} {m:α->Option β} {G:Prop} (h:o.bind m=some r) (k:∀x,o=some x->m x=some r->G):G:=by
 cases o with
 | none=>cases h
 | some x=>exact k x rfl h
theorem Agr {α:Type} {o:Option α} {m:α->Option β} {G:Prop} (h:o.bind m=some r) (k:∀x,o=some x->(∀y,y=x->m y=some r)->G):G:=by
 cases o with
 | none=>cases h
 | some x=>exact k x rfl (fun y hy=>by subst hy; exact h)
theorem Aqn {α:Type} {l:List α} {f:α->AV} {ys:List AV} (g:ys=l.map f) {i:Int} {m:α->Option β} {K:Nat->AV->Prop} (h:(Ag l i).bind m=some r) (k:∀(n:Nat) (x:α),i=n->l[n]? = some x->m x=some r->K n (f x)):Ss ys i K:=by
 subst g
 refine Da h fun x hx h=>?_
 obtain ⟨n,b,c⟩:=Agq hx
 exact .mk n (f x) b (by simp [c]) (k n x b c h)
theorem Aqo {α:Type} {l:List α} {f:α->AV} {ys:List AV} (q:ys=l.map f) {i:Int} {m:α->Option β} {K:Nat->Prop} {len b:Nat} (j:len=l.length) (hk:b=l.length) (h:(Ag l i).bind m=some r) (k:∀(n:Nat) (x:α),i=n->l[n]? = some x->m x=some r->K n):N1 len b ys i K:=by
 subst q
 refine Da h fun x hx h=>?_
 obtain ⟨n,c,g⟩:=Agq hx
 exact .mk n (by rw [hk]; simp) c (by rw [j]; exact (List.getElem?_eq_some_iff.1 g).1) (k n x c g h)
theorem Aqp {α:Type} {l:List α} {f:α->AV} {ys:List AV} (c:ys=l.map f) {i:Int} {m:α->Option β} {K:Nat->Prop} {off len b:Nat} (hk:b=l.length) (h:(H4 l off len i).bind m=some r) (k:∀(n:Nat) (x:α),i=n->l[off+n]? = some x->m x=some r->K n):N1 len b ys i K:=by
 subst c
 refine Da h fun x hx h=>?_
 unfold H4 at hx
 split at hx
 .rename_i hc
  exact .mk i.toNat (by rw [hk]; simp) (by omega) (by omega) (k _ x (by omega) hx h)
 .cases hx
theorem Aqq {α:Type} {l:List α} {f:α->AV} {ys:List AV} (g:ys=l.map f) {c n:Nat} (hk:c=l.length) {lo b:Int} {m:Nat×Nat->Option β} {K:Nat->Nat->Prop} {i:Prop} (h:(S3 n lo b).bind m=some r) (k:∀v:Nat×Nat,m v=some r->K v.1 v.2):Afv c ys n lo b K i:=by
 subst g
 refine Da h fun x hx h=>?_
 unfold S3 at hx
 split at hx
 .rename_i hc
  cases hx
  exact .mk lo.toNat b.toNat (by rw [hk]; simp) (by omega) (by omega) (by omega) (by omega) (by omega) (k _ h)
 .cases hx
theorem Ags {op:BinOp} {q:FloatKind} {a b:Nat} {m:Nat->Option β} {K:Nat->Prop} (h:(floatBits op q a b).bind m=some r) (k:∀c,m c=some r->K c):Wn op q a b K :=
 Da h fun x hx h=>.mk x hx (k x h)
theorem Agt {q:FloatKind} {a:Nat} {z:IntKind} {m:Int->Option β} {K:Int->Prop} (h:(floatToIntVal q a z).bind m=some r) (k:∀c,m c=some r->K c):Wo q a z K :=
 Da h fun x hx h=>.mk x hx (k x h)
theorem Aqr {α:Type} {l:List α} {f:α->AV} {ys:List AV} (g:ys=l.map f) {n i b:Nat} {x:α} {K:AV->Prop} (hk:b=l.length) (c:i=n) (hx:l[n]? = some x) (k:K (f x)):Jq b i ys K:=by
 subst g; subst c
 exact .mk (f x) (by rw [hk]; simp) (by simp [hx]) k
theorem Lt {α:Type} {l:List α} {f:α->AV} {ys:List AV} (c:ys=l.map f) {n i:Nat} {j:Int} {x:α} {p:AV} {K:List AV->Prop} (hp:p=f x) (b:i=n) (hj:j=(n:Int)) (k:K ((Cg l j x).map f)):Su ys i p K:=by
 subst c; subst b; subst hp; subst hj
 exact .mk _ (by simp [Cg,List.map_set]) k
theorem Gn {α:Type} {l:List α} {k:Nat} (h:k=l.length) (j:Int) (x:α):k=(Cg l j x).length:=by simp [Cg,h]
theorem Agu {α:Type} {l:List α} {f:α->AV} {ys:List AV} (g:ys=l.map f) {lo b:Int} {m:List α->Option β} {K:List AV->Prop} (h:(F8 l lo b).bind m=some r) (k:∀c:List α,m c=some r->K (c.map f)):N2 ys lo b K:=by
 subst g
 refine Da h fun x hx h=>?_
 unfold F8 at hx
 split at hx
 .rename_i hc
  cases hx
  exact .mk lo.toNat b.toNat _ (by omega) (by omega) (by omega) (by simp; omega) (by rw [<-List.map_take,<-List.map_drop]) (k _ h)
 .cases hx
theorem Aqs {α:Type} {l:List α} {f:α->AV} {ys:List AV} (c:ys=l.map f) {lo:Int} {m:List α->Option β} {K:List AV->Prop} (h:(F8 l lo l.length).bind m=some r) (k:∀b:List α,m b=some r->K (b.map f)):N2 ys lo ys.length K:=by
 have e:((ys.length:Nat):Int)=(l.length:Int):=by rw [c]; simp
 rw [e]
 exact Agu c h k
theorem Abh {α:Type} {l ys:List α} {f:α->AV} {xs c:List AV} (q:xs=l.map f) (i:c=ys.map f) {b g len:Nat} {m:List α->Option β} {K:List AV->Nat->Prop} {s:List AV->Nat->Nat->Prop} (hk:g=l.length) (j:len=l.length) (h:(Cf b l ys).bind m=some r)
  (k:∀o:List α,m o=some r->K (o.map f) o.length):K2 xs c g len b K s:=by
 subst q; subst i; subst hk; subst j
 refine Da h fun x hx h=>?_
 unfold Cf at hx
 split at hx
 .rename_i hc
  cases hx
  exact .mk _ _ (by simp) rfl (by simpa using hc) (by simp) (by simp) (k _ h)
 .cases hx
theorem Aqt {l:List Int} {s:ByteArray} {xs:List AV} (i:xs=l.map fun n=>.val (.int .u8 n)) {b c len:Nat} {m:List Int->Option β} {K:List AV->Nat->Prop} {j:List AV->Nat->Nat->Prop} (hk:c=l.length) (g:len=l.length) (h:(Cf b l (Kf s)).bind m=some r)
  (k:∀o:List Int,m o=some r->K (o.map fun n=>.val (.int .u8 n)) o.length):K2 xs (G8 s) c len b K j:=by
 refine Abh (f:=fun n=>.val (.int .u8 n)) i ?_ hk g h k
 simp [G8,Kf]
theorem Agv {α:Type} {ys:List α} {f:α->AV} {c:List AV} (g:c=ys.map f) {b:Nat} {m:List α->Option β} {K:List AV->Nat->Prop} (h:(Cf b [] ys).bind m=some r)
  (k:∀o:List α,m o=some r->K (o.map f) o.length):N3 c b K:=by
 subst g
 refine Da h fun x hx h=>?_
 unfold Cf at hx
 split at hx
 .rename_i hc
  cases hx
  exact .mk _ _ (by simpa using hc) (by simp) (by simp) (k _ h)
 .cases hx
theorem Aqu {α:Type} {g:List α->List AV} {f:α->AV} (s:∀l,g l=l.map f) {l ys:List α} {xs c:List AV} (u:xs=l.map f) (j:c=ys.map f) {b i len:Nat} {m:List α->Option β} {K:List AV->Nat->Prop} {x:List AV->Nat->Nat->Prop} (hk:i=l.length) (q:len=l.length) (h:(Cf b l ys).bind m=some r)
  (k:∀o:List α,m o=some r->K (g o) o.length):K2 xs c i len b K x :=
 Abh u j hk q h fun o h=>by rw [<-s]; exact k o h
theorem Aqv {α:Type} {g:List α->List AV} {f:α->AV} (j:∀l,g l=l.map f) {ys:List α} {c:List AV} (i:c=ys.map f) {b:Nat} {m:List α->Option β} {K:List AV->Nat->Prop} (h:(Cf b [] ys).bind m=some r)
  (k:∀o:List α,m o=some r->K (g o) o.length):N3 c b K :=
 Agv i h fun o h=>by rw [<-j]; exact k o h
theorem Aqw {α:Type} {z:α} {f:α->AV} {g:AV} (i:g=f z) {len c:Int} {b:Nat} {m:List α->Option β} {K:Nat->List AV->Prop} (h:(Eh b len c z).bind m=some r) (k:∀o:List α,m o=some r->K o.length (o.map f)):P6 len c b g K:=by
 subst i
 refine Da h fun x hx h=>?_
 unfold Eh at hx
 split at hx
 .rename_i hc
  cases hx
  exact .mk _ c.toNat _ (by simp; omega) (by omega) (by simp; omega) hc.2.2.1 (by omega) (by simp) (k _ h)
 .cases hx
theorem Qh {α:Type} {z:α} {f:α->AV} {g:AV} (i:E5 g.cells (f z).cells) {len c:Int} {b:Nat} {m:List α->Option β} {K:Nat->List AV->Prop} (h:(Eh b len c z).bind m=some r) (k:∀o:List α,m o=some r->K o.length (o.map f)):P6 len c b g K:=by
 refine Da h fun x hx h=>?_
 unfold Eh at hx
 split at hx
 .rename_i hc
  cases hx
  exact .mkN (f z) i _ c.toNat _ (by simp; omega) (by omega) (by simp; omega) hc.2.2.1 (by omega) (by simp) (k _ h)
 .cases hx
theorem Aqx {α:Type} {l:List α} {f:α->AV} {ys:List AV} (b:ys=l.map f) {K:Int->Prop} (k:K (l.length:Int)):Ka ys K:=by
 subst b; exact .mk _ (by simp) k
theorem Aqy {α:Type} {l:List α} {f:α->AV} {ys:List AV} (c:ys=l.map f) {b:Nat} (hk:b=l.length) {K:Prop} (k:K):Fm b ys K:=by
 subst c; exact .mk (by rw [hk]; simp) k
def Ei {α:Type} (l:List (ByteArray×α)) (s:ByteArray):Bool:=l.any fun p=>s==p.1
def Hc {α:Type} (l:List (ByteArray×α)) (s:ByteArray) (z:α):α:=((l.find? fun p=>s==p.1).map (·.2)).getD z
def Eu {α:Type}:List (ByteArray×α)->ByteArray->α->List (ByteArray×α)
 | [],s,v=>[(s,v)]
 | p::l,s,v=>bif s==p.1 then (s,v)::l else p::Eu l s v
def Bg {α:Type} (f:α->AV) (l:List (ByteArray×α)):List (AV×AV):=l.map fun p=>(.val (.string p.1),f p.2)
theorem Abi {α:Type} (f:α->AV) (s:ByteArray) (z:α):∀(l:List (ByteArray×α)) (i:Nat),
  (Ei l s=false/\G9 s (Bg f l) i=some none)\/(Ei l s=true/\∃j,G9 s (Bg f l) i=some (some (i+j,f (Hc l s z)))/\∀v,Bg f (Eu l s v)=(Bg f l).set j (.val (.string s),f v))
 | [],i=>.inl ⟨rfl,rfl⟩
 | p::l,i=>by
  cases hp:s==p.1 with
  | true=>
   refine .inr ⟨by simp [Ei,hp],0,?_,fun v=>?_⟩
   .simp [Bg,G9,Hc,hp]
   .simp [Bg,Eu,hp]
  | false=>
   rcases Abi f s z l (i+1) with ⟨h1,h2⟩ | ⟨h1,j,h2,h3⟩
   .refine .inl ⟨by simp only [Ei,List.any_cons,hp,Bool.false_or]; exact h1,?_⟩
    have:G9 s (Bg f (p::l)) i=G9 s (Bg f l) (i+1):=by simp [Bg,G9,hp]
    rw [this,h2]
   .refine .inr ⟨by simp only [Ei,List.any_cons,hp,Bool.false_or]; exact h1,j+1,?_,fun v=>?_⟩
    .have:G9 s (Bg f (p::l)) i=G9 s (Bg f l) (i+1):=by simp [Bg,G9,hp]
     have b:Hc (p::l) s z=Hc l s z:=by simp [Hc,hp]
     rw [this,h2,b]; congr 3; omega
    .have c:Bg f (Eu (p::l) s v)=(.val (.string p.1),f p.2)::Bg f (Eu l s v):=by simp [Bg,Eu,hp]
     rw [c,h3 v]; rfl
theorem Agw {α:Type} (f:α->AV) {s:ByteArray} {v:α}:∀{l:List (ByteArray×α)},Ei l s=false->Bg f (Eu l s v)=Bg f l++[(.val (.string s),f v)]
 | [],_=>rfl
 | p::l,h=>by
  simp only [Ei,List.any_cons,Bool.or_eq_false_iff] at h
  have:=Agw f (v:=v) (l:=l) h.2
  simp only [Eu,h.1,cond_false]
  simp only [Bg,List.map_cons,List.cons_append] at this ⊢
  rw [this]
theorem W4 {α:Type} {f:α->AV} {l:List (ByteArray×α)} {es:List (AV×AV)} (i:es=Bg f l) (z:α) {s:ByteArray} {m b:Option β} {K:Option (Nat×AV)->Prop} (h:(bif Ei l s then m else b)=some r)
  (g:∀j,Ei l s=true->m=some r->K (some (j,f (Hc l s z)))) (c:Ei l s=false->b=some r->K none):Afw s es K:=by
 subst i
 rcases Abi f s z l 0 with ⟨h1,h2⟩ | ⟨h1,j,h2,_⟩
 .rw [h1] at h; exact .mk _ h2 (c h1 h)
 .rw [h1] at h; exact .mk _ h2 (g _ h1 h)
theorem S6 {α:Type} {f:α->AV} {l:List (ByteArray×α)} {es:List (AV×AV)} (c:es=Bg f l) {s:ByteArray} {x:α} {v:AV} (b:v=f x) {K:List (AV×AV)->Prop} (k:K (Bg f (Eu l s x))):Afx s v es K:=by
 subst c; subst b
 refine .mk _ ?_ k
 unfold Wa
 rcases Abi f s x l 0 with ⟨h1,h2⟩ | ⟨h1,j,h2,h3⟩
 .rw [h2,Agw f h1]
 .rw [h2,h3 x]; simp
theorem S7 {k:IntKind} {a b:Int} {m:Int->Option β} {K:Int->Prop} (h:(E7 k a b).bind m=some r) (f:∀c:Int,m c=some r->K c):Wg k a b K:=by
 refine Da h fun x hx h=>?_
 unfold E7 at hx
 split at hx
 .cases hx
 .rename_i hb; cases hx; exact .mk _ hb rfl (f _ h)
theorem W5 {a b:Int} {m:Int->Option β} {K:Int->Prop} (h:(Fx a b).bind m=some r) (f:∀c:Int,m c=some r->K c):Wh a b K:=by
 refine Da h fun x hx h=>?_
 unfold Fx at hx
 split at hx
 .cases hx
 .rename_i hb; cases hx; exact .mk _ hb rfl (f _ h)
theorem Agx {k:IntKind} {a b:Int} {m:Int->Option β} {K:Int->Prop} (h:(Agp k a b).bind m=some r) (f:∀c:Int,m c=some r->K c):Wj k a b K:=by
 refine Da h fun x hx h=>?_
 unfold Agp at hx
 split at hx
 .rename_i hb; cases hx; exact .mk _ hb rfl (f _ h)
 .cases hx
theorem Agy {k:IntKind} {a b:Int} {m:Int->Option β} {K:Int->Prop} (h:(S5 k a b).bind m=some r) (f:∀c:Int,m c=some r->K c):Wi k a b K:=by
 refine Da h fun x hx h=>?_
 unfold S5 at hx
 split at hx
 .rename_i hb; cases hx; exact .mk _ hb rfl (f _ h)
 .cases hx
theorem S8 {s:ByteArray} {i:Int} {m:UInt8->Option β} {K:UInt8->Prop} (h:(Hb s i).bind m=some r) (b:∀c:UInt8,m c=some r->K c):Wl s i K:=by
 refine Da h fun x hx h=>?_
 unfold Hb at hx
 split at hx
 .exact .mk i.toNat x (by omega) hx (b _ h)
 .cases hx
theorem F3 {a b:ByteArray} {m:ByteArray->Option β} {K:Prop} (h:(Ef a b).bind m=some r) (k:m (a++b)=some r->K):Wm (a.size+b.size) K:=by
 refine Da h fun x hx h=>?_
 unfold Ef at hx
 split at hx
 .rename_i hc; cases hx; exact .mk hc (k h)
 .cases hx
theorem Abj {s:ByteArray} {lo b:Int} {m:ByteArray->Option β} {K:Nat->Nat->Prop} (h:(Et s lo b).bind m=some r) (k:∀l h',lo=((l:Nat):Int)->b=((h':Nat):Int)->m (s.extract l h')=some r->K l h'):Wk s.size lo b K:=by
 refine Da h fun x hx h=>?_
 unfold Et at hx
 split at hx
 .rename_i hc
  cases hx
  exact .mk lo.toNat b.toNat (by omega) (by omega) (by omega) (by omega) (k _ _ (by omega) (by omega) h)
 .cases hx
end
def W6 (Qn:Nat->Bi->Hp->Prop) (Qe:Nat->Nat->Bi->Hp->Prop) (Qr:Nat->Bi->Hp->Prop) (x:Ex) (n:Nat) (e:Bi) (H:Hp):Prop :=
 match x with
 | .normal=>Qn n e H
 | .exit i=>Qe i n e H
 | .ret=>Qr n e H
def wc (P:Program) (C:Cfg) (c:Code) (Qn:Nat->Bi->Hp->Prop) (Qe:Nat->Nat->Bi->Hp->Prop) (Qr:Nat->Bi->Hp->Prop) (n:Nat) (e:Bi) (H:Hp):Prop :=
 Ci P C.T->P.follows .mixedOrders=true->∀(F:Aq) (W:World) (σ:Aq) (ι:Bo) (a:Act) (w:World) (Q:Exit->Act->World->Prop),
  H3 a.tmps.size c=true->St σ ι H F W w->D0 σ ι H e a->D6 H n ->
  (∀x h e' H' f g b w',W6 Qn Qe Qr x h e' H'->Le σ ι H f g H'->St f g H' F W w'->D0 f g H' e' b->D6 H' h->n<=h->b.tmps.size=a.tmps.size->b.defers=a.defers->Eb (Ec c) a b->Q x.out b w')->c.wp P Q a w
section
variable {P:Program} {C:Cfg} {Qn:Nat->Bi->Hp->Prop} {Qe:Nat->Nat->Bi->Hp->Prop} {Qr:Nat->Bi->Hp->Prop} {n:Nat} {e:Bi} {H:Hp} {β:Type} {r:β}
theorem Abk {c:Code} (h:vc P C c (W6 Qn Qe Qr) n e H):wc P C c Qn Qe Qr n e H :=
 fun j g _ _ σ ι a w Q b s i f hk=>N5 j g c _ n e H σ ι a w Q b h s i f hk
theorem Il (k:Qn n e H):wc P C .skip Qn Qe Qr n e H:=Abk k
theorem Abl (k:Qr n e H):wc P C .ret Qn Qe Qr n e H:=Abk k
theorem F4 {id:Nat} (k:Qe id n e H):wc P C (.exit id) Qn Qe Qr n e H:=Abk k
theorem Agz {id:Nat} {ops:Array Oper} {b:Bool} (h:D8 (D2 P C.T C.an C.nl ops ops.toList n e H [] fun n e H acc=>bif b then Ke ops.toList acc (Qn n e H) else Qn n e H)):wc P C (.region id ops b) Qn Qe Qr n e H:=by
 intro Y S F W σ ι a w Q E s V M hk
 have q:=Le.refl σ ι H
 have s0:=s
 have z:=V
 have R:=M
 obtain ⟨L,e',H',accs,l,_,X,x,N,c⟩:=Abd Y ops.toList 0 n e H [] _ (by simp) rfl M h.1
 have u:=Agf E
 cases b with
 | false=>
  simp only [cond_false] at l
  refine wp_region ?_
  have:List.range ops.size=List.range' 0 ops.toList.length:=by rw [List.range_eq_range']; simp
  rw [this]
  refine c.wpOps s0 z u ?_
  intro B D J w' le s' g f j hu
  exact hk .normal L e' H' B D J w' l (q.trans le) s' g N x f j hu
 | true=>
  simp only [cond_true] at l
  obtain ⟨G,l⟩:=l
  refine wp_region_any S ?_
  have A:ops=ops.toList.toArray:=by simp
  rw [A]
  simp only [List.size_toArray]
  refine Aat (accs:=accs) (e':=e') (H':=H') G ops.toList.length _ (List.range' 0 ops.toList.length) e H σ ι a _ (by rw [<-A]; exact c) (List.pairwise_lt_range' ..) ?_ (by simp) ?_ (by simp) (s0.drew _) z (by rw [<-A]; exact u) ?_
  .intro i
   simp only [List.mem_range'_1,Array.getD_eq_getD_getElem?]
   constructor
   .rintro ⟨_,h2⟩
    refine ⟨by omega,?_⟩
    have:i<ops.size:=by simpa using h2
    simp [this]
   .rintro ⟨h1,_⟩; omega
  .intro k o U I
   exfalso
   simp only [Array.getD_eq_getD_getElem?] at I
   by_cases y:k<ops.size
   .simp [y] at I
   .simp [y] at I
  .intro B D J w' le s' g f j hu
   exact hk .normal L e' H' B D J w' l (q.trans le) s' g N x f j (by rw [<-A] at hu; exact hu)
theorem Ag0 {id:Nat} {os:List Oper} (k:D8 (D2 P C.T C.an C.nl os.toArray os n e H [] fun n e H acc=>Ke os acc (Qn n e H))):wc P C (.region id os.toArray true) Qn Qe Qr n e H:=Agz k
theorem Ca {id:Nat} {os:List Oper} (k:D8 (D2 P C.T C.an C.nl os.toArray os n e H [] fun n e H _=>Qn n e H)):wc P C (.region id os.toArray false) Qn Qe Qr n e H:=Agz k
theorem D3 {c:Code} (z:List Gh) (k:gxs z n e H fun n e H=>D8 (wc P C c Qn Qe Qr n e H)):wc P C c Qn Qe Qr n e H:=by
 intro S M F W σ ι a w Q h s R L hk
 obtain ⟨A,D,V,X,Y,J,b,G,l,i,N⟩:=Qg z k s R L
 exact J.1 S M F W A D a w Q h G l i fun x I e' H' B E U w' hq f s' q j y g u hu=>
  hk x I e' H' B E U w' hq (b.trans f) s' q j (by omega) g u hu
theorem Ax {V U:Code} (k:wc P C V (fun n e H=>wc P C U Qn Qe Qr n e H) Qe Qr n e H):wc P C (.seq V U) Qn Qe Qr n e H:=by
 intro R M F W σ ι a w Q f s he hn hk
 simp only [H3,Bool.and_eq_true] at f
 refine wp_seq (k R M F W σ ι a w _ f.1 s he hn ?_)
 intro x L S X y z a1 A hq c B i g q b j hu
 cases x with
 | normal=>
  refine hq R M F W y z a1 A Q (by rw [b]; exact f.2) B i g ?_
  intro x n2 e2 H2 Y Z a2 w2 G D s2 J I N l u E
  exact hk x n2 e2 H2 Y Z a2 w2 G (c.trans D) s2 J I (by omega) (l.trans b) (u.trans j) ((hu.mono (by simp [Ec]; exact fun s h=>.inl h)).trans (E.mono (by simp [Ec]; exact fun s h=>.inr h)))
 | exit id=>exact hk (.exit id) L S X y z a1 A hq c B i g q b j (hu.mono (by simp [Ec]; exact fun s h=>.inl h))
 | ret=>exact hk .ret L S X y z a1 A hq c B i g q b j (hu.mono (by simp [Ec]; exact fun s h=>.inl h))
theorem Abm {l:Nat} (k:Qn n e H):wc P C (.label l) Qn Qe Qr n e H:=by
 intro h g F W σ ι a w Q b s f c hk
 exact wp_label (hk .normal n e H σ ι a w k (Le.refl _ _ _) s f c (Nat.le_refl _) rfl rfl (Eb.refl _ _))
theorem Abn {c:Code} (k:wc P C c Qn Qe Qr n e H):wc P C (.scope c) Qn Qe Qr n e H:=by
 intro G D F W σ ι a w Q g s E B hk
 refine wp_scope_straight (k G D F W σ ι a w _ g s E B ?_)
 intro x A I J q u a1 y hq b z j h i f l hu
 have:=hk x A I J q u a1 y hq b z j h i f l hu
 cases x <;> exact this
theorem Kg {id:Nat} {c:Code} (k:wc P C c Qn (fun i n e H=>bif Nat.beq i id then Qn n e H else Qe i n e H) Qr n e H):wc P C (.block id c) Qn Qe Qr n e H:=by
 intro M J F W σ ι a w Q E s L I hk
 refine wp_block (k M J F W σ ι a w _ E s L I ?_)
 intro x A B D q u a1 y hq b z j g h f l hu
 cases x with
 | normal=>exact hk .normal A B D q u a1 y hq b z j g h f l hu
 | exit i=>
  simp only [Ex.out,Exit.inBlock]
  by_cases G:i=id
  .subst G
   rw [if_pos rfl]
   have:Nat.beq i i=true:=Nat.beq_refl i
   simp only [W6,this,cond_true] at hq
   exact hk .normal A B D q u a1 y hq b z j g h f l hu
  .rw [if_neg G]
   have:Nat.beq i id=false:=by
    cases hb:Nat.beq i id
    .rfl
    .exact (G (Nat.eq_of_beq_eq_true hb)).elim
   simp only [W6,this,cond_false] at hq
   exact hk (.exit i) A B D q u a1 y hq b z j g h f l hu
 | ret=>exact hk .ret A B D q u a1 y hq b z j g h f l hu
theorem Ag1 {x:Operand} {σ:Aq} {ι:Bo} {a:Act} {t:Bool} (b:Agb a.tmps.size x=true) (c:D0 σ ι H e a) (hx:ev e x = .val (.bool t)):a.eval x = .bool t:=by
 have hc:=c.eval (x:=x) (fun t ht=>by
  cases x with
  | tmp q=>cases ht; exact Fu b
  | _=>cases ht)
 rw [hx] at hc
 exact hc.val_inv
theorem W7 {x:Operand} {u L:Code} (k:wc P C u Qn Qe Qr n e H) (hx:ev e x = .val (.bool true):=by exact rfl):wc P C (.cond x u L) Qn Qe Qr n e H:=by
 intro I G F W σ ι a w Q b s q E hk
 simp only [H3,Bool.and_eq_true] at b
 refine wp_cond_true (Ag1 b.1.1 q hx) (k I G F W σ ι a w Q b.1.2 s q E ?_)
 intro x D J M y z a1 A hq c B j g i f l hu
 exact hk x D J M y z a1 A hq c B j g i f l (hu.mono (by simp [Ec]; exact fun s h=>.inl h))
theorem Qi {x:Operand} {L u:Code} (k:wc P C u Qn Qe Qr n e H) (hx:ev e x = .val (.bool false):=by exact rfl):wc P C (.cond x L u) Qn Qe Qr n e H:=by
 intro I G F W σ ι a w Q b s q E hk
 simp only [H3,Bool.and_eq_true] at b
 refine wp_cond_false (Ag1 b.1.1 q hx) (k I G F W σ ι a w Q b.2 s q E ?_)
 intro x D J M y z a1 A hq c B j g i f l hu
 exact hk x D J M y z a1 A hq c B j g i f l (hu.mono (by simp [Ec]; exact fun s h=>.inr h))
theorem Ao {c:Operand} {a b:Code} {t:Bool} {m f:Option β} (h:(bif t then m else f)=some r) (h1:t=true->m=some r->wc P C a Qn Qe Qr n e H) (h2:t=false->f=some r->wc P C b Qn Qe Qr n e H) (hx:ev e c = .val (.bool t):=by exact rfl):wc P C (.cond c a b) Qn Qe Qr n e H:=by
 cases t with
 | true=>exact W7 (h1 rfl h) hx
 | false=>exact Qi (h2 rfl h) hx
theorem Ag2 {X:List Nat} {l:List (Nat×AV)} {h:List (Nat×Be)} {F σ z:Aq} {W w Y:World} {ι I:Bo} {a a1:Act} {G:Hp} {e1:Bi} (hb:Jc n l h=true) (hn:D6 H n) (s:St σ ι H F W w) (he:D0 σ ι H e a)
  (M:Fv e1 l) (R:Fw G (B6 H h) n n) (L:Le σ ι H z I G) (i:St z I G F W Y) (a8:D0 z I G e1 a1) (aa:a1.tmps.size=a.tmps.size) (a7:Eb X a a1) :
  ∃A,Le σ ι H z A (B6 H h)/\St z A (B6 H h) F W Y/\D0 z A (B6 H h) (Ik X e (fun s=>a1.tmps.getD s undef) l) a1/\D6 (B6 H h) n:=by
 have Z:∀x,n<=x->ι x = .none:=by
  intro x hx
  have:=s.obj x; unfold B9 at this; rw [hn x hx] at this; exact this
 have D:∀p∈h,p.1<n:=by
  intro p hp
  unfold Jc at hb
  rw [Bool.and_eq_true,List.all_eq_true,List.all_eq_true] at hb
  exact Fu (hb.2 p hp)
 have N:∀p∈l,p.2.under n=true:=by
  intro p hp
  unfold Jc at hb
  rw [Bool.and_eq_true,List.all_eq_true,List.all_eq_true] at hb
  exact hb.1 p hp
 have u:D6 (B6 H h) n:=by
  intro x hx
  rw [P4 (fun p hp e=>by have:=D p hp; omega)]; exact hn x hx
 let A:Bo:=fun x=>if x<n then I x else .none
 have c:∀x,x<n->A x=I x:=fun x hx=>if_pos hx
 have f:∀x,x<n->B6 H h x=G x:=fun x hx=>((R.spec) x hx).1.symm
 have J:Le σ ι H z A (B6 H h):=by
  refine ⟨L.sto,fun x=>?_⟩
  by_cases hx:x<n
  .rw [c x hx,f x hx]; exact L.obj x
  .rw [Z x (by omega),hn x (by omega)]; exact HLe.of_none
 have s2:St z A (B6 H h) F W Y:=by
  refine ⟨i.sto,i.fra,fun x=>?_,?_,i.os,i.tape,i.output,i.glo,i.drw⟩
  .by_cases hx:x<n
   .have k:=i.obj x
    have B:=((R.spec) x hx).2
    unfold B9 at k ⊢
    rw [f x hx] at B ⊢
    rw [c x hx]
    cases j:G x with
    | none=>rw [j] at k; exact k
    | dead=>trivial
    | cells E cs=>
     rw [j] at k B
     obtain ⟨b,Cc,g1,g2,g3,g4,g5,g6⟩:=k
     refine ⟨b,Cc,g1,g2,g3,g4,g5,fun q cq v hq a6=>(g6 q cq v hq a6).restrict c f ?_⟩
     have:=List.all_eq_true.1 B cq (List.mem_of_getElem? hq)
     exact Aa4 this
    | rows E sz xs=>rw [j] at k; exact k
    | map es=>rw [j] at k; exact k
   .unfold B9
    rw [u x (by omega)]
    exact if_neg hx
  .intro x y b V U bx S
   have hx:x<n:=by
    rcases Nat.lt_or_ge x n with hx | hx
    .exact hx
    .rw [u x hx] at V; cases V
   have hy:y<n:=by
    rcases Nat.lt_or_ge y n with hy | hy
    .exact hy
    .rw [u y hy] at U; cases U
   rw [f x hx] at V; rw [f y hy] at U
   rw [c x hx] at bx; rw [c y hy] at S
   exact i.inj x y b V U bx S
 refine ⟨A,J,s2,?_,u⟩
 intro q hq
 rcases Agd X e (fun s=>a1.tmps.getD s undef) l q with ⟨p,hp,rfl,g⟩ | ⟨hw,g⟩ | ⟨hw,g⟩
 .rw [g,<-M.spec p hp]
  refine (a8 p.1 hq).restrict c f ?_
  rw [M.spec p hp]; exact N p hp
 .rw [g]; exact .of_val _
 .rw [g,a7 q hw]; exact (he q (by omega)).mono J
theorem Ag3 {S E:Type} {step:S->Option (S⊕E)} {s0:S} {J:E->Option β} {b:Code} (h:(Al step s0).bind J=some r)
  (M:S->List (Nat×AV)) (B:S->List (Nat×Be)) (j:S->Prop) (hb:∀s,Jc n (M s) (B s)=true) (hs:Fv e (M s0)) (hh:Fw H (B6 H (B s0)) n n) (h0:j s0)
  (a8:∀(s:S) (u:Nat->Value) (K:Nat->Bi->Hp->Prop) (o:S⊕E),step s=some o->(∀x,.inr x=o->J x=some r)->(∀s' n' e' H',.inl s'=o->Fv e' (M s')->Fw H' (B6 H (B s')) n n->j s'->K n' e' H')->j s ->
   wc P C b K Qe Qr n (Ik (Ec b) e u (M s)) (B6 H (B s))):wc P C (.loop b) Qn Qe Qr n e H:=by
 intro hT hm F W σ ι a w Q aa s he hn hk
 refine Da h fun x hx h=>?_
 obtain ⟨N,hN⟩:=Abf hx
 let J':Nat->Act->World->Prop:=fun k a' w'=>∃i σ' ι',(Gz step k i=some x/\j i)/\Le σ ι H σ' ι' (B6 H (B i))/\St σ' ι' (B6 H (B i)) F W w' /\
   D0 σ' ι' (B6 H (B i)) (Ik (Ec b) e (fun s=>a'.tmps.getD s undef) (M i)) a'/\a'.tmps.size=a.tmps.size/\a'.defers=a.defers/\Eb (Ec b) a a'
 have g:∀(k:Nat) (i:S) (I:Aq) (Z:Bo) (H1:Hp) (e1:Bi) (a1:Act) (w1:World),(Gz step k i=some x/\j i)->Fv e1 (M i)->Fw H1 (B6 H (B i)) n n->Le σ ι H I Z H1->St I Z H1 F W w1->D0 I Z H1 e1 a1->a1.tmps.size=a.tmps.size ->
    a1.defers=a.defers->Eb (Ec b) a a1->J' k a1 w1:=by
  intro k i I Z H1 e1 a1 w1 D ab ad q s1 X c f l
  obtain ⟨ι2,g1,g2,g3,_⟩:=Ag2 (hb i) hn s he ab ad q s1 X c l
  exact ⟨i,I,ι2,D,g1,g2,g3,c,f,l⟩
 refine Agc J' N (g N s0 σ ι H e a w ⟨hN,h0⟩ hs hh (Le.refl _ _ _) s he rfl rfl (Eb.refl _ _)) ?_
 rintro k a1 w1 ⟨i,I,Z,⟨D,a7⟩,q,s1,X,c,f,l⟩
 have af:D6 (B6 H (B i)) n:=by
  intro y hy
  have Y:=hb i
  unfold Jc at Y
  rw [Bool.and_eq_true,List.all_eq_true,List.all_eq_true] at Y
  rw [P4 (fun p hp e=>by have:=Fu (Y.2 p hp); omega)]; exact hn y hy
 cases k with
 | zero=>cases D
 | succ k=>
  simp only [Gz] at D
  cases ho:step i with
  | none=>rw [ho] at D; cases D
  | some o=>
   rw [ho] at D
   refine a8 i (fun s=>a1.tmps.getD s undef) (fun _ e' H'=>∃s',(Gz step k s'=some x/\j s')/\Fv e' (M s')/\Fw H' (B6 H (B s')) n n) o ho ?_ ?_ a7 hT hm F W I Z a1 w1 _ (by rw [c]; exact aa) s1 X af ?_
   .intro y hy; subst hy
    simp only [Option.some.injEq] at D
    rw [D]; exact h
   .intro s' n' e' H' U h1 h2 h3
    subst U
    exact ⟨s',⟨D,h3⟩,h1,h2⟩
   .intro x n2 e2 H2 σ2 ι2 a2 w2 hq L s2 V a6 G z A R
    cases x with
    | normal=>
     obtain ⟨i',ac,U,ae⟩:=hq
     exact ⟨k,by omega,g k i' σ2 ι2 H2 e2 a2 w2 ac U ae (q.trans L) s2 V (z.trans c) (A.trans f) (l.trans R)⟩
    | exit id=>exact hk (.exit id) n2 e2 H2 σ2 ι2 a2 w2 hq (q.trans L) s2 V a6 G (z.trans c) (A.trans f) (l.trans R)
    | ret=>exact hk .ret n2 e2 H2 σ2 ι2 a2 w2 hq (q.trans L) s2 V a6 G (z.trans c) (A.trans f) (l.trans R)
theorem Qj {S:Type} {c:Code} (J:S->Prop) (l:S->List (Nat×AV)) (q:S->List (Nat×Be)) (hb:∀s,Jc n (l s) (q s)=true)
  (Y:∀(K:Nat->Bi->Hp->Prop),(∀s V e' H',J s->Fv e' (l s)->Fw H' (B6 H (q s)) n n->K V e' H')->wc P C c K Qe Qr n e H)
  (X:∀(s:S) (u:Nat->Value),J s->Qn n (Ik (Ec c) e u (l s)) (B6 H (q s))):wc P C c Qn Qe Qr n e H:=by
 intro hT Z F W σ ι a w Q B s M L hk
 refine Y (fun _ e' H'=>∃s,J s/\Fv e' (l s)/\Fw H' (B6 H (q s)) n n) (fun s _ _ _ h1 h2 h3=>⟨s,h1,h2,h3⟩) hT Z F W σ ι a w _ B s M L ?_
 intro x I N R y G a1 z hq f A g j k b h hu
 cases x with
 | normal=>
  obtain ⟨i,hi,D,E⟩:=hq
  obtain ⟨U,g1,g2,g3,g4⟩:=Ag2 (hb i) L s M D E f A g b hu
  exact hk .normal n _ _ y U a1 z (X i (fun s=>a1.tmps.getD s undef) hi) g1 g2 g3 g4 (Nat.le_refl _) b h hu
 | exit id=>exact hk (.exit id) I N R y G a1 z hq f A g j k b h hu
 | ret=>exact hk .ret I N R y G a1 z hq f A g j k b h hu
theorem Aqz (E:Ci P C.T) (L:P.follows .mixedOrders=true) {f:FuncId} {fn:Func} {c:Code} {args:List AV} {r:AV} (D:P.funcs[f]? = some fn) (hb:fn.body=some c) (g:(fn.name == "runtime.NumGoroutine")=false)
  (b:Qd fn c args.length=true) (h:r.free=true) (J:wc P C c (fun _ e H=>N6 C.T fn.results.toList (· = r) e H) (fun _ _ _ _=>False) (fun _ e H=>N6 C.T fn.results.toList (· = r) e H) 0 (Qc args) H0):Aw P f args r:=by
 unfold Qd at b
 simp only [Bool.and_eq_true] at b
 obtain ⟨⟨u,y⟩,G⟩:=b
 have G:=Nat.le_of_ble_eq_true G
 refine ⟨⟨fn,D,g,by rw [hb]; rfl⟩,fun σ F W w vs s hc=>?_⟩
 have j:(vs++Array.replicate (fn.ntmps-vs.size) undef).size=fn.ntmps:=by
  have:=hc.1
  simp; omega
 refine calls_of_wp D hb (J E L F W σ ι0 _ w _ (by rw [j]; exact u) s (Agl hc) (fun _ _=>rfl) ?_)
 intro x V e' H' R S B w' hq le s' z _ _ i A _
 have k:∀q∈fn.results.toList,N7 q<B.tmps.size:=by
  intro q hq'
  rw [i]
  have:=Fu (List.all_eq_true.1 y q hq')
  rw [j]; exact this
 have fin:N6 C.T fn.results.toList (· = r) e' H'->B.defers = []/\∃v,(results fn B.tmps).run P w' = .ok v w'/\∃v0 l,Ending.returned v = .returned v0/\σ.le l/\St l ι0 H0 F W w'/\Conc l ι0 H0 r v0:=by
  intro hq
  obtain ⟨v,I,X,U,h1,h2,h3,N,M⟩:=Aqh E s' z k hq
  subst h2
  exact ⟨A,v,h1,v,I,rfl,Aq.le_trans le.sto h3.sto,N.forget,M.to0 h⟩
 cases x with
 | normal=>exact fin hq
 | ret=>exact fin hq
 | exit id=>exact hq.elim
theorem Aq0 (fz:Bool) (X:Ci P C.T) (hm:P.follows .mixedOrders=true) {f:FuncId} {fn:Func} {c:Code} {args:List AV} {r:AV} {B b:List Be} (V:P.funcs[f]? = some fn) (hb:fn.body=some c) (l:(fn.name == "runtime.NumGoroutine")=false)
  (j:Qd fn c args.length=true) (g:Abc B r b=true) (hv:wc P C c (fun _ e H=>N9 C.T fz fn.results.toList r b e H) (fun _ _ _ _=>False) (fun _ e H=>N9 C.T fz fn.results.toList r b e H) B.length (Qc args) (hp B)):Br P f args B r b:=by
 unfold Qd at j
 unfold Abc at g
 simp only [Bool.and_eq_true] at j g
 obtain ⟨⟨I,L⟩,Y⟩:=j
 obtain ⟨⟨E,J⟩,N⟩:=g
 have E:=Nat.le_of_ble_eq_true E
 have Y:=Nat.le_of_ble_eq_true Y
 refine ⟨⟨fn,V,l,by rw [hb]; rfl⟩,fun σ F W w ι vs s hc=>?_⟩
 have A:(vs++Array.replicate (fn.ntmps-vs.size) undef).size=fn.ntmps:=by
  have:=hc.1
  simp; omega
 refine calls_of_wp V hb (hv X hm F W σ ι _ w _ (by rw [A]; exact I) s (Agl hc) (fun _ h=>Mq h) ?_)
 intro x n' e' H' σ' ι' U w' hq le s' R _ _ z S _
 have D:∀q∈fn.results.toList,N7 q<U.tmps.size:=by
  intro q hq'
  rw [z]
  have:=Fu (List.all_eq_true.1 L q hq')
  rw [A]; exact this
 have fin:N9 C.T fz fn.results.toList r b e' H'->U.defers = []/\∃v,(results fn U.tmps).run P w' = .ok v w'/\∃v0 G ι0,Ending.returned v = .returned v0/\Le σ ι (hp B) G ι0 (hp b)/\St G ι0 (hp b) F W w'/\Conc G ι0 (hp b) r v0:=by
  intro hq
  obtain ⟨v,Z,H2,h1,h2,h3,h4,h5⟩:=Aqi X s' R D hq
  have u:∀i,i<b.length->H2 i=hp b i:=fun i hi=>by simpa using h2.spec i hi
  refine ⟨S,v,h1,v,Z,(fun k=>if k<b.length then ι' k else .none),rfl,?_,h4.first b u N,?_⟩
  .have y:=le.trans h3
   refine ⟨y.sto,fun k=>?_⟩
   by_cases hk:k<b.length
   .rw [if_pos hk,<-u k hk]; exact y.obj k
   .rw [if_neg hk,Mq (by omega),Mq (by omega)]
    have:ι k = .none:=by have:=s.obj k; unfold B9 at this; rw [Mq (by omega)] at this; exact this
    rw [this]; exact HLe.refl _ _
  .exact h5.restrict (n:=b.length) (fun h M=>if_pos M) (fun h M=>(u h M).symm) J
 cases x with
 | normal=>exact fin hq
 | ret=>exact fin hq
 | exit id=>exact hq.elim
end
end Go.Ab
namespace Go.Ab
theorem Ag4 {id:Nat}:∀{k b:List Item},exitTo id k=some b->b.length<k.length
 | [],b,h=>by cases h
 | x::k,b,h=>by
  have ih:exitTo id k=some b->b.length<(x::k).length:=fun h=>Nat.lt_succ_of_lt (Ag4 h)
  unfold exitTo at h
  split at h
  .rename_i c k0 heq
   cases heq
   split at h
   .cases h; simp
   .exact ih h
  .rename_i f k0 _ heq
   cases heq; exact ih h
  .rename_i heq; cases heq
theorem Abo {P:Program} {m f c:Machine} (h:step P m = .next f) (h':Steps P m c):c=m\/Steps P f c:=by
 obtain ⟨n,b⟩:=h'
 cases n with
 | zero=>left; simp only [runN,Stepped.next.injEq] at b; exact b.symm
 | succ n=>right; simp only [runN,h] at b; exact ⟨n,b⟩
theorem Ag5 {b:Frame} {a f:Act} {k c:List Item} {cs:List Frame} {w w':World} (h:lone (b.at a k) cs w=lone (b.at f c) cs w'):k=c:=by
 simp only [lone,Machine.mk.injEq,Array.mk.injEq,List.cons.injEq,Goroutine.mk.injEq,Frame.at,Frame.mk.injEq] at h
 exact h.2.1.1.1.2.2.1
def Aq1:Exit->Bool
 | .normal | .exit _ | .ret=>true
 | _=>false
theorem Aq2 {P:Program} {Q:Exit->Act->World->Prop} {a:Act} {w:World} {c:Code} (h:c.wp P (Exit.then (fun D w'=>(Code.loop c).wp P (fun e a w=>Aq1 e=true/\Q e a w) D w') Q) a w):(Code.loop c).wp P Q a w:=by
 intro b k cs
 obtain ⟨e,a1,i,hq,f⟩:=h b (.inLoop c::k) cs
 have first:Steps P (lone (b.at a (.code (.loop c)::k)) cs w) (lone (b.at a (.code c :: .inLoop c::k)) cs w):=.one step_loop
 cases e with
 | normal=>
  obtain ⟨u,a2,y,⟨s,q⟩,g⟩:=hq b k cs
  have j:Steps P (lone (b.at a (.code (.loop c)::k)) cs w) (lone (b.at a1 (.code c :: .inLoop c::k)) cs i):=first.trans (Steps.trans f (.one step_inLoop))
  refine ⟨u,a2,y,q,.of_steps j ?_⟩
  cases u with
  | normal=>
   rcases Abo step_loop g with e | e
   .have:=congrArg List.length (Ag5 e); simp at this
   .exact e
  | exit id=>
   intro z hk
   rcases Abo step_loop (g z hk) with e | e
   .have h1:=Ag4 hk
    have h2:=congrArg List.length (Ag5 e); simp at h2; omega
   .exact e
  | ret=>
   obtain ⟨todo,A⟩:=g
   rcases Abo step_loop A with e | e
   .simp only [lone,Machine.mk.injEq,Array.mk.injEq,List.cons.injEq,Goroutine.mk.injEq,Frame.at,Frame.mk.injEq] at e
    simp at e
   .exact ⟨todo,e⟩
  | goto l=>cases s
  | panic B=>cases s
  | outgrown=>cases s
 | exit id=>exact ⟨_,a1,i,hq,.of_steps first (.pass (x:=.inLoop c) rfl (fun _ _=>.inl (by simp)) f)⟩
 | goto l=>exact ⟨_,a1,i,hq,.of_steps first (.pass (x:=.inLoop c) rfl (fun _ _=>.inl (by simp)) f)⟩
 | ret=>exact ⟨_,a1,i,hq,.of_steps first (.pass (x:=.inLoop c) rfl (fun _ _=>.inl (by simp)) f)⟩
 | panic B=>exact ⟨_,a1,i,hq,.of_steps first (.pass (x:=.inLoop c) rfl (fun _ _=>.inl (by simp)) f)⟩
 | outgrown=>exact ⟨_,a1,i,hq,.of_steps (b:=b) (k:=k) (cs:=cs) (e:=.outgrown) first (.pass (x:=.inLoop c) rfl (fun _ _=>.inl (by simp)) f)⟩
section
variable {P:Program} {C:Cfg} {Qn:Nat->Bi->Hp->Prop} {Qe:Nat->Nat->Bi->Hp->Prop} {Qr:Nat->Bi->Hp->Prop} {n:Nat} {e:Bi} {H:Hp}
theorem W8 {c:Code} (k:wc P C c (fun n e H=>wc P C (.loop c) Qn Qe Qr n e H) Qe Qr n e H):wc P C (.loop c) Qn Qe Qr n e H:=by
 intro R M F W σ ι a w Q l s he hn hk
 refine Aq2 (k R M F W σ ι a w _ l s he hn ?_)
 intro x L S U y z a1 A hq f B h g q b i hu
 cases x with
 | normal=>
  refine hq R M F W y z a1 A _ (by rw [b]; exact l) B h g ?_
  intro x n2 e2 H2 V X a2 Y G D Z J I N j u E
  exact ⟨by cases x <;> rfl,hk x n2 e2 H2 V X a2 Y G (f.trans D) Z J I (by omega) (j.trans b) (u.trans i) (hu.trans E)⟩
 | exit id=>exact hk (.exit id) L S U y z a1 A hq f B h g q b i hu
 | ret=>exact hk .ret L S U y z a1 A hq f B h g q b i hu
def Vw (x:AV) (v:Value):Prop:=∀sz xs,x = .sl sz xs->∃p c,v = .slice p xs.length c/\(p=none->xs = [])
theorem W9 {c:Code} (s:Nat) (k:∀v,Vw (e s) v->wc P C c Qn Qe Qr n (Ay e s (.val v)) H):wc P C c Qn Qe Qr n e H:=by
 intro A z F W σ ι a w Q f x u y hk
 by_cases B:s<a.tmps.size
 .have hc:=u s B
  refine k (a.tmps.getD s undef) ?_ A z F W σ ι a w Q f x ?_ y hk
  .intro sz xs hx
   rw [hx] at hc
   rcases hc.sl_inv.sl_inv with ⟨rfl,p,cap,e⟩ | ⟨b,off,cap,C,E,fr,g,e,_⟩
   .exact ⟨p,cap,e,fun _=>rfl⟩
   .exact ⟨_,cap,e,fun h=>by cases h⟩
  .intro q hq
   by_cases h:q=s
   .subst h; rw [B7]; exact .of_val _
   .rw [C3 _ _ h]; exact u q hq
 .have l:∃v,Vw (e s) v:=by
   cases hx:e s with
   | sl sz xs=>exact ⟨.slice (some ⟨0,0,none⟩) xs.length 0,fun j i h=>by cases h; exact ⟨_,_,rfl,fun h=>by cases h⟩⟩
   | _=>exact ⟨undef,fun j i h=>by cases h⟩
  obtain ⟨v,l⟩:=l
  refine k v l A z F W σ ι a w Q f x ?_ y hk
  intro q hq
  rw [C3 _ _ (by omega)]; exact u q hq
end
end Go.Ab
namespace Go.Ab
structure Mx {α:Type} (cf:α->α->Int):Prop where
 irr:∀x,¬cf x x<0
 trs:∀x y z,cf x y<0->cf y z<0->cf x z<0
 ntr:∀x y z,¬cf x y<0->¬cf y z<0->¬cf x z<0
def S9 {α:Type} (cmp:α->α->Option Int) (l r:List α):Prop :=
 ∃cf:α->α->Int,Mx cf/\(∀x∈l,∀y∈l,cmp x y=some (cf x y))/\r.Perm l/\r.Pairwise (fun x y=>cf x y<0)
open Classical in
noncomputable def Lu {α:Type} (cmp:α->α->Option Int) (l:List α):Option (List α) :=
 if h:∃r,S9 cmp l r then some (Classical.choose h) else none
theorem Aq3 {α:Type} {cmp:α->α->Option Int} {l r:List α} (h:Lu cmp l=some r):S9 cmp l r:=by
 unfold Lu at h
 split at h
 .rename_i k
  cases h; exact Classical.choose_spec k
 .cases h
theorem Aq4 {α:Type} {cmp:α->α->Option Int} {l r:List α} (h:S9 cmp l r):∃b,Lu cmp l=some b/\S9 cmp l b:=by
 unfold Lu
 rw [dif_pos ⟨r,h⟩]
 exact ⟨_,rfl,Classical.choose_spec (⟨r,h⟩:∃r,S9 cmp l r)⟩
def Lv {α:Type} (n:Nat) (a:List α):Option (List α×List α):=(Cf n [] a).bind fun o=>some ([],o)
def K5 {α:Type} (n:Int):Option (List α):=bif decide (0<=n)&&decide (n<=1000000) then some [] else none
end Go.Ab
