/- Plain laws: what the plain functions answer. -/
import Derived.Test.YtenghgogpgldaaaGreatDoorPmAb
namespace Go.Ab
def H0:Hp:=fun _=>.none
def ι0:Bl:=fun _=>.none
def Aa1 (P:Program) (f:FuncId):Prop:=∃fn,P.funcs[f]? = some fn/\(fn.name == "runtime.NumGoroutine")=false/\fn.body.isNone=false
def Kb (σ:Aw) (ι:Bl) (H:Hp) (args:List AV) (vs:Array Value):Prop :=
 vs.size=args.length/\∀(i:Nat) (a:AV) (v:Value),args[i]? = some a->vs[i]? = some v->Conc σ ι H a v
def As (P:Program) (f:FuncId) (args:List AV) (r:AV):Prop :=
 Aa1 P f/\∀(σ F:Aw) (W w:World) (vs:Array Value),St σ ι0 H0 F W w->Kb σ ι0 H0 args vs ->
  Calls P f vs w fun e w'=>∃v b,e = .returned v/\σ.le b/\St b ι0 H0 F W w'/\Conc b ι0 H0 r v
def AV.under0 (n:Nat):AV->Bool
 | .loc h _ | .mp h=>Nat.blt h n
 | .arr h _ _ _ | .el h _ _ _=>Nat.blt h n
 | .val _ | .sl _ _ | .ref _=>true
 | _=>false
def AV.under1 (n:Nat):AV->Bool
 | .loc h _ | .mp h=>Nat.blt h n
 | .arr h _ _ _ | .el h _ _ _=>Nat.blt h n
 | .val _ | .sl _ _ | .ref _=>true
 | .fn _ cs=>cs.all (AV.under0 n)
 | _=>false
def AV.under2 (n:Nat):AV->Bool
 | .agg cs=>cs.all (AV.under1 n)
 | x=>x.under1 n
def AV.under (n:Nat):AV->Bool
 | .agg cs | .fn _ cs=>cs.all (AV.under1 n)
 | .tup cs=>cs.all (AV.under2 n)
 | x=>x.under1 n
def Bb.under (n:Nat):Bb->Bool
 | .cells _ cs=>cs.all (AV.under1 n)
 | .map _=>true
 | .rows _ _ _=>true
 | .none=>true
 | .dead=>true
def Aa2 (es:Nat->Nat):AV->AV
 | .loc h off=>.loc (es h) off
 | .mp h=>.mp (es h)
 | .arr h k off len=>.arr (es h) k off len
 | .el h k i j=>.el (es h) k i j
 | x=>x
def Kz (es:Nat->Nat):AV->AV
 | .loc h off=>.loc (es h) off
 | .mp h=>.mp (es h)
 | .arr h k off len=>.arr (es h) k off len
 | .el h k i j=>.el (es h) k i j
 | .fn f cs=>.fn f (cs.map (Aa2 es))
 | x=>x
def Aa3 (es:Nat->Nat):AV->AV
 | .agg cs=>.agg (cs.map (Kz es))
 | x=>Kz es x
def ren (es:Nat->Nat):AV->AV
 | .agg cs=>.agg (cs.map (Kz es))
 | .tup cs=>.tup (cs.map (Aa3 es))
 | .fn f cs=>.fn f (cs.map (Kz es))
 | x=>Kz es x
def Gy (es:Nat->Nat):Bb->Bb
 | .cells E cs=>.cells E (cs.map (Kz es))
 | o=>o
def hp (b:List Bb):Hp:=fun k=>b.getD k .none
def Br (P:Program) (f:FuncId) (args:List AV) (h:List Bb) (r:AV) (b:List Bb):Prop :=
 Aa1 P f/\∀(σ F:Aw) (W w:World) (ι:Bl) (vs:Array Value),St σ ι (hp h) F W w->Kb σ ι (hp h) args vs ->
  Calls P f vs w fun e w'=>∃v c g,e = .returned v/\Le σ ι (hp h) c g (hp b)/\St c g (hp b) F W w'/\Conc c g (hp b) r v
def C4 (n:Nat):List Nat->Nat->Nat
 | [],k=>n+k
 | h::_,0=>h
 | _::l,k+1=>C4 n l k
def Lo (n:Nat):List Nat->Bool
 | []=>true
 | h::l=>Nat.blt h n && !(l.elem h)&&Lo n l
def wrs (es:Nat->Nat):Nat->List Bb->List (Nat×Bb)
 | _,[]=>[]
 | k,o::os=>(es k,Gy es o)::wrs es (k+1) os
def Bq (es:Nat->Nat):Nat->Nat->List (Nat×Bb)
 | _,0=>[]
 | k,c+1=>(es k,.none)::Bq es (k+1) c
def N7 (H:Hp):List (Nat×Bb)->Prop
 | []=>True
 | p::l=>H p.1=p.2/\N7 H l
def Qb (n:Nat) (l:List Nat) (c:List AV) (f:List Bb) (r:AV) (b:List Bb):Bool :=
 Lo n l&&Nat.beq f.length l.length&&Nat.ble l.length b.length&&c.all (AV.under l.length)&&f.all (Bb.under l.length)&&r.under b.length&&b.all (Bb.under b.length)
inductive Sq (xs:List AV) (i:Int) (K:Nat->AV->Prop):Prop where
 | mk (n:Nat) (x:AV) (hi:i=n) (hx:xs[n]? = some x) (k:K n x)
inductive N8 (len:Nat) (kk:Nat) (xs:List AV) (i:Int) (K:Nat->Prop):Prop where
 | mk (n:Nat) (hk:xs.length=kk) (hi:i=n) (hn:n<len) (k:K n)
inductive F9 (k:IntKind) (n:Int) (K:Int->Prop):Prop where
 | mk (c:Int) (h:k.wrap n=c) (k:K c)
inductive Wm (k:IntKind) (m n:Int) (K:Int->Prop):Prop where
 | mk (c:Int) (hn:n≠0) (h:k.wrap (m.tdiv n)=c) (k:K c)
inductive Wn (m n:Int) (K:Int->Prop):Prop where
 | mk (c:Int) (hn:n≠0) (h:m.tmod n=c) (k:K c)
inductive Wo (k:IntKind) (m n:Int) (K:Int->Prop):Prop where
 | mk (c:Int) (hn:0<=n) (h:m.fdiv (2 ^ (min n.toNat k.bits))=c) (k:K c)
inductive Wp (k:IntKind) (m n:Int) (K:Int->Prop):Prop where
 | mk (c:Int) (hn:0<=n) (h:k.wrap (m*2 ^ (min n.toNat k.bits))=c) (k:K c)
inductive Wq (n:Nat) (lo hi:Int) (K:Nat->Nat->Prop):Prop where
 | mk (l h:Nat) (el:lo=l) (eh:hi=h) (h1:l<=h) (h2:h<=n) (k:K l h)
inductive N9 (xs:List AV) (lo hi:Int) (K:List AV->Prop):Prop where
 | mk (l h:Nat) (ys:List AV) (el:lo=l) (eh:hi=h) (h1:l<=h) (h2:h<=xs.length) (hy:(xs.take h).drop l=ys) (k:K ys)
inductive Wr (kk:Nat) (xs:List AV) (n:Nat) (lo hi:Int) (K:Nat->Nat->Prop) (KE:Prop):Prop where
 | mk (l h:Nat) (hk:xs.length=kk) (el:lo=l) (eh:hi=h) (h1:l<=h) (h2:h<=n) (h3:l=0\/l<h) (k:K l h)
 | mkE (l:Nat) (hk:xs.length=kk) (el:lo=l) (eh:hi=l) (h2:l<=n) (k:KE)
inductive Ws (s:ByteArray) (i:Int) (K:UInt8->Prop):Prop where
 | mk (n:Nat) (c:UInt8) (hi:i=n) (hc:s[n]? = some c) (k:K c)
inductive Wt (n:Nat) (K:Prop):Prop where
 | mk (h:n<=9223372036854775807) (k:K)
inductive Qc (len cap:Int) (bytes:Nat) (z:AV) (K:Nat->List AV->Prop):Prop where
 | mk (l c:Nat) (zs:List AV) (el:len=l) (ec:cap=c) (h1:l<=c) (h2:bytes*c<=281474976710656) (h3:c<=140737488355328) (hz:List.replicate l z=zs) (k:K l zs)
 | mkN (z':AV) (hn:Hr z.cells z'.cells) (l c:Nat) (zs:List AV) (el:len=l) (ec:cap=c) (h1:l<=c) (h2:bytes*c<=281474976710656) (h3:c<=140737488355328) (hz:List.replicate l z'=zs) (k:K l zs)
inductive K0 (xs ys:List AV) (kk len bytes:Nat) (K:List AV->Nat->Prop) (KP:List AV->Nat->Nat->Prop):Prop where
 | mkP (zs:List AV) (k' m:Nat) (hk:xs.length=kk) (hl:len<=kk) (hb:(xs.length+ys.length)*bytes<=140737488355328) (hz:Dk xs len ys=zs) (hk':zs.length=k') (hm:len+ys.length=m) (k:KP zs k' m)
 | mk (zs:List AV) (m:Nat) (hk:xs.length=kk) (hl:len=kk) (hb:(xs.length+ys.length)*bytes<=140737488355328) (hz:xs++ys=zs) (hm:kk+ys.length=m) (k:K zs m)
inductive Af7 (ys:List AV) (K:Prop):Prop where
 | mk (hy:ys = []) (k:K)
inductive Oa (ys:List AV) (bytes:Nat) (K:List AV->Nat->Prop):Prop where
 | mk (zs:List AV) (m:Nat) (hb:ys.length*bytes<=140737488355328) (hz:ys=zs) (hm:ys.length=m) (k:K zs m)
inductive Aqj (xs:List AV) (kk len k2 off2 len2 bytes:Nat) (K:List AV->Nat->Nat->Prop):Prop where
 | mk (zs:List AV) (k' m:Nat) (hk:xs.length=kk) (hl:len<=kk) (hk2:xs.length=k2) (hl2:off2+len2<=kk) (hb:(xs.length+len2)*bytes<=140737488355328) (hz:Dk xs len ((xs.drop off2).take len2)=zs) (hk':zs.length=k') (hm:len+len2=m) (k:K zs k' m)
inductive Aqk (xs:List AV) (kk off len k2 off2 len2:Nat) (K:List AV->Nat->Prop):Prop where
 | mk (zs:List AV) (c:Nat) (hk:xs.length=kk) (hl:off+len<=kk) (hk2:xs.length=k2) (hl2:off2+len2<=kk) (hz:Dk xs off ((xs.drop off2).take (min len2 len))=zs) (hc:min len2 len=c) (k:K zs c)
inductive Af8 (xs:List AV) (kk off len:Nat) (z:AV) (K:List AV->Prop):Prop where
 | mk (zs:List AV) (hk:xs.length=kk) (hl:off+len<=kk) (hz:Dk xs off (List.replicate len z)=zs) (k:K zs)
inductive Af9 (a b:Nat) (K:Prop):Prop where
 | mk (h:a<=b) (k:K)
inductive Aga (xs:List AV) (n:Nat) (K:List AV->Prop):Prop where
 | mk (ys:List AV) (hy:xs.take n=ys) (k:K ys)
inductive Qd (xs:List AV) (q:Nat) (p:AV) (K:List AV->Prop):Prop where
 | mk (zs:List AV) (hz:xs.set q p=zs) (k:K zs)
inductive Kc (xs:List AV) (K:Int->Prop):Prop where
 | mk (c:Int) (hc:(xs.length:Int)=c) (k:K c)
inductive Jo (kk i:Nat) (xs:List AV) (K:AV->Prop):Prop where
 | mk (x:AV) (hk:xs.length=kk) (hx:xs[i]? = some x) (k:K x)
inductive E9 (kk:Nat) (xs:List AV) (K:Prop):Prop where
 | mk (hk:xs.length=kk) (k:K)
inductive Fv (P:Program) (n:Nat) (H:Hp) (f:FuncId) (args:List AV) (K:Eff->Nat->Prop):Prop where
 | mk (r:AV) (h:As P f args r) (hf:args.all AV.free=true) (k:K ⟨r,[],[]⟩ n)
 | act (l:List Nat) (largs:List AV) (hs:List Bb) (r:AV) (hs':List Bb) (h:Br P f largs hs r hs') (ha:largs.map (ren (C4 n l))=args) (ok:Qb n l largs hs r hs'=true) (hh:N7 H (wrs (C4 n l) 0 hs))
   (k:K ⟨ren (C4 n l) r,wrs (C4 n l) 0 hs++Bq (C4 n l) l.length (hs'.length-l.length),wrs (C4 n l) 0 hs'⟩ (n+(hs'.length-l.length)))
inductive Agb (s:ByteArray) (es:List (AV×AV)) (K:Option (Nat×AV)->Prop):Prop where
 | mk (r:Option (Nat×AV)) (h:Hc s es 0=some r) (k:K r)
inductive Wu (op:BinOp) (k:FloatKind) (a b:Nat) (K:Nat->Prop):Prop where
 | mk (c:Nat) (h:floatBits op k a b=some c) (k:K c)
inductive Wv (k:FloatKind) (a:Nat) (q:IntKind) (K:Int->Prop):Prop where
 | mk (c:Int) (h:floatToIntVal k a q=some c) (k:K c)
inductive Aql (P:Program) (kt:TypeId) (us:List Value) (es:List (AV×AV)) (K:Option (Nat×AV)->Prop):Prop where
 | mk (r:Option (Nat×AV)) (hc:Wk P kt us) (h:Ky P kt us es 0 r) (k:K r)
inductive Aqm (P:Program) (kt:TypeId) (ks:List AV) (us:List Value) (v:AV) (es:List (AV×AV)) (K:List (AV×AV)->Prop):Prop where
 | mk (es':List (AV×AV)) (hc:Wk P kt us) (h:Ky P kt us es 0 none) (he:es++[(.agg ks,v)]=es') (k:K es')
inductive Agc (s:ByteArray) (v:AV) (es:List (AV×AV)) (K:List (AV×AV)->Prop):Prop where
 | mk (es':List (AV×AV)) (h:Wi s v es=some es') (k:K es')
inductive Agd (P:Program) (t:TypeId) (us vs:List Value) (K:Bool->Prop):Prop where
 | mk (b:Bool) (h:Wj P t us vs b) (k:K b)
inductive Sr (P:Program) (t:TypeId) (f:Nat) (K:TypeId->Prop):Prop where
 | mk (ft:TypeId) (h:Aav P t f=some ft) (k:K ft)
inductive Age (P:Program) (f:FuncId) (args:List AV) (K:AV->Prop):Prop where
 | mk (r:AV) (h:As P f args r) (hf:args.all AV.free=true) (k:K r)
inductive Ann where
 | frz (j:Nat)
 | std
 | own
 | ask
def Jp:AV->Bool
 | .val (.slice none 0 0)=>true
 | _=>false
def Ss:AV->Bool
 | .val (.agg _)=>false
 | _=>true
def Aa4 (x:AV) (K:AV->Prop):Prop :=
 match x with
 | .val v=>K (.val v)
 | .loc h off=>K (.loc h off)
 | .arr h k off len=>K (.arr h k off len)
 | .el h k i j=>K (.el h k i j)
 | .mp h=>K (.mp h)
 | .ref cs=>K (.ref cs)
 | .sl sz xs=>K (.sl sz xs)
 | .agg cs=>K (.agg cs)
 | .tup cs=>K (.tup cs)
 | .fn f cs=>K (.fn f cs)
def Mk:List AV->(List AV->Prop)->Prop
 | [],K=>K []
 | x::xs,K=>Aa4 x fun x=>Mk xs fun xs=>K (x::xs)
def I7 (x:AV) (K:AV->Prop):Prop :=
 match x with
 | .agg cs=>Mk cs fun cs=>K (.agg cs)
 | .tup cs=>Mk cs fun cs=>K (.tup cs)
 | .fn f cs=>Mk cs fun cs=>K (.fn f cs)
 | x=>Aa4 x K
def Qf:List AV->(List AV->Prop)->Prop
 | [],K=>K []
 | x::xs,K=>I7 x fun x=>Qf xs fun xs=>K (x::xs)
def Aa5 (o:Bb) (K:Bb->Prop):Prop :=
 match o with
 | .cells E cs=>Mk cs fun cs=>K (.cells E cs)
 | .rows E sz xs=>K (.rows E sz xs)
 | .map es=>K (.map es)
 | .none=>K .none
 | .dead=>K .dead
def K1:List (Nat×Bb)->(List (Nat×Bb)->Prop)->Prop
 | [],K=>K []
 | p::l,K=>Aa5 p.2 fun o=>K1 l fun l=>K ((p.1,o)::l)
def He:List (Nat×Bb)->(List Nat->Prop)->Prop
 | [],K=>K []
 | p::l,K=>He l fun l=>K (p.1::l)
theorem Agf (x:AV) (K:AV->Prop):Aa4 x K=K x:=by cases x <;> rfl
theorem Ww:∀(l:List AV) (K:List AV->Prop),Mk l K=K l
 | [],_=>rfl
 | x::xs,K=>by simp only [Mk,Agf,Ww xs]
theorem Qg (x:AV) (K:AV->Prop):I7 x K=K x:=by cases x <;> simp only [I7,Ww,Agf]
theorem Wx:∀(l:List AV) (K:List AV->Prop),Qf l K=K l
 | [],_=>rfl
 | x::xs,K=>by simp only [Qf,Qg,Wx xs]
theorem Aqn (o:Bb) (K:Bb->Prop):Aa5 o K=K o:=by cases o <;> simp only [Aa5,Ww]
theorem Aa6:∀(l:List (Nat×Bb)) (K:List (Nat×Bb)->Prop),K1 l K=K l
 | [],_=>rfl
 | p::l,K=>by simp only [K1,Aqn,Aa6 l]
theorem Aa7:∀(l:List (Nat×Bb)) (K:List Nat->Prop),He l K=K (l.map (·.1))
 | [],_=>rfl
 | p::l,K=>by simp only [He,Aa7 l,List.map_cons]
def C9 (P:Program) (T:Cb) (an:Nat->Ann) (n:Nat) (o:Oper) (ρ:Operand->AV) (H:Hp) (K:Eff->Nat->Prop):Prop :=
 match o.op with
 | .move x=>K ⟨ρ x,[],[]⟩ n
 | .assign x=>
  match o.dst with
  | none=>K ⟨ρ x,[],[]⟩ n
  | some d=>
   match an d with
   | .frz _=>K ⟨ρ x,[],[]⟩ n
   | .std=>K ⟨ρ x,[],[]⟩ n
   | .ask=>K ⟨ρ x,[],[]⟩ n
   | .own=>bif Jp (ρ x) then
     match T o.type with
     | some ⟨.slice e,_,_,_⟩=>
      match T e with
      | some i'=>bif Nat.blt 0 i'.size then K ⟨.arr n 0 0 0,[(n,.none)],[(n,.rows e i'.size [])]⟩ (n+1) else False
      | none=>False
     | _=>False
    else K ⟨ρ x,[],[]⟩ n
 | .pick c a b=>
  match ρ c with
  | .val (.bool t)=>K ⟨bif t then ρ a else ρ b,[],[]⟩ n
  | _=>False
 | .alloc t=>
  match T t with
  | some i=>K ⟨.loc n 0,[(n,.none)],[(n,.cells t (i.zero.map .val))]⟩ (n+1)
  | none=>False
 | .box t x=>K ⟨.loc n 0,[(n,.none)],[(n,.cells t (ρ x).cells)]⟩ (n+1)
 | .build t parts=>
  match T t with
  | some ⟨.struct fs,_,_,z⟩=>
   match P5 fs (z.map .val) (parts.toList.map fun p=>(p.1,ρ p.2)) with
   | some cs=>K ⟨.agg cs,[],[]⟩ n
   | none=>False
  | _=>False
 | .buildSlice t len parts=>
  match T t with
  | some ⟨.slice e,_,_,_⟩=>
   match T e with
   | some i'=>
    bif Nat.blt 0 i'.size&&(parts.toList.map (·.1)==List.range' 0 len)&&Nat.ble (len*i'.size) 16777216&&parts.toList.all (fun p=>I4 i'.size (ρ p.2)) then
     match an (o.dst.getD 0) with
     | .frz _=>False
     | .std=>Qf (parts.toList.map fun p=>ρ p.2) fun xs=>K ⟨.sl i'.size xs,[],[]⟩ n
     | .ask=>Qf (parts.toList.map fun p=>ρ p.2) fun xs=>K ⟨.sl i'.size xs,[],[]⟩ n
     | .own=>Qf (parts.toList.map fun p=>ρ p.2) fun xs=>K ⟨.arr n len 0 len,[(n,.none)],[(n,.rows e i'.size xs)]⟩ (n+1)
    else False
   | none=>False
  | _=>False
 | .load t x=>
  match T t with
  | some i=>
   match ρ x with
   | .ref cs=>bif i.isAgg then (bif Nat.ble i.size cs.length then K ⟨.agg (cs.take i.size),[],[]⟩ n else False) else
     match cs with
     | c::_=>K ⟨c,[],[]⟩ n
     | []=>False
   | .loc h off=>
    match H h with
    | .cells E cs=>bif i.isAgg then (bif Nat.ble (off+i.size) cs.length then K ⟨.agg ((cs.drop off).take i.size),[(h,.cells E cs)],[]⟩ n else False) else
      match cs[off]? with
      | some c=>K ⟨c,[(h,.cells E cs)],[]⟩ n
      | none=>False
    | _=>False
   | .el h k q j=>
    match H h with
    | .rows E sz xs=>Jo k q xs fun y=>bif i.isAgg then (bif Nat.ble (j+i.size) y.cells.length then K ⟨.agg ((y.cells.drop j).take i.size),[(h,.rows E sz xs)],[]⟩ n else False) else
      match y.cells[j]? with
      | some c=>K ⟨c,[(h,.rows E sz xs)],[]⟩ n
      | none=>False
    | _=>False
   | _=>False
  | none=>False
 | .store t x y=>
  match T t with
  | some i=>
   match ρ x with
   | .loc h off=>
    match H h with
    | .cells E cs=>bif Nat.beq (ρ y).cells.length i.size&&Nat.ble (off+i.size) cs.length&&(ρ y).cells.all AV.one then K ⟨.val undef,[(h,.cells E cs)],[(h,.cells E (J9 cs off (ρ y).cells))]⟩ n else False
    | _=>False
   | .el h k q j=>
    match H h with
    | .rows E sz xs=>Jo k q xs fun z=>bif Nat.beq (ρ y).cells.length i.size&&Nat.blt 0 i.size&&Nat.ble (j+i.size) z.cells.length&&(ρ y).cells.all AV.cl1&&Ss z then
      Mk (ρ y).cells fun ys=>I7 (Sl z j ys) fun p=>Qd xs q p fun g=>K ⟨.val undef,[(h,.rows E sz xs)],[(h,.rows E sz g)]⟩ n else False
    | _=>False
   | _=>False
  | none=>False
 | .nilCheck x=>bif (ρ x).isPtr then K ⟨ρ x,[],[]⟩ n else False
 | .binOp op t x y _=>
  match ρ x,ρ y with
  | .val (.int k a),.val (.int G b)=>
   match op with
   | .shl=>Wp k a b fun c=>K ⟨.val (.int k c),[],[]⟩ n
   | .shr=>Wo k a b fun c=>K ⟨.val (.int k c),[],[]⟩ n
   | op=>bif decide (k=G) then
     match op with
     | .add=>F9 k (a+b) fun c=>K ⟨.val (.int k c),[],[]⟩ n
     | .sub=>F9 k (a-b) fun c=>K ⟨.val (.int k c),[],[]⟩ n
     | .mul=>F9 k (a*b) fun c=>K ⟨.val (.int k c),[],[]⟩ n
     | .quo=>Wm k a b fun c=>K ⟨.val (.int k c),[],[]⟩ n
     | .rem=>Wn a b fun c=>K ⟨.val (.int k c),[],[]⟩ n
     | op=>
      match Aac op a b with
      | some t=>K ⟨.val (.bool t),[],[]⟩ n
      | none=>
       match Aai op k a b with
       | some c=>K ⟨.val (.int k c),[],[]⟩ n
       | none=>False
    else False
  | .val (.bool a),.val (.bool b)=>
   match T t with
   | some ⟨.bool,_,_,_⟩=>
    match Aaj op a b with
    | some t=>K ⟨.val (.bool t),[],[]⟩ n
    | none=>False
   | _=>False
  | .agg xs,.agg ys=>
   match Gl xs with
   | some L=>
    match Gl ys with
    | some vs=>
     match op with
     | .eql=>Agd P t L vs fun b=>K ⟨.val (.bool b),[],[]⟩ n
     | .neq=>Agd P t L vs fun b=>K ⟨.val (.bool !b),[],[]⟩ n
     | _=>False
    | none=>False
   | none=>False
  | .val (.float k a),.val (.float G b)=>bif decide (k=G) then Wu op k a b fun c=>K ⟨.val (.float k c),[],[]⟩ n else False
  | .val (.string a),.val (.string b)=>
   match op with
   | .add=>Wt (a.size+b.size) (K ⟨.val (.string (a++b)),[],[]⟩ n)
   | op=>
    match Aak op a b with
    | some t=>K ⟨.val (.bool t),[],[]⟩ n
    | none=>False
  | .val (.slice p _ _),.val (.slice none _ _)=>
   match op with
   | .eql=>
    match T t with
    | some ⟨.slice _,_,_,_⟩=>K ⟨.val (.bool p.isNone),[],[]⟩ n
    | _=>False
   | _=>False
  | _,_=>False
 | .unOp op _ x=>
  match op,ρ x with
  | .not,.val (.bool b)=>K ⟨.val (.bool !b),[],[]⟩ n
  | .neg,.val (.int k m)=>F9 k (0-m) fun c=>K ⟨.val (.int k c),[],[]⟩ n
  | _,_=>False
 | .convert s d x=>
  match T s,T d,ρ x with
  | some _,some ⟨.int k,_,_,_⟩,.val (.int _ m)=>F9 k m fun c=>K ⟨.val (.int k c),[],[]⟩ n
  | some _,some ⟨.float k,_,_,_⟩,.val (.int _ m)=>K ⟨.val (.float k (floatOfInt k m)),[],[]⟩ n
  | some _,some ⟨.int k,_,_,_⟩,.val (.float q m)=>Wv q m k fun c=>K ⟨.val (.int k c),[],[]⟩ n
  | _,_,_=>False
 | .makeFunc (.func f) first u=>bif first.isEmpty then K ⟨.fn f (u.toList.map ρ),[],[]⟩ n else False
 | .makeSlice t x y=>
  match T t with
  | some ⟨.slice e,_,_,_⟩=>
   match T e with
   | some i'=>
    match ρ x,ρ y with
    | .val (.int _ l),.val (.int _ c)=>
     bif Nat.blt 0 i'.size&&I4 i'.size (Du i')&&Nat.beq (Du i').cells.length i'.zero.length&&Ss (Du i') then
      Qc l c i'.bytes (Du i') fun l g=>K ⟨.arr n l 0 l,[(n,.none)],[(n,.rows e i'.size g)]⟩ (n+1)
     else False
    | _,_=>False
   | none=>False
  | _=>False
 | .slice t x lo hi none=>
  match T t with
  | some ⟨.slice e,_,_,_⟩=>
   match T e with
   | some i'=>
    match ρ x with
    | .sl sz xs=>
     match F8 ρ 0 lo,F8 ρ xs.length hi with
     | some l,some h=>bif Nat.beq sz i'.size then N9 xs l h fun ys=>K ⟨.sl sz ys,[],[]⟩ n else False
     | _,_=>False
    | .arr hd k off len=>
     match H hd with
     | .rows E sz xs=>
      match F8 ρ 0 lo,F8 ρ len hi with
      | some l,some h=>bif Nat.beq sz i'.size then Wr k xs len l h (fun l h=>K ⟨.arr hd k (off+l) (h-l),[(hd,.rows E sz xs)],[]⟩ n) (K ⟨.sl i'.size [],[(hd,.rows E sz xs)],[]⟩ n) else False
      | _,_=>False
     | _=>False
    | _=>False
   | none=>False
  | some ⟨.string,_,_,_⟩=>
   match ρ x with
   | .val (.string s)=>
    match F8 ρ 0 lo,F8 ρ s.size hi with
    | some l,some h=>Wq s.size l h fun l h=>K ⟨.val (.string (s.extract l h)),[],[]⟩ n
    | _,_=>False
   | _=>False
  | _=>False
 | .fieldAddr s x f=>
  match T s with
  | some ⟨.struct fs,_,_,_⟩=>
   match fs[f]? with
   | some q=>
    match ρ x with
    | .loc h off=>K ⟨.loc h (off+q.1),[],[]⟩ n
    | .ref cs=>K ⟨.ref (cs.drop q.1),[],[]⟩ n
    | .el h k m j=>
     match H h with
     | .rows E sz xs=>E9 k xs (K ⟨.el h k m (j+q.1),[(h,.rows E sz xs)],[]⟩ n)
     | _=>False
    | _=>False
   | none=>False
  | _=>False
 | .indexAddr t x y=>
  match T t with
  | some ⟨.slice e,_,_,_⟩=>
   match T e with
   | some i'=>
    match ρ x,ρ y with
    | .sl sz xs,.val (.int _ i)=>bif Nat.beq sz i'.size then Sq xs i fun _ z=>K ⟨.ref z.cells,[],[]⟩ n else False
    | .arr h k off len,.val (.int _ i)=>
     match H h with
     | .rows E sz xs=>bif Nat.beq sz i'.size then N8 len k xs i fun m=>K ⟨.el h k (off+m) 0,[(h,.rows E sz xs)],[]⟩ n else False
     | _=>False
    | _,_=>False
   | none=>False
  | _=>False
 | .index t x y=>
  match T t with
  | some ⟨.string,_,_,_⟩=>
   match ρ x,ρ y with
   | .val (.string s),.val (.int _ i)=>Ws s i fun c=>K ⟨.val (.int .u8 c.toNat),[],[]⟩ n
   | _,_=>False
  | _=>False
 | .field s x f=>
  match T s with
  | some ⟨.struct fs,_,_,_⟩=>
   match fs[f]? with
   | some q=>
    match ρ x with
    | .agg cs=>Sr P s f fun Y=>
     match T Y with
     | some I=>bif I.isAgg then (bif Nat.ble (q.1+I.size) cs.length then K ⟨.agg ((cs.drop q.1).take I.size),[],[]⟩ n else False) else
       match cs[q.1]? with
       | some c=>K ⟨c,[],[]⟩ n
       | none=>False
     | none=>False
    | _=>False
   | none=>False
  | _=>False
 | .makeMap _ none=>K ⟨.mp n,[(n,.none)],[(n,.map [])]⟩ (n+1)
 | .lookup t x y ok=>
  match T t with
  | some ⟨.map M X,_,_,_⟩=>
   match T M with
   | some ⟨.string,_,_,_⟩=>
    match T X with
    | some I=>
     match ρ x with
     | .mp h=>
      match ρ y with
      | .val (.string s)=>
       match H h with
       | .map es=>Agb s es fun r=>K ⟨P8 ok I r,[(h,.map es)],[]⟩ n
       | _=>False
      | _=>False
     | _=>False
    | none=>False
   | some ⟨.struct _,_,_,_⟩=>
    match T X with
    | some I=>
     match ρ x with
     | .mp h=>
      match ρ y with
      | .agg N=>
       match Gl N with
       | some L=>
        match H h with
        | .map es=>Aql P M L es fun r=>K ⟨P8 ok I r,[(h,.map es)],[]⟩ n
        | _=>False
       | none=>False
      | _=>False
     | _=>False
    | none=>False
   | _=>False
  | _=>False
 | .mapUpdate t x y z=>
  match T t with
  | some ⟨.map M _,_,_,_⟩=>
   match T M with
   | some ⟨.string,_,_,_⟩=>
    match ρ x with
    | .mp h=>
     match ρ y with
     | .val (.string s)=>
      match H h with
      | .map es=>bif (ρ z).free1 then I7 (ρ z) fun v=>Agc s v es fun J=>K ⟨.val undef,[(h,.map es)],[(h,.map J)]⟩ n else False
      | _=>False
     | _=>False
    | _=>False
   | some ⟨.struct _,_,_,_⟩=>
    match ρ x with
    | .mp h=>
     match ρ y with
     | .agg N=>
      match Gl N with
      | some L=>
       match H h with
       | .map es=>bif (ρ z).free1 then I7 (ρ z) fun v=>Aqm P M N L v es fun J=>K ⟨.val undef,[(h,.map es)],[(h,.map J)]⟩ n else False
       | _=>False
      | none=>False
     | _=>False
    | _=>False
   | _=>False
  | _=>False
 | .extract x i=>
  match ρ x with
  | .tup cs=>
   match cs[i]? with
   | some c=>K ⟨c,[],[]⟩ n
   | none=>False
  | _=>False
 | .call c=>
  match c.callee with
  | .value x=>
   match ρ x with
   | .fn f u=>
    match an (o.dst.getD 0) with
    | .frz j=>
     (match (c.args.toList.map ρ ++ u)[j]? with
     | some (.arr h k 0 len)=>
      (match H h with
      | .rows E sz xs=>E9 k xs (E9 len xs (Age P f ((c.args.toList.map ρ ++ u).set j (.sl sz xs)) fun r=>K ⟨r,[(h,.rows E sz xs)],[(h,.dead)]⟩ n))
      | _=>False)
     | _=>False)
    | _=>Fv P n H f (c.args.toList.map ρ ++ u) K
   | _=>False
  | .invoke _ _=>False
  | .builtin .len=>
   match c.args.toList,c.argTypes.toList with
   | [x],[t]=>
    match T t with
    | some ⟨.slice _,_,_,_⟩=>
     match ρ x with
     | .sl _ xs=>
      match an (o.dst.getD 0) with
      | .ask=>Kc xs fun c=>K ⟨.val (.int .i64 c),[],[]⟩ n
      | _=>K ⟨.val (.int .i64 xs.length),[],[]⟩ n
     | .val (.slice _ m _)=>K ⟨.val (.int .i64 m),[],[]⟩ n
     | .arr h k _ len=>
      match H h with
      | .rows E sz xs=>E9 k xs (K ⟨.val (.int .i64 len),[(h,.rows E sz xs)],[]⟩ n)
      | _=>False
     | _=>False
    | some ⟨.string,_,_,_⟩=>
     match ρ x with
     | .val (.string s)=>K ⟨.val (.int .i64 s.size),[],[]⟩ n
     | _=>False
    | _=>False
   | _,_=>False
  | .builtin .cap=>
   match c.args.toList,c.argTypes.toList with
   | [x],[t]=>
    match T t with
    | some ⟨.slice _,_,_,_⟩=>
     match ρ x with
     | .val (.slice _ _ m)=>K ⟨.val (.int .i64 m),[],[]⟩ n
     | _=>False
    | _=>False
   | _,_=>False
  | .builtin .copy=>
   match c.args.toList,c.argTypes.toList with
   | [x,y],[t,V]=>
    match T t with
    | some ⟨.slice e,_,_,_⟩=>
     match T e with
     | some i'=>
      match ρ y with
      | .arr h2 R B D=>
       match ρ x with
       | .arr h k off len=>
        match H h with
        | .rows E sz xs=>bif Nat.beq E e&&Nat.beq sz i'.size&&Nat.beq h h2&&Nat.blt 0 i'.size then
          Aqk xs k off len R B D (fun g c=>K ⟨.val (.int .i64 c),[(h,.rows e i'.size xs)],[(h,.rows e i'.size g)]⟩ n) else False
        | _=>False
       | .sl _ []=>
        match H h2 with
        | .rows E sz xs=>bif Nat.beq sz i'.size then E9 R xs (K ⟨.val (.int .i64 0),[(h2,.rows E i'.size xs)],[]⟩ n) else False
        | _=>False
       | _=>False
      | _=>False
     | none=>False
    | _=>False
   | _,_=>False
  | .builtin .clear=>
   match c.args.toList,c.argTypes.toList with
   | [x],[t]=>
    match T t with
    | some ⟨.slice e,_,_,_⟩=>
     match T e with
     | some i'=>
      match ρ x with
      | .arr h k off len=>
       match H h with
       | .rows E sz xs=>bif Nat.beq E e&&Nat.beq sz i'.size&&Nat.blt 0 i'.size&&I4 i'.size (Du i')&&Nat.beq (Du i').cells.length i'.zero.length&&Ss (Du i') then
         Af8 xs k off len (Du i') (fun g=>K ⟨.tup [],[(h,.rows e i'.size xs)],[(h,.rows e i'.size g)]⟩ n) else False
       | _=>False
      | .sl _ []=>K ⟨.tup [],[],[]⟩ n
      | _=>False
     | none=>False
    | _=>False
   | _,_=>False
  | .builtin .append=>
   match c.args.toList,c.argTypes.toList with
   | [x,y],[t,V]=>
    match T t,T V with
    | some ⟨.slice e,_,_,_⟩,some ⟨.slice _,_,_,_⟩=>
     match T e with
     | some i'=>
      bif Nat.blt 0 i'.size&&Nat.beq i'.zero.length i'.size&&Nat.ble 1 i'.bytes then
       match ρ y with
       | .sl sz ys=>
        bif Nat.beq sz i'.size then
         match ρ x with
         | .arr h k 0 len=>
          match H h with
          | .rows E A xs=>bif Nat.beq E e&&Nat.beq A i'.size then
            K0 xs ys k len i'.bytes (fun g m=>K ⟨.arr h m 0 m,[(h,.rows e i'.size xs)],[(h,.rows e i'.size g)]⟩ n) (fun g G m=>K ⟨.arr h G 0 m,[(h,.rows e i'.size xs)],[(h,.rows e i'.size g)]⟩ n) else False
          | _=>False
         | .val (.slice none 0 0)=>Oa ys i'.bytes fun g m=>K ⟨.arr n m 0 m,[(n,.none)],[(n,.rows e i'.size g)]⟩ (n+1)
         | .sl U S=>Af7 ys (K ⟨.sl U S,[],[]⟩ n)
         | _=>False
        else False
       | .arr h2 R B D=>
        match ρ x with
        | .arr h k 0 len=>
         match H h with
         | .rows E A xs=>bif Nat.beq E e&&Nat.beq A i'.size&&Nat.beq h h2 then
           Aqj xs k len R B D i'.bytes (fun g G m=>K ⟨.arr h G 0 m,[(h,.rows e i'.size xs)],[(h,.rows e i'.size g)]⟩ n) else False
         | _=>False
        | _=>False
       | _=>False
      else False
     | none=>False
    | some ⟨.slice e,_,_,_⟩,some ⟨.string,_,_,_⟩=>
     match T e with
     | some i'=>
      bif Nat.beq i'.size 1&&Nat.beq i'.zero.length i'.size&&Nat.ble 1 i'.bytes then
       match ρ y with
       | .val (.string s)=>
        match ρ x with
        | .arr h k 0 len=>
         match H h with
         | .rows E A xs=>bif Nat.beq E e&&Nat.beq A i'.size then
           K0 xs (Hb s) k len i'.bytes (fun g m=>K ⟨.arr h m 0 m,[(h,.rows e i'.size xs)],[(h,.rows e i'.size g)]⟩ n) (fun _ _ _=>False) else False
         | _=>False
        | _=>False
       | _=>False
      else False
     | none=>False
    | _,_=>False
   | _,_=>False
  | .builtin .max=>
   match c.args.toList,c.argTypes.toList with
   | [x,y],[_,_]=>
    match ρ x,ρ y with
    | .val (.int k a),.val (.int _ b)=>K ⟨.val (.int k (if b>a then b else a)),[],[]⟩ n
    | _,_=>False
   | _,_=>False
  | .builtin .min=>
   match c.args.toList,c.argTypes.toList with
   | [x,y],[_,_]=>
    match ρ x,ρ y with
    | .val (.int k a),.val (.int _ b)=>K ⟨.val (.int k (if b<a then b else a)),[],[]⟩ n
    | _,_=>False
   | _,_=>False
  | _=>False
 | _=>False
end Go.Ab
namespace Go.Ab
section
variable {P:Program} {o:Oper} {ρ:Operand->AV} {a:Act} {w w':World} {next:Act->World->Prop} {Q:Exit->Act->World->Prop}
def Qh (σ:Aw) (w:World):Aw:=fun b=>match σ b with | none=>w.heap[b]? | some _=>none
theorem St.lend {σ:Aw} {ι:Bl} {H:Hp} {F:Aw} {W:World} (s:St σ ι H F W w):St σ ι0 H0 (Qh σ w) W w:=by
 refine ⟨s.sto,fun b o hb=>?_,fun h=>rfl,(fun h h' b c=>by cases c),s.os,s.tape,s.output,s.glo,s.drw⟩
 unfold Qh at hb
 cases e:σ b with
 | none=>rw [e] at hb; exact ⟨hb,rfl⟩
 | some _=>rw [e] at hb; cases hb
theorem St.unlend {σ k:Aw} {ι:Bl} {H:Hp} {F:Aw} {W:World} (s:St σ ι H F W w) (g:σ.le k) (s':St k ι0 H0 (Qh σ w) W w'):St k ι H F W w':=by
 have key:∀b,σ b=none->∀o,w.heap[b]? = some o->w'.heap[b]? = some o/\k b=none:=by
  intro b hb o f
  exact s'.fra b o (by unfold Qh; rw [hb]; exact f)
 have le:Le σ ι H k ι H:=⟨g,fun _=>HLe.refl _ _⟩
 refine ⟨s'.sto,fun b o hb=>?_,fun h=>?_,s.inj,s'.os,s'.tape,s'.output,s'.glo,s'.drw⟩
 .obtain ⟨h1,h2⟩:=s.fra b o hb
  exact key b h2 o h1
 .have f:=s.obj h
  unfold B5 at f ⊢
  cases hh:H h with
  | none=>rw [hh] at f; exact f
  | dead=>trivial
  | cells E cs=>
   rw [hh] at f
   obtain ⟨b,C,j,h1,h2,h3,z,B⟩:=f
   obtain ⟨u,l⟩:=key b h1 _ h3
   exact ⟨b,C,j,l,h2,u,z,fun i c v x y=>(B i c v x y).mono le⟩
  | rows E sz xs=>
   rw [hh] at f
   obtain ⟨D,z2,⟨j,I⟩ | ⟨b,A,C,j,h1,h2,h3,z,B,G⟩⟩:=f
   .exact ⟨D,z2,.inl ⟨j,I⟩⟩
   .obtain ⟨u,l⟩:=key b h1 _ h3
    exact ⟨D,z2,.inr ⟨b,A,C,j,l,h2,u,z,B,G.mono g⟩⟩
  | map es=>
   rw [hh] at f
   obtain ⟨b,M,q,j,h1,h2,h3,z⟩:=f
   obtain ⟨u,l⟩:=key b h1 _ h3
   exact ⟨b,M,q,j,l,h2,u,z.mono g⟩
theorem Conc.of0 {σ:Aw} {ι:Bl} {H:Hp} {x:AV} {v:Value} (h:Conc σ ι0 H0 x v):Conc σ ι H x v:=by
 induction h with
 | cc h=>exact .cc h
 | loc h off b hb=>cases hb
 | mp h b hb=>cases hb
 | arr h k off len v s hv c=>exact (s rfl).elim
 | el h k i j v s hv c=>exact (s rfl).elim
 | ref cs b off C E fr g u hc h1 y=>exact .ref cs b off C E fr g u hc h1 y
 | agg cs vs l _ ih=>exact .agg cs vs l ih
 | tup cs vs l _ ih=>exact .tup cs vs l ih
 | fn f q vs l _ ih=>exact .fn f q vs l ih
theorem Aqo {x:AV} (h:x.free1=true) (hx:∀cs,x≠.agg cs):x.cl1=true:=by
 cases x <;> first | exact h | exact (hx _ rfl).elim
theorem Conc.to0 {σ:Aw} {ι:Bl} {H:Hp} {x:AV} {v:Value} (hx:x.free=true) (h:Conc σ ι H x v):Conc σ ι0 H0 x v:=by
 have key:∀(cs:List AV),cs.all AV.cl1=true->∀(i:Nat) (c:AV) (u:Value),cs[i]? = some c->Conc σ ι H c u->Conc σ ι0 H0 c u:=by
  intro cs s i c u hc h
  exact .cc (h.cc_of (List.all_eq_true.1 s c (List.mem_of_getElem? hc))).1
 cases h with
 | cc h=>exact .cc h
 | loc=>cases hx
 | mp=>cases hx
 | arr=>cases hx
 | el=>cases hx
 | ref cs b off C E fr g A hc h1 B=>exact .ref cs b off C E fr g A hc h1 B
 | agg cs vs l h=>exact .agg cs vs l fun i c u h1 h2=>key cs hx i c u h1 (h i c u h1 h2)
 | tup cs vs l h=>
  refine .tup cs vs l fun i c u h1 h2=>?_
  have y:=List.all_eq_true.1 hx c (List.mem_of_getElem? h1)
  have hc:=h i c u h1 h2
  cases c with
  | agg ds=>
   obtain ⟨z,rfl,q,hv⟩:=hc.agg_inv
   exact .agg ds z q fun j d v g1 g2=>key ds y j d v g1 (hv j d v g1 g2)
  | _=>exact .cc (hc.cc_of (Aqo y (by intro cs e; cases e))).1
 | fn f k vs l h=>exact .fn f k vs l fun i c u h1 h2=>key k hx i c u h1 (h i c u h1 h2)
theorem Conc.fn_inv {σ:Aw} {ι:Bl} {H:Hp} {f:FuncId} {b:List AV} {v:Value} (h:Conc σ ι H (.fn f b) v) :
  ∃vs:Array Value,v = .func (.func f) #[] vs/\vs.size=b.length/\∀(i:Nat) (c:AV) (u:Value),b[i]? = some c->vs[i]? = some u->Conc σ ι H c u:=by
 cases h with
 | cc h=>cases h
 | fn _ _ vs g h=>exact ⟨vs,rfl,g,h⟩
theorem Aa8 {σ:Aw} {ι:Bl} {H:Hp} {xs:Array Operand} {b:List AV} {vs:Array Value} (hx:∀x∈xs.toList,Conc σ ι H (ρ x) (a.eval x)) (g:vs.size=b.length)
  (hv:∀(i:Nat) (c:AV) (u:Value),b[i]? = some c->vs[i]? = some u->Conc σ ι H c u):Kb σ ι H (xs.toList.map ρ ++ b) (xs.map a.eval++vs):=by
 refine ⟨by simp [g],fun i c u h1 h2=>?_⟩
 by_cases f:i<xs.size
 .rw [List.getElem?_append_left (by simpa using f),List.getElem?_map,Array.getElem?_toList] at h1
  rw [Array.getElem?_append_left (by simpa using f),Array.getElem?_map] at h2
  simp [f] at h1 h2
  subst h1; subst h2
  exact hx _ (by simp)
 .rw [List.getElem?_append_right (by simp; omega)] at h1
  rw [Array.getElem?_append_right (by simp; omega)] at h2
  simp at h1 h2
  exact hv _ c u h1 h2
theorem Aqp {c:Call} {x:Operand} {f:FuncId} {g:List AV} {r:AV} (G:o.op = .call c) (h:c.callee = .value x) (hx:ρ x = .fn f g) (hp:As P f (c.args.toList.map ρ ++ g) r)
  (l:(c.args.toList.map ρ ++ g).all AV.free=true):Bp P o ρ ⟨r,[],[]⟩:=by
 intro σ ι H F W w a next Q s B _ hk
 obtain ⟨⟨fn,M,k,q⟩,hp⟩:=hp
 have z:=B x (by simp [G,Op.operands,Call.operands,h])
 rw [hx] at z
 obtain ⟨vs,hv,L,E⟩:=z.fn_inv
 have j:Kb σ ι H (c.args.toList.map ρ ++ g) (c.args.map a.eval++vs) :=
  Aa8 (fun y hy=>B y (by simp only [G,Op.operands,Call.operands,h]; simp at hy ⊢; exact .inr hy)) L E
 have A:(execOp a.eval o).run P w = .ok (.enter f (c.args.map a.eval++vs)) w:=by
  have I:(callFunc f (c.args.map a.eval++vs)).run P w = .ok (.enter f (c.args.map a.eval++vs)) w:=by
   unfold callFunc
   simp only [Sem.run_bind,program,Sem.run,Result.andThen_ok,M,k,q,Bool.false_eq_true,if_false,Sem.run_pure]
  simp only [execOp,G,resolve,h,hv,Deferred.ofValue,invoke,Sem.run_bind,Sem.run_pure,Result.andThen_ok,Array.empty_append,I]
 unfold Oper.wp
 rw [A]
 simp only [Oper.upon]
 refine (hp σ (Qh σ w) W w (c.args.map a.eval++vs) s.lend ⟨j.1,fun i b u h1 h2=>(j.2 i b u h1 h2).to0 (List.all_eq_true.1 l b (List.mem_of_getElem? h1))⟩).mono ?_
 rintro e w' ⟨v,J,rfl,D,s',hc⟩
 exact hk J ι v w' ⟨D,fun _=>HLe.refl _ _⟩ (s.unlend D s') hc.of0
theorem Aqq {c:Call} {x:Operand} {f:FuncId} {g:List AV} {r:AV} {j h sz:Nat} {E:TypeId} {xs:List AV} (S:o.op = .call c) (k:c.callee = .value x) (hx:ρ x = .fn f g)
  (hj:(c.args.toList.map ρ ++ g)[j]? = some (.arr h xs.length 0 xs.length)) (hp:As P f ((c.args.toList.map ρ ++ g).set j (.sl sz xs)) r)
  (A:((c.args.toList.map ρ ++ g).set j (.sl sz xs)).all AV.free=true):Bp P o ρ ⟨r,[(h,.rows E sz xs)],[(h,.dead)]⟩:=by
 intro σ ι H F W w a next Q s J R hk
 have hh:H h = .rows E sz xs:=R (h,.rows E sz xs) (by simp)
 obtain ⟨⟨fn,hf,z,B⟩,hp⟩:=hp
 have G:=J x (by simp [S,Op.operands,Call.operands,k])
 rw [hx] at G
 obtain ⟨vs,hv,hl,M⟩:=G.fn_inv
 have q:Kb σ ι H (c.args.toList.map ρ ++ g) (c.args.map a.eval++vs) :=
  Aa8 (fun y hy=>J y (by simp only [S,Op.operands,Call.operands,k]; simp at hy ⊢; exact .inr hy)) hl M
 obtain ⟨N,D,Y,V⟩:=s.freeze hh
 have l:Kb N ι (A3 H h .dead) ((c.args.toList.map ρ ++ g).set j (.sl sz xs)) (c.args.map a.eval++vs):=by
  refine ⟨by rw [List.length_set]; exact q.1,fun i b u h1 h2=>?_⟩
  rw [List.getElem?_set] at h1
  split at h1
  .rename_i U
   split at h1
   .cases h1
    subst U
    have hc:=q.2 j _ u hj h2
    have:=V 0 xs.length _ (by omega) (hc.arr_inv hh rfl)
    rw [List.drop_zero,List.take_of_length_le (by omega)] at this
    exact .cc this
   .cases h1
  .exact (q.2 i b u h1 h2).mono D
 have I:(execOp a.eval o).run P w = .ok (.enter f (c.args.map a.eval++vs)) w:=by
  have X:(callFunc f (c.args.map a.eval++vs)).run P w = .ok (.enter f (c.args.map a.eval++vs)) w:=by
   unfold callFunc
   simp only [Sem.run_bind,program,Sem.run,Result.andThen_ok,hf,z,B,Bool.false_eq_true,if_false,Sem.run_pure]
  simp only [execOp,S,resolve,k,hv,Deferred.ofValue,invoke,Sem.run_bind,Sem.run_pure,Result.andThen_ok,Array.empty_append,X]
 unfold Oper.wp
 rw [I]
 simp only [Oper.upon]
 refine (hp N (Qh N w) W w (c.args.map a.eval++vs) Y.lend ⟨l.1,fun i b u h1 h2=>(l.2 i b u h1 h2).to0 (List.all_eq_true.1 A b (List.mem_of_getElem? h1))⟩).mono ?_
 rintro e w' ⟨v,Z,rfl,L,s',hc⟩
 exact hk Z ι v w' (D.trans ⟨L,fun _=>HLe.refl _ _⟩) (Y.unlend L s') hc.of0
end
end Go.Ab
namespace Go.Ab
theorem Fm {a b:Nat} (h:Nat.blt a b=true):a<b:=Nat.le_of_ble_eq_true h
theorem Aa9 {es:Nat->Nat} {o:Bb}:Gy es o = .none↔o = .none:=by cases o <;> simp [Gy]
theorem Wy {es:Nat->Nat} {o:Bb}:(Gy es o).live=o.live:=by cases o <;> rfl
theorem Aba {es:Nat->Nat} {o:Bb} {E:TypeId} {sz:Nat} {xs:List AV}:Gy es o = .rows E sz xs↔o = .rows E sz xs:=by cases o <;> simp [Gy]
section
variable {es:Nat->Nat} {m:Nat} {σ:Aw} {ι ιl:Bl} {H Hl:Hp}
theorem Ml (f:∀k,k<m->ιl k=ι (es k)) (z:∀k,k<m->H (es k)=Gy es (Hl k)) {x:AV} {v:Value} (hx:x.under0 m=true):Conc σ ι H (Aa2 es x) v↔Conc σ ιl Hl x v:=by
 have rows:∀k,k<m->∀E sz xs,H (es k) = .rows E sz xs↔Hl k = .rows E sz xs:=fun k hk E sz xs=>by rw [z k hk]; exact Aba
 have some:∀k,k<m->(H (es k)≠.none↔Hl k≠.none):=fun k hk=>by rw [z k hk]; exact not_congr Aa9
 constructor
 .intro h
  cases x with
  | val u=>cases h with | cc h=>exact .cc h
  | sl sz xs=>cases h with | cc h=>exact .cc h
  | ref cs=>
   cases h with
   | cc h=>exact .cc h
   | ref cs b off C E fr g s hc h1 y=>exact .ref cs b off C E fr g s hc h1 y
  | loc k off=>
   have hk:=Fm hx
   cases h with
   | cc h=>cases h
   | loc _ _ b hb=>exact .loc k off b (by rw [f k hk]; exact hb)
  | mp k=>
   have hk:=Fm hx
   cases h with
   | cc h=>cases h
   | mp _ b hb=>exact .mp k b (by rw [f k hk]; exact hb)
  | arr k q off len=>
   have hk:=Fm hx
   cases h with
   | cc h=>cases h
   | arr _ _ _ _ _ l hv c=>
    exact .arr k q off len v ((some k hk).1 l) (fun E sz xs e=>by rw [f k hk]; exact hv E sz xs ((rows k hk E sz xs).2 e)) c
  | el k q i j=>
   have hk:=Fm hx
   cases h with
   | cc h=>cases h
   | el _ _ _ _ _ l hv c=>
    exact .el k q i j v ((some k hk).1 l) (fun E sz xs e=>by rw [f k hk]; exact hv E sz xs ((rows k hk E sz xs).2 e)) c
  | agg=>cases hx
  | tup=>cases hx
  | fn=>cases hx
 .intro h
  cases x with
  | val u=>cases h with | cc h=>exact .cc h
  | sl sz xs=>cases h with | cc h=>exact .cc h
  | ref cs=>
   cases h with
   | cc h=>exact .cc h
   | ref cs b off C E fr g s hc h1 y=>exact .ref cs b off C E fr g s hc h1 y
  | loc k off=>
   have hk:=Fm hx
   cases h with
   | cc h=>cases h
   | loc _ _ b hb=>exact .loc (es k) off b (by rw [<-f k hk]; exact hb)
  | mp k=>
   have hk:=Fm hx
   cases h with
   | cc h=>cases h
   | mp _ b hb=>exact .mp (es k) b (by rw [<-f k hk]; exact hb)
  | arr k q off len=>
   have hk:=Fm hx
   cases h with
   | cc h=>cases h
   | arr _ _ _ _ _ l hv c=>
    exact .arr (es k) q off len v ((some k hk).2 l) (fun E sz xs e=>by rw [<-f k hk]; exact hv E sz xs ((rows k hk E sz xs).1 e)) c
  | el k q i j=>
   have hk:=Fm hx
   cases h with
   | cc h=>cases h
   | el _ _ _ _ _ l hv c=>
    exact .el (es k) q i j v ((some k hk).2 l) (fun E sz xs e=>by rw [<-f k hk]; exact hv E sz xs ((rows k hk E sz xs).1 e)) c
  | agg=>cases hx
  | tup=>cases hx
  | fn=>cases hx
theorem Gz (b:∀k,k<m->ιl k=ι (es k)) (g:∀k,k<m->H (es k)=Gy es (Hl k)) {x:AV} {v:Value} (hx:x.under1 m=true):Conc σ ι H (Kz es x) v↔Conc σ ιl Hl x v:=by
 have cells:∀{cs:List AV},cs.all (AV.under0 m)=true->∀(i:Nat) (c:AV),cs[i]? = some c->∀u,(Conc σ ι H (Aa2 es c) u↔Conc σ ιl Hl c u) :=
  fun q i c hc u=>Ml b g (List.all_eq_true.1 q c (List.mem_of_getElem? hc))
 cases x with
 | fn f cs=>
  constructor
  .intro h
   obtain ⟨vs,rfl,l,h⟩:=h.fn_inv
   exact .fn f cs vs (by simpa using l) fun i c u h1 h2=>(cells hx i c h1 u).1 (h i _ u (by simp [h1]) h2)
  .intro h
   obtain ⟨vs,rfl,l,h⟩:=h.fn_inv
   refine .fn f _ vs (by simpa using l) fun i c u h1 h2=>?_
   rw [List.getElem?_map] at h1
   cases hc:cs[i]? with
   | none=>rw [hc] at h1; cases h1
   | some s=>rw [hc] at h1; cases h1; exact (cells hx i s hc u).2 (h i s u hc h2)
 | agg cs=>cases hx
 | tup cs=>cases hx
 | val u=>exact Ml (x:=(.val u)) b g hx
 | loc h off=>exact Ml (x:=(.loc h off)) b g hx
 | arr h k off len=>exact Ml (x:=(.arr h k off len)) b g hx
 | el h k i j=>exact Ml (x:=(.el h k i j)) b g hx
 | mp h=>exact Ml (x:=(.mp h)) b g hx
 | ref cs=>exact Ml (x:=(.ref cs)) b g hx
 | sl sz xs=>exact Ml (x:=(.sl sz xs)) b g hx
theorem Aqr {n:Nat} {x:AV} (h:x.under0 n=true):x.under1 n=true:=by
 cases x <;> first | exact h | cases h
theorem Abb {n:Nat} {x:AV} (h:x.under1 n=true):x.under n=true:=by
 cases x with
 | fn f cs=>exact List.all_eq_true.2 fun c hc=>Aqr (List.all_eq_true.1 h c hc)
 | agg cs=>cases h
 | tup cs=>cases h
 | _=>exact h
theorem Aqs (b:∀k,k<m->ιl k=ι (es k)) (g:∀k,k<m->H (es k)=Gy es (Hl k)) {x:AV} {v:Value} (hx:x.under2 m=true):Conc σ ι H (Aa3 es x) v↔Conc σ ιl Hl x v:=by
 have cells:∀{cs:List AV},cs.all (AV.under1 m)=true->∀(i:Nat) (c:AV),cs[i]? = some c->∀u,(Conc σ ι H (Kz es c) u↔Conc σ ιl Hl c u) :=
  fun q i c hc u=>Gz b g (List.all_eq_true.1 q c (List.mem_of_getElem? hc))
 cases x with
 | agg cs=>
  constructor
  .intro h
   obtain ⟨vs,rfl,l,h⟩:=h.agg_inv
   exact .agg cs vs (by simpa using l) fun i c u h1 h2=>(cells hx i c h1 u).1 (h i _ u (by simp [h1]) h2)
  .intro h
   obtain ⟨vs,rfl,l,h⟩:=h.agg_inv
   refine .agg _ vs (by simpa using l) fun i c u h1 h2=>?_
   rw [List.getElem?_map] at h1
   cases hc:cs[i]? with
   | none=>rw [hc] at h1; cases h1
   | some s=>rw [hc] at h1; cases h1; exact (cells hx i s hc u).2 (h i s u hc h2)
 | tup cs=>cases hx
 | fn f cs=>exact Gz (x:=(.fn f cs)) b g hx
 | val u=>exact Gz (x:=(.val u)) b g hx
 | loc h off=>exact Gz (x:=(.loc h off)) b g hx
 | arr h k off len=>exact Gz (x:=(.arr h k off len)) b g hx
 | el h k i j=>exact Gz (x:=(.el h k i j)) b g hx
 | mp h=>exact Gz (x:=(.mp h)) b g hx
 | ref cs=>exact Gz (x:=(.ref cs)) b g hx
 | sl sz xs=>exact Gz (x:=(.sl sz xs)) b g hx
theorem Agg (l:∀k,k<m->ιl k=ι (es k)) (q:∀k,k<m->H (es k)=Gy es (Hl k)) {x:AV} {v:Value} (hx:x.under m=true):Conc σ ι H (ren es x) v↔Conc σ ιl Hl x v:=by
 have cells:∀{cs:List AV},cs.all (AV.under1 m)=true->∀(i:Nat) (c:AV),cs[i]? = some c->∀u,(Conc σ ι H (Kz es c) u↔Conc σ ιl Hl c u) :=
  fun y i c hc u=>Gz l q (List.all_eq_true.1 y c (List.mem_of_getElem? hc))
 have b:∀{cs:List AV},cs.all (AV.under2 m)=true->∀(i:Nat) (c:AV),cs[i]? = some c->∀u,(Conc σ ι H (Aa3 es c) u↔Conc σ ιl Hl c u) :=
  fun y i c hc u=>Aqs l q (List.all_eq_true.1 y c (List.mem_of_getElem? hc))
 cases x with
 | agg cs=>
  constructor
  .intro h
   obtain ⟨vs,rfl,g,h⟩:=h.agg_inv
   exact .agg cs vs (by simpa using g) fun i c u h1 h2=>(cells hx i c h1 u).1 (h i _ u (by simp [h1]) h2)
  .intro h
   obtain ⟨vs,rfl,g,h⟩:=h.agg_inv
   refine .agg _ vs (by simpa using g) fun i c u h1 h2=>?_
   rw [List.getElem?_map] at h1
   cases hc:cs[i]? with
   | none=>rw [hc] at h1; cases h1
   | some s=>rw [hc] at h1; cases h1; exact (cells hx i s hc u).2 (h i s u hc h2)
 | tup cs=>
  constructor
  .intro h
   obtain ⟨vs,rfl,g,h⟩:=h.tup_inv
   exact .tup cs vs (by simpa using g) fun i c u h1 h2=>(b hx i c h1 u).1 (h i _ u (by simp [h1]) h2)
  .intro h
   obtain ⟨vs,rfl,g,h⟩:=h.tup_inv
   refine .tup _ vs (by simpa using g) fun i c u h1 h2=>?_
   rw [List.getElem?_map] at h1
   cases hc:cs[i]? with
   | none=>rw [hc] at h1; cases h1
   | some s=>rw [hc] at h1; cases h1; exact (b hx i s hc u).2 (h i s u hc h2)
 | fn f cs=>
  constructor
  .intro h
   obtain ⟨vs,rfl,g,h⟩:=h.fn_inv
   exact .fn f cs vs (by simpa using g) fun i c u h1 h2=>(cells hx i c h1 u).1 (h i _ u (by simp [h1]) h2)
  .intro h
   obtain ⟨vs,rfl,g,h⟩:=h.fn_inv
   refine .fn f _ vs (by simpa using g) fun i c u h1 h2=>?_
   rw [List.getElem?_map] at h1
   cases hc:cs[i]? with
   | none=>rw [hc] at h1; cases h1
   | some s=>rw [hc] at h1; cases h1; exact (cells hx i s hc u).2 (h i s u hc h2)
 | val u=>exact Gz (x:=(.val u)) l q hx
 | loc h off=>exact Gz (x:=(.loc h off)) l q hx
 | arr h k off len=>exact Gz (x:=(.arr h k off len)) l q hx
 | el h k i j=>exact Gz (x:=(.el h k i j)) l q hx
 | mp h=>exact Gz (x:=(.mp h)) l q hx
 | ref cs=>exact Gz (x:=(.ref cs)) l q hx
 | sl sz xs=>exact Gz (x:=(.sl sz xs)) l q hx
theorem Agh (z:∀k,k<m->ιl k=ι (es k)) (A:∀k,k<m->H (es k)=Gy es (Hl k)) {F D:Aw} {w:World} {k:Nat} (hk:k<m) (hu:(Hl k).under m=true)
  (h:∀b,(Hl k).live=true->(ιl k).block? = some b->(F b=none↔D b=none)):B5 σ ι H F w (es k)↔B5 σ ιl Hl D w k:=by
 have cells:∀{cs:List AV},cs.all (AV.under1 m)=true->∀(i:Nat) (c:AV),cs[i]? = some c->∀u,(Conc σ ι H (Kz es c) u↔Conc σ ιl Hl c u) :=
  fun s i c hc u=>Gz z A (List.all_eq_true.1 s c (List.mem_of_getElem? hc))
 unfold B5
 rw [A k hk,<-z k hk]
 cases hx:Hl k with
 | none=>exact Iff.rfl
 | dead=>exact Iff.rfl
 | map l=>
  simp only [Gy]
  rw [hx] at h
  constructor
  .rintro ⟨b,M,q,f,h1,h2,h3⟩
   exact ⟨b,M,q,f,h1,(h b rfl (by rw [f]; rfl)).1 h2,h3⟩
  .rintro ⟨b,M,q,f,h1,h2,h3⟩
   exact ⟨b,M,q,f,h1,(h b rfl (by rw [f]; rfl)).2 h2,h3⟩
 | rows E sz xs=>
  simp only [Gy]
  rw [hx] at h
  refine and_congr Iff.rfl (and_congr Iff.rfl (or_congr Iff.rfl ?_))
  constructor
  .rintro ⟨b,j,C,f,h1,h2,h3⟩
   exact ⟨b,j,C,f,h1,(h b rfl (by rw [f]; rfl)).1 h2,h3⟩
  .rintro ⟨b,j,C,f,h1,h2,h3⟩
   exact ⟨b,j,C,f,h1,(h b rfl (by rw [f]; rfl)).2 h2,h3⟩
 | cells E cs=>
  simp only [Gy]
  rw [hx] at h hu
  constructor
  .rintro ⟨b,C,f,h1,h2,h3,y,x⟩
   refine ⟨b,C,f,h1,(h b rfl (by rw [f]; rfl)).1 h2,h3,by simpa using y,fun i c v hc hv=>(cells hu i c hc v).1 (x i _ v (by simp [hc]) hv)⟩
  .rintro ⟨b,C,f,h1,h2,h3,y,x⟩
   refine ⟨b,C,f,h1,(h b rfl (by rw [f]; rfl)).2 h2,h3,by simpa using y,fun i c v hc hv=>?_⟩
   rw [List.getElem?_map] at hc
   cases g:cs[i]? with
   | none=>rw [g] at hc; cases hc
   | some B=>rw [g] at hc; cases hc; exact (cells hu i B g v).2 (x i B v g hv)
end
theorem Agi {n:Nat}:∀{l:List Nat} {k:Nat},Lo n l=true->k<l.length->C4 n l k<n
 | [],k,_,h=>by simp at h
 | h::l,0,b,_=>by simp only [Lo,Bool.and_eq_true] at b; exact Fm b.1.1
 | h::l,k+1,b,hk=>by simp only [Lo,Bool.and_eq_true] at b; exact Agi (l:=l) b.2 (by simpa using hk)
theorem Su {n:Nat}:∀{l:List Nat} {k:Nat},l.length<=k->C4 n l k=n+(k-l.length)
 | [],k,_=>by simp [C4]
 | h::l,0,hk=>by simp at hk
 | h::l,k+1,hk=>by simp only [C4,List.length_cons]; rw [Su (l:=l) (by simpa using hk)]; omega
theorem Abc {n:Nat}:∀{l:List Nat} {k:Nat},k<l.length->C4 n l k∈l
 | [],k,h=>by simp at h
 | h::l,0,_=>by simp [C4]
 | h::l,k+1,hk=>by simp only [C4]; exact List.mem_cons_of_mem _ (Abc (by simpa using hk))
theorem Agj {n:Nat}:∀{l:List Nat} {j k:Nat},Lo n l=true->C4 n l j=C4 n l k->j=k
 | [],j,k,_,h=>by simp only [C4] at h; omega
 | h::l,0,0,_,_=>rfl
 | h::l,j+1,k+1,b,e=>by simp only [Lo,Bool.and_eq_true] at b; simp only [C4] at e; rw [Agj (l:=l) b.2 e]
 | h::l,0,k+1,b,e=>by
  simp only [Lo,Bool.and_eq_true] at b
  simp only [C4] at e
  rcases Nat.lt_or_ge k l.length with hk | hk
  .have:=Abc (n:=n) hk
   rw [<-e] at this
   simp [this] at b
  .have h1:=Su (n:=n) hk
   have h2:=Fm b.1.1
   omega
 | h::l,j+1,0,b,e=>by
  simp only [Lo,Bool.and_eq_true] at b
  simp only [C4] at e
  rcases Nat.lt_or_ge j l.length with hk | hk
  .have:=Abc (n:=n) hk
   rw [e] at this
   simp [this] at b
  .have h1:=Su (n:=n) hk
   have h2:=Fm b.1.1
   omega
theorem Agk {es:Nat->Nat}:∀{os:List Bb} {k i:Nat} {o:Bb},os[i]? = some o->(es (k+i),Gy es o)∈wrs es k os
 | [],k,i,o,h=>by simp at h
 | p::os,k,0,o,h=>by simp at h; subst h; simp [wrs]
 | p::os,k,i+1,o,h=>by
  simp only [wrs]
  refine List.mem_cons_of_mem _ ?_
  have:=Agk (es:=es) (k:=k+1) (i:=i) (by simpa using h)
  rwa [show k+(i+1)=k+1+i by omega]
theorem Wz {es:Nat->Nat}:∀{os:List Bb} {k x:Nat} {H:Hp},(∀i,i<os.length->es (k+i)≠x)->B2 H (wrs es k os) x=H x
 | [],k,x,H,h=>rfl
 | q::os,k,x,H,h=>by
  simp only [wrs,B2]
  rw [Wz (fun i hi=>by rw [show k+1+i=k+(i+1) by omega]; exact h (i+1) (by simpa using hi)),Ct _ _ (Ne.symm (by simpa using h 0 (by simp)))]
theorem Agl {es:Nat->Nat} (b:∀i j,es i=es j->i=j):∀{os:List Bb} {k i:Nat} {o:Bb} {H:Hp},os[i]? = some o->B2 H (wrs es k os) (es (k+i))=Gy es o
 | [],k,i,o,H,h=>by simp at h
 | q::os,k,0,o,H,h=>by
  simp at h; subst h
  simp only [wrs,B2]
  rw [Wz (fun i hi e=>by have:=b _ _ e; omega)]
  exact B4 _ _ _
 | q::os,k,i+1,o,H,h=>by
  simp only [wrs,B2]
  rw [show k+(i+1)=k+1+i by omega]
  exact Agl b (by simpa using h)
theorem Agm {es:Nat->Nat}:∀{c k i:Nat},i<c->(es (k+i),Bb.none)∈Bq es k c
 | 0,k,i,h=>by omega
 | c+1,k,0,h=>by simp [Bq]
 | c+1,k,i+1,h=>by
  simp only [Bq]
  refine List.mem_cons_of_mem _ ?_
  have:=Agm (es:=es) (c:=c) (k:=k+1) (i:=i) (by omega)
  rwa [show k+(i+1)=k+1+i by omega]
theorem Agn {es:Nat->Nat}:∀{c k:Nat} {p:Nat×Bb},p∈Bq es k c->∃i,i<c/\p=(es (k+i),Bb.none)
 | 0,k,p,h=>by simp [Bq] at h
 | c+1,k,p,h=>by
  simp only [Bq,List.mem_cons] at h
  rcases h with rfl | h
  .exact ⟨0,by omega,rfl⟩
  .obtain ⟨i,h1,h2⟩:=Agn h
   exact ⟨i+1,by omega,by rw [h2,show k+(i+1)=k+1+i by omega]⟩
theorem N7.spec {H:Hp}:∀{l:List (Nat×Bb)},N7 H l->∀p∈l,H p.1=p.2
 | [],_,p,hp=>by cases hp
 | q::l,h,p,hp=>by
  rcases List.mem_cons.1 hp with rfl | hp
  .exact h.1
  .exact N7.spec h.2 p hp
theorem Sv {b:List Bb} {k:Nat} (h:k<b.length):b[k]? = some (hp b k):=by simp [hp,h]
theorem Mm {b:List Bb} {k:Nat} (h:b.length<=k):hp b k = .none:=by simp [hp,List.getElem?_eq_none h]
section
variable {P:Program} {o:Oper} {ρ:Operand->AV} {a:Act} {w w':World}
open Classical in
theorem Aqt {n:Nat} {c:Call} {x:Operand} {f:FuncId} {caps:List AV} {l:List Nat} {largs:List AV} {hs:List Bb} {r:AV} {hs':List Bb} (ho:o.op = .call c) (hcal:c.callee = .value x) (hx:ρ x = .fn f caps)
  (hp0:Br P f largs hs r hs') (ha:largs.map (ren (C4 n l))=c.args.toList.map ρ ++ caps) (ok:Qb n l largs hs r hs'=true) :
  Bp P o ρ ⟨ren (C4 n l) r,wrs (C4 n l) 0 hs++Bq (C4 n l) l.length (hs'.length-l.length),wrs (C4 n l) 0 hs'⟩:=by
 intro σ ι H F W w a next Q s hop hrd hk
 simp only [Qb,Bool.and_eq_true] at ok
 obtain ⟨⟨⟨⟨⟨⟨o1,o2⟩,o3⟩,o4⟩,o5⟩,o6⟩,o7⟩:=ok
 have o2:=Nat.eq_of_beq_eq_true o2
 have o3:=Nat.le_of_ble_eq_true o3
 generalize hes:C4 n l=es at *
 have inj:∀i j,es i=es j->i=j:=fun i j e=>by rw [<-hes] at e; exact Agj o1 e
 obtain ⟨⟨fn,hf,hname,hbody⟩,hpp⟩:=hp0
 have hxv:=hop x (by simp [ho,Op.operands,Call.operands,hcal])
 rw [hx] at hxv
 obtain ⟨vs,hv,hl,hcap⟩:=hxv.fn_inv
 have hall:Kb σ ι H (c.args.toList.map ρ ++ caps) (c.args.map a.eval++vs) :=
  Aa8 (fun y hy=>hop y (by simp only [ho,Op.operands,Call.operands,hcal]; simp at hy ⊢; exact .inr hy)) hl hcap
 have hrun:(execOp a.eval o).run P w = .ok (.enter f (c.args.map a.eval++vs)) w:=by
  have hcf:(callFunc f (c.args.map a.eval++vs)).run P w = .ok (.enter f (c.args.map a.eval++vs)) w:=by
   unfold callFunc
   simp only [Sem.run_bind,program,Sem.run,Result.andThen_ok,hf,hname,hbody,Bool.false_eq_true,if_false,Sem.run_pure]
  simp only [execOp,ho,resolve,hcal,hv,Deferred.ofValue,invoke,Sem.run_bind,Sem.run_pure,Result.andThen_ok,Array.empty_append,hcf]
 unfold Oper.wp
 rw [hrun]
 simp only [Oper.upon]
 have hgiven:∀k,k<hs.length->H (es k)=Gy es (hp hs k):=by
  intro k hk'
  have:=hrd _ (List.mem_append_left _ (Agk (es:=es) (k:=0) (Sv hk')))
  simpa using this
 have hnew:∀k,hs.length<=k->k<hs'.length->H (es k) = .none:=by
  intro k h1 h2
  have:=hrd _ (List.mem_append_right _ (Agm (es:=es) (k:=l.length) (c:=hs'.length-l.length) (i:=k-l.length) (by omega)))
  rwa [show l.length+(k-l.length)=k by omega] at this
 let ιl:Bl:=fun k=>if k<hs.length then ι (es k) else .none
 let mine:Nat->Prop:=fun b=>∃k,k<hs.length/\(hp hs k).live=true/\(ι (es k)).block? = some b
 let Fl:Aw:=fun b=>if σ b=none/\¬mine b then w.heap[b]? else none
 have hιl:∀k,k<hs.length->ιl k=ι (es k):=fun k h=>if_pos h
 have hlive:∀k,k<hs.length->(H (es k)).live=(hp hs k).live:=fun k h=>by rw [hgiven k h,Wy]
 have hunder:∀k,k<hs.length->(hp hs k).under hs.length=true:=by
  intro k h
  have:=List.all_eq_true.1 o5 _ (List.mem_of_getElem? (Sv h))
  rw [o2]; exact this
 have hFb:∀k,k<hs.length->∀b,(hp hs k).live=true->(ιl k).block? = some b->F b=none/\Fl b=none:=by
  intro k h b h1 h2
  rw [hιl k h] at h2
  exact ⟨(s.block (by rw [hlive k h]; exact h1) h2).2.2,if_neg (fun hn=>hn.2 ⟨k,h,h1,h2⟩)⟩
 have sl:St σ ιl (hp hs) Fl W w:=by
  refine ⟨s.sto,fun b ob hb=>?_,fun k=>?_,fun k k' b h1 h2 h3 h4=>?_,s.os,s.tape,s.output,s.glo,s.drw⟩
  .by_cases hc:σ b=none/\¬mine b
   .simp only [Fl,if_pos hc] at hb; exact ⟨hb,hc.1⟩
   .simp only [Fl,if_neg hc] at hb; cases hb
  .by_cases hk':k<hs.length
   .refine (Agh (es:=es) hιl hgiven hk' (hunder k hk') (fun b h1 h2=>?_)).1 (s.obj (es k))
    obtain ⟨h3,h4⟩:=hFb k hk' b h1 h2
    rw [h3,h4]
   .unfold B5
    rw [Mm (by omega)]
    exact if_neg hk'
  .have lt:∀k,(hp hs k).live=true->k<hs.length:=by
    intro k h
    rcases Nat.lt_or_ge k hs.length with h' | h'
    .exact h'
    .rw [Mm h'] at h; cases h
   have k1:=lt k h1
   have k2:=lt k' h2
   rw [hιl k k1] at h3
   rw [hιl k' k2] at h4
   exact inj _ _ (s.inj _ _ b (by rw [hlive k k1]; exact h1) (by rw [hlive k' k2]; exact h2) h3 h4)
 have hargs:Kb σ ιl (hp hs) largs (c.args.map a.eval++vs):=by
  rw [<-ha] at hall
  refine ⟨by simpa using hall.1,fun i b u h1 h2=>?_⟩
  have:=hall.2 i (ren es b) u (by simp [h1]) h2
  refine (Agg (es:=es) hιl hgiven ?_).1 this
  rw [o2]; exact List.all_eq_true.1 o4 b (List.mem_of_getElem? h1)
 refine (hpp σ Fl W w ιl (c.args.map a.eval++vs) sl hargs).mono ?_
 rintro e w' ⟨v,σ',ι'l,rfl,le',s',hc'⟩
 let ι':Bl:=fun h=>if hh:∃k,k<hs'.length/\es k=h then ι'l hh.choose else ι h
 have hι':∀k,k<hs'.length->ι'l k=ι' (es k):=by
  intro k h
  have hh:∃k',k' < hs'.length/\es k'=es k:=⟨k,h,rfl⟩
  have:hh.choose=k:=inj _ _ hh.choose_spec.2
  simp only [ι',dif_pos hh,this]
 have hιo:∀h,(∀k,k<hs'.length->es k≠h)->ι' h=ι h:=by
  intro h hno
  exact dif_neg (fun ⟨k,k1,k2⟩=>hno k k1 k2)
 have hH':∀k,k<hs'.length->B2 H (wrs es 0 hs') (es k)=Gy es (hp hs' k):=by
  intro k h
  have:=Agl (es:=es) inj (k:=0) (H:=H) (Sv h)
  simpa using this
 have hHo:∀h,(∀k,k<hs'.length->es k≠h)->B2 H (wrs es 0 hs') h=H h:=by
  intro h hno
  exact Wz (fun i hi=>by simpa using hno i hi)
 have hle2:hs.length<=hs'.length:=by omega
 have lel:Le σ ι H σ' ι' (B2 H (wrs es 0 hs')):=by
  refine ⟨le'.sto,fun h=>?_⟩
  by_cases hh:∃k,k<hs'.length/\es k=h
  .obtain ⟨k,hk',rfl⟩:=hh
   rw [<-hι' k hk',hH' k hk']
   by_cases hk2:k<hs.length
   .have q:=le'.obj k
    rw [hιl k hk2] at q
    rw [hgiven k hk2]
    refine ⟨q.box,fun h=>?_,fun h1 E sz xs h2=>?_⟩
    .rw [Ne,Aa9] at h ⊢; exact q.some h
    .rw [Ne,Aa9] at h1
     rw [Aba] at h2
     obtain ⟨E0,sz0,xs0,e0,r0⟩:=q.rows h1 E sz xs h2
     exact ⟨E0,sz0,xs0,Aba.2 e0,r0⟩
   .have h0:=hnew k (by omega) hk'
    have:ι (es k) = .none:=by have:=s.obj (es k); unfold B5 at this; rw [h0] at this; exact this
    rw [h0,this]
    exact HLe.of_none
  .have hno:∀k,k<hs'.length->es k≠h:=fun k h1 h2=>hh ⟨k,h1,h2⟩
   rw [hιo h hno,hHo h hno]
   exact HLe.refl _ _
 have keep:∀b,σ b=none->¬mine b->∀ob,w.heap[b]? = some ob->w'.heap[b]? = some ob/\σ' b=none/\Fl b=some ob:=by
  intro b h1 h2 ob h3
  have:Fl b=some ob:=by simp only [Fl]; rw [if_pos ⟨h1,h2⟩]; exact h3
  exact ⟨(s'.fra b ob this).1,(s'.fra b ob this).2,this⟩
 have notmine:∀h b,(∀k,k<hs'.length->es k≠h)->(H h).live=true->(ι h).block? = some b->¬mine b:=by
  rintro h b hno h1 h2 ⟨k,k1,k2,k3⟩
  exact hno k (by omega) (s.inj _ _ b (by rw [hlive k k1]; exact k2) h1 k3 h2)
 have notmineF:∀b ob,F b=some ob->¬mine b:=by
  rintro b ob hb ⟨k,k1,k2,k3⟩
  have:=(s.block (by rw [hlive k k1]; exact k2) k3).2.2
  rw [this] at hb; cases hb
 have hunder':∀k,k<hs'.length->(hp hs' k).under hs'.length=true:=fun k h=>List.all_eq_true.1 o7 _ (List.mem_of_getElem? (Sv h))
 have st':St σ' ι' (B2 H (wrs es 0 hs')) F W w':=by
  refine ⟨s'.sto,fun b ob hb=>?_,fun h=>?_,fun h h' b h1 h2 h3 h4=>?_,s'.os,s'.tape,s'.output,s'.glo,s'.drw⟩
  .obtain ⟨h1,h2⟩:=s.fra b ob hb
   obtain ⟨k1,k2,_⟩:=keep b h2 (notmineF b ob hb) ob h1
   exact ⟨k1,k2⟩
  .by_cases hh:∃k,k<hs'.length/\es k=h
   .obtain ⟨k,hk',rfl⟩:=hh
    refine (Agh (es:=es) hι' hH' hk' (hunder' k hk') (fun b h1 h2=>?_)).2 (s'.obj k)
    have hf0:=(s'.block h1 h2).2.2
    refine ⟨fun _=>hf0,fun _=>?_⟩
    cases hFb:F b with
    | none=>rfl
    | some ob=>
     obtain ⟨h3,h4⟩:=s.fra b ob hFb
     have:=(keep b h4 (notmineF b ob hFb) ob h3).2.2
     rw [hf0] at this; cases this
   .have hno:∀k,k<hs'.length->es k≠h:=fun k h1 h2=>hh ⟨k,h1,h2⟩
    have hob:=s.obj h
    have hnm:=fun b h1 h2=>notmine h b hno h1 h2
    unfold B5 at hob ⊢
    rw [hHo h hno,hιo h hno]
    cases hx:H h with
    | none=>rw [hx] at hob; exact hob
    | dead=>trivial
    | cells E cs=>
     rw [hx] at hob hnm
     obtain ⟨b,C,e1,h1,h2,h3,h4,h5⟩:=hob
     obtain ⟨k1,k2,_⟩:=keep b h1 (hnm b rfl (by rw [e1]; rfl)) _ h3
     exact ⟨b,C,e1,k2,h2,k1,h4,fun i c v x y=>(h5 i c v x y).mono lel⟩
    | rows E sz xs=>
     rw [hx] at hob hnm
     obtain ⟨z1,z2,⟨e1,e2⟩ | ⟨b,tot,C,e1,h1,h2,h3,h4,h5,h6⟩⟩:=hob
     .exact ⟨z1,z2,.inl ⟨e1,e2⟩⟩
     .obtain ⟨k1,k2,_⟩:=keep b h1 (hnm b rfl (by rw [e1]; rfl)) _ h3
      exact ⟨z1,z2,.inr ⟨b,tot,C,e1,k2,h2,k1,h4,h5,h6.mono le'.sto⟩⟩
    | map l=>
     rw [hx] at hob hnm
     obtain ⟨b,M,q,e1,h1,h2,h3,h4⟩:=hob
     obtain ⟨k1,k2,_⟩:=keep b h1 (hnm b rfl (by rw [e1]; rfl)) _ h3
     exact ⟨b,M,q,e1,k2,h2,k1,h4.mono le'.sto⟩
  .have Sw:∀k,k<hs'.length->∀h,(∀k,k<hs'.length->es k≠h)->(B2 H (wrs es 0 hs') (es k)).live=true->(B2 H (wrs es 0 hs') h).live=true->(ι' (es k)).block? = some b->(ι' h).block? = some b->False:=by
    intro k hk' h hno g1 g2 g3 g4
    rw [hH' k hk',Wy] at g1
    rw [hHo h hno] at g2
    rw [<-hι' k hk'] at g3
    rw [hιo h hno] at g4
    have hf0:=(s'.block g1 g3).2.2
    have hb:=s.block g2 g4
    have hget:w.heap[b]? = some w.heap[b]:=by simp [hb.1]
    have:=(keep b hb.2.1 (notmine h b hno g2 g4) _ hget).2.2
    rw [hf0] at this; cases this
   by_cases hh:∃k,k<hs'.length/\es k=h
   .obtain ⟨k,hk',rfl⟩:=hh
    by_cases hh':∃k,k<hs'.length/\es k=h'
    .obtain ⟨k',hk2,rfl⟩:=hh'
     rw [hH' k hk',Wy] at h1
     rw [hH' k' hk2,Wy] at h2
     rw [<-hι' k hk'] at h3
     rw [<-hι' k' hk2] at h4
     rw [s'.inj k k' b h1 h2 h3 h4]
    .exact (Sw k hk' h' (fun k h1 h2=>hh' ⟨k,h1,h2⟩) h1 h2 h3 h4).elim
   .have hno:∀k,k<hs'.length->es k≠h:=fun k h1 h2=>hh ⟨k,h1,h2⟩
    by_cases hh':∃k,k<hs'.length/\es k=h'
    .obtain ⟨k',hk2,rfl⟩:=hh'
     exact (Sw k' hk2 h hno h2 h1 h4 h3).elim
    .have hno':∀k,k<hs'.length->es k≠h':=fun k h1 h2=>hh' ⟨k,h1,h2⟩
     rw [hHo h hno] at h1
     rw [hHo h' hno'] at h2
     rw [hιo h hno] at h3
     rw [hιo h' hno'] at h4
     exact s.inj h h' b h1 h2 h3 h4
 exact hk σ' ι' v w' lel st' ((Agg (es:=es) hι' hH' o6).2 hc')
end
end Go.Ab
namespace Go.Ab
section
variable {P:Program} {T:Cb} {an:Nat->Ann} {n:Nat} {o:Oper} {ρ:Operand->AV} {H:Hp} {K:Eff->Nat->Prop}
theorem Em {b:Bool} {X:Prop} (h:bif b then X else False):b=true/\X:=by
 cases b with
 | false=>exact h.elim
 | true=>exact ⟨rfl,h⟩
theorem W0 {x:AV} (h:Jp x=true):x = .val (.slice none 0 0):=by
 unfold Jp at h
 split at h
 .rfl
 .cases h
theorem Aqu {x:AV} (h:Ss x=true):∀vs,x≠.val (.agg vs):=by
 intro vs e; subst e; cases h
theorem Abd {i:TI} (h1:Nat.beq (Du i).cells.length i.zero.length=true) (h2:Ss (Du i)=true) (h3:I4 i.size (Du i)=true):(Du i).cells=i.zero.map .val:=by
 have _:=h1; have _:=h3
 unfold Du at h2 ⊢
 cases hd:i.d with
 | struct fs=>rfl
 | _=>
  rw [hd] at h2
  cases b:i.zero with
  | nil=>rfl
  | cons v l=>
   cases l with
   | cons _ _=>rfl
   | nil=>
    rw [b] at h2
    cases v <;> first | rfl | cases h2
theorem Mn {α:Type} {c:Array α} {x y:α} (h:c.toList = [x,y]):c = #[x,y]:=by
 apply Array.ext'; simpa using h
theorem Qi {α:Type} {c:Array α} {x:α} (h:c.toList = [x]):c = #[x]:=by
 apply Array.ext'; simpa using h
theorem Ob {c:Call} {b:Builtin} {xs:Array Operand} {ts:Array TypeId} (h1:c.callee = .builtin b) (h2:c.args=xs) (h3:c.argTypes=ts):c = {callee:=.builtin b,args:=xs,argTypes:=ts}:=by
 cases c; simp_all
def Dt (H:Hp) (n:Nat):Prop:=∀m,n<=m->H m = .none
def Kd (P:Program) (o:Oper) (ρ:Operand->AV) (H:Hp) (n:Nat) (K:Eff->Nat->Prop):Prop :=
 ∃b m,Bp P o ρ b/\(∀p∈b.rd,H p.1=p.2)/\K b m/\n<=m/\Dt (B2 H b.wr) m
theorem Cu (b:Dt H n) {r:AV} (h:Bp P o ρ ⟨r,[],[]⟩) (k:K ⟨r,[],[]⟩ n):Kd P o ρ H n K:=⟨_,n,h,by simp,k,Nat.le_refl _,b⟩
theorem Jq (c:Dt H n) {r:AV} {x:Nat} {b:Bb} (h:Bp P o ρ ⟨r,[(x,b)],[]⟩) (hx:H x=b) (k:K ⟨r,[(x,b)],[]⟩ n):Kd P o ρ H n K :=
 ⟨_,n,h,by simpa using hx,k,Nat.le_refl _,c⟩
theorem Ke (g:Dt H n) {r:AV} {x:Nat} {c b:Bb} (h:Bp P o ρ ⟨r,[(x,c)],[(x,b)]⟩) (hx:H x=c) (f:c≠.none) (k:K ⟨r,[(x,c)],[(x,b)]⟩ n):Kd P o ρ H n K:=by
 refine ⟨_,n,h,by simpa using hx,k,Nat.le_refl _,fun m i=>?_⟩
 have j:x<n:=by
  rcases Nat.lt_or_ge x n with h | h
  .exact h
  .exact (f (hx ▸ g x h)).elim
 show A3 H x b m=_
 rw [Ct _ _ (by omega)]; exact g m i
theorem Mo (c:Dt H n) {r:AV} {b:Bb} (h:Bp P o ρ ⟨r,[(n,.none)],[(n,b)]⟩) (k:K ⟨r,[(n,.none)],[(n,b)]⟩ (n+1)):Kd P o ρ H n K:=by
 refine ⟨_,n+1,h,by simpa using c n (Nat.le_refl _),k,by omega,fun m f=>?_⟩
 show A3 H n b m=_
 rw [Ct _ _ (by omega)]; exact c m (by omega)
theorem Aqv (j:Dt H n) {l:List Nat} {c:List AV} {f b:List Bb} {r:AV} (g:Qb n l c f r b=true) (hh:N7 H (wrs (C4 n l) 0 f))
  (h:Bp P o ρ ⟨ren (C4 n l) r,wrs (C4 n l) 0 f++Bq (C4 n l) l.length (b.length-l.length),wrs (C4 n l) 0 b⟩)
  (k:K ⟨ren (C4 n l) r,wrs (C4 n l) 0 f++Bq (C4 n l) l.length (b.length-l.length),wrs (C4 n l) 0 b⟩ (n+(b.length-l.length))):Kd P o ρ H n K:=by
 simp only [Qb,Bool.and_eq_true] at g
 have s:=g.1.1.1.1.1.1
 have u:=Nat.le_of_ble_eq_true g.1.1.1.1.2
 refine ⟨_,n+(b.length-l.length),h,fun p hp=>?_,k,by omega,fun q hq=>?_⟩
 .rcases List.mem_append.1 hp with hp | hp
  .exact hh.spec p hp
  .obtain ⟨i,hi,rfl⟩:=Agn hp
   refine j _ ?_
   show n<=C4 n l (l.length+i)
   rw [Su (by omega)]; omega
 .show B2 H (wrs (C4 n l) 0 b) q = .none
  rw [Wz (fun i hi e=>?_)]
  .exact j q (by omega)
  .rcases Nat.lt_or_ge (0+i) l.length with h1 | h1
   .have:=Agi s h1
    omega
   .have:=Su (n:=n) h1
    omega
theorem Aqw (l:Cd P T) (g:Dt H n) {t:TypeId} {x:Operand} (f:o.op = .load t x) (h:C9 P T an n o ρ H K):Kd P o ρ H n K:=by
 unfold C9 at h
 rw [f] at h
 dsimp only at h
 split at h
 .rename_i i ht
  split at h
  .rename_i cs hx
   cases b:i.isAgg with
   | true=>
    rw [b] at h
    simp only [cond_true] at h
    obtain ⟨h1,h2⟩:=Em h
    exact Cu g (Aod l f ht b hx (Nat.le_of_ble_eq_true h1)) h2
   | false=>
    rw [b] at h
    simp only [cond_false] at h
    split at h
    .exact Cu g (Aoc l f ht b hx) h
    .exact h.elim
  .rename_i hd off hx
   split at h
   .rename_i E cs hh
    cases b:i.isAgg with
    | true=>
     rw [b] at h
     simp only [cond_true] at h
     obtain ⟨h1,h2⟩:=Em h
     exact Jq g (Aof l f ht b hx (Nat.le_of_ble_eq_true h1)) hh h2
    | false=>
     rw [b] at h
     simp only [cond_false] at h
     split at h
     .rename_i c hc
      exact Jq g (Aoe l f ht b hx hc) hh h
     .exact h.elim
   .exact h.elim
  .rename_i hd k q j hx
   split at h
   .rename_i E sz xs hh
    obtain ⟨y,hk,hy,h⟩:=h
    cases b:i.isAgg with
    | true=>
     rw [b] at h
     simp only [cond_true] at h
     obtain ⟨h1,h2⟩:=Em h
     exact Jq g (Aoh l f ht b hx hk hy (Nat.le_of_ble_eq_true h1)) hh h2
    | false=>
     rw [b] at h
     simp only [cond_false] at h
     split at h
     .rename_i c hc
      exact Jq g (Aog l f ht b hx hk hy hc) hh h
     .exact h.elim
   .exact h.elim
  .exact h.elim
 .exact h.elim
theorem Aqx (g:Cd P T) (f:Dt H n) {t:TypeId} {x y:Operand} (c:o.op = .store t x y) (h:C9 P T an n o ρ H K):Kd P o ρ H n K:=by
 unfold C9 at h
 rw [c] at h
 dsimp only at h
 split at h
 .rename_i i ht
  split at h
  .rename_i hd off hx
   split at h
   .rename_i E cs hh
    obtain ⟨h1,h2⟩:=Em h
    simp only [Bool.and_eq_true] at h1
    exact Ke f (Aoj g c ht hx (Nat.eq_of_beq_eq_true h1.1.1) (Nat.le_of_ble_eq_true h1.1.2) h1.2) hh (by intro e; cases e) h2
   .exact h.elim
  .rename_i hd k q j hx
   split at h
   .rename_i E sz xs hh
    obtain ⟨z,hk,l,h⟩:=h
    obtain ⟨h1,h2⟩:=Em h
    simp only [Bool.and_eq_true] at h1
    obtain ⟨⟨⟨⟨g1,g2⟩,g3⟩,g4⟩,g5⟩:=h1
    rw [Ww,Qg] at h2
    obtain ⟨s,b,h2⟩:=h2
    subst b
    exact Ke f (Aol g c ht hx hk l (Nat.eq_of_beq_eq_true g1) (Nat.le_of_ble_eq_true g2) (Nat.le_of_ble_eq_true g3) g4 (Aqu g5)) hh (by intro e; cases e) h2
   .exact h.elim
  .exact h.elim
 .exact h.elim
theorem Aqy (q:Cd P T) (g:Dt H n) {op:BinOp} {t s:TypeId} {x y:Operand} (f:o.op = .binOp op t x y s) (h:C9 P T an n o ρ H K):Kd P o ρ H n K:=by
 unfold C9 at h
 rw [f] at h
 dsimp only at h
 split at h
 .rename_i k a j b hx hy
  split at h
  .obtain ⟨c,h1,h2,h3⟩:=h
   exact Cu g (Aov f hx hy h1 h2) h3
  .obtain ⟨c,h1,h2,h3⟩:=h
   exact Cu g (Aou f hx hy h1 h2) h3
  .replace h:=Em h; obtain ⟨hk,h⟩:=h
   have hk:k=j:=by simpa using hk
   subst hk
   split at h
   .obtain ⟨c,h1,h2⟩:=h; exact Cu g (Aon f hx hy h1) h2
   .obtain ⟨c,h1,h2⟩:=h; exact Cu g (Aoo f hx hy h1) h2
   .obtain ⟨c,h1,h2⟩:=h; exact Cu g (Aop f hx hy h1) h2
   .obtain ⟨c,h1,h2,h3⟩:=h; exact Cu g (Aoq f hx hy h1 h2) h3
   .obtain ⟨c,h1,h2,h3⟩:=h; exact Cu g (Aor f hx hy h1 h2) h3
   .split at h
    .rename_i l i; exact Cu g (Aos f hx hy i) h
    .split at h
     .rename_i c hc; exact Cu g (Aot f hx hy hc) h
     .exact h.elim
 .rename_i a b hx hy
  split at h
  .rename_i B A z ht
   split at h
   .rename_i l i; exact Cu g (Aoy q f ht rfl hx hy i) h
   .exact h.elim
  .exact h.elim
 .rename_i xs ys hx hy
  split at h
  .rename_i u h1
   split at h
   .rename_i vs h2
    split at h
    .obtain ⟨b,hb,h⟩:=h
     exact Cu g (Afw f hx hy h1 h2 hb (.inl ⟨rfl,rfl⟩)) h
    .obtain ⟨b,hb,h⟩:=h
     exact Cu g (Afw f hx hy h1 h2 hb (.inr ⟨rfl,rfl⟩)) h
    .exact h.elim
   .exact h.elim
  .exact h.elim
 .rename_i k a j b hx hy
  replace h:=Em h; obtain ⟨hk,h⟩:=h
  have hk:k=j:=by simpa using hk
  subst hk
  obtain ⟨c,h1,h2⟩:=h
  exact Cu g (Ao5 f hx hy h1) h2
 .rename_i a b hx hy
  split at h
  .obtain ⟨h1,h2⟩:=h; exact Cu g (Ao1 f hx hy h1) h2
  .split at h
   .rename_i l i; exact Cu g (Ao0 f hx hy i) h
   .exact h.elim
 .rename_i p I G E D hx hy
  split at h
  .split at h
   .rename_i N M L J ht; exact Cu g (Aoz q f ht rfl hx hy) h
   .exact h.elim
  .exact h.elim
 .exact h.elim
theorem Aqz (q:Cd P T) (j:Dt H n) {t:TypeId} {x:Operand} {lo hi:Option Operand} (g:o.op = .slice t x lo hi none) (h:C9 P T an n o ρ H K):Kd P o ρ H n K:=by
 unfold C9 at h
 rw [g] at h
 dsimp only at h
 split at h
 .rename_i e B A z ht
  split at h
  .rename_i i' u
   split at h
   .rename_i sz xs hx
    split at h
    .rename_i y h0 c hh
     replace h:=Em h; obtain ⟨g1,h⟩:=h
     obtain ⟨l,i,ys,el,b,h1,h2,hy,k⟩:=h
     subst el; subst b; subst hy
     exact Cu j (Apk q g ht rfl u (Nat.eq_of_beq_eq_true g1) hx c hh h1 h2) k
    .exact h.elim
   .rename_i hd k off len hx
    split at h
    .rename_i E sz xs f
     split at h
     .rename_i y h0 c hh
      replace h:=Em h; obtain ⟨g1,h⟩:=h
      cases h with
      | mk l i hk el b h1 h2 h3 k=>
       subst el; subst b
       exact Jq j (Apm q g ht rfl u (Nat.eq_of_beq_eq_true g1) hx hk c hh h1 h2 h3) f k
      | mkE l hk el b h2 k=>
       subst el; subst b
       exact Jq j (Ap7 q g ht rfl u hx hk c hh h2) f k
     .exact h.elim
    .exact h.elim
   .exact h.elim
  .exact h.elim
 .rename_i B A z ht
  split at h
  .rename_i s hx
   split at h
   .rename_i y h0 c hh
    obtain ⟨l,i,el,b,h1,h2,k⟩:=h
    subst el; subst b
    exact Cu j (Apl q g ht rfl hx c hh h1 h2) k
   .exact h.elim
  .exact h.elim
 .exact h.elim
theorem Aq0 (B:Cd P T) (A:Dt H n) {c:Call} (u:o.op = .call c) (h:C9 P T an n o ρ H K):Kd P o ρ H n K:=by
 unfold C9 at h
 rw [u] at h
 dsimp only at h
 split at h
 .rename_i x i
  split at h
  .rename_i f ae hx
   split at h
   .rename_i j ai
    split at h
    .rename_i hd k len hj
     split at h
     .rename_i E sz xs hh
      obtain ⟨hk,I,r,hp,hf,h⟩:=h
      subst hk
      rw [<-I] at hj
      exact Ke A (Aqq u i hx hj hp hf) hh (by intro e; cases e) h
     .exact h.elim
    .exact h.elim
   .cases h with
    | mk r hp hf k=>exact Cu A (Aqp u i hx hp hf) k
    | act l ac hs r ah hp ha ok hh k=>exact Aqv A ok hh (Aqt u i hx hp ha ok) k
  .exact h.elim
 .exact h.elim
 .rename_i i
  split at h
  .rename_i x t ha z
   rw [Ob i (Qi ha) (Qi z)] at u
   split at h
   .rename_i e Z Y X ht
    split at h
    .rename_i sz xs hx
     split at h
     .obtain ⟨c,hc,h⟩:=h
      subst hc
      exact Cu A (Afk B u ht rfl hx) h
     .exact Cu A (Afk B u ht rfl hx) h
    .rename_i p m cap hx; exact Cu A (Apc B u ht rfl hx) h
    .rename_i hd k off len hx
     split at h
     .rename_i E sz xs hh
      obtain ⟨hk,h⟩:=h
      exact Jq A (Apf B u ht rfl hx hk) hh h
     .exact h.elim
    .exact h.elim
   .rename_i Z Y X ht
    split at h
    .rename_i s hx; exact Cu A (Ape B u ht rfl hx) h
    .exact h.elim
   .exact h.elim
  .exact h.elim
 .rename_i i
  split at h
  .rename_i x t ha z
   rw [Ob i (Qi ha) (Qi z)] at u
   split at h
   .rename_i e Z Y X ht
    split at h
    .rename_i p m cap hx; exact Cu A (Apd B u ht rfl hx) h
    .exact h.elim
   .exact h.elim
  .exact h.elim
 .rename_i i
  split at h
  .rename_i x y t t' ha z
   rw [Ob i (Mn ha) (Mn z)] at u
   split at h
   .rename_i e Z Y X ht
    split at h
    .rename_i i' J
     split at h
     .rename_i h2 k2 a6 a7 hy
      split at h
      .rename_i hd k off len hx
       split at h
       .rename_i E sz xs hh
        replace h:=Em h; obtain ⟨g5,h⟩:=h
        simp only [Bool.and_eq_true] at g5
        have L:=Nat.eq_of_beq_eq_true g5.1.1.1
        have N:=Nat.eq_of_beq_eq_true g5.1.1.2
        have e3:=Nat.eq_of_beq_eq_true g5.1.2
        have e4:0<i'.size:=Nat.le_of_ble_eq_true g5.2
        subst L; subst N; subst e3
        obtain ⟨V,c,hk,I,S,R,G,hc,k⟩:=h
        subst G; subst hc
        exact Ke A (Ap5 B u ht rfl J e4 hx hk I hy S R) hh (by intro e; cases e) k
       .exact h.elim
      .rename_i q hx
       split at h
       .rename_i E sz xs hh
        replace h:=Em h; obtain ⟨g5,h⟩:=h
        have L:=Nat.eq_of_beq_eq_true g5
        subst L
        obtain ⟨hk,k⟩:=h
        exact Jq A (Ap6 B u ht rfl J hx hy hk) hh k
       .exact h.elim
      .exact h.elim
     .exact h.elim
    .exact h.elim
   .exact h.elim
  .exact h.elim
 .rename_i i
  split at h
  .rename_i x t ha z
   rw [Ob i (Qi ha) (Qi z)] at u
   split at h
   .rename_i e Z Y X ht
    split at h
    .rename_i i' J
     split at h
     .rename_i hd k off len hx
      split at h
      .rename_i E sz xs hh
       replace h:=Em h; obtain ⟨g5,h⟩:=h
       simp only [Bool.and_eq_true] at g5
       have L:=Nat.eq_of_beq_eq_true g5.1.1.1.1.1
       have N:=Nat.eq_of_beq_eq_true g5.1.1.1.1.2
       have e3:0<i'.size:=Nat.le_of_ble_eq_true g5.1.1.1.2
       subst L; subst N
       obtain ⟨V,hk,I,G,k⟩:=h
       subst G
       exact Ke A (Ap8 B u ht rfl J e3 g5.1.1.2 (Abd g5.1.2 g5.2 g5.1.1.2) hx hk I) hh (by intro e; cases e) k
      .exact h.elim
     .rename_i q hx; exact Cu A (Ap9 B u ht rfl hx) h
     .exact h.elim
    .exact h.elim
   .exact h.elim
  .exact h.elim
 .rename_i i
  split at h
  .rename_i x y t t' ha z
   rw [Ob i (Mn ha) (Mn z)] at u
   split at h
   .rename_i e Z Y X e' ab aa a8 ht D
    split at h
    .rename_i i' J
     replace h:=Em h; obtain ⟨g,h⟩:=h
     simp only [Bool.and_eq_true] at g
     obtain ⟨⟨g1,g2⟩,g3⟩:=g
     have g1:0<i'.size:=Nat.le_of_ble_eq_true g1
     have g2:=Nat.eq_of_beq_eq_true g2
     have g3:=Nat.le_of_ble_eq_true g3
     split at h
     .rename_i sz ys hy
      replace h:=Em h; obtain ⟨g4,h⟩:=h
      have g4:=Nat.eq_of_beq_eq_true g4
      subst g4
      split at h
      .rename_i hd k len hx
       split at h
       .rename_i E a1 xs hh
        replace h:=Em h; obtain ⟨g5,h⟩:=h
        simp only [Bool.and_eq_true] at g5
        have L:=Nat.eq_of_beq_eq_true g5.1
        have N:=Nat.eq_of_beq_eq_true g5.2
        subst L; subst N
        cases h with
        | mk V m hk I hb G M k=>
         subst I; subst G; subst M
         exact Ke A (Apt B u ht rfl D rfl J g1 g2 g3 hx hk hy hb) hh (by intro e; cases e) k
        | mkP V k' m hk I hb G U M k=>
         subst G; subst M; subst U
         exact Ke A (Ap1 B u ht rfl D rfl J g1 g2 g3 hx hk I hy hb) hh (by intro e; cases e) k
       .exact h.elim
      .rename_i hx
       obtain ⟨V,m,hb,G,M,k⟩:=h
       subst G; subst M
       exact Mo A (Apx B n u ht rfl D rfl J g1 g2 g3 hx hy hb) k
      .rename_i ag af hx
       obtain ⟨ad,k⟩:=h
       subst ad
       exact Cu A (Ap3 B u ht rfl D rfl J g1 hx hy) k
      .exact h.elim
     .rename_i h2 k2 a6 a7 hy
      split at h
      .rename_i hd k len hx
       split at h
       .rename_i E a1 xs hh
        replace h:=Em h; obtain ⟨g5,h⟩:=h
        simp only [Bool.and_eq_true] at g5
        have L:=Nat.eq_of_beq_eq_true g5.1.1
        have N:=Nat.eq_of_beq_eq_true g5.1.2
        have e3:=Nat.eq_of_beq_eq_true g5.2
        subst L; subst N; subst e3
        obtain ⟨V,k',m,hk,I,S,R,hb,G,U,M,k⟩:=h
        subst G; subst M; subst U
        exact Ke A (Ap4 B u ht rfl D rfl J g1 g2 g3 hx hk I hy S R hb) hh (by intro e; cases e) k
       .exact h.elim
      .exact h.elim
     .exact h.elim
    .exact h.elim
   .rename_i e Z Y X ab aa a8 ht D
    split at h
    .rename_i i' J
     replace h:=Em h; obtain ⟨g,h⟩:=h
     simp only [Bool.and_eq_true] at g
     obtain ⟨⟨g1,g2⟩,g3⟩:=g
     have g1:=Nat.eq_of_beq_eq_true g1
     have g2:=Nat.eq_of_beq_eq_true g2
     have g3:=Nat.le_of_ble_eq_true g3
     split at h
     .rename_i s hy
      split at h
      .rename_i hd k len hx
       split at h
       .rename_i E a1 xs hh
        replace h:=Em h; obtain ⟨g5,h⟩:=h
        simp only [Bool.and_eq_true] at g5
        have L:=Nat.eq_of_beq_eq_true g5.1
        have N:=Nat.eq_of_beq_eq_true g5.2
        subst L; subst N
        obtain ⟨_,_,_,_,_,_,_,_,_,k⟩ | ⟨V,m,hk,I,hb,G,M,k⟩:=h
        .exact k.elim
        subst I; subst G; subst M
        exact Ke A (Apw B u ht rfl D rfl J g1 g2 g3 hx hk hy hb) hh (by intro e; cases e) k
       .exact h.elim
      .exact h.elim
     .exact h.elim
    .exact h.elim
   .exact h.elim
  .exact h.elim
 .rename_i i
  split at h
  .rename_i x y t t' ha z
   rw [Ob i (Mn ha) (Mn z)] at u
   split at h
   .rename_i k a k' b hx hy
    exact Cu A (Apz u hx hy) h
   .exact h.elim
  .exact h.elim
 .rename_i i
  split at h
  .rename_i x y t t' ha z
   rw [Ob i (Mn ha) (Mn z)] at u
   split at h
   .rename_i k a k' b hx hy
    exact Cu A (Ap0 u hx hy) h
   .exact h.elim
  .exact h.elim
 .exact h.elim
theorem Ago (B:Cd P T) (A:Dt H n) (h:C9 P T an n o ρ H K):Kd P o ρ H n K:=by
 cases u:o.op with
 | load t x=>exact Aqw B A u h
 | store t x y=>exact Aqx B A u h
 | binOp op t x y yt=>exact Aqy B A u h
 | call c=>exact Aq0 B A u h
 | slice t x lo hi mx=>
  cases mx with
  | none=>exact Aqz B A u h
  | some m=>unfold C9 at h; rw [u] at h; exact h.elim
 | move x=>unfold C9 at h; rw [u] at h; exact Cu A (An8 u) h
 | assign x=>
  unfold C9 at h; rw [u] at h; dsimp only at h
  split at h
  .exact Cu A (Sk u) h
  .split at h
   .exact Cu A (Sk u) h
   .exact Cu A (Sk u) h
   .exact Cu A (Sk u) h
   .cases hb:Jp (ρ x) with
    | false=>rw [hb] at h; exact Cu A (Sk u) h
    | true=>
     rw [hb] at h
     simp only [cond_true] at h
     split at h
     .rename_i e I G J ht
      split at h
      .rename_i i' D
       replace h:=Em h; obtain ⟨g1,h⟩:=h
       exact Mo A (Apy B n u (W0 hb) ht rfl D (Nat.le_of_ble_eq_true g1)) h
      .exact h.elim
     .exact h.elim
 | pick c a b=>
  unfold C9 at h; rw [u] at h; dsimp only at h
  split at h
  .rename_i t hc; exact Cu A (An9 u hc) h
  .exact h.elim
 | alloc t=>
  unfold C9 at h; rw [u] at h; dsimp only at h
  split at h
  .rename_i i ht; exact Mo A (Aoa B n u ht) h
  .exact h.elim
 | box t x=>unfold C9 at h; rw [u] at h; exact Mo A (Aob n u) h
 | build t parts=>
  unfold C9 at h; rw [u] at h; dsimp only at h
  split at h
  .rename_i fs I G z ht
   split at h
   .rename_i cs hc; exact Cu A (Apn B u ht rfl hc) h
   .exact h.elim
  .exact h.elim
 | buildSlice t len parts=>
  unfold C9 at h; rw [u] at h; dsimp only at h
  split at h
  .rename_i e I G J ht
   split at h
   .rename_i i' D
    replace h:=Em h; obtain ⟨g,h⟩:=h
    simp only [Bool.and_eq_true] at g
    obtain ⟨⟨⟨g1,g2⟩,g3⟩,g4⟩:=g
    have g2:parts.toList.map (·.1)=List.range' 0 len:=by simpa using g2
    have g4:∀p∈parts.toList,I4 i'.size (ρ p.2)=true:=List.all_eq_true.1 g4
    split at h
    .exact h.elim
    .rw [Wx] at h
     exact Cu A (Afp B u ht rfl D (Nat.le_of_ble_eq_true g1) g2 (Nat.le_of_ble_eq_true g3) g4) h
    .rw [Wx] at h
     exact Cu A (Afp B u ht rfl D (Nat.le_of_ble_eq_true g1) g2 (Nat.le_of_ble_eq_true g3) g4) h
    .rw [Wx] at h
     exact Mo A (App B n u ht rfl D (Nat.le_of_ble_eq_true g1) g2 (Nat.le_of_ble_eq_true g3) g4) h
   .exact h.elim
  .exact h.elim
 | nilCheck x=>
  unfold C9 at h; rw [u] at h; dsimp only at h
  replace h:=Em h; obtain ⟨g1,h⟩:=h
  exact Cu A (Aom u g1) h
 | unOp op t x=>
  unfold C9 at h; rw [u] at h; dsimp only at h
  split at h
  .rename_i b hx; exact Cu A (Ao2 u hx) h
  .rename_i k m hx
   obtain ⟨c,h1,h2⟩:=h
   exact Cu A (Ao3 u hx h1) h2
  .exact h.elim
 | convert s d x=>
  unfold C9 at h; rw [u] at h; dsimp only at h
  split at h
  .rename_i i k I G J M m hs hd hx
   obtain ⟨c,h1,h2⟩:=h
   exact Cu A (Ao4 B u hs hd rfl hx h1) h2
  .rename_i v0 k0 I G J k1 m h1 h2 hx
   exact Cu A (Ao6 B u h1 h2 rfl hx) h
  .rename_i v0 k0 I G J q m h1 h2 hx
   obtain ⟨c,g1,g2⟩:=h
   exact Cu A (Ao7 B u h1 h2 rfl hx g1) g2
  .exact h.elim
 | makeFunc fn first Z=>
  cases fn with
  | func f=>
   unfold C9 at h; rw [u] at h; dsimp only at h
   replace h:=Em h; obtain ⟨g1,h⟩:=h
   have:first = #[]:=by simpa using g1
   subst this
   exact Cu A (Apj u) h
  | _=>unfold C9 at h; rw [u] at h; exact h.elim
 | makeSlice t x y=>
  unfold C9 at h; rw [u] at h; dsimp only at h
  split at h
  .rename_i e I G J ht
   split at h
   .rename_i i' D
    split at h
    .rename_i k l M c hx hy
     replace h:=Em h; obtain ⟨g,h⟩:=h
     simp only [Bool.and_eq_true] at g
     obtain ⟨⟨⟨g1,g2⟩,g3⟩,g4⟩:=g
     rcases h with ⟨l',c',zs,el,Y,h1,h2,h3,S,k⟩ | ⟨z',V,l',c',zs,el,Y,h1,h2,h3,S,k⟩
     .subst el; subst Y; subst S
      exact Mo A (Apq B n u ht rfl D (Nat.le_of_ble_eq_true g1) hx hy h1 h2 h3 g2 (Abd g3 g4 g2)) k
     .subst el; subst Y; subst S
      exact Mo A (Apr B z' n u ht rfl D (Nat.le_of_ble_eq_true g1) hx hy h1 h2 h3 g2 (Abd g3 g4 g2) V) k
    .exact h.elim
   .exact h.elim
  .exact h.elim
 | fieldAddr s x f=>
  unfold C9 at h; rw [u] at h; dsimp only at h
  split at h
  .rename_i fs I G J ht
   split at h
   .rename_i q R
    split at h
    .rename_i hd off hx; exact Cu A (Ao9 B u ht rfl R hx) h
    .rename_i cs hx; exact Cu A (Apa B u ht rfl R hx) h
    .rename_i hd k m j hx
     split at h
     .rename_i E sz xs hh
      obtain ⟨hk,h⟩:=h
      exact Jq A (Apb B u ht rfl R hx hk) hh h
     .exact h.elim
    .exact h.elim
   .exact h.elim
  .exact h.elim
 | indexAddr t x y=>
  unfold C9 at h; rw [u] at h; dsimp only at h
  split at h
  .rename_i e I G J ht
   split at h
   .rename_i i' D
    split at h
    .rename_i sz xs k i hx hy
     replace h:=Em h; obtain ⟨g1,h⟩:=h
     obtain ⟨m,z,hi,S,M⟩:=h
     subst hi
     exact Cu A (Apg B u ht rfl D (Nat.eq_of_beq_eq_true g1) hx hy S) M
    .rename_i hd k off len kk i hx hy
     split at h
     .rename_i E sz xs hh
      replace h:=Em h; obtain ⟨g1,h⟩:=h
      obtain ⟨m,hk,hi,hm,M⟩:=h
      subst hi
      exact Jq A (Aph B u ht rfl D hx hk hy hm (Nat.eq_of_beq_eq_true g1)) hh M
     .exact h.elim
    .exact h.elim
   .exact h.elim
  .exact h.elim
 | index t x y=>
  unfold C9 at h; rw [u] at h; dsimp only at h
  split at h
  .rename_i I G J ht
   split at h
   .rename_i s k i hx hy
    obtain ⟨m,c,hi,hc,M⟩:=h
    subst hi
    exact Cu A (Api B u ht rfl hx hy hc) M
   .exact h.elim
  .exact h.elim
 | field t x f=>
  unfold C9 at h; rw [u] at h; dsimp only at h
  split at h
  .rename_i fs I G J ht
   split at h
   .rename_i q hq
    split at h
    .rename_i cs hx
     obtain ⟨ft,R,h⟩:=h
     split at h
     .rename_i U D
      cases L:U.isAgg with
      | true=>
       rw [L] at h
       simp only [cond_true] at h
       obtain ⟨h1,h2⟩:=Em h
       exact Cu A (Afx B u ht rfl hq R D hx (.inl ⟨L,Nat.le_of_ble_eq_true h1,rfl⟩)) h2
      | false=>
       rw [L] at h
       simp only [cond_false] at h
       split at h
       .rename_i c hc
        exact Cu A (Afx B u ht rfl hq R D hx (.inr ⟨L,hc⟩)) h
       .exact h.elim
     .exact h.elim
    .exact h.elim
   .exact h.elim
  .exact h.elim
 | makeMap t r=>
  cases r with
  | none=>unfold C9 at h; rw [u] at h; exact Mo A (Aqa n u) h
  | some q=>unfold C9 at h; rw [u] at h; exact h.elim
 | lookup t x y ok=>
  unfold C9 at h; rw [u] at h; dsimp only at h
  split at h
  .rename_i kt et I G J ht
   split at h
   .rename_i q1 q2 q3 hk
    split at h
    .rename_i U D
     split at h
     .rename_i hd hx
      split at h
      .rename_i s hy
       split at h
       .rename_i es hh
        obtain ⟨r,N,h⟩:=h
        exact Jq A (Aqb B u ht rfl hk rfl D hx hy N) hh h
       .exact h.elim
      .exact h.elim
     .exact h.elim
    .exact h.elim
   .split at h
    .rename_i U D
     split at h
     .rename_i hd hx
      split at h
      .rename_i ks hy
       split at h
       .rename_i us hu
        split at h
        .rename_i es hh
         obtain ⟨r,hc,N,h⟩:=h
         exact Jq A (Aqd B u ht rfl D hx hy hu hc N) hh h
        .exact h.elim
       .exact h.elim
      .exact h.elim
     .exact h.elim
    .exact h.elim
   .exact h.elim
  .exact h.elim
 | mapUpdate t x y z=>
  unfold C9 at h; rw [u] at h; dsimp only at h
  split at h
  .rename_i kt et I G J ht
   split at h
   .rename_i q1 q2 q3 hk
    split at h
    .rename_i hd hx
     split at h
     .rename_i s hy
      split at h
      .rename_i es hh
       obtain ⟨g1,h⟩:=Em h
       rw [Qg] at h
       obtain ⟨X,N,h⟩:=h
       exact Ke A (Aqc B u ht rfl hk rfl hx hy g1 N) hh (by intro e; cases e) h
      .exact h.elim
     .exact h.elim
    .exact h.elim
   .split at h
    .rename_i hd hx
     split at h
     .rename_i ks hy
      split at h
      .rename_i us hu
       split at h
       .rename_i es hh
        obtain ⟨g1,h⟩:=Em h
        rw [Qg] at h
        obtain ⟨X,hc,N,rfl,h⟩:=h
        exact Ke A (Aqe B u ht rfl hx hy hu g1 hc N) hh (by intro e; cases e) h
       .exact h.elim
      .exact h.elim
     .exact h.elim
    .exact h.elim
   .exact h.elim
  .exact h.elim
 | extract x i=>
  unfold C9 at h; rw [u] at h; dsimp only at h
  split at h
  .rename_i cs hx
   split at h
   .rename_i c hc; exact Cu A (Ao8 u hx hc) h
   .exact h.elim
  .exact h.elim
 | _=>unfold C9 at h; rw [u] at h; exact h.elim
end
end Go.Ab
namespace Go.Ab
theorem Gn {t:Bool} {A B:Prop} (h:t=true) (k:A):bif t then A else B:=by rw [h]; exact k
theorem Abe {t:Bool} {A B:Prop} (h:t=false) (k:B):bif t then A else B:=by rw [h]; exact k
abbrev Gp:=List (List Nat×List Nat)
def Jr (l:List (Nat×Nat)):Nat->List AV->List AV
 | _,[]=>[]
 | i,x::xs=>(bif Jp x then (match l.lookup i with | some sz=>.sl sz [] | none=>x) else x)::Jr l (i+1) xs
def elN (l:List (Nat×Nat)) (x:AV):AV :=
 match x with
 | .val (.agg vs)=>.agg (Jr l 1000 (vs.toList.map .val))
 | .agg cs=>.agg (Jr l 1000 cs)
 | x=>x
def Js (l:List (Nat×Nat)) (x:AV):AV :=
 match l with
 | []=>x
 | p::l=>
  match x with
  | .sl sz xs=>bif Nat.ble 1000 p.1 then .sl sz (xs.map (elN (p::l))) else .sl sz xs
  | .agg cs=>.agg (Jr (p::l) 0 cs)
  | x=>bif Jp x then .sl p.2 [] else x
def Kf (nl:Nat->List (Nat×Nat)):Option Nat->List (Nat×Nat)
 | none=>[]
 | some d=>nl d
theorem W1 {σ:Aw} {ι:Bl} {H:Hp} {x:AV} {v:Value} {sz:Nat} (hx:Jp x=true) (h:Conc σ ι H x v):Conc σ ι H (.sl sz []) v:=by
 rw [W0 hx] at h
 rw [h.val_inv]
 exact .cc (.nil sz none 0)
theorem Abf {l:List (Nat×Nat)}:∀{cs:List AV} {i k:Nat} {c:AV},(Jr l k cs)[i]? = some c->∃b,cs[i]? = some b/\(c=b\/(Jp b=true/\∃sz,c = .sl sz []))
 | [],i,k,c,h=>by simp [Jr] at h
 | x::xs,0,k,c,h=>by
  simp only [Jr,List.getElem?_cons_zero,Option.some.injEq] at h
  refine ⟨x,rfl,?_⟩
  cases hx:Jp x with
  | false=>rw [hx] at h; exact .inl h.symm
  | true=>
   rw [hx] at h
   simp only [cond_true] at h
   split at h
   .rename_i sz _; exact .inr ⟨rfl,sz,h.symm⟩
   .exact .inl h.symm
 | x::xs,i+1,k,c,h=>by
  simp only [Jr,List.getElem?_cons_succ] at h
  obtain ⟨b,h1,h2⟩:=Abf h
  exact ⟨b,by simpa using h1,h2⟩
theorem Abg {l:List (Nat×Nat)}:∀{cs:List AV} {k:Nat},(Jr l k cs).length=cs.length
 | [],_=>rfl
 | x::xs,k=>by simp only [Jr,List.length_cons,Abg]
theorem Aq1 {l:List (Nat×Nat)} {σ:Aw} {x:AV}:(elN l x).cells.length=x.cells.length/\∀(j:Nat) (c b:AV) (u:Value),x.cells[j]? = some c->(elN l x).cells[j]? = some b->CC σ c u->CC σ b u:=by
 have key:∀cs:List AV,(Jr l 1000 cs).length=cs.length/\∀(j:Nat) (c b:AV) (u:Value),cs[j]? = some c->(Jr l 1000 cs)[j]? = some b->CC σ c u->CC σ b u:=by
  intro cs
  refine ⟨Abg,fun j c b u h1 h2 h3=>?_⟩
  obtain ⟨f,g1,rfl | ⟨g2,sz,rfl⟩⟩:=Abf h2
  .rw [h1] at g1; cases g1; exact h3
  .rw [h1] at g1; cases g1
   rw [W0 g2] at h3
   cases h3
   exact .nil sz none 0
 unfold elN
 split
 .exact key _
 .exact key _
 .exact ⟨rfl,fun j c b u h1 h2 h3=>by rw [h1] at h2; cases h2; exact h3⟩
theorem CC.mapEl {σ:Aw} {sz:Nat} {xs:List AV} {v:Value} (f:AV->AV) (B:∀x,(f x).cells.length=x.cells.length/\∀(j:Nat) (c k:AV) (u:Value),x.cells[j]? = some c->(f x).cells[j]? = some k->CC σ c u->CC σ k u) (h:CC σ (.sl sz xs) v):CC σ (.sl sz (xs.map f)) v:=by
 cases h with
 | nil sz a cap=>exact .nil sz a cap
 | sl _ b off cap _ C E fr g D G hc h1 J I s=>
  have q:(xs.map f).length=xs.length:=by simp
  have l:∀(i:Nat) (y:AV) (j:Nat) (k:AV),(xs.map f)[i]? = some y->y.cells[j]? = some k->∃x c,xs[i]? = some x/\x.cells[j]? = some c/\y=f x:=by
   intro i y j k g1 g2
   rw [List.getElem?_map] at g1
   cases hx:xs[i]? with
   | none=>rw [hx] at g1; cases g1
   | some x=>
    rw [hx] at g1; cases g1
    have hj:j<x.cells.length:=by rw [<-(B x).1]; exact (List.getElem?_eq_some_iff.1 g2).1
    exact ⟨x,x.cells[j],rfl,List.getElem?_eq_getElem hj,rfl⟩
  rw [<-q]
  refine .sl (xs.map f) b off cap sz C E fr g D ?_ ?_ ?_ (fun i j hi hj=>J i j (by simpa using hi) hj) (by simpa using I) (by simpa using s)
  .intro i y hy
   rw [List.getElem?_map] at hy
   cases hx:xs[i]? with
   | none=>rw [hx] at hy; cases hy
   | some x=>rw [hx] at hy; cases hy; rw [(B x).1]; exact G i x hx
  .intro i y j k g1 g2
   obtain ⟨x,c,A,z,rfl⟩:=l i y j k g1 g2
   exact (B x).2 j c k _ z g2 (hc i x j c A z)
  .intro i y j k g1 g2
   obtain ⟨x,c,A,z,rfl⟩:=l i y j k g1 g2
   exact h1 i x j c A z
theorem Aq2 {l:List (Nat×Nat)} {σ:Aw} {ι:Bl} {H:Hp} {x:AV} {v:Value} (h:Conc σ ι H x v):Conc σ ι H (Js l x) v:=by
 unfold Js
 split
 .exact h
 .split
  .rename_i _ p l _ sz xs
   cases hb:Nat.ble 1000 p.1 with
   | false=>exact h
   | true=>exact .cc (h.sl_inv.mapEl _ fun x=>Aq1)
  .rename_i cs
   obtain ⟨vs,rfl,b,hv⟩:=h.agg_inv
   refine .agg _ vs (by rw [Abg]; exact b) fun i c u h1 h2=>?_
   obtain ⟨g,h3,rfl | ⟨f,sz,rfl⟩⟩:=Abf h1
   .exact hv i _ u h3 h2
   .exact W1 f (hv i _ u h3 h2)
  .cases hx:Jp x with
   | false=>exact h
   | true=>exact W1 hx h
theorem Bp.nils {P:Program} {o:Oper} {ρ:Operand->AV} {b:Eff} (l:List (Nat×Nat)) (h:Bp P o ρ b):Bp P o ρ ⟨Js l b.r,b.rd,b.wr⟩ :=
 fun σ ι H F W w a next Q s hx g hk=>h σ ι H F W w a next Q s hx g fun c f v w' le s' hc=>hk c f v w' le s' (Aq2 hc)
def H5 (e:Bh) (d:Option Nat) (r:AV) (H:Hp) (b:List (Nat×Bb)) (K:Bh->Hp->Prop):Prop :=
 match d with
 | none=>
  (match b with
  | []=>K e H
  | [p]=>K e (A3 H p.1 p.2)
  | p::q::l=>K e (B2 H (p::q::l)))
 | some t=>
  (match b with
  | []=>K (A3 e t r) H
  | [p]=>K (A3 e t r) (A3 H p.1 p.2)
  | p::q::l=>K (A3 e t r) (B2 H (p::q::l)))
theorem W2 (e:Bh) (d:Option Nat) (r:AV) (H:Hp) (b:List (Nat×Bb)) (K:Bh->Hp->Prop):H5 e d r H b K=K (put e d r) (B2 H b):=by
 cases d <;> cases b with
 | nil=>rfl
 | cons p l=>cases l <;> rfl
def H6 (P:Program) (T:Cb) (an:Nat->Ann) (nl:Nat->List (Nat×Nat)) (ops:Array Oper):List Oper->List Nat->Nat->Bh->Hp->Gp->(Nat->Bh->Hp->Gp->Prop)->Prop
 | [],_,n,e,H,acc,K=>K n e H acc
 | o::os,f,n,e,H,acc,K=>
  match o.guard with
  | none=>C9 P T an n o (ev e) H fun c m=>I7 (Js (Kf nl o.dst) c.r) fun r=>K1 c.wr fun wr=>He c.rd fun h=>He wr fun g=>H5 e o.dst r H wr fun e H=>H6 P T an nl ops os f m e H (acc++[(h,g)]) K
  | some p=>
   match (ops[p.1]?).bind (·.dst) with
   | none=>False
   | some s=>
    match e s with
    | .val (.bool b)=>
     match f.elem s with
     | true=>
      (match b with
      | true=>
       (match p.2 with
       | true=>C9 P T an n o (ev e) H fun c m=>I7 (Js (Kf nl o.dst) c.r) fun r=>K1 c.wr fun wr=>He c.rd fun h=>He wr fun g=>H5 e o.dst r H wr fun e H=>H6 P T an nl ops os f m e H (acc++[(h,g)]) K
       | false=>H5 e o.dst (.val undef) H [] fun e H=>H6 P T an nl ops os f n e H (acc++[([],[])]) K)
      | false=>
       (match p.2 with
       | true=>H5 e o.dst (.val undef) H [] fun e H=>H6 P T an nl ops os f n e H (acc++[([],[])]) K
       | false=>C9 P T an n o (ev e) H fun c m=>I7 (Js (Kf nl o.dst) c.r) fun r=>K1 c.wr fun wr=>He c.rd fun h=>He wr fun g=>H5 e o.dst r H wr fun e H=>H6 P T an nl ops os f m e H (acc++[(h,g)]) K))
     | false=>
      bif b then
       (match p.2 with
       | true=>C9 P T an n o (ev (A3 e s (.val (.bool true)))) H fun c m=>I7 (Js (Kf nl o.dst) c.r) fun r=>K1 c.wr fun wr=>He c.rd fun h=>He wr fun g=>H5 (A3 e s (.val (.bool true))) o.dst r H wr fun e H=>H6 P T an nl ops os (s::f) m e H (acc++[(h,g)]) K
       | false=>H5 (A3 e s (.val (.bool true))) o.dst (.val undef) H [] fun e H=>H6 P T an nl ops os (s::f) n e H (acc++[([],[])]) K)
      else
       (match p.2 with
       | true=>H5 (A3 e s (.val (.bool false))) o.dst (.val undef) H [] fun e H=>H6 P T an nl ops os (s::f) n e H (acc++[([],[])]) K
       | false=>C9 P T an n o (ev (A3 e s (.val (.bool false)))) H fun c m=>I7 (Js (Kf nl o.dst) c.r) fun r=>K1 c.wr fun wr=>He c.rd fun h=>He wr fun g=>H5 (A3 e s (.val (.bool false))) o.dst r H wr fun e H=>H6 P T an nl ops os (s::f) m e H (acc++[(h,g)]) K)
    | .val (.tuple _)=>H5 e o.dst (.val undef) H [] fun e H=>H6 P T an nl ops os f n e H (acc++[([],[])]) K
    | _=>False
inductive Kg (ops:List Oper) (acc:Gp) (K:Prop):Prop where
 | mk (h:Aay ops acc=true) (k:K)
inductive Ex where
 | normal
 | exit (id:Nat)
 | ret
def Fo (e:Bh):List (Nat×AV)->Prop
 | []=>True
 | p::l=>e p.1=p.2/\Fo e l
def Fp (H H':Hp):Nat->Nat->Prop
 | 0,_=>True
 | k+1,n=>(H k=H' k/\(H' k).under n=true)/\Fp H H' k n
def Iq (b:List Nat) (e:Bh) (u:Nat->Value) (l:List (Nat×AV)):Bh:=l.foldr (fun p e=>A3 e p.1 p.2) (b.foldr (fun s e=>A3 e s (.val (u s))) e)
def I8 (n:Nat) (b:List (Nat×AV)) (hv:List (Nat×Bb)):Bool:=(b.all fun p=>p.2.under n)&&hv.all fun p=>Nat.blt p.1 n
inductive Aq3 (n:Nat) (ws:List Nat) (e:Bh) (H:Hp) (body:(Nat->Bh->Hp->Prop)->Nat->Bh->Hp->Prop):Prop where
 | mk (I:Type) (inv:I->Prop) (iv:I->List (Nat×AV)) (hv:I->List (Nat×Bb)) (m:I->Nat) (i0:I) (hb:∀i,I8 n (iv i) (hv i)=true)
   (h0:inv i0) (hs:Fo e (iv i0)) (hh:Fp H (B2 H (hv i0)) n n)
   (step:∀(i:I) (u:Nat->Value),inv i->body (fun _ e' H'=>∃i',inv i'/\Fo e' (iv i')/\Fp H' (B2 H (hv i')) n n/\m i' < m i) n (Iq ws e u (iv i)) (B2 H (hv i)))
def D1:Code->List Nat
 | .region _ ops _=>ops.toList.filterMap (·.dst)
 | .seq a b=>D1 a++D1 b
 | .cond _ a b=>D1 a++D1 b
 | .block _ b=>D1 b
 | .loop b=>D1 b
 | .scope b=>D1 b
 | _=>[]
def W3:List Nat->Bh->Hp->(Bh->Hp->Prop)->Prop
 | [],e,H,K=>K e H
 | s::b,e,H,K=>
  match e s with
  | .arr h k 0 len=>
   match H h with
   | .rows _ sz xs=>E9 k xs (E9 len xs (W3 b (A3 e s (.sl sz xs)) (A3 H h .dead) K))
   | _=>False
  | _=>False
structure Cfg where
 T:Cb
 an:Nat->Ann:=fun _=>.std
 gh:Nat->List Nat:=fun _=>[]
 nl:Nat->List (Nat×Nat):=fun _=>[]
def Agp (x:AV) (A B:Prop):Prop :=
 match x with
 | .val (.bool t)=>bif t then A else B
 | _=>False
def vc (P:Program) (C:Cfg):Code->(Ex->Nat->Bh->Hp->Prop)->Nat->Bh->Hp->Prop
 | .skip,Q,n,e,H=>Q .normal n e H
 | .region id ops draw,Q,n,e,H=>W3 (C.gh id) e H fun e H=>
   H6 P C.T C.an C.nl ops ops.toList [] n e H [] fun n e H acc=>bif draw then Kg ops.toList acc (Q .normal n e H) else Q .normal n e H
 | .seq a b,Q,n,e,H=>vc P C a (fun x n e H=>match x with
   | .normal=>vc P C b Q n e H
   | .exit id=>Q (.exit id) n e H
   | .ret=>Q .ret n e H) n e H
 | .cond c a b,Q,n,e,H=>Agp (ev e c) (vc P C a Q n e H) (vc P C b Q n e H)
 | .block id b,Q,n,e,H=>vc P C b (fun x n e H=>match x with
   | .normal=>Q .normal n e H
   | .exit i=>bif Nat.beq i id then Q .normal n e H else Q (.exit i) n e H
   | .ret=>Q .ret n e H) n e H
 | .loop b,Q,n,e,H=>Aq3 n (D1 b) e H fun K n e H=>vc P C b (fun x n e H=>match x with
   | .normal=>K n e H
   | .exit id=>Q (.exit id) n e H
   | .ret=>Q .ret n e H) n e H
 | .exit id,Q,n,e,H=>Q (.exit id) n e H
 | .ret,Q,n,e,H=>Q .ret n e H
 | _,_,_,_,_=>False
def Agq (N:Nat) (x:Operand):Bool :=
 match x with
 | .tmp t=>Nat.blt t N
 | _=>true
def H7 (N:Nat):Code->Bool
 | .region _ ops _=>ops.toList.all fun o=>(I6 ops o).all fun s=>Nat.blt s N
 | .seq a b=>H7 N a&&H7 N b
 | .cond c a b=>Agq N c&&H7 N a&&H7 N b
 | .block _ b=>H7 N b
 | .loop b=>H7 N b
 | .scope b=>H7 N b
 | _=>true
def Ex.out:Ex->Exit
 | .normal=>.normal
 | .exit id=>.exit id
 | .ret=>.ret
section
variable {P:Program} {T:Cb} {an:Nat->Ann} {nl:Nat->List (Nat×Nat)} {ops:Array Oper} {F:Aw} {W:World} {Q:Exit->Act->World->Prop}
theorem W4 {α:Type} {e:Nat->α} {s:Nat} {v:α} (h:e s=v):A3 e s v=e:=by subst h; exact Gx e s
theorem Abh (M:Cd P T):∀(os:List Oper) (g:List Nat) (i n:Nat) (e:Bh) (H:Hp) (acc:Gp) (K:Nat->Bh->Hp->Gp->Prop),ops.toList.drop i=os->acc.length=i->Dt H n->H6 P T an nl ops os g n e H acc K ->
  ∃f e' H' accs,K f e' H' accs/\accs.take i=acc/\accs.length=i+os.length/\n<=f/\Dt H' f/\Run P ops (fun k=>accs.getD k ([],[])) (List.range' i os.length) e H e' H'
 | [],g,i,n,e,H,acc,K,hd,y,D,h=>⟨n,e,H,acc,h,by rw [<-y]; simp,by simpa using y,Nat.le_refl _,D,.nil e H⟩
 | o::os,g,i,n,e,H,acc,K,hd,y,D,h=>by
  have N:ops[i]? = some o:=by
   have:=congrArg (fun l=>l[0]?) hd
   simpa using this
  have A:ops.toList.drop (i+1)=os:=by
   have:=congrArg (List.drop 1) hd
   simpa [List.drop_drop] using this
  have run:∀(u:Bh) (g:List Nat),Gm ops o u true->(C9 P T an n o (ev u) H fun c m=>I7 (Js (Kf nl o.dst) c.r) fun r=>K1 c.wr fun wr=>He c.rd fun S=>He wr fun R=>H5 u o.dst r H wr fun e H=>H6 P T an nl ops os g m e H (acc++[(S,R)]) K) ->
    ∃f e' H' accs,K f e' H' accs/\accs.take i=acc/\accs.length=i+(o::os).length/\n<=f/\Dt H' f/\Run P ops (fun k=>accs.getD k ([],[])) (List.range' i (o::os).length) u H e' H':=by
   intro u g j x
   obtain ⟨c,m,h1,h2,h3,Z,X⟩:=Ago M D x
   simp only [Qg,Aa6,Aa7,W2] at h3
   obtain ⟨f,e',H',accs,I,B,V,U,G,E⟩:=Abh M os g (i+1) m _ _ _ K A (by simp [y]) X h3
   have L:accs[i]? = some (c.rd.map (·.1),c.wr.map (·.1)):=by
    have Y:(accs.take (i+1))[i]? = accs[i]?:=List.getElem?_take_of_lt (by omega)
    rw [<-Y,B,List.getElem?_append_right (by omega)]
    simp [y]
   have z:accs.getD i ([],[])=(c.rd.map (·.1),c.wr.map (·.1)):=by simp [List.getD,L]
   refine ⟨f,e',H',accs,I,?_,by simp only [List.length_cons]; omega,by omega,G,?_⟩
   .have:=congrArg (List.take i) B
    rw [List.take_take] at this
    simpa [y] using this
   .rw [List.length_cons,List.range'_succ]
    refine .cons o (Js (Kf nl o.dst) c.r) c.wr ⟨N,.inl ⟨j,_,h1.nils (Kf nl o.dst),h2,?_,?_,rfl,rfl⟩⟩ E
    .intro p hp; show p.1∈(accs.getD i ([],[])).1; rw [z]; exact List.mem_map_of_mem hp
    .intro p hp; show p.1∈(accs.getD i ([],[])).2; rw [z]; exact List.mem_map_of_mem hp
  have skip:∀(u:Bh) (g:List Nat),Gm ops o u false->(H5 u o.dst (.val undef) H [] fun e H=>H6 P T an nl ops os g n e H (acc++[([],[])]) K) ->
    ∃f e' H' accs,K f e' H' accs/\accs.take i=acc/\accs.length=i+(o::os).length/\n<=f/\Dt H' f/\Run P ops (fun k=>accs.getD k ([],[])) (List.range' i (o::os).length) u H e' H':=by
   intro u g j x
   rw [W2] at x
   obtain ⟨f,e',H',accs,I,B,V,U,G,E⟩:=Abh M os g (i+1) n _ _ _ K A (by simp [y]) D x
   refine ⟨f,e',H',accs,I,?_,by simp only [List.length_cons]; omega,by omega,G,?_⟩
   .have:=congrArg (List.take i) B
    rw [List.take_take] at this
    simpa [y] using this
   .rw [List.length_cons,List.range'_succ]
    exact .cons o (.val undef) [] ⟨N,.inr ⟨j,rfl,rfl⟩⟩ E
  simp only [H6] at h
  cases q:o.guard with
  | none=>
   rw [q] at h
   exact run e g (by unfold Gm; rw [q]) h
  | some p=>
   rw [q] at h
   simp only [] at h
   cases x:(ops[p.1]?).bind (·.dst) with
   | none=>rw [x] at h; exact h.elim
   | some s=>
    rw [x] at h
    simp only [] at h
    split at h
    .rename_i b hb
     have j:∀on,on=(b==p.2)->Gm ops o e on:=by
      intro on J
      unfold Gm; rw [q]
      exact ⟨s,.bool b,x,hb,by rw [J]; cases b <;> cases p.2 <;> rfl⟩
     cases hk:g.elem s with
     | true=>
      rw [hk] at h
      simp only [] at h
      cases b with
      | true=>
       cases hp:p.2 with
       | true=>rw [hp] at h; exact run e _ (j true (by rw [hp]; rfl)) h
       | false=>rw [hp] at h; exact skip e _ (j false (by rw [hp]; rfl)) h
      | false=>
       cases hp:p.2 with
       | true=>rw [hp] at h; exact skip e _ (j false (by rw [hp]; rfl)) h
       | false=>rw [hp] at h; exact run e _ (j true (by rw [hp]; rfl)) h
     | false=>
      rw [hk] at h
      simp only [] at h
      cases b with
      | true=>
       rw [W4 hb] at h
       simp only [cond_true] at h
       cases hp:p.2 with
       | true=>rw [hp] at h; exact run e _ (j true (by rw [hp]; rfl)) h
       | false=>rw [hp] at h; exact skip e _ (j false (by rw [hp]; rfl)) h
      | false=>
       rw [W4 hb] at h
       simp only [cond_false] at h
       cases hp:p.2 with
       | true=>rw [hp] at h; exact skip e _ (j false (by rw [hp]; rfl)) h
       | false=>rw [hp] at h; exact run e _ (j true (by rw [hp]; rfl)) h
    .rename_i vs hv
     exact skip e _ (by unfold Gm; rw [q]; exact ⟨s,_,x,hv,rfl⟩) h
    .exact h.elim
end
end Go.Ab
namespace Go.Ab
section
variable {P:Program} {C:Cfg} {F:Aw} {W:World}
theorem Agr {c:Code} {Q:Exit->Act->World->Prop} {a:Act} {w:World} (J:Nat->Act->World->Prop) (k0:Nat) (h0:J k0 a w)
  (g:∀k a w,J k a w->c.wp P (Exit.then (fun q w'=>∃s,s<k/\J s q w') Q) a w):(Code.loop c).wp P Q a w:=by
 intro b u cs
 have key:∀k a w,J k a w->∃e q w',Q e q w'/\Arrives P (lone (b.at a (.code c :: .inLoop c::u)) cs w) b u cs e q w':=by
  intro k
  induction k using Nat.strongRecOn with
  | _ k ih=>
   intro a w D
   obtain ⟨e,j,i,hq,f⟩:=g k a w D b (.inLoop c::u) cs
   cases e with
   | normal=>
    obtain ⟨s,z,A⟩:=hq
    obtain ⟨E,G,B,y,h⟩:=ih s z j i A
    exact ⟨E,G,B,y,.of_steps (Steps.trans f (.one step_inLoop)) h⟩
   | exit id=>exact ⟨_,j,i,hq,.pass (x:=.inLoop c) rfl (fun _ _=>.inl (by simp)) f⟩
   | goto l=>exact ⟨_,j,i,hq,.pass (x:=.inLoop c) rfl (fun _ _=>.inl (by simp)) f⟩
   | ret=>exact ⟨_,j,i,hq,.pass (x:=.inLoop c) rfl (fun _ _=>.inl (by simp)) f⟩
   | panic I=>exact ⟨_,j,i,hq,.pass (x:=.inLoop c) rfl (fun _ _=>.inl (by simp)) f⟩
   | outgrown=>exact ⟨_,j,i,hq,.pass (x:=.inLoop c) rfl (fun _ _=>.inl (by simp)) f⟩
 obtain ⟨e,q,w',hq,f⟩:=key k0 a w h0
 exact ⟨e,q,w',hq,.of_steps (.one step_loop) f⟩
theorem Aq4 {n:Nat} {x:AV} (h:x.under2 n=true) (hx:∀cs,x≠.agg cs):x.under1 n=true:=by
 cases x <;> first | exact h | exact (hx _ rfl).elim
theorem Conc.restrict {σ:Aw} {ι A:Bl} {H H':Hp} {n:Nat} (B:∀h,h<n->A h=ι h) (D:∀h,h<n->H' h=H h) {x:AV} {v:Value} (hx:x.under n=true) (h:Conc σ ι H x v):Conc σ A H' x v:=by
 have l:∀{x:AV} {v:Value},x.under0 n=true->Conc σ ι H x v->Conc σ A H' x v:=by
  intro x v hx h
  cases h with
  | cc h=>exact .cc h
  | loc h off b hb=>exact .loc h off b (by rw [B h (Fm hx)]; exact hb)
  | mp h b hb=>exact .mp h b (by rw [B h (Fm hx)]; exact hb)
  | arr h k off len v G hv y=>
   have s:=Fm hx
   exact .arr h k off len v (by rw [D h s]; exact G) (by rw [B h s,D h s]; exact hv) y
  | el h k i j v G hv y=>
   have s:=Fm hx
   exact .el h k i j v (by rw [D h s]; exact G) (by rw [B h s,D h s]; exact hv) y
  | ref cs b off C E fr g N hc h1 R=>exact .ref cs b off C E fr g N hc h1 R
  | agg=>cases hx
  | tup=>cases hx
  | fn=>cases hx
 have key:∀{x:AV} {v:Value},x.under1 n=true->Conc σ ι H x v->Conc σ A H' x v:=by
  intro x v hx h
  cases x with
  | fn f cs=>
   obtain ⟨vs,rfl,z,h⟩:=h.fn_inv
   exact .fn f cs vs z fun i c u h1 h2=>l (List.all_eq_true.1 hx c (List.mem_of_getElem? h1)) (h i c u h1 h2)
  | agg cs=>cases hx
  | tup cs=>cases hx
  | val u=>exact l (x:=(.val u)) hx h
  | loc q off=>exact l (x:=(.loc q off)) hx h
  | arr q k off len=>exact l (x:=(.arr q k off len)) hx h
  | el q k i j=>exact l (x:=(.el q k i j)) hx h
  | mp q=>exact l (x:=(.mp q)) hx h
  | ref cs=>exact l (x:=(.ref cs)) hx h
  | sl sz xs=>exact l (x:=(.sl sz xs)) hx h
 have cells:∀{cs:List AV},cs.all (AV.under1 n)=true->∀(i:Nat) (c:AV) (u:Value),cs[i]? = some c->Conc σ ι H c u->Conc σ A H' c u :=
  fun J i c u hc h=>key (List.all_eq_true.1 J c (List.mem_of_getElem? hc)) h
 cases x with
 | agg cs=>
  cases h with
  | cc h=>exact .cc h
  | agg _ vs z h=>exact .agg cs vs z fun i c u h1 h2=>cells hx i c u h1 (h i c u h1 h2)
 | tup cs=>
  cases h with
  | cc h=>exact .cc h
  | tup _ vs z h=>
   refine .tup cs vs z fun i c u h1 h2=>?_
   have L:=List.all_eq_true.1 hx c (List.mem_of_getElem? h1)
   have hc:=h i c u h1 h2
   cases c with
   | agg ds=>
    obtain ⟨M,rfl,I,hv⟩:=hc.agg_inv
    exact .agg ds M I fun j d v g1 g2=>cells L j d v g1 (hv j d v g1 g2)
   | _=>exact key (Aq4 L (by intro cs e; cases e)) hc
 | fn f cs=>
  cases h with
  | cc h=>exact .cc h
  | fn _ _ vs z h=>exact .fn f cs vs z fun i c u h1 h2=>cells hx i c u h1 (h i c u h1 h2)
 | val v=>exact key rfl h
 | loc h off=>exact key hx h
 | arr h k off len=>exact key hx h
 | el h k i j=>exact key hx h
 | mp h=>exact key hx h
 | ref cs=>exact key rfl h
 | sl sz xs=>exact key rfl h
theorem Fp.spec {H H':Hp} {n:Nat}:∀{k:Nat},Fp H H' k n->∀h,h<k->H h=H' h/\(H' h).under n=true
 | 0,_,h,b=>by omega
 | k+1,hh,h,b=>by
  by_cases e:h=k
  .subst e; exact hh.1
  .exact Fp.spec hh.2 h (by omega)
theorem Fo.spec {e:Bh}:∀{l:List (Nat×AV)},Fo e l->∀p∈l,e p.1=p.2
 | [],_,p,hp=>by cases hp
 | q::l,h,p,hp=>by
  rcases List.mem_cons.1 hp with rfl | hp
  .exact h.1
  .exact Fo.spec h.2 p hp
theorem Ags (c:List Nat) (e:Bh) (u:Nat->Value) (l:List (Nat×AV)) (s:Nat):(∃p∈l,p.1=s/\Iq c e u l s=p.2)\/(s∈c/\Iq c e u l s = .val (u s))\/(s ∉ c/\Iq c e u l s=e s):=by
 have base:(s∈c/\(c.foldr (fun s e=>A3 e s (.val (u s))) e) s = .val (u s))\/(s ∉ c/\(c.foldr (fun s e=>A3 e s (.val (u s))) e) s=e s):=by
  induction c with
  | nil=>exact .inr ⟨by simp,rfl⟩
  | cons t c ih=>
   simp only [List.foldr_cons]
   by_cases b:s=t
   .subst b; exact .inl ⟨by simp,B4 _ _ _⟩
   .rw [Ct _ _ b]
    rcases ih with ⟨h1,h2⟩ | ⟨h1,h2⟩
    .exact .inl ⟨by simp [h1],h2⟩
    .exact .inr ⟨by simp [h1,b],h2⟩
 unfold Iq
 induction l with
 | nil=>exact .inr base
 | cons p l ih=>
  simp only [List.foldr_cons]
  by_cases b:s=p.1
  .exact .inl ⟨p,by simp,b.symm,by rw [b]; exact B4 _ _ _⟩
  .rw [Ct _ _ b]
   rcases ih with ⟨q,hq,h1,h2⟩ | h | h
   .exact .inl ⟨q,by simp [hq],h1,h2⟩
   .exact .inr (.inl h)
   .exact .inr (.inr h)
theorem Agt:∀(i:List Nat) {e:Bh} {H:Hp} {K:Bh->Hp->Prop} {n:Nat} {σ:Aw} {ι:Bl} {a:Act} {w:World},W3 i e H K->St σ ι H F W w->Dn σ ι H e a->Dt H n ->
  ∃g e' H',K e' H'/\Le σ ι H g ι H'/\St g ι H' F W w/\Dn g ι H' e' a/\Dt H' n
 | [],e,H,K,n,σ,ι,a,w,h,s,f,c=>⟨σ,e,H,h,Le.refl _ _ _,s,f,c⟩
 | t::i,e,H,K,n,σ,ι,a,w,h,s,f,c=>by
  simp only [W3] at h
  split at h
  .rename_i hd k len hx
   split at h
   .rename_i E sz xs hh
    obtain ⟨hk,S,h⟩:=h
    obtain ⟨D,b,G,u⟩:=s.freeze hh
    have x:Dn D ι (A3 H hd .dead) (A3 e t (.sl sz xs)) a:=by
     intro q hq
     by_cases A:q=t
     .subst A
      rw [B4]
      have hc:=f q hq
      rw [hx] at hc
      have:=u 0 len _ (by omega) (hc.arr_inv hh hk)
      rw [List.drop_zero,List.take_of_length_le (by omega)] at this
      exact .cc this
     .rw [Ct _ _ A]; exact (f q hq).mono b
    have j:Dt (A3 H hd .dead) n:=by
     intro m z
     have l:hd≠m:=by
      intro y; subst y
      have:=c hd z; rw [hh] at this; cases this
     rw [Ct _ _ (Ne.symm l)]; exact c m z
    obtain ⟨B,y,R,N,M,L,J,I⟩:=Agt i h G x j
    exact ⟨B,y,R,N,b.trans M,L,J,I⟩
   .exact h.elim
  .exact h.elim
theorem Agu {N:Nat} {ops:Array Oper} (h:(ops.toList.all fun o=>(I6 ops o).all fun s=>Nat.blt s N)=true):Wl ops N:=by
 intro i o c s b
 rw [List.all_eq_true] at h
 have:=h o (by simpa using Array.mem_of_getElem? c)
 rw [List.all_eq_true] at this
 exact Fm (this s b)
theorem Oc (hT:Cd P C.T) (hm:P.follows .mixedOrders=true):∀(c:Code) (Q':Ex->Nat->Bh->Hp->Prop) (n:Nat) (e:Bh) (H:Hp) (σ:Aw) (ι:Bl) (a:Act) (w:World) (Q:Exit->Act->World->Prop),
  H7 a.tmps.size c=true->vc P C c Q' n e H->St σ ι H F W w->Dn σ ι H e a->Dt H n ->
  (∀x n' e' H' σ' ι' a' w',Q' x n' e' H'->Le σ ι H σ' ι' H'->St σ' ι' H' F W w'->Dn σ' ι' H' e' a'->Dt H' n'->n<=n'->a'.tmps.size=a.tmps.size->a'.defers=a.defers->D0 (D1 c) a a'->Q x.out a' w')->c.wp P Q a w
 | .skip,Q',n,e,H,σ,ι,a,w,Q,_,h,s,U,S,hk=>wp_skip (hk .normal n e H σ ι a w h (Le.refl _ _ _) s U S (Nat.le_refl _) rfl rfl (D0.refl _ _))
 | .exit id,Q',n,e,H,σ,ι,a,w,Q,_,h,s,U,S,hk=>wp_exit (hk (.exit id) n e H σ ι a w h (Le.refl _ _ _) s U S (Nat.le_refl _) rfl rfl (D0.refl _ _))
 | .ret,Q',n,e,H,σ,ι,a,w,Q,_,h,s,U,S,hk=>wp_ret (hk .ret n e H σ ι a w h (Le.refl _ _ _) s U S (Nat.le_refl _) rfl rfl (D0.refl _ _))
 | .region id ops draw,Q',n,e,H,σ,ι,a,w,Q,u,h,s,U,S,hk=>by
  simp only [vc] at h
  obtain ⟨σ0,e0,b3,h,ap,s0,az,ba⟩:=Agt _ h s U S
  obtain ⟨n',e',H',accs,hK,_,bg,av,hf,aj⟩:=Abh hT ops.toList [] 0 n e0 b3 [] _ (by simp) rfl ba h
  have ar:=Agu u
  cases draw with
  | false=>
   simp only [cond_false] at hK
   refine wp_region ?_
   have:List.range ops.size=List.range' 0 ops.toList.length:=by rw [List.range_eq_range']; simp
   rw [this]
   refine aj.wpOps s0 az ar ?_
   intro σ' ι' a' w' le s' ao g l hu
   exact hk .normal n' e' H' σ' ι' a' w' hK (ap.trans le) s' ao hf av g l hu
  | true=>
   simp only [cond_true] at hK
   obtain ⟨b9,hK⟩:=hK
   refine wp_region_any hm ?_
   have L:ops=ops.toList.toArray:=by simp
   rw [L]
   simp only [List.size_toArray]
   refine Aa0 (accs:=accs) (e':=e') (H':=H') b9 ops.toList.length _ (List.range' 0 ops.toList.length) e0 b3 σ0 ι a _ (by rw [<-L]; exact aj) (List.pairwise_lt_range' ..) ?_ (by simp) ?_ (by simp) (s0.drew _) az (by rw [<-L]; exact ar) ?_
   .intro i
    simp only [List.mem_range'_1,Array.getD_eq_getD_getElem?]
    constructor
    .rintro ⟨_,h2⟩
     refine ⟨by omega,?_⟩
     have:i<ops.size:=by simpa using h2
     simp [this]
    .rintro ⟨h1,_⟩; omega
   .intro k o bf hl
    exfalso
    simp only [Array.getD_eq_getD_getElem?] at hl
    by_cases ah:k<ops.size
    .simp [ah] at hl
    .simp [ah] at hl
   .intro σ' ι' a' w' le s' ao g l hu
    exact hk .normal n' e' H' σ' ι' a' w' hK (ap.trans le) s' ao hf av g l (by rw [<-L] at hu; exact hu)
 | .seq c1 c2,Q',n,e,H,σ,ι,a,w,Q,u,h,s,U,S,hk=>by
  simp only [H7,Bool.and_eq_true] at u
  simp only [vc] at h
  refine wp_seq (Oc hT hm c1 _ n e H σ ι a w _ u.1 h s U S ?_)
  intro x n1 L N D G a1 R hq f A j z B g l hu
  cases x with
  | normal=>
   refine Oc hT hm c2 Q' n1 L N D G a1 R Q (by rw [g]; exact u.2) hq A j z ?_
   intro x n2 e2 H2 σ2 ι2 a2 w2 b8 V s2 ae ag ac X Y ab
   exact hk x n2 e2 H2 σ2 ι2 a2 w2 b8 (f.trans V) s2 ae ag (by omega) (X.trans g) (Y.trans l) ((hu.mono (by simp [D1]; exact fun s h=>.inl h)).trans (ab.mono (by simp [D1]; exact fun s h=>.inr h)))
  | exit id=>exact hk (.exit id) n1 L N D G a1 R hq f A j z B g l (hu.mono (by simp [D1]; exact fun s h=>.inl h))
  | ret=>exact hk .ret n1 L N D G a1 R hq f A j z B g l (hu.mono (by simp [D1]; exact fun s h=>.inl h))
 | .cond x c1 c2,Q',n,e,H,σ,ι,a,w,Q,u,h,s,U,S,hk=>by
  simp only [H7,Bool.and_eq_true] at u
  simp only [vc,Agp] at h
  split at h
  .rename_i t hx
   have hc:=U.eval (x:=x) (fun t ht=>by
    cases x with
    | tmp q=>cases ht; exact Fm u.1.1
    | _=>cases ht)
   rw [hx] at hc
   have hv:=hc.val_inv
   cases t with
   | true=>
    refine wp_cond_true hv (Oc hT hm c1 Q' n e H σ ι a w Q u.1.2 h s U S ?_)
    intro x n1 L N D G a1 R hq f A j z B g l hu
    exact hk x n1 L N D G a1 R hq f A j z B g l (hu.mono (by simp [D1]; exact fun s h=>.inl h))
   | false=>
    refine wp_cond_false hv (Oc hT hm c2 Q' n e H σ ι a w Q u.2 h s U S ?_)
    intro x n1 L N D G a1 R hq f A j z B g l hu
    exact hk x n1 L N D G a1 R hq f A j z B g l (hu.mono (by simp [D1]; exact fun s h=>.inr h))
  .exact h.elim
 | .block id c,Q',n,e,H,σ,ι,a,w,Q,u,h,s,U,S,hk=>by
  simp only [vc] at h
  refine wp_block (Oc hT hm c _ n e H σ ι a w _ u h s U S ?_)
  intro x n1 L N D G a1 R hq f A j z B g l hu
  cases x with
  | normal=>exact hk .normal n1 L N D G a1 R hq f A j z B g l hu
  | exit i=>
   simp only [Ex.out,Exit.inBlock]
   by_cases hi:i=id
   .subst hi
    rw [if_pos rfl]
    have:Nat.beq i i=true:=Nat.beq_refl i
    simp only [this,cond_true] at hq
    exact hk .normal n1 L N D G a1 R hq f A j z B g l hu
   .rw [if_neg hi]
    have:Nat.beq i id=false:=by
     cases hb:Nat.beq i id
     .rfl
     .exact (hi (Nat.eq_of_beq_eq_true hb)).elim
    simp only [this,cond_false] at hq
    exact hk (.exit i) n1 L N D G a1 R hq f A j z B g l hu
  | ret=>exact hk .ret n1 L N D G a1 R hq f A j z B g l hu
 | .loop c,Q',n,e,H,σ,ι,a,w,Q,u,h,s,U,S,hk=>by
  simp only [vc] at h
  obtain ⟨I,aq,iv,hv,m,i0,hb,h0,b6,bd,step⟩:=h
  have b4:∀x,n<=x->ι x = .none:=by
   intro x hx
   have:=s.obj x; unfold B5 at this; rw [S x hx] at this; exact this
  have am:∀i,∀p∈hv i,p.1<n:=by
   intro i p hp
   have:=hb i
   unfold I8 at this
   rw [Bool.and_eq_true,List.all_eq_true,List.all_eq_true] at this
   exact Fm (this.2 p hp)
  have ax:∀i,∀p∈iv i,p.2.under n=true:=by
   intro i p hp
   have:=hb i
   unfold I8 at this
   rw [Bool.and_eq_true,List.all_eq_true,List.all_eq_true] at this
   exact this.1 p hp
  have ai:∀i,Dt (B2 H (hv i)) n:=by
   intro i x hx
   rw [Qa (fun p hp e=>by have:=am i p hp; omega)]; exact S x hx
  let J:Nat->Act->World->Prop:=fun k a' w'=>∃i σ' ι',m i=k/\aq i/\Le σ ι H σ' ι' (B2 H (hv i))/\St σ' ι' (B2 H (hv i)) F W w' /\
   Dn σ' ι' (B2 H (hv i)) (Iq (D1 c) e (fun s=>a'.tmps.getD s undef) (iv i)) a'/\a'.tmps.size=a.tmps.size/\a'.defers=a.defers/\D0 (D1 c) a a'
  have a6:∀(i:I) (D:Aw) (G:Bl) (N:Hp) (L:Bh) (a1:Act) (R:World),aq i->Fo L (iv i)->Fp N (B2 H (hv i)) n n->Le σ ι H D G N->St D G N F W R->Dn D G N L a1->a1.tmps.size=a.tmps.size ->
    a1.defers=a.defers->D0 (D1 c) a a1->J (m i) a1 R:=by
   intro i D G N L a1 R hi au ay f A j M Z a8
   let ι2:Bl:=fun x=>if x<n then G x else .none
   have a7:∀x,x<n->ι2 x=G x:=fun x hx=>if_pos hx
   have aa:∀x,x<n->B2 H (hv i) x=N x:=fun x hx=>((ay.spec) x hx).1.symm
   have V:Le σ ι H D ι2 (B2 H (hv i)):=by
    refine ⟨f.sto,fun x=>?_⟩
    by_cases hx:x<n
    .rw [a7 x hx,aa x hx]; exact f.obj x
    .rw [b4 x (by omega),S x (by omega)]; exact HLe.of_none
   have s2:St D ι2 (B2 H (hv i)) F W R:=by
    refine ⟨A.sto,A.fra,fun x=>?_,?_,A.os,A.tape,A.output,A.glo,A.drw⟩
    .by_cases hx:x<n
     .have ho:=A.obj x
      have ak:=((ay.spec) x hx).2
      unfold B5 at ho ⊢
      rw [aa x hx] at ak ⊢
      rw [a7 x hx]
      cases af:N x with
      | none=>rw [af] at ho; exact ho
      | dead=>trivial
      | cells E cs=>
       rw [af] at ho ak
       obtain ⟨b,Cc,g1,g2,g3,g4,g5,g6⟩:=ho
       refine ⟨b,Cc,g1,g2,g3,g4,g5,fun q cq v hq b5=>(g6 q cq v hq b5).restrict a7 aa ?_⟩
       have:=List.all_eq_true.1 ak cq (List.mem_of_getElem? hq)
       exact Abb this
      | rows E sz xs=>rw [af] at ho; exact ho
      | map es=>rw [af] at ho; exact ho
     .unfold B5
      rw [ai i x (by omega)]
      exact if_neg hx
    .intro x y b lx ly bx b0
     have hx:x<n:=by
      rcases Nat.lt_or_ge x n with hx | hx
      .exact hx
      .rw [ai i x hx] at lx; cases lx
     have hy:y<n:=by
      rcases Nat.lt_or_ge y n with hy | hy
      .exact hy
      .rw [ai i y hy] at ly; cases ly
     rw [aa x hx] at lx; rw [aa y hy] at ly
     rw [a7 x hx] at bx; rw [a7 y hy] at b0
     exact A.inj x y b lx ly bx b0
   refine ⟨i,D,ι2,rfl,hi,V,s2,?_,M,Z,a8⟩
   intro q hq
   rcases Ags (D1 c) e (fun s=>a1.tmps.getD s undef) (iv i) q with ⟨p,hp,rfl,ad⟩ | ⟨hw,ad⟩ | ⟨hw,ad⟩
   .rw [ad,<-au.spec p hp]
    refine (j p.1 hq).restrict a7 aa ?_
    rw [au.spec p hp]; exact ax i p hp
   .rw [ad]; exact .of_val _
   .rw [ad,a8 q hw]; exact (U q (by omega)).mono V
  refine Agr J (m i0) (a6 i0 σ ι H e a w h0 b6 bd (Le.refl _ _ _) s U rfl rfl (D0.refl _ _)) ?_
  rintro k a1 R ⟨i,D,G,rfl,hi,f,A,j,M,Z,a8⟩
  refine Oc hT hm c _ n _ _ D G a1 R _ (by rw [M]; exact u) (step i (fun s=>a1.tmps.getD s undef) hi) A j (ai i) ?_
  intro x n2 e2 H2 σ2 ι2 a2 w2 hq V s2 ae ag ac X Y ab
  cases x with
  | normal=>
   obtain ⟨i',bb,b7,be,ah⟩:=hq
   exact ⟨m i',ah,a6 i' σ2 ι2 H2 e2 a2 w2 bb b7 be (f.trans V) s2 ae (X.trans M) (Y.trans Z) (a8.trans ab)⟩
  | exit id=>exact hk (.exit id) n2 e2 H2 σ2 ι2 a2 w2 hq (f.trans V) s2 ae ag ac (X.trans M) (Y.trans Z) (a8.trans ab)
  | ret=>exact hk .ret n2 e2 H2 σ2 ι2 a2 w2 hq (f.trans V) s2 ae ag ac (X.trans M) (Y.trans Z) (a8.trans ab)
 | .rangeFunc ..,_,_,_,_,_,_,_,_,_,_,h,_,_,_,_=>by simp only [vc] at h
 | .scope _,_,_,_,_,_,_,_,_,_,_,h,_,_,_,_=>by simp only [vc] at h
 | .label _,_,_,_,_,_,_,_,_,_,_,h,_,_,_,_=>by simp only [vc] at h
 | .goto _,_,_,_,_,_,_,_,_,_,_,h,_,_,_,_=>by simp only [vc] at h
 | .refuse _,_,_,_,_,_,_,_,_,_,_,h,_,_,_,_=>by simp only [vc] at h
end
end Go.Ab
namespace Go.Ab
def W5 (T:Cb) (e:Bh) (H:Hp):ResultVar->Option AV
 | .tmp t=>some (e t)
 | .cell a t=>
  match e a with
  | .loc h off=>
   match H h with
   | .cells _ cs=>
    match T t with
    | some i=>bif i.isAgg then (bif Nat.ble (off+i.size) cs.length then some (.agg ((cs.drop off).take i.size)) else none) else cs[off]?
    | none=>none
   | _=>none
  | _=>none
def W6 (x:AV) (H:Hp) (K:AV->Hp->Prop):Prop :=
 match x with
 | .arr h k 0 len=>
  match H h with
  | .rows _ sz xs=>E9 k xs (E9 len xs (K (.sl sz xs) (A3 H h .dead)))
  | _=>False
 | x=>K x H
def W7:List AV->Hp->(List AV->Hp->Prop)->Prop
 | [],H,K=>K [] H
 | x::xs,H,K=>W6 x H fun y H=>W7 xs H fun ys H=>K (y::ys) H
def fin (x:AV) (H:Hp) (K:AV->Hp->Prop):Prop :=
 match x with
 | .agg cs=>W7 cs H fun cs H=>K (.agg cs) H
 | x=>W6 x H K
def W8:List AV->Hp->(List AV->Prop)->Prop
 | [],_,K=>K []
 | x::xs,H,K=>fin x H fun y H=>W8 xs H fun ys=>K (y::ys)
def Qj (T:Cb) (e:Bh) (H:Hp):List ResultVar->Option (List AV)
 | []=>some []
 | r::rs=>
  match W5 T e H r with
  | none=>none
  | some x=>
   match Qj T e H rs with
   | none=>none
   | some xs=>some (x::xs)
def Sx:List AV->AV
 | [x]=>x
 | xs=>.tup xs
def Od (T:Cb) (b:List ResultVar) (K:AV->Prop) (e:Bh) (H:Hp):Prop :=
 match Qj T e H b with
 | none=>False
 | some xs=>W8 xs H fun ys=>K (Sx ys)
def Qk (args:List AV):Bh:=fun n=>args.getD n (.val undef)
def Oe:ResultVar->Nat
 | .tmp t=>t
 | .cell a _=>a
def Ql (fn:Func) (c:Code) (k:Nat):Bool:=H7 fn.ntmps c&&(fn.results.toList.all fun r=>Nat.blt (Oe r) fn.ntmps)&&Nat.ble k fn.ntmps
section
variable {P:Program} {T:Cb} {F:Aw} {W w:World}
theorem Agv {x:AV} {H:Hp} {K:AV->Hp->Prop} {σ:Aw} {ι:Bl} {v:Value} (h:W6 x H K) (s:St σ ι H F W w) (hc:Conc σ ι H x v) :
  ∃b y H',K y H'/\Le σ ι H b ι H'/\St b ι H' F W w/\Conc b ι H' y v:=by
 unfold W6 at h
 split at h
 .rename_i hd k len
  split at h
  .rename_i E sz xs hh
   obtain ⟨hk,j,h⟩:=h
   obtain ⟨g,c,i,f⟩:=s.freeze hh
   refine ⟨g,.sl sz xs,A3 H hd .dead,h,c,i,.cc ?_⟩
   have:=f 0 len _ (by omega) (hc.arr_inv hh hk)
   rwa [List.drop_zero,List.take_of_length_le (by omega)] at this
  .exact h.elim
 .exact ⟨σ,_,H,h,Le.refl _ _ _,s,hc⟩
theorem Agw:∀{cs:List AV} {vs:List Value} {H:Hp} {K:List AV->Hp->Prop} {σ:Aw} {ι:Bl},W7 cs H K->St σ ι H F W w->vs.length=cs.length->(∀(i:Nat) (c:AV) (v:Value),cs[i]? = some c->vs[i]? = some v->Conc σ ι H c v) ->
  ∃j ys H',K ys H'/\Le σ ι H j ι H'/\St j ι H' F W w/\vs.length=ys.length/\∀(i:Nat) (c:AV) (v:Value),ys[i]? = some c->vs[i]? = some v->Conc j ι H' c v
 | [],vs,H,K,σ,ι,h,s,g,hc=>⟨σ,[],H,h,Le.refl _ _ _,s,g,hc⟩
 | x::cs,[],H,K,σ,ι,h,s,g,hc=>by simp at g
 | x::cs,v::vs,H,K,σ,ι,h,s,g,hc=>by
  simp only [W7] at h
  obtain ⟨E,y,G,h1,f,z,B⟩:=Agv h s (hc 0 x v (by simp) (by simp))
  obtain ⟨l,ys,D,h2,b,q,k,A⟩:=Agw (vs:=vs) h1 z (by simpa using g) (fun i c u hi hu=>(hc (i+1) c u (by simpa using hi) (by simpa using hu)).mono f)
  refine ⟨l,y::ys,D,h2,f.trans b,q,by simp [k],fun i c u hi hu=>?_⟩
  cases i with
  | zero=>simp at hi hu; subst hi; subst hu; exact B.mono b
  | succ i=>exact A i c u (by simpa using hi) (by simpa using hu)
theorem Agx {x:AV} {H:Hp} {K:AV->Hp->Prop} {σ:Aw} {ι:Bl} {v:Value} (h:fin x H K) (s:St σ ι H F W w) (hc:Conc σ ι H x v) :
  ∃b y H',K y H'/\Le σ ι H b ι H'/\St b ι H' F W w/\Conc b ι H' y v:=by
 unfold fin at h
 split at h
 .rename_i cs
  obtain ⟨vs,rfl,l,hv⟩:=hc.agg_inv
  obtain ⟨j,ys,z,h1,f,k,g,q⟩:=Agw (vs:=vs.toList) h s (by simpa using l) (fun i c u hi hu=>hv i c u hi (by simpa using hu))
  exact ⟨j,.agg ys,z,h1,f,k,.agg ys vs (by simpa using g) (fun i c u hi hu=>q i c u hi (by simpa using hu))⟩
 .exact Agv h s hc
theorem Agy:∀{xs:List AV} {vs:List Value} {H:Hp} {K:List AV->Prop} {σ:Aw} {ι:Bl},W8 xs H K->St σ ι H F W w->vs.length=xs.length->(∀(i:Nat) (c:AV) (v:Value),xs[i]? = some c->vs[i]? = some v->Conc σ ι H c v) ->
  ∃j ys H',K ys/\Le σ ι H j ι H'/\St j ι H' F W w/\vs.length=ys.length/\∀(i:Nat) (c:AV) (v:Value),ys[i]? = some c->vs[i]? = some v->Conc j ι H' c v
 | [],vs,H,K,σ,ι,h,s,g,hc=>⟨σ,[],H,h,Le.refl _ _ _,s,g,hc⟩
 | x::cs,[],H,K,σ,ι,h,s,g,hc=>by simp at g
 | x::cs,v::vs,H,K,σ,ι,h,s,g,hc=>by
  simp only [W8] at h
  obtain ⟨E,y,G,h1,f,z,B⟩:=Agx h s (hc 0 x v (by simp) (by simp))
  obtain ⟨l,ys,D,h2,b,q,k,A⟩:=Agy (vs:=vs) h1 z (by simpa using g) (fun i c u hi hu=>(hc (i+1) c u (by simpa using hi) (by simpa using hu)).mono f)
  refine ⟨l,y::ys,D,h2,f.trans b,q,by simp [k],fun i c u hi hu=>?_⟩
  cases i with
  | zero=>simp at hi hu; subst hi; subst hu; exact B.mono b
  | succ i=>exact A i c u (by simpa using hi) (by simpa using hu)
def Of (b:Array Value):ResultVar->Sem Value
 | .tmp t=>pure (b.getD t undef)
 | .cell a t=>do loadVar t (<-asAddr (b.getD a undef))
theorem Aq5 (B:Cd P T) {e:Bh} {H:Hp} {σ:Aw} {ι:Bl} {a:Act} (s:St σ ι H F W w) (A:Dn σ ι H e a) {r:ResultVar} {x:AV} (z:Oe r<a.tmps.size) (h:W5 T e H r=some x) :
  ∃v,(Of a.tmps r).run P w = .ok v w/\Conc σ ι H x v:=by
 cases r with
 | tmp t=>
  simp only [W5] at h; cases h
  exact ⟨_,rfl,A t z⟩
 | cell p t=>
  simp only [W5] at h
  split at h
  .rename_i hd off hx
   split at h
   .rename_i E cs hh
    split at h
    .rename_i i ht
     have hc:=A p z
     rw [hx] at hc
     obtain ⟨b,hb,hv⟩:=hc.loc_inv
     have k:=s.obj hd
     unfold B5 at k; rw [hh] at k
     obtain ⟨L,C,I,_,_,h3,J,G⟩:=k
     rw [hb] at I; cases I
     have h1:=V9 (B t i ht) w
     cases y:i.isAgg with
     | true=>
      rw [y] at h h1
      simp only [cond_true] at h
      cases g:Nat.ble (off+i.size) cs.length with
      | false=>rw [g] at h; cases h
      | true=>
       rw [g] at h; cases h
       have g:=Nat.le_of_ble_eq_true g
       have h2:=Ka (B t i ht) w
       have D:=run_loadCells_list (P:=P) w ⟨b,off,none⟩ ((C.toList.drop off).take i.size) (by
        intro j v hj
        have f:j<i.size:=by
         have:=(List.getElem?_eq_some_iff.1 hj).1; simp at this; omega
        rw [List.getElem?_take_of_lt f,List.getElem?_drop,Array.getElem?_toList] at hj
        rw [Ip,Hq h3]; exact hj)
       have q:((C.toList.drop off).take i.size).length=i.size:=by simp; omega
       rw [q] at D
       refine ⟨_,by simp only [Of,hv,asAddr,Sem.run_bind,Sem.run_pure,Result.andThen_ok,loadVar,h1,if_true,h2,D]; rfl,?_⟩
       refine .agg _ _ (by simp; omega) (fun j c u g1 g2=>?_)
       have f:j<i.size:=by
        have:=(List.getElem?_eq_some_iff.1 g1).1; simp at this; omega
       rw [List.getElem?_take_of_lt f,List.getElem?_drop] at g1
       rw [List.getElem?_toArray,List.getElem?_take_of_lt f,List.getElem?_drop,Array.getElem?_toList] at g2
       exact G _ c u g1 g2
     | false=>
      rw [y] at h h1
      simp only [cond_false] at h
      have f:off<C.size:=by rw [J]; exact (List.getElem?_eq_some_iff.1 h).1
      have l:w.cell? ⟨b,off,none⟩=some C[off]:=by rw [Hq h3]; simp [f]
      exact ⟨C[off],by simp [Of,hv,asAddr,loadVar,h1,l],G off x _ h (by simp [f])⟩
    .cases h
   .cases h
  .cases h
theorem Abi (k:Cd P T) {e:Bh} {H:Hp} {σ:Aw} {ι:Bl} {a:Act} (s:St σ ι H F W w) (j:Dn σ ι H e a):∀{b:List ResultVar} {xs:List AV},(∀r∈b,Oe r<a.tmps.size)->Qj T e H b=some xs ->
  ∃vs:List Value,(b.mapM (Of a.tmps)).run P w = .ok vs w/\vs.length=xs.length/\∀(i:Nat) (c:AV) (v:Value),xs[i]? = some c->vs[i]? = some v->Conc σ ι H c v
 | [],xs,_,h=>by
  simp only [Qj] at h; cases h
  exact ⟨[],by simp,rfl,by simp⟩
 | r::b,xs,g,h=>by
  simp only [Qj] at h
  split at h
  .cases h
  .rename_i x hx
   split at h
   .cases h
   .rename_i ys hy
    cases h
    obtain ⟨v,h1,z⟩:=Aq5 k s j (g r (by simp)) hx
    obtain ⟨vs,h2,q,y⟩:=Abi k s j (fun l f=>g l (by simp [f])) hy
    refine ⟨v::vs,by simp [List.mapM_cons,h1,h2],by simp [q],fun i c u hi hu=>?_⟩
    cases i with
    | zero=>simp at hi hu; subst hi; subst hu; exact z
    | succ i=>exact y i c u (by simpa using hi) (by simpa using hu)
theorem Agz (fn:Func) (b:Array Value):results fn b=(fn.results.mapM (Of b) >>= fun vs=>pure (if h:vs.size=1 then vs[0] else .tuple vs)):=by
 unfold results
 congr 1
theorem Aq6 (A:Cd P T) {fn:Func} {K:AV->Prop} {e:Bh} {H:Hp} {σ:Aw} {ι:Bl} {a:Act} (s:St σ ι H F W w) (z:Dn σ ι H e a) (q:∀r∈fn.results.toList,Oe r<a.tmps.size) (h:Od T fn.results.toList K e H) :
  ∃v f H' r,(results fn a.tmps).run P w = .ok v w/\K r/\Le σ ι H f ι H'/\St f ι H' F W w/\Conc f ι H' r v:=by
 unfold Od at h
 split at h
 .exact h.elim
 .rename_i xs hx
  obtain ⟨vs,h1,x,B⟩:=Abi A s z q hx
  obtain ⟨f,ys,H',k,le,s',b,j⟩:=Agy h s x B
  have g:(fn.results.mapM (Of a.tmps)).run P w = .ok vs.toArray w:=by
   rw [Array.mapM_eq_mapM_toList]
   simp [h1]
  refine ⟨if h:vs.toArray.size=1 then vs.toArray[0] else .tuple vs.toArray,f,H',Sx ys,?_,k,le,s',?_⟩
  .rw [Agz,Sem.run_bind,g]; rfl
  .match ys,vs,b,j with
   | [y],[v],_,j=>exact j 0 y v rfl rfl
   | [],[],_,_=>exact .tup [] #[] rfl (by simp)
   | y::D::ys,v::l::vs,b,j=>
    have:¬(v::l::vs).toArray.size=1:=by simp
    rw [dif_neg this]
    exact .tup _ _ (by simpa using b) (fun i c u hi hu=>j i c u hi (by simpa using hu))
   | [],_::_,b,_=>simp at b
   | _::_,[],b,_=>simp at b
   | [_],_::_::_,b,_=>simp at b
   | _::_::_,[_],b,_=>simp at b
theorem St.forget {σ:Aw} {ι:Bl} {H:Hp} (s:St σ ι H F W w):St σ ι0 H0 F W w :=
 ⟨s.sto,s.fra,fun _=>rfl,(fun _ _ _ b=>by cases b),s.os,s.tape,s.output,s.glo,s.drw⟩
theorem Ag0 {σ:Aw} {ι:Bl} {H:Hp} {args:List AV} {vs:Array Value} {N:Nat} (h:Kb σ ι H args vs):Dn σ ι H (Qk args) ⟨vs++Array.replicate (N-vs.size) undef,[]⟩:=by
 intro q hq
 simp only [Qk,Array.getD_eq_getD_getElem?]
 by_cases b:q<args.length
 .have hq':q<vs.size:=by rw [h.1]; exact b
  rw [Array.getElem?_append_left hq']
  have h1:args[q]? = some args[q]:=List.getElem?_eq_getElem b
  have h2:vs[q]? = some vs[q]:=Array.getElem?_eq_getElem hq'
  have:=h.2 q _ _ h1 h2
  simpa [List.getD,h1,h2] using this
 .rw [Array.getElem?_append_right (by rw [h.1]; omega)]
  have h1:args[q]? = none:=List.getElem?_eq_none (by omega)
  have hq':q-vs.size<N-vs.size:=by
   simp at hq
   have:=h.1
   omega
  simp only [List.getD,h1,Option.getD_none]
  simp [hq']
  exact .of_val undef
end
end Go.Ab
namespace Go.Ab
inductive Tr where
 | leaf
 | node (l:Tr) (k:Nat) (v:TI) (r:Tr)
def Tr.find:Tr->Nat->Option TI
 | .leaf,_=>none
 | .node l k v r,t=>bif Nat.beq t k then some v else bif Nat.blt t k then l.find t else r.find t
def Tr.toList:Tr->List (Nat×TI)
 | .leaf=>[]
 | .node l k v r=>l.toList++(k,v)::r.toList
theorem Tr.find_mem:∀(t:Tr) (k:Nat) (v:TI),t.find k=some v->(k,v)∈t.toList
 | .leaf,k,v,h=>by cases h
 | .node l b f r,k,v,h=>by
  simp only [Tr.find] at h
  simp only [Tr.toList,List.mem_append,List.mem_cons]
  cases hb:Nat.beq k b with
  | true=>
   rw [hb] at h; simp only [cond_true] at h; cases h
   rw [Nat.eq_of_beq_eq_true hb]
   exact .inr (.inl rfl)
  | false=>
   rw [hb] at h; simp only [cond_false] at h
   cases c:Nat.blt k b with
   | true=>rw [c] at h; exact .inl (Tr.find_mem l k v h)
   | false=>rw [c] at h; exact .inr (.inr (Tr.find_mem r k v h))
theorem Tr.ok {P:Program} {t:Tr} (h:t.toList.map (fun p=>F7 P p.1)=t.toList.map (fun p=>some p.2)):Cd P t.find:=by
 intro k v hk
 have b:=t.find_mem k v hk
 obtain ⟨i,hi⟩:=List.getElem?_of_mem b
 have:=congrArg (fun l=>l[i]?) h
 simpa [hi] using this
end Go.Ab
namespace Go.Ab
def W9:List AV->Hp->(List AV->Hp->Prop)->Prop
 | [],H,K=>K [] H
 | x::xs,H,K=>fin x H fun y H=>W9 xs H fun ys H=>K (y::ys) H
def Mp (H:Hp):Nat->List Bb->Prop
 | _,[]=>True
 | k,o::os=>H k=o/\Mp H (k+1) os
def Og (T:Cb) (fz:Bool) (c:List ResultVar) (r:AV) (b:List Bb) (e:Bh) (H:Hp):Prop :=
 match Qj T e H c with
 | none=>False
 | some xs=>bif fz then W9 xs H fun ys H=>Sx ys=r/\Mp H 0 b else Sx xs=r/\Mp H 0 b
section
variable {P:Program} {T:Cb} {F:Aw} {W w:World}
theorem Mp.spec {H:Hp}:∀{os:List Bb} {k:Nat},Mp H k os->∀i,i<os.length->H (k+i)=hp os i
 | [],k,_,i,hi=>by simp at hi
 | o::os,k,h,0,_=>by simpa [hp] using h.1
 | o::os,k,h,i+1,hi=>by
  have:=Mp.spec h.2 i (by simpa using hi)
  rw [show k+(i+1)=k+1+i by omega,this]
  simp [hp]
theorem Ag1:∀{xs:List AV} {vs:List Value} {H:Hp} {K:List AV->Hp->Prop} {σ:Aw} {ι:Bl},W9 xs H K->St σ ι H F W w->vs.length=xs.length->(∀(i:Nat) (c:AV) (v:Value),xs[i]? = some c->vs[i]? = some v->Conc σ ι H c v) ->
  ∃j ys H',K ys H'/\Le σ ι H j ι H'/\St j ι H' F W w/\vs.length=ys.length/\∀(i:Nat) (c:AV) (v:Value),ys[i]? = some c->vs[i]? = some v->Conc j ι H' c v
 | [],vs,H,K,σ,ι,h,s,g,hc=>⟨σ,[],H,h,Le.refl _ _ _,s,g,hc⟩
 | x::cs,[],H,K,σ,ι,h,s,g,hc=>by simp at g
 | x::cs,v::vs,H,K,σ,ι,h,s,g,hc=>by
  simp only [W9] at h
  obtain ⟨E,y,G,h1,f,z,B⟩:=Agx h s (hc 0 x v (by simp) (by simp))
  obtain ⟨l,ys,D,h2,b,q,k,A⟩:=Ag1 (vs:=vs) h1 z (by simpa using g) (fun i c u hi hu=>(hc (i+1) c u (by simpa using hi) (by simpa using hu)).mono f)
  refine ⟨l,y::ys,D,h2,f.trans b,q,by simp [k],fun i c u hi hu=>?_⟩
  cases i with
  | zero=>simp at hi hu; subst hi; subst hu; exact B.mono b
  | succ i=>exact A i c u (by simpa using hi) (by simpa using hu)
theorem Aq7 (D:Cd P T) {fn:Func} {fz:Bool} {r:AV} {q:List Bb} {e:Bh} {H:Hp} {σ:Aw} {ι:Bl} {a:Act} (s:St σ ι H F W w) (B:Dn σ ι H e a) (l:∀r∈fn.results.toList,Oe r<a.tmps.size)
  (h:Og T fz fn.results.toList r q e H):∃v f H',(results fn a.tmps).run P w = .ok v w/\Mp H' 0 q/\Le σ ι H f ι H'/\St f ι H' F W w/\Conc f ι H' r v:=by
 unfold Og at h
 split at h
 .exact h.elim
 .rename_i xs hx
  obtain ⟨vs,h1,x,z⟩:=Abi D s B l hx
  have key:∃f ys H',(Sx ys=r/\Mp H' 0 q)/\Le σ ι H f ι H'/\St f ι H' F W w/\vs.length=ys.length/\∀(i:Nat) (c:AV) (v:Value),ys[i]? = some c->vs[i]? = some v->Conc f ι H' c v:=by
   cases fz with
   | true=>exact Ag1 h s x z
   | false=>exact ⟨σ,xs,H,h,Le.refl _ _ _,s,x,z⟩
  obtain ⟨f,ys,H',⟨rfl,k⟩,le,s',b,j⟩:=key
  have g:(fn.results.mapM (Of a.tmps)).run P w = .ok vs.toArray w:=by
   rw [Array.mapM_eq_mapM_toList]
   simp [h1]
  refine ⟨if h:vs.toArray.size=1 then vs.toArray[0] else .tuple vs.toArray,f,H',?_,k,le,s',?_⟩
  .rw [Agz,Sem.run_bind,g]; rfl
  .match ys,vs,b,j with
   | [y],[v],_,j=>exact j 0 y v rfl rfl
   | [],[],_,_=>exact .tup [] #[] rfl (by simp)
   | y::E::ys,v::A::vs,b,j=>
    have:¬(v::A::vs).toArray.size=1:=by simp
    rw [dif_neg this]
    exact .tup _ _ (by simpa using b) (fun i c u hi hu=>j i c u hi (by simpa using hu))
   | [],_::_,b,_=>simp at b
   | _::_,[],b,_=>simp at b
   | [_],_::_::_,b,_=>simp at b
   | _::_::_,[_],b,_=>simp at b
theorem St.first {σ:Aw} {ι:Bl} {H:Hp} (s:St σ ι H F W w) (f:List Bb) (hk:∀i,i<f.length->H i=hp f i) (hu:f.all (Bb.under f.length)=true) :
  St σ (fun k=>if k<f.length then ι k else .none) (hp f) F W w:=by
 have B:∀h,h<f.length->(fun k=>if k<f.length then ι k else Loc.none) h=ι h:=fun h j=>if_pos j
 have hH:∀h,h<f.length->hp f h=H h:=fun h j=>(hk h j).symm
 have lt:∀k,(hp f k).live=true->k<f.length:=by
  intro k h
  rcases Nat.lt_or_ge k f.length with h' | h'
  .exact h'
  .rw [Mm h'] at h; cases h
 refine ⟨s.sto,s.fra,fun k=>?_,fun k u b h1 h2 h3 q=>?_,s.os,s.tape,s.output,s.glo,s.drw⟩
 .by_cases j:k<f.length
  .have g:=s.obj k
   have l:=List.all_eq_true.1 hu _ (List.mem_of_getElem? (Sv j))
   unfold B5 at g ⊢
   rw [hk k j] at g
   dsimp only
   rw [if_pos j]
   cases hx:hp f k with
   | none=>rw [hx] at g; exact g
   | dead=>trivial
   | rows E sz xs=>rw [hx] at g; exact g
   | map es=>rw [hx] at g; exact g
   | cells E cs=>
    rw [hx] at g l
    obtain ⟨b,C,G,h1,h2,h3,q,D⟩:=g
    refine ⟨b,C,G,h1,h2,h3,q,fun i c v x y=>?_⟩
    have hc:=List.all_eq_true.1 l c (List.mem_of_getElem? x)
    refine (D i c v x y).restrict (n:=f.length) B hH ?_
    exact Abb hc
  .unfold B5
   rw [Mm (by omega)]
   exact if_neg j
 .have A:=lt k h1
  have z:=lt u h2
  rw [if_pos A] at h3
  rw [if_pos z] at q
  rw [hH k A] at h1
  rw [hH u z] at h2
  exact s.inj k u b h1 h2 h3 q
def Abj (c:List Bb) (r:AV) (b:List Bb):Bool:=Nat.ble c.length b.length&&r.under b.length&&b.all (Bb.under b.length)
def Sub (x y:AV):Prop:=∀(σ:Aw) (ι:Bl) (H:Hp) (v:Value),Conc σ ι H x v->Conc σ ι H y v
theorem Sub.refl (x:AV):Sub x x:=fun _ _ _ _ h=>h
theorem Sub.nil (sz:Nat):Sub (.val (.slice none 0 0)) (.sl sz []):=fun _ _ _ _ h=>W1 rfl h
def Mq:List AV->List AV->Prop
 | [],[]=>True
 | x::xs,y::ys=>Sub x y/\Mq xs ys
 | _,_=>False
theorem Mq.spec:∀{xs ys:List AV},Mq xs ys->xs.length=ys.length/\∀(i:Nat) (y:AV),ys[i]? = some y->∃x,xs[i]? = some x/\Sub x y
 | [],[],_=>⟨rfl,by simp⟩
 | [],_::_,h=>h.elim
 | _::_,[],h=>h.elim
 | x::xs,y::ys,h=>by
  obtain ⟨h1,h2⟩:=Mq.spec h.2
  refine ⟨by simp [h1],fun i z b=>?_⟩
  cases i with
  | zero=>simp at b; subst b; exact ⟨x,rfl,h.1⟩
  | succ i=>simpa using h2 i z (by simpa using b)
theorem Sub.agg {xs ys:List AV} (h:Mq xs ys):Sub (.agg xs) (.agg ys):=by
 intro σ ι H v hc
 obtain ⟨vs,rfl,b,hv⟩:=hc.agg_inv
 obtain ⟨h1,h2⟩:=h.spec
 refine .agg _ vs (by rw [<-h1]; exact b) fun i c u h3 j=>?_
 obtain ⟨x,g,f⟩:=h2 i c h3
 exact f _ _ _ _ (hv i x u g j)
theorem As.sub {f:FuncId} {args b:List AV} {r k:AV} (h:As P f b r) (ha:Mq args b) (q:Sub r k):As P f args k:=by
 refine ⟨h.1,fun σ F W w vs s hc=>?_⟩
 obtain ⟨h1,h2⟩:=ha.spec
 refine (h.2 σ F W w vs s ⟨by rw [<-h1]; exact hc.1,fun i a v h3 j=>?_⟩).mono ?_
 .obtain ⟨x,g,c⟩:=h2 i a h3
  exact c _ _ _ _ (hc.2 i x v g j)
 .rintro e w' ⟨v,l,h3,j,g,c⟩
  exact ⟨v,l,h3,j,g,q _ _ _ _ c⟩
theorem Br.sub {f:FuncId} {args b:List AV} {g c:List Bb} {r:AV} (h:Br P f b g r c) (ha:Mq args b):Br P f args g r c:=by
 refine ⟨h.1,fun σ F W w ι vs s hc=>?_⟩
 obtain ⟨h1,h2⟩:=ha.spec
 refine h.2 σ F W w ι vs s ⟨by rw [<-h1]; exact hc.1,fun i a v h3 l=>?_⟩
 obtain ⟨x,k,j⟩:=h2 i a h3
 exact j _ _ _ _ (hc.2 i x v k l)
end
end Go.Ab
namespace Go.Ab
inductive Dv (K:Prop):Prop where
 | mk (k:K)
def opK (P:Program) (T:Cb) (an:Nat->Ann) (nl:Nat->List (Nat×Nat)) (o:Oper) (n:Nat) (e:Bh) (H:Hp) (acc:Gp) (K:Nat->Bh->Hp->Gp->Prop):Prop :=
 C9 P T an n o (ev e) H fun b m=>I7 (Js (Kf nl o.dst) b.r) fun r=>K1 b.wr fun wr=>He b.rd fun f=>He wr fun c=>H5 e o.dst r H wr fun e H=>Dv (K m e H (acc++[(f,c)]))
def Sy (o:Oper) (n:Nat) (e:Bh) (H:Hp) (acc:Gp) (K:Nat->Bh->Hp->Gp->Prop):Prop :=
 H5 e o.dst (.val undef) H [] fun e H=>Dv (K n e H (acc++[([],[])]))
def Dq (P:Program) (T:Cb) (an:Nat->Ann) (nl:Nat->List (Nat×Nat)) (ops:Array Oper):List Oper->Nat->Bh->Hp->Gp->(Nat->Bh->Hp->Gp->Prop)->Prop
 | [],n,e,H,acc,K=>K n e H acc
 | o::os,n,e,H,acc,K=>
  match o.guard with
  | none=>opK P T an nl o n e H acc fun n e H acc=>Dq P T an nl ops os n e H acc K
  | some p=>
   match (ops[p.1]?).bind (·.dst) with
   | none=>False
   | some s=>
    match e s with
    | .val v=>bif N6 v==some p.2 then opK P T an nl o n e H acc fun n e H acc=>Dq P T an nl ops os n e H acc K
     else Sy o n e H acc fun n e H acc=>Dq P T an nl ops os n e H acc K
    | _=>False
section
variable {P:Program} {T:Cb} {an:Nat->Ann} {nl:Nat->List (Nat×Nat)} {ops:Array Oper}
theorem Abk (G:Cd P T):∀(os:List Oper) (i n:Nat) (e:Bh) (H:Hp) (acc:Gp) (K:Nat->Bh->Hp->Gp->Prop),ops.toList.drop i=os->acc.length=i->Dt H n->Dq P T an nl ops os n e H acc K ->
  ∃b e' H' accs,K b e' H' accs/\accs.take i=acc/\accs.length=i+os.length/\n<=b/\Dt H' b/\Run P ops (fun k=>accs.getD k ([],[])) (List.range' i os.length) e H e' H'
 | [],i,n,e,H,acc,K,hd,j,y,h=>⟨n,e,H,acc,h,by rw [<-j]; simp,by simpa using j,Nat.le_refl _,y,.nil e H⟩
 | o::os,i,n,e,H,acc,K,hd,j,y,h=>by
  have I:ops[i]? = some o:=by
   have:=congrArg (fun l=>l[0]?) hd
   simpa using this
  have u:ops.toList.drop (i+1)=os:=by
   have:=congrArg (List.drop 1) hd
   simpa [List.drop_drop] using this
  have run:Gm ops o e true->(opK P T an nl o n e H acc fun n e H acc=>Dq P T an nl ops os n e H acc K) ->
    ∃b e' H' accs,K b e' H' accs/\accs.take i=acc/\accs.length=i+(o::os).length/\n<=b/\Dt H' b/\Run P ops (fun k=>accs.getD k ([],[])) (List.range' i (o::os).length) e H e' H':=by
   intro D g
   obtain ⟨c,m,h1,h2,h3,R,M⟩:=Ago G y g
   simp only [Qg,Aa6,Aa7,W2] at h3
   obtain ⟨b,e',H',accs,B,x,L,J,A,z⟩:=Abk G os (i+1) m _ _ _ K u (by simp [j]) M h3.1
   have E:accs[i]? = some (c.rd.map (·.1),c.wr.map (·.1)):=by
    have N:(accs.take (i+1))[i]? = accs[i]?:=List.getElem?_take_of_lt (by omega)
    rw [<-N,x,List.getElem?_append_right (by omega)]
    simp [j]
   have q:accs.getD i ([],[])=(c.rd.map (·.1),c.wr.map (·.1)):=by simp [List.getD,E]
   refine ⟨b,e',H',accs,B,?_,by simp only [List.length_cons]; omega,by omega,A,?_⟩
   .have:=congrArg (List.take i) x
    rw [List.take_take] at this
    simpa [j] using this
   .rw [List.length_cons,List.range'_succ]
    refine .cons o (Js (Kf nl o.dst) c.r) c.wr ⟨I,.inl ⟨D,_,h1.nils (Kf nl o.dst),h2,?_,?_,rfl,rfl⟩⟩ z
    .intro p hp; show p.1∈(accs.getD i ([],[])).1; rw [q]; exact List.mem_map_of_mem hp
    .intro p hp; show p.1∈(accs.getD i ([],[])).2; rw [q]; exact List.mem_map_of_mem hp
  have skip:Gm ops o e false->(Sy o n e H acc fun n e H acc=>Dq P T an nl ops os n e H acc K) ->
    ∃b e' H' accs,K b e' H' accs/\accs.take i=acc/\accs.length=i+(o::os).length/\n<=b/\Dt H' b/\Run P ops (fun k=>accs.getD k ([],[])) (List.range' i (o::os).length) e H e' H':=by
   intro D g
   unfold Sy at g
   rw [W2] at g
   obtain ⟨b,e',H',accs,B,x,L,J,A,z⟩:=Abk G os (i+1) n _ _ _ K u (by simp [j]) y g.1
   refine ⟨b,e',H',accs,B,?_,by simp only [List.length_cons]; omega,by omega,A,?_⟩
   .have:=congrArg (List.take i) x
    rw [List.take_take] at this
    simpa [j] using this
   .rw [List.length_cons,List.range'_succ]
    exact .cons o (.val undef) [] ⟨I,.inr ⟨D,rfl,rfl⟩⟩ z
  simp only [Dq] at h
  cases f:o.guard with
  | none=>
   rw [f] at h
   exact run (by unfold Gm; rw [f]) h
  | some p=>
   rw [f] at h
   simp only [] at h
   cases g:(ops[p.1]?).bind (·.dst) with
   | none=>rw [g] at h; exact h.elim
   | some s=>
    rw [g] at h
    simp only [] at h
    split at h
    .rename_i v hv
     cases hb:N6 v==some p.2 with
     | true=>rw [hb] at h; exact run (by unfold Gm; rw [f]; exact ⟨s,v,g,hv,hb.symm⟩) h
     | false=>rw [hb] at h; exact skip (by unfold Gm; rw [f]; exact ⟨s,v,g,hv,hb.symm⟩) h
    .exact h.elim
variable {o:Oper} {os:List Oper} {n:Nat} {e:Bh} {H:Hp} {acc:Gp} {K:Nat->Bh->Hp->Gp->Prop} {β:Type} {r:β}
theorem nx (k:opK P T an nl o n e H acc fun n e H acc=>Dq P T an nl ops os n e H acc K) (b:o.guard=none:=by exact rfl):Dv (Dq P T an nl ops (o::os) n e H acc K):=.mk (by simp only [Dq,b]; exact k)
theorem Kh (k:K n e H acc):Dv (Dq P T an nl ops [] n e H acc K):=.mk k
theorem Aq8 (p:Nat×Bool) (s:Nat) (k:opK P T an nl o n e H acc fun n e H acc=>Dq P T an nl ops os n e H acc K) (c:o.guard=some p:=by exact rfl) (b:(ops[p.1]?).bind (·.dst)=some s:=by exact rfl) (hb:e s = .val (.bool p.2):=by exact rfl):Dv (Dq P T an nl ops (o::os) n e H acc K) :=
 .mk (by simp only [Dq,c,b,hb,N6,BEq.rfl,cond_true]; exact k)
theorem Aq9 (p:Nat×Bool) (s:Nat) (v:Value) (k:Sy o n e H acc fun n e H acc=>Dq P T an nl ops os n e H acc K) (c:o.guard=some p:=by exact rfl) (b:(ops[p.1]?).bind (·.dst)=some s:=by exact rfl) (hb:e s = .val v:=by exact rfl) (hv:(N6 v==some p.2)=false:=by exact rfl):Dv (Dq P T an nl ops (o::os) n e H acc K) :=
 .mk (by simp only [Dq,c,b,hb,hv,cond_false]; exact k)
theorem Mr {p:Nat×Bool} {s:Nat} (k:opK P T an nl o n e H acc fun n e H acc=>Dq P T an nl ops os n e H acc K) (c:o.guard=some p:=by exact rfl) (b:(ops[p.1]?).bind (·.dst)=some s:=by exact rfl) (hb:e s = .val (.bool p.2):=by exact rfl):Dv (Dq P T an nl ops (o::os) n e H acc K):=Aq8 p s k c b hb
theorem Ms {p:Nat×Bool} {s:Nat} {v:Value} (k:Sy o n e H acc fun n e H acc=>Dq P T an nl ops os n e H acc K) (c:o.guard=some p:=by exact rfl) (b:(ops[p.1]?).bind (·.dst)=some s:=by exact rfl) (hb:e s = .val v:=by exact rfl) (hv:(N6 v==some p.2)=false:=by exact rfl):Dv (Dq P T an nl ops (o::os) n e H acc K):=Aq9 p s v k c b hb hv
theorem Ara {s:Nat} {b:Bool} {m c:Option β} {X:List Oper} (h:(bif b then m else c)=some r) (h1:b=true->m=some r->Dv (Dq P T an nl ops X n (A3 e s (.val (.bool true))) H acc K))
  (h2:b=false->c=some r->Dv (Dq P T an nl ops X n (A3 e s (.val (.bool false))) H acc K)) (hb:e s = .val (.bool b):=by exact rfl):Dv (Dq P T an nl ops X n e H acc K):=by
 cases b with
 | true=>have:=h1 rfl h; rwa [W4 hb] at this
 | false=>have:=h2 rfl h; rwa [W4 hb] at this
end
end Go.Ab
namespace Go.Ab
theorem St.recell {σ:Aw} {ι:Bl} {H:Hp} {F:Aw} {W w:World} (s:St σ ι H F W w) (h:Nat) (E:TypeId) (cs f:List AV) (hh:H h = .cells E cs) (l:f.length=cs.length)
  (hc:∀(i:Nat) (c j:AV) (v:Value),cs[i]? = some c->f[i]? = some j->Conc σ ι H c v->Conc σ ι H j v) :
  St σ ι (A3 H h (.cells E f)) F W w/\Le σ ι H σ ι (A3 H h (.cells E f)):=by
 have k:=s.obj h
 unfold B5 at k
 rw [hh] at k
 obtain ⟨b,C,hb,h1,h2,h3,A,z⟩:=k
 have le:Le σ ι H σ ι (A3 H h (.cells E f)):=by
  have:=Le.upd (ι:=ι) (H:=H) (Aw.le_refl σ) h (ι h) (.cells E f) (by rw [hh]; exact ⟨fun _ e=>e,(fun _ e=>by cases e),(fun _ _ _ _ e=>by cases e)⟩)
  rwa [Gx] at this
 refine ⟨s.touch h b (fun _ _=>rfl) (fun x e=>Ct _ _ e) le (fun x e=>rfl) (fun _ _=>rfl) (fun o e=>by rw [h1] at e; cases e) ?_ h2 ?_ ?_ rfl rfl rfl,le⟩
 .intro x e l q
  exact e (s.inj x h b l (by rw [hh]; rfl) q (by rw [hb]; rfl))
 .intro B _ u
  exact .inr ⟨by rw [hh]; rfl,u⟩
 .unfold B5
  rw [B4]
  refine ⟨b,C,hb,h1,h2,h3,by omega,fun i j v x y=>?_⟩
  have hi:i<cs.length:=by rw [<-l]; exact (List.getElem?_eq_some_iff.1 x).1
  have g:cs[i]? = some cs[i]:=List.getElem?_eq_getElem hi
  exact (hc i _ j v g x (z i _ v g y)).mono le
inductive Gh where
 | fz (s:Nat)
 | own (s j:Nat) (e:TypeId) (sz:Nat)
 | nil (s j sz:Nat)
 | fzc (s j:Nat)
 | fzp (s:Nat)
def gxs:List Gh->Nat->Bh->Hp->(Nat->Bh->Hp->Prop)->Prop
 | [],n,e,H,K=>K n e H
 | .fz s::gs,n,e,H,K=>
  match e s with
  | .arr h k 0 len=>
   match H h with
   | .rows _ sz xs=>E9 k xs (E9 len xs (gxs gs n (A3 e s (.sl sz xs)) (A3 H h .dead) K))
   | _=>False
  | _=>False
 | .fzp s::gs,n,e,H,K=>
  match e s with
  | .arr h k 0 len=>
   match H h with
   | .rows _ sz xs=>E9 k xs (Af9 len k (Aga xs len fun ys=>gxs gs n (A3 e s (.sl sz ys)) (A3 H h .dead) K))
   | _=>False
  | _=>False
 | .own s j E sz::gs,n,e,H,K=>
  match e s with
  | .loc h _=>
   match H h with
   | .cells T cs=>
    match cs[j]? with
    | some x=>bif Jp x&&Nat.blt 0 sz then gxs gs (n+1) e (A3 (A3 H n (.rows E sz [])) h (.cells T (cs.set j (.arr n 0 0 0)))) K else False
    | none=>False
   | _=>False
  | _=>False
 | .nil s j sz::gs,n,e,H,K=>
  match e s with
  | .loc h _=>
   match H h with
   | .cells T cs=>
    match cs[j]? with
    | some x=>bif Jp x then gxs gs n e (A3 H h (.cells T (cs.set j (.sl sz [])))) K else False
    | none=>False
   | _=>False
  | _=>False
 | .fzc s j::gs,n,e,H,K=>
  match e s with
  | .loc h _=>
   match H h with
   | .cells T cs=>
    match cs[j]? with
    | some (.arr h' k 0 len)=>
     match H h' with
     | .rows _ sz xs=>E9 k xs (E9 len xs (gxs gs n e (A3 (A3 H h' .dead) h (.cells T (cs.set j (.sl sz xs)))) K))
     | _=>False
    | _=>False
   | _=>False
  | _=>False
section
variable {F:Aw} {W:World}
theorem Ag2 {cs:List AV} {j i:Nat} {y c b:AV} {P:AV->AV->Prop} (h1:cs[i]? = some c) (h2:(cs.set j y)[i]? = some b) (f:P c c) (hy:i=j->P c y):P c b:=by
 rw [List.getElem?_set] at h2
 split at h2
 .rename_i e
  split at h2
  .cases h2; exact hy e.symm
  .cases h2
 .rw [h1] at h2; cases h2; exact f
theorem Qm {H:Hp} {n h:Nat} {o:Bb} (b:Dt H n) (hh:H h≠.none):Dt (A3 H h o) n:=by
 intro m c
 rw [Ct _ _ (fun e=>hh (by rw [<-e]; exact b m c))]; exact b m c
theorem Qo:∀(J:List Gh) {n:Nat} {e:Bh} {H:Hp} {K:Nat->Bh->Hp->Prop} {σ:Aw} {ι:Bl} {a:Act} {w:World},gxs J n e H K->St σ ι H F W w->Dn σ ι H e a->Dt H n ->
  ∃σ' ι' n' e' H',K n' e' H'/\Le σ ι H σ' ι' H'/\St σ' ι' H' F W w/\Dn σ' ι' H' e' a/\Dt H' n'/\n<=n'
 | [],n,e,H,K,σ,ι,a,w,h,s,u,l=>⟨σ,ι,n,e,H,h,Le.refl _ _ _,s,u,l,Nat.le_refl _⟩
 | .fz t::J,n,e,H,K,σ,ι,a,w,h,s,u,l=>by
  simp only [gxs] at h
  split at h
  .rename_i hd k len hx
   split at h
   .rename_i E sz xs hh
    obtain ⟨hk,hl,h⟩:=h
    obtain ⟨A,f,B,I⟩:=s.freeze hh
    have a7:Dn A ι (A3 H hd .dead) (A3 e t (.sl sz xs)) a:=by
     intro q hq
     by_cases z:q=t
     .subst z
      rw [B4]
      have hc:=u q hq
      rw [hx] at hc
      have:=I 0 len _ (by omega) (hc.arr_inv hh hk)
      rw [List.drop_zero,List.take_of_length_le (by omega)] at this
      exact .cc this
     .rw [Ct _ _ z]; exact (u q hq).mono f
    obtain ⟨L,M,N,Y,Z,X,V,U,S,R,k6⟩:=Qo J h B a7 (Qm l (by rw [hh]; intro e; cases e))
    exact ⟨L,M,N,Y,Z,X,f.trans V,U,S,R,k6⟩
   .exact h.elim
  .exact h.elim
 | .fzp t::J,n,e,H,K,σ,ι,a,w,h,s,u,l=>by
  simp only [gxs] at h
  split at h
  .rename_i hd k len hx
   split at h
   .rename_i E sz xs hh
    obtain ⟨hk,hl,ys,hy,h⟩:=h
    obtain ⟨A,f,B,I⟩:=s.freeze hh
    have a7:Dn A ι (A3 H hd .dead) (A3 e t (.sl sz ys)) a:=by
     intro q hq
     by_cases z:q=t
     .subst z
      rw [B4]
      have hc:=u q hq
      rw [hx] at hc
      have:=I 0 len _ (by omega) (hc.arr_inv hh hk)
      rw [List.drop_zero,hy] at this
      exact .cc this
     .rw [Ct _ _ z]; exact (u q hq).mono f
    obtain ⟨L,M,N,Y,Z,X,V,U,S,R,k6⟩:=Qo J h B a7 (Qm l (by rw [hh]; intro e; cases e))
    exact ⟨L,M,N,Y,Z,X,f.trans V,U,S,R,k6⟩
   .exact h.elim
  .exact h.elim
 | .own t j E sz::J,n,e,H,K,σ,ι,a,w,h,s,u,l=>by
  simp only [gxs] at h
  split at h
  .rename_i hd off hx
   split at h
   .rename_i T cs hh
    split at h
    .rename_i x hj
     obtain ⟨hb,h⟩:=Em h
     rw [Bool.and_eq_true] at hb
     have a6:hd≠n:=by
      intro z; subst z
      have:=l hd (Nat.le_refl _); rw [hh] at this; cases this
     obtain ⟨s0,aa⟩:=s.newNil n (l n (Nat.le_refl _)) E sz (Fm hb.2)
     have g:A3 H n (.rows E sz []) hd = .cells T cs:=by rw [Ct _ _ a6]; exact hh
     obtain ⟨B,f⟩:=s0.recell hd T cs (cs.set j (.arr n 0 0 0)) g (by simp) (by
      intro i c c' v h1 h2 h3
      refine Ag2 (P:=fun a b=>Conc σ _ _ a v->Conc σ _ _ b v) h1 h2 (fun h=>h) (fun D h=>?_) h3
      subst D
      rw [hj] at h1; cases h1
      rw [W0 hb.1] at h
      rw [h.val_inv]
      refine .arr _ _ _ _ _ (by rw [B4]; intro e; cases e) (fun E' ak aj e'=>?_) rfl
      rw [B4] at e'; cases e'
      exact ⟨by simp,fun _=>by rw [B4]; exact ⟨rfl,rfl,rfl⟩⟩)
     have af:Dt (A3 (A3 H n (.rows E sz [])) hd (.cells T (cs.set j (.arr n 0 0 0)))) (n+1):=by
      refine Qm ?_ (by rw [g]; intro e; cases e)
      intro m hm
      rw [Ct _ _ (by omega)]; exact l m (by omega)
     obtain ⟨L,M,N,Y,Z,X,V,U,S,R,k6⟩:=Qo J h B (u.mono (aa.trans f)) af
     exact ⟨L,M,N,Y,Z,X,(aa.trans f).trans V,U,S,R,by omega⟩
    .exact h.elim
   .exact h.elim
  .exact h.elim
 | .nil t j sz::J,n,e,H,K,σ,ι,a,w,h,s,u,l=>by
  simp only [gxs] at h
  split at h
  .rename_i hd off hx
   split at h
   .rename_i T cs hh
    split at h
    .rename_i x hj
     obtain ⟨hb,h⟩:=Em h
     obtain ⟨B,f⟩:=s.recell hd T cs (cs.set j (.sl sz [])) hh (by simp) (by
      intro i c c' v h1 h2 h3
      refine Ag2 (P:=fun a b=>Conc σ _ _ a v->Conc σ _ _ b v) h1 h2 (fun h=>h) (fun D h=>?_) h3
      subst D
      rw [hj] at h1; cases h1
      exact W1 hb h)
     obtain ⟨L,M,N,Y,Z,X,V,U,S,R,k6⟩:=Qo J h B (u.mono f) (Qm l (by rw [hh]; intro e; cases e))
     exact ⟨L,M,N,Y,Z,X,f.trans V,U,S,R,k6⟩
    .exact h.elim
   .exact h.elim
  .exact h.elim
 | .fzc t j::J,n,e,H,K,σ,ι,a,w,h,s,u,l=>by
  simp only [gxs] at h
  split at h
  .rename_i hd off hx
   split at h
   .rename_i T cs hh
    split at h
    .rename_i h' k len hj
     split at h
     .rename_i E sz xs G
      obtain ⟨hk,hl,h⟩:=h
      obtain ⟨A,f,B,I⟩:=s.freeze G
      have a6:hd≠h':=by intro z; subst z; rw [hh] at G; cases G
      have g:A3 H h' .dead hd = .cells T cs:=by rw [Ct _ _ a6]; exact hh
      have a1:=s.obj hd
      unfold B5 at a1; rw [hh] at a1
      obtain ⟨b,C,z,g1,g2,g3,g4,g5⟩:=a1
      have a8:∀v,C[j]? = some v->Conc A ι (A3 H h' .dead) (.sl sz xs) v:=by
       intro v hv
       have hc:=g5 j _ v hj hv
       have:=I 0 len _ (by omega) (hc.arr_inv G hk)
       rw [List.drop_zero,List.take_of_length_le (by omega)] at this
       exact .cc this
      have s2:St A ι (A3 (A3 H h' .dead) hd (.cells T (cs.set j (.sl sz xs)))) F W w/\Le A ι (A3 H h' .dead) A ι (A3 (A3 H h' .dead) hd (.cells T (cs.set j (.sl sz xs)))):=by
       have ho:=B.obj hd
       unfold B5 at ho; rw [g] at ho
       obtain ⟨b',C',ae,ad,ac,ab,am,ai⟩:=ho
       rw [z] at ae; cases ae
       rw [g3] at ab; cases ab
       have le:Le A ι (A3 H h' .dead) A ι (A3 (A3 H h' .dead) hd (.cells T (cs.set j (.sl sz xs)))):=by
        have:=Le.upd (ι:=ι) (H:=A3 H h' .dead) (Aw.le_refl A) hd (ι hd) (.cells T (cs.set j (.sl sz xs))) (by rw [g]; exact ⟨fun _ e=>e,(fun _ e=>by cases e),(fun _ _ _ _ e=>by cases e)⟩)
        rwa [Gx] at this
       refine ⟨B.touch hd b (fun _ _=>rfl) (fun x e=>Ct _ _ e) le (fun x e=>rfl) (fun _ _=>rfl) (fun o e=>by rw [ad] at e; cases e) ?_ ac ?_ ?_ rfl rfl rfl,le⟩
       .intro x e hl ag
        exact e (B.inj x hd b hl (by rw [g]; rfl) ag (by rw [z]; rfl))
       .intro b0 _ ah
        exact .inr ⟨by rw [g]; rfl,ah⟩
       .unfold B5
        rw [B4]
        refine ⟨b,C,z,ad,ac,g3,by simpa using g4,fun i c' v x y=>?_⟩
        rw [List.getElem?_set] at x
        split at x
        .rename_i D
         split at x
         .cases x; subst D; exact (a8 v y).mono le
         .cases x
        .exact (ai i c' v x y).mono le
      obtain ⟨L,M,N,Y,Z,X,V,U,S,R,k6⟩:=Qo J h s2.1 (u.mono (f.trans s2.2)) (Qm (Qm l (by rw [G]; intro e; cases e)) (by rw [g]; intro e; cases e))
      exact ⟨L,M,N,Y,Z,X,(f.trans s2.2).trans V,U,S,R,k6⟩
     .exact h.elim
    .exact h.elim
   .exact h.elim
  .exact h.elim
end
end Go.Ab
namespace Go.Ab
def G0 {S E:Type} (step:S->Option (S⊕E)):Nat->S->Option E
 | 0,_=>none
 | n+1,s=>
  match step s with
  | none=>none
  | some (.inl s')=>G0 step n s'
  | some (.inr e)=>some e
theorem Abl {S E:Type} {step:S->Option (S⊕E)}:∀{n:Nat} {s:S} {e:E},G0 step n s=some e->∀m,n<=m->G0 step m s=some e
 | 0,s,e,h,_,_=>by cases h
 | n+1,s,e,h,0,c=>by omega
 | n+1,s,e,h,m+1,c=>by
  simp only [G0] at h ⊢
  cases b:step s with
  | none=>rw [b] at h; cases h
  | some o=>
   rw [b] at h
   cases o with
   | inl s'=>exact Abl (n:=n) h m (by omega)
   | inr e'=>exact h
theorem Ag3 {S E:Type} {step:S->Option (S⊕E)} {n m:Nat} {s:S} {e e':E} (h:G0 step n s=some e) (h':G0 step m s=some e'):e=e':=by
 have h1:=Abl h (max n m) (by omega)
 have h2:=Abl h' (max n m) (by omega)
 rw [h1] at h2; exact Option.some.inj h2
open Classical in
noncomputable def Aj {S E:Type} (step:S->Option (S⊕E)) (s:S):Option E :=
 match G0 step 4096 s with
 | some e=>some e
 | none=>if h:∃n e,G0 step n s=some e then some (Classical.choose (Classical.choose_spec h)) else none
theorem Abm {S E:Type} {step:S->Option (S⊕E)} {s:S} {e:E} (h:Aj step s=some e):∃n,G0 step n s=some e:=by
 unfold Aj at h
 split at h
 .rename_i e' b
  cases h
  exact ⟨_,b⟩
 .split at h
  .rename_i hx
   cases h
   exact ⟨_,Classical.choose_spec (Classical.choose_spec hx)⟩
  .cases h
theorem Abn {S E:Type} {step:S->Option (S⊕E)} {s:S} {e:E} {n:Nat} (h:G0 step n s=some e):Aj step s=some e:=by
 have hx:∃n e,G0 step n s=some e:=⟨n,e,h⟩
 unfold Aj
 split
 .rename_i e' b
  exact congrArg some (Ag3 b h)
 rw [dif_pos hx]
 exact congrArg some (Ag3 (Classical.choose_spec (Classical.choose_spec hx)) h)
theorem Gg {S E:Type} {step:S->Option (S⊕E)} {s:S} {e:E} (h:step s=some (.inr e)):Aj step s=some e :=
 Abn (n:=1) (by simp only [G0,h])
theorem Lp {S E:Type} {step:S->Option (S⊕E)} {s s':S} (h:step s=some (.inl s')):Aj step s=Aj step s':=by
 cases h':Aj step s' with
 | some e=>
  obtain ⟨n,b⟩:=Abm h'
  exact Abn (n:=n+1) (by simp only [G0,h]; exact b)
 | none=>
  cases c:Aj step s with
  | none=>rfl
  | some e=>
   obtain ⟨n,b⟩:=Abm c
   cases n with
   | zero=>cases b
   | succ n=>
    simp only [G0,h] at b
    rw [Abn b] at h'; cases h'
theorem Abo {S E:Type} {step:S->Option (S⊕E)} (c:S->Prop) (m:S->Nat) (b:E->Prop)
  (f:∀s,c s->(∃s',step s=some (.inl s')/\c s'/\m s' < m s)\/(∃e,step s=some (.inr e)/\b e)) (s:S) (h0:c s):∃e,Aj step s=some e/\b e:=by
 generalize hk:m s=k
 induction k using Nat.strongRecOn generalizing s with
 | _ k ih=>
  rcases f s h0 with ⟨s',h1,h2,h3⟩ | ⟨e,h1,h2⟩
  .obtain ⟨e,h,g⟩:=ih (m s') (by omega) s' h2 rfl
   exact ⟨e,by rw [Lp h1]; exact h,g⟩
  .exact ⟨e,Gg h1,h2⟩
def Af {α:Type} (l:List α) (i:Int):Option α:=if 0<=i then l[i.toNat]? else none
def G1 {α:Type} (l:List α) (lo hi:Int):Option (List α):=if 0<=lo/\lo<=hi/\hi<=l.length then some ((l.take hi.toNat).drop lo.toNat) else none
def B6 {α:Type} (b:Nat) (xs ys:List α):Option (List α):=if (xs.length+ys.length)*b<=140737488355328 then some (xs++ys) else none
def En {α:Type} (c:Nat) (len b:Int) (z:α):Option (List α):=if 0<=len/\len<=b/\c*b.toNat<=281474976710656/\b<=140737488355328 then some (List.replicate len.toNat z) else none
def Fa {α:Type} (l:List α) (off n:Nat) (i:Int):Option α:=if 0<=i/\i<n then l[off+i.toNat]? else none
def Mt (n:Nat) (lo hi:Int):Option (Nat×Nat):=if 0<=lo/\lo<=hi/\hi<=n/\(lo=0\/lo<hi) then some (lo.toNat,hi.toNat) else none
def Mu {α:Type} (xs:List α) (off n:Nat) (z:α):Option (List α):=if off+n<=xs.length then some (Dk xs off (List.replicate n z)) else none
def Xa {α:Type} (xs:List α) (n:Nat):Option (List α):=if n<=xs.length then some (xs.take n) else none
def Qp (n:Nat) (hi:Int):Option Nat:=if 0<=hi/\hi<=n then some hi.toNat else none
def Oh (n:Nat) (lo hi:Int):Option ((Nat×Nat)⊕Unit):=if 0<=lo/\lo<=hi/\hi<=n then (if lo=0\/lo<hi then some (.inl (lo.toNat,hi.toNat)) else some (.inr ())) else none
def Jt {α:Type} (n:Nat) (l:List α):Option Unit:=if n=l.length then some () else none
theorem Ir {α:Type} {n:Nat} {l:List α} {u:Unit} (h:Jt n l=some u):n=l.length:=by
 unfold Jt at h
 split at h
 .assumption
 .cases h
theorem Ag4 (off:Nat) {i:Int} {n:Nat} (h:i=n):((off:Nat):Int)+i=((off+n:Nat):Int):=by omega
def Lq (n:Int):Option ByteArray:=if -9223372036854775808<=n/\n<=9223372036854775807 then some ⟨(Lib.itoa n).toArray⟩ else none
def Ag5 (l:List Int):Option (List Int):=some (l.mergeSort fun x y=>decide (x<=y))
def Xb (a b:Int):Option ByteArray:=bif b==10 then Lq a else none
def Eu (l:List Int):List UInt8:=l.map fun n=>UInt8.ofNat n.toNat
def Sz (l:List Int):Option ByteArray:=if (∀x∈l,0<=x/\x<256) then some ⟨(Eu l).toArray⟩ else none
def Ki (s:ByteArray):List Int:=s.data.toList.map fun b=>(b.toNat:Int)
def Cp {α:Type} (l:List α) (i:Int) (x:α):List α:=l.set i.toNat x
def Ey (k:IntKind) (a b:Int):Option Int:=if b=0 then none else some (k.wrap (a.tdiv b))
def Fq (a b:Int):Option Int:=if b=0 then none else some (a.tmod b)
def Ag6 (k:IntKind) (a b:Int):Option Int:=if 0<=b then some (k.wrap (a*2 ^ (min b.toNat k.bits))) else none
def I9 (k:IntKind) (a b:Int):Option Int:=if 0<=b then some (a.fdiv (2 ^ (min b.toNat k.bits))) else none
def H8 (s:ByteArray) (i:Int):Option UInt8:=if 0<=i then s[i.toNat]? else none
def D4 (a b:ByteArray):Option ByteArray:=if a.size+b.size<=9223372036854775807 then some (a++b) else none
def Eo (s:ByteArray) (lo hi:Int):Option ByteArray:=if 0<=lo/\lo<=hi/\hi<=s.size then some (s.extract lo.toNat hi.toNat) else none
abbrev Ac (n:Int):Int:=IntKind.i64.wrap n
abbrev Au (n:Int):Int:=IntKind.u64.wrap n
abbrev Bt (n:Int):Int:=IntKind.u32.wrap n
abbrev wu8 (n:Int):Int:=IntKind.u8.wrap n
theorem Ag7 {α:Type} {l:List α} {i:Int} {x:α} (h:Af l i=some x):∃n:Nat,i=n/\l[n]? = some x:=by
 unfold Af at h
 split at h
 .exact ⟨i.toNat,by omega,h⟩
 .cases h
section
variable {β:Type} {r:β}
theorem C5 {α:Type} {o:Option α} {m:α->Option β} {G:Prop} (h:o.bind m=some r) (k:∀x,o=some x->m x=some r->G):G:=by
 cases o with
 | none=>cases h
 | some x=>exact k x rfl h
theorem Ag8 {α:Type} {o:Option α} {m:α->Option β} {G:Prop} (h:o.bind m=some r) (k:∀x,o=some x->(∀y,y=x->m y=some r)->G):G:=by
 cases o with
 | none=>cases h
 | some x=>exact k x rfl (fun y hy=>by subst hy; exact h)
theorem Arb {α:Type} {l:List α} {f:α->AV} {ys:List AV} (g:ys=l.map f) {i:Int} {m:α->Option β} {K:Nat->AV->Prop} (h:(Af l i).bind m=some r) (k:∀(n:Nat) (x:α),i=n->l[n]? = some x->m x=some r->K n (f x)):Sq ys i K:=by
 subst g
 refine C5 h fun x hx h=>?_
 obtain ⟨n,b,c⟩:=Ag7 hx
 exact .mk n (f x) b (by simp [c]) (k n x b c h)
theorem Arc {α:Type} {l:List α} {f:α->AV} {ys:List AV} (q:ys=l.map f) {i:Int} {m:α->Option β} {K:Nat->Prop} {len b:Nat} (j:len=l.length) (hk:b=l.length) (h:(Af l i).bind m=some r) (k:∀(n:Nat) (x:α),i=n->l[n]? = some x->m x=some r->K n):N8 len b ys i K:=by
 subst q
 refine C5 h fun x hx h=>?_
 obtain ⟨n,c,g⟩:=Ag7 hx
 exact .mk n (by rw [hk]; simp) c (by rw [j]; exact (List.getElem?_eq_some_iff.1 g).1) (k n x c g h)
theorem Ard {α:Type} {l:List α} {f:α->AV} {ys:List AV} (c:ys=l.map f) {i:Int} {m:α->Option β} {K:Nat->Prop} {off len b:Nat} (hk:b=l.length) (h:(Fa l off len i).bind m=some r) (k:∀(n:Nat) (x:α),i=n->l[off+n]? = some x->m x=some r->K n):N8 len b ys i K:=by
 subst c
 refine C5 h fun x hx h=>?_
 unfold Fa at hx
 split at hx
 .rename_i hc
  exact .mk i.toNat (by rw [hk]; simp) (by omega) (by omega) (k _ x (by omega) hx h)
 .cases hx
theorem Ag9 {α:Type} {l:List α} {f:α->AV} {ys:List AV} (c:ys=l.map f) {b n:Nat} (hk:b=l.length) {lo hi:Int} {m:Nat×Nat->Option β} {K:Nat->Nat->Prop} {g:Prop} (h:(Mt n lo hi).bind m=some r) (k:∀v:Nat×Nat,m v=some r->K v.1 v.2):Wr b ys n lo hi K g:=by
 subst c
 refine C5 h fun x hx h=>?_
 unfold Mt at hx
 split at hx
 .rename_i hc
  cases hx
  exact .mk lo.toNat hi.toNat (by rw [hk]; simp) (by omega) (by omega) (by omega) (by omega) (by omega) (k _ h)
 .cases hx
theorem Are {α β:Type} (f:α->β) (xs:List α) (d:Nat) (ys:List α):Dk (xs.map f) d (ys.map f)=(Dk xs d ys).map f:=by
 unfold Dk
 simp [List.map_take,List.map_drop]
theorem Arf {α:Type} {l:List α} {f:α->AV} {xs:List AV} {z:α} {c:AV} (j:xs=l.map f) (i:c=f z) {g off len:Nat} {m:List α->Option β} {K:List AV->Prop} (hk:g=l.length) (h:(Mu l off len z).bind m=some r)
  (k:∀o:List α,Mu l off len z=some o->m o=some r->K (o.map f)):Af8 xs g off len c K:=by
 subst j; subst hk; subst i
 refine C5 h fun x hx h=>?_
 have b:=hx
 unfold Mu at hx
 split at hx
 .rename_i hc
  cases hx
  exact .mk _ (by simp) (by simpa using hc) (by rw [<-List.map_replicate,Are]) (k _ b h)
 .cases hx
theorem Aha {α:Type} {l o:List α} {k off n:Nat} {z:α} (hk:k=l.length) (h:Mu l off n z=some o):k=o.length:=by
 unfold Mu at h
 split at h
 .cases h
  rw [Sn (by omega)]; simp; omega
 .cases h
theorem Arg {α:Type} {l:List α} {f:α->AV} {xs:List AV} (c:xs=l.map f) {b len:Nat} {m:List α->Option β} {K:List AV->Prop} (hk:b=l.length) (h:(Xa l len).bind m=some r)
  (k:∀o:List α,m o=some r->K (o.map f)):E9 b xs (Af9 len b (Aga xs len K)):=by
 subst c; subst hk
 refine C5 h fun x hx h=>?_
 unfold Xa at hx
 split at hx
 .rename_i hc
  cases hx
  exact .mk (by simp) (.mk hc (.mk _ (by rw [List.map_take]) (k _ h)))
 .cases hx
theorem Ahb {α:Type} {l:List α} {f:α->AV} {ys:List AV} (c:ys=l.map f) {b n:Nat} (hk:b=l.length) {hi:Int} {m:Nat->Option β} {K:Nat->Nat->Prop} {g:Prop} (h:(Qp n hi).bind m=some r) (k:∀v:Nat,m v=some r->K 0 v):Wr b ys n 0 hi K g:=by
 subst c
 refine C5 h fun x hx h=>?_
 unfold Qp at hx
 split at hx
 .rename_i hc
  cases hx
  exact .mk 0 hi.toNat (by rw [hk]; simp) (by omega) (by omega) (by omega) (by omega) (by omega) (k _ h)
 .cases hx
theorem Arh {α:Type} {l:List α} {f:α->AV} {ys:List AV} (i:ys=l.map f) {b n:Nat} (hk:b=l.length) {lo hi:Int} {m:(Nat×Nat)⊕Unit->Option β} {K:Nat->Nat->Prop} {c:Prop} (h:(Oh n lo hi).bind m=some r)
  (k:∀v:Nat×Nat,m (.inl v)=some r->K v.1 v.2) (g:m (.inr ())=some r->c):Wr b ys n lo hi K c:=by
 subst i
 refine C5 h fun x hx h=>?_
 unfold Oh at hx
 split at hx
 .rename_i hc
  split at hx
  .cases hx
   exact .mk lo.toNat hi.toNat (by rw [hk]; simp) (by omega) (by omega) (by omega) (by omega) (by omega) (k _ h)
  .cases hx
   exact .mkE lo.toNat (by rw [hk]; simp) (by omega) (by omega) (by omega) (g h)
 .cases hx
theorem Ahc {op:BinOp} {q:FloatKind} {a b:Nat} {m:Nat->Option β} {K:Nat->Prop} (h:(floatBits op q a b).bind m=some r) (k:∀c,m c=some r->K c):Wu op q a b K :=
 C5 h fun x hx h=>.mk x hx (k x h)
theorem Ahd {q:FloatKind} {a:Nat} {z:IntKind} {m:Int->Option β} {K:Int->Prop} (h:(floatToIntVal q a z).bind m=some r) (k:∀c,m c=some r->K c):Wv q a z K :=
 C5 h fun x hx h=>.mk x hx (k x h)
theorem Ari {α:Type} {l:List α} {f:α->AV} {ys:List AV} (c:ys=l.map f) {n i b:Nat} {x:α} {K:AV->Prop} (hk:b=l.length) (hi:i=n) (hx:l[n]? = some x) (k:K (f x)):Jo b i ys K:=by
 subst c; subst hi
 exact .mk (f x) (by rw [hk]; simp) (by simp [hx]) k
theorem K2 {α:Type} {l:List α} {f:α->AV} {ys:List AV} (b:ys=l.map f) {n i:Nat} {j:Int} {x:α} {p:AV} {K:List AV->Prop} (hp:p=f x) (hi:i=n) (hj:j=(n:Int)) (k:K ((Cp l j x).map f)):Qd ys i p K:=by
 subst b; subst hi; subst hp; subst hj
 exact .mk _ (by simp [Cp,List.map_set]) k
theorem Arj {α:Type} {g:List α->List AV} {f:α->AV} (b:∀l,g l=l.map f) {l:List α} {ys:List AV} (c:ys=l.map f) {n i:Nat} {j:Int} {x:α} {p:AV} {K:List AV->Prop} (hp:p=f x) (hi:i=n) (hj:j=(n:Int)) (k:K (g (Cp l j x))):Qd ys i p K :=
 K2 c hp hi hj (by rw [<-b]; exact k)
theorem Gi {α:Type} {l:List α} {k:Nat} (h:k=l.length) (j:Int) (x:α):k=(Cp l j x).length:=by simp [Cp,h]
theorem Ahe {α:Type} {l:List α} {f:α->AV} {ys:List AV} (c:ys=l.map f) {lo hi:Int} {m:List α->Option β} {K:List AV->Prop} (h:(G1 l lo hi).bind m=some r) (k:∀b:List α,m b=some r->K (b.map f)):N9 ys lo hi K:=by
 subst c
 refine C5 h fun x hx h=>?_
 unfold G1 at hx
 split at hx
 .rename_i hc
  cases hx
  exact .mk lo.toNat hi.toNat _ (by omega) (by omega) (by omega) (by simp; omega) (by rw [<-List.map_take,<-List.map_drop]) (k _ h)
 .cases hx
theorem Ark {α:Type} {l:List α} {f:α->AV} {ys:List AV} (c:ys=l.map f) {lo:Int} {m:List α->Option β} {K:List AV->Prop} (h:(G1 l lo l.length).bind m=some r) (k:∀b:List α,m b=some r->K (b.map f)):N9 ys lo ys.length K:=by
 have e:((ys.length:Nat):Int)=(l.length:Int):=by rw [c]; simp
 rw [e]
 exact Ahe c h k
theorem Abp {α:Type} {l ys:List α} {f:α->AV} {xs c:List AV} (q:xs=l.map f) (i:c=ys.map f) {b g len:Nat} {m:List α->Option β} {K:List AV->Nat->Prop} {s:List AV->Nat->Nat->Prop} (hk:g=l.length) (j:len=l.length) (h:(B6 b l ys).bind m=some r)
  (k:∀o:List α,m o=some r->K (o.map f) o.length):K0 xs c g len b K s:=by
 subst q; subst i; subst hk; subst j
 refine C5 h fun x hx h=>?_
 unfold B6 at hx
 split at hx
 .rename_i hc
  cases hx
  exact .mk _ _ (by simp) rfl (by simpa using hc) (by simp) (by simp) (k _ h)
 .cases hx
theorem Arl {l:List Int} {s:ByteArray} {xs:List AV} (i:xs=l.map fun n=>.val (.int .u8 n)) {b c len:Nat} {m:List Int->Option β} {K:List AV->Nat->Prop} {j:List AV->Nat->Nat->Prop} (hk:c=l.length) (g:len=l.length) (h:(B6 b l (Ki s)).bind m=some r)
  (k:∀o:List Int,m o=some r->K (o.map fun n=>.val (.int .u8 n)) o.length):K0 xs (Hb s) c len b K j:=by
 refine Abp (f:=fun n=>.val (.int .u8 n)) i ?_ hk g h k
 simp [Hb,Ki]
theorem Ahf {α:Type} {ys:List α} {f:α->AV} {c:List AV} (g:c=ys.map f) {b:Nat} {m:List α->Option β} {K:List AV->Nat->Prop} (h:(B6 b [] ys).bind m=some r)
  (k:∀o:List α,m o=some r->K (o.map f) o.length):Oa c b K:=by
 subst g
 refine C5 h fun x hx h=>?_
 unfold B6 at hx
 split at hx
 .rename_i hc
  cases hx
  exact .mk _ _ (by simpa using hc) (by simp) (by simp) (k _ h)
 .cases hx
theorem Arm {α:Type} {g:List α->List AV} {f:α->AV} (s:∀l,g l=l.map f) {l ys:List α} {xs c:List AV} (u:xs=l.map f) (j:c=ys.map f) {b i len:Nat} {m:List α->Option β} {K:List AV->Nat->Prop} {x:List AV->Nat->Nat->Prop} (hk:i=l.length) (q:len=l.length) (h:(B6 b l ys).bind m=some r)
  (k:∀o:List α,m o=some r->K (g o) o.length):K0 xs c i len b K x :=
 Abp u j hk q h fun o h=>by rw [<-s]; exact k o h
theorem Arn {α:Type} {g:List α->List AV} {f:α->AV} (j:∀l,g l=l.map f) {ys:List α} {c:List AV} (i:c=ys.map f) {b:Nat} {m:List α->Option β} {K:List AV->Nat->Prop} (h:(B6 b [] ys).bind m=some r)
  (k:∀o:List α,m o=some r->K (g o) o.length):Oa c b K :=
 Ahf i h fun o h=>by rw [<-j]; exact k o h
theorem Aro {α:Type} {z:α} {f:α->AV} {g:AV} (i:g=f z) {len c:Int} {b:Nat} {m:List α->Option β} {K:Nat->List AV->Prop} (h:(En b len c z).bind m=some r) (k:∀o:List α,m o=some r->K o.length (o.map f)):Qc len c b g K:=by
 subst i
 refine C5 h fun x hx h=>?_
 unfold En at hx
 split at hx
 .rename_i hc
  cases hx
  exact .mk _ c.toNat _ (by simp; omega) (by omega) (by simp; omega) hc.2.2.1 (by omega) (by simp) (k _ h)
 .cases hx
def Abq {α:Type} (l:List α):Option Unit:=match l with | []=>some () | _=>none
theorem Ahg {α:Type} {l:List α} {f:α->AV} {ys:List AV} (b:ys=l.map f) {m:Unit->Option β} {K:Prop} (h:(Abq l).bind m=some r) (k:m ()=some r->K):Af7 ys K:=by
 subst b
 refine C5 h fun x hx h=>?_
 cases l with
 | nil=>exact .mk rfl (k h)
 | cons a l=>cases hx
theorem Ahh {α:Type} {z:α} {f:α->AV} {g:AV} (i:Hr g.cells (f z).cells) {len c:Int} {b:Nat} {m:List α->Option β} {K:Nat->List AV->Prop} (h:(En b len c z).bind m=some r) (k:∀o:List α,m o=some r->K o.length (o.map f)):Qc len c b g K:=by
 refine C5 h fun x hx h=>?_
 unfold En at hx
 split at hx
 .rename_i hc
  cases hx
  exact .mkN (f z) i _ c.toNat _ (by simp; omega) (by omega) (by simp; omega) hc.2.2.1 (by omega) (by simp) (k _ h)
 .cases hx
theorem Arp {α:Type} {l:List α} {f:α->AV} {ys:List AV} (b:ys=l.map f) {K:Int->Prop} (k:K (l.length:Int)):Kc ys K:=by
 subst b; exact .mk _ (by simp) k
theorem Arq {α:Type} {l:List α} {f:α->AV} {ys:List AV} (c:ys=l.map f) {b:Nat} (hk:b=l.length) {K:Prop} (k:K):E9 b ys K:=by
 subst c; exact .mk (by rw [hk]; simp) k
def Ea {α:Type} (l:List (ByteArray×α)) (s:ByteArray):Bool:=l.any fun p=>s==p.1
def Hf {α:Type} (l:List (ByteArray×α)) (s:ByteArray) (z:α):α:=((l.find? fun p=>s==p.1).map (·.2)).getD z
def Ep {α:Type}:List (ByteArray×α)->ByteArray->α->List (ByteArray×α)
 | [],s,v=>[(s,v)]
 | p::l,s,v=>bif s==p.1 then (s,v)::l else p::Ep l s v
def Bk {α:Type} (f:α->AV) (l:List (ByteArray×α)):List (AV×AV):=l.map fun p=>(.val (.string p.1),f p.2)
theorem Abr {α:Type} (f:α->AV) (s:ByteArray) (z:α):∀(l:List (ByteArray×α)) (i:Nat),
  (Ea l s=false/\Hc s (Bk f l) i=some none)\/(Ea l s=true/\∃j,Hc s (Bk f l) i=some (some (i+j,f (Hf l s z)))/\∀v,Bk f (Ep l s v)=(Bk f l).set j (.val (.string s),f v))
 | [],i=>.inl ⟨rfl,rfl⟩
 | p::l,i=>by
  cases hp:s==p.1 with
  | true=>
   refine .inr ⟨by simp [Ea,hp],0,?_,fun v=>?_⟩
   .simp [Bk,Hc,Hf,hp]
   .simp [Bk,Ep,hp]
  | false=>
   rcases Abr f s z l (i+1) with ⟨h1,h2⟩ | ⟨h1,j,h2,h3⟩
   .refine .inl ⟨by simp only [Ea,List.any_cons,hp,Bool.false_or]; exact h1,?_⟩
    have:Hc s (Bk f (p::l)) i=Hc s (Bk f l) (i+1):=by simp [Bk,Hc,hp]
    rw [this,h2]
   .refine .inr ⟨by simp only [Ea,List.any_cons,hp,Bool.false_or]; exact h1,j+1,?_,fun v=>?_⟩
    .have:Hc s (Bk f (p::l)) i=Hc s (Bk f l) (i+1):=by simp [Bk,Hc,hp]
     have b:Hf (p::l) s z=Hf l s z:=by simp [Hf,hp]
     rw [this,h2,b]; congr 3; omega
    .have c:Bk f (Ep (p::l) s v)=(.val (.string p.1),f p.2)::Bk f (Ep l s v):=by simp [Bk,Ep,hp]
     rw [c,h3 v]; rfl
theorem Ahi {α:Type} (f:α->AV) {s:ByteArray} {v:α}:∀{l:List (ByteArray×α)},Ea l s=false->Bk f (Ep l s v)=Bk f l++[(.val (.string s),f v)]
 | [],_=>rfl
 | p::l,h=>by
  simp only [Ea,List.any_cons,Bool.or_eq_false_iff] at h
  have:=Ahi f (v:=v) (l:=l) h.2
  simp only [Ep,h.1,cond_false]
  simp only [Bk,List.map_cons,List.cons_append] at this ⊢
  rw [this]
theorem Xc {α:Type} {f:α->AV} {l:List (ByteArray×α)} {es:List (AV×AV)} (i:es=Bk f l) (z:α) {s:ByteArray} {m b:Option β} {K:Option (Nat×AV)->Prop} (h:(bif Ea l s then m else b)=some r)
  (g:∀j,Ea l s=true->m=some r->K (some (j,f (Hf l s z)))) (c:Ea l s=false->b=some r->K none):Agb s es K:=by
 subst i
 rcases Abr f s z l 0 with ⟨h1,h2⟩ | ⟨h1,j,h2,_⟩
 .rw [h1] at h; exact .mk _ h2 (c h1 h)
 .rw [h1] at h; exact .mk _ h2 (g _ h1 h)
theorem S0 {α:Type} {f:α->AV} {l:List (ByteArray×α)} {es:List (AV×AV)} (b:es=Bk f l) {s:ByteArray} {x:α} {v:AV} (hv:v=f x) {K:List (AV×AV)->Prop} (k:K (Bk f (Ep l s x))):Agc s v es K:=by
 subst b; subst hv
 refine .mk _ ?_ k
 unfold Wi
 rcases Abr f s x l 0 with ⟨h1,h2⟩ | ⟨h1,j,h2,h3⟩
 .rw [h2,Ahi f h1]
 .rw [h2,h3 x]; simp
theorem S3 {k:IntKind} {a b:Int} {m:Int->Option β} {K:Int->Prop} (h:(Ey k a b).bind m=some r) (f:∀c:Int,m c=some r->K c):Wm k a b K:=by
 refine C5 h fun x hx h=>?_
 unfold Ey at hx
 split at hx
 .cases hx
 .rename_i hb; cases hx; exact .mk _ hb rfl (f _ h)
theorem Xd {a b:Int} {m:Int->Option β} {K:Int->Prop} (h:(Fq a b).bind m=some r) (f:∀c:Int,m c=some r->K c):Wn a b K:=by
 refine C5 h fun x hx h=>?_
 unfold Fq at hx
 split at hx
 .cases hx
 .rename_i hb; cases hx; exact .mk _ hb rfl (f _ h)
theorem Ahj {k:IntKind} {a b:Int} {m:Int->Option β} {K:Int->Prop} (h:(Ag6 k a b).bind m=some r) (f:∀c:Int,m c=some r->K c):Wp k a b K:=by
 refine C5 h fun x hx h=>?_
 unfold Ag6 at hx
 split at hx
 .rename_i hb; cases hx; exact .mk _ hb rfl (f _ h)
 .cases hx
theorem Xe {k:IntKind} {a b:Int} {m:Int->Option β} {K:Int->Prop} (h:(I9 k a b).bind m=some r) (f:∀c:Int,m c=some r->K c):Wo k a b K:=by
 refine C5 h fun x hx h=>?_
 unfold I9 at hx
 split at hx
 .rename_i hb; cases hx; exact .mk _ hb rfl (f _ h)
 .cases hx
theorem S4 {s:ByteArray} {i:Int} {m:UInt8->Option β} {K:UInt8->Prop} (h:(H8 s i).bind m=some r) (b:∀c:UInt8,m c=some r->K c):Ws s i K:=by
 refine C5 h fun x hx h=>?_
 unfold H8 at hx
 split at hx
 .exact .mk i.toNat x (by omega) hx (b _ h)
 .cases hx
theorem Fw {a b:ByteArray} {m:ByteArray->Option β} {K:Prop} (h:(D4 a b).bind m=some r) (k:m (a++b)=some r->K):Wt (a.size+b.size) K:=by
 refine C5 h fun x hx h=>?_
 unfold D4 at hx
 split at hx
 .rename_i hc; cases hx; exact .mk hc (k h)
 .cases hx
theorem Abs {s:ByteArray} {lo hi:Int} {m:ByteArray->Option β} {K:Nat->Nat->Prop} (h:(Eo s lo hi).bind m=some r) (k:∀l h',lo=((l:Nat):Int)->hi=((h':Nat):Int)->m (s.extract l h')=some r->K l h'):Wq s.size lo hi K:=by
 refine C5 h fun x hx h=>?_
 unfold Eo at hx
 split at hx
 .rename_i hc
  cases hx
  exact .mk lo.toNat hi.toNat (by omega) (by omega) (by omega) (by omega) (k _ _ (by omega) (by omega) h)
 .cases hx
end
def Xf (Qn:Nat->Bh->Hp->Prop) (Qe:Nat->Nat->Bh->Hp->Prop) (Qr:Nat->Bh->Hp->Prop) (x:Ex) (n:Nat) (e:Bh) (H:Hp):Prop :=
 match x with
 | .normal=>Qn n e H
 | .exit i=>Qe i n e H
 | .ret=>Qr n e H
def wc (P:Program) (C:Cfg) (c:Code) (Qn:Nat->Bh->Hp->Prop) (Qe:Nat->Nat->Bh->Hp->Prop) (Qr:Nat->Bh->Hp->Prop) (n:Nat) (e:Bh) (H:Hp):Prop :=
 Cd P C.T->P.follows .mixedOrders=true->∀(F:Aw) (W:World) (σ:Aw) (ι:Bl) (a:Act) (w:World) (Q:Exit->Act->World->Prop),
  H7 a.tmps.size c=true->St σ ι H F W w->Dn σ ι H e a->Dt H n ->
  (∀x h e' H' f g b w',Xf Qn Qe Qr x h e' H'->Le σ ι H f g H'->St f g H' F W w'->Dn f g H' e' b->Dt H' h->n<=h->b.tmps.size=a.tmps.size->b.defers=a.defers->D0 (D1 c) a b->Q x.out b w')->c.wp P Q a w
section
variable {P:Program} {C:Cfg} {Qn:Nat->Bh->Hp->Prop} {Qe:Nat->Nat->Bh->Hp->Prop} {Qr:Nat->Bh->Hp->Prop} {n:Nat} {e:Bh} {H:Hp} {β:Type} {r:β}
theorem Abt {c:Code} (h:vc P C c (Xf Qn Qe Qr) n e H):wc P C c Qn Qe Qr n e H :=
 fun j g _ _ σ ι a w Q b s i f hk=>Oc j g c _ n e H σ ι a w Q b h s i f hk
theorem K4 (k:Qn n e H):wc P C .skip Qn Qe Qr n e H:=Abt k
theorem Abu (k:Qr n e H):wc P C .ret Qn Qe Qr n e H:=Abt k
theorem Gq {id:Nat} (k:Qe id n e H):wc P C (.exit id) Qn Qe Qr n e H:=Abt k
theorem Ahk {id:Nat} {ops:Array Oper} {b:Bool} (h:Dv (Dq P C.T C.an C.nl ops ops.toList n e H [] fun n e H acc=>bif b then Kg ops.toList acc (Qn n e H) else Qn n e H)):wc P C (.region id ops b) Qn Qe Qr n e H:=by
 intro Y S F W σ ι a w Q E s V M hk
 have q:=Le.refl σ ι H
 have s0:=s
 have z:=V
 have R:=M
 obtain ⟨L,e',H',accs,l,_,X,x,N,c⟩:=Abk Y ops.toList 0 n e H [] _ (by simp) rfl M h.1
 have u:=Agu E
 cases b with
 | false=>
  simp only [cond_false] at l
  refine wp_region ?_
  have:List.range ops.size=List.range' 0 ops.toList.length:=by rw [List.range_eq_range']; simp
  rw [this]
  refine c.wpOps s0 z u ?_
  intro B D J w' le s' g f j hu
  exact hk .normal L e' H' B D J w' l (q.trans le) s' g N x f j hu
 | true=>
  simp only [cond_true] at l
  obtain ⟨G,l⟩:=l
  refine wp_region_any S ?_
  have A:ops=ops.toList.toArray:=by simp
  rw [A]
  simp only [List.size_toArray]
  refine Aa0 (accs:=accs) (e':=e') (H':=H') G ops.toList.length _ (List.range' 0 ops.toList.length) e H σ ι a _ (by rw [<-A]; exact c) (List.pairwise_lt_range' ..) ?_ (by simp) ?_ (by simp) (s0.drew _) z (by rw [<-A]; exact u) ?_
  .intro i
   simp only [List.mem_range'_1,Array.getD_eq_getD_getElem?]
   constructor
   .rintro ⟨_,h2⟩
    refine ⟨by omega,?_⟩
    have:i<ops.size:=by simpa using h2
    simp [this]
   .rintro ⟨h1,_⟩; omega
  .intro k o U I
   exfalso
   simp only [Array.getD_eq_getD_getElem?] at I
   by_cases y:k<ops.size
   .simp [y] at I
   .simp [y] at I
  .intro B D J w' le s' g f j hu
   exact hk .normal L e' H' B D J w' l (q.trans le) s' g N x f j (by rw [<-A] at hu; exact hu)
theorem Ahl {id:Nat} {os:List Oper} (k:Dv (Dq P C.T C.an C.nl os.toArray os n e H [] fun n e H acc=>Kg os acc (Qn n e H))):wc P C (.region id os.toArray true) Qn Qe Qr n e H:=Ahk k
theorem B7 {id:Nat} {os:List Oper} (k:Dv (Dq P C.T C.an C.nl os.toArray os n e H [] fun n e H _=>Qn n e H)):wc P C (.region id os.toArray false) Qn Qe Qr n e H:=Ahk k
theorem D5 {c:Code} (z:List Gh) (k:gxs z n e H fun n e H=>Dv (wc P C c Qn Qe Qr n e H)):wc P C c Qn Qe Qr n e H:=by
 intro S M F W σ ι a w Q h s R L hk
 obtain ⟨A,D,V,X,Y,J,b,G,l,i,N⟩:=Qo z k s R L
 exact J.1 S M F W A D a w Q h G l i fun x I e' H' B E U w' hq f s' q j y g u hu=>
  hk x I e' H' B E U w' hq (b.trans f) s' q j (by omega) g u hu
theorem A4 {V U:Code} (k:wc P C V (fun n e H=>wc P C U Qn Qe Qr n e H) Qe Qr n e H):wc P C (.seq V U) Qn Qe Qr n e H:=by
 intro R M F W σ ι a w Q f s he hn hk
 simp only [H7,Bool.and_eq_true] at f
 refine wp_seq (k R M F W σ ι a w _ f.1 s he hn ?_)
 intro x L S X y z a1 A hq c B i g q b j hu
 cases x with
 | normal=>
  refine hq R M F W y z a1 A Q (by rw [b]; exact f.2) B i g ?_
  intro x n2 e2 H2 Y Z a2 w2 G D s2 J I N l u E
  exact hk x n2 e2 H2 Y Z a2 w2 G (c.trans D) s2 J I (by omega) (l.trans b) (u.trans j) ((hu.mono (by simp [D1]; exact fun s h=>.inl h)).trans (E.mono (by simp [D1]; exact fun s h=>.inr h)))
 | exit id=>exact hk (.exit id) L S X y z a1 A hq c B i g q b j (hu.mono (by simp [D1]; exact fun s h=>.inl h))
 | ret=>exact hk .ret L S X y z a1 A hq c B i g q b j (hu.mono (by simp [D1]; exact fun s h=>.inl h))
theorem Abv {l:Nat} (k:Qn n e H):wc P C (.label l) Qn Qe Qr n e H:=by
 intro h g F W σ ι a w Q b s f c hk
 exact wp_label (hk .normal n e H σ ι a w k (Le.refl _ _ _) s f c (Nat.le_refl _) rfl rfl (D0.refl _ _))
theorem Abw {c:Code} (k:wc P C c Qn Qe Qr n e H):wc P C (.scope c) Qn Qe Qr n e H:=by
 intro G D F W σ ι a w Q g s E B hk
 refine wp_scope_straight (k G D F W σ ι a w _ g s E B ?_)
 intro x A I J q u a1 y hq b z j h i f l hu
 have:=hk x A I J q u a1 y hq b z j h i f l hu
 cases x <;> exact this
theorem K5 {id:Nat} {c:Code} (k:wc P C c Qn (fun i n e H=>bif Nat.beq i id then Qn n e H else Qe i n e H) Qr n e H):wc P C (.block id c) Qn Qe Qr n e H:=by
 intro L I F W σ ι a w Q E s J G hk
 refine wp_block (k L I F W σ ι a w _ E s J G ?_)
 intro x A B D q u a1 y hq b z j g h f l hu
 cases x with
 | normal=>exact hk .normal A B D q u a1 y hq b z j g h f l hu
 | exit i=>
  simp only [Ex.out,Exit.inBlock]
  by_cases hi:i=id
  .subst hi
   rw [if_pos rfl]
   have:Nat.beq i i=true:=Nat.beq_refl i
   simp only [Xf,this,cond_true] at hq
   exact hk .normal A B D q u a1 y hq b z j g h f l hu
  .rw [if_neg hi]
   have:Nat.beq i id=false:=by
    cases hb:Nat.beq i id
    .rfl
    .exact (hi (Nat.eq_of_beq_eq_true hb)).elim
   simp only [Xf,this,cond_false] at hq
   exact hk (.exit i) A B D q u a1 y hq b z j g h f l hu
 | ret=>exact hk .ret A B D q u a1 y hq b z j g h f l hu
theorem Ahm {x:Operand} {σ:Aw} {ι:Bl} {a:Act} {t:Bool} (b:Agq a.tmps.size x=true) (c:Dn σ ι H e a) (hx:ev e x = .val (.bool t)):a.eval x = .bool t:=by
 have hc:=c.eval (x:=x) (fun t ht=>by
  cases x with
  | tmp q=>cases ht; exact Fm b
  | _=>cases ht)
 rw [hx] at hc
 exact hc.val_inv
theorem Xg {x:Operand} {u L:Code} (k:wc P C u Qn Qe Qr n e H) (hx:ev e x = .val (.bool true):=by exact rfl):wc P C (.cond x u L) Qn Qe Qr n e H:=by
 intro I G F W σ ι a w Q b s q E hk
 simp only [H7,Bool.and_eq_true] at b
 refine wp_cond_true (Ahm b.1.1 q hx) (k I G F W σ ι a w Q b.1.2 s q E ?_)
 intro x D J M y z a1 A hq c B j g i f l hu
 exact hk x D J M y z a1 A hq c B j g i f l (hu.mono (by simp [D1]; exact fun s h=>.inl h))
theorem Xh {x:Operand} {L u:Code} (k:wc P C u Qn Qe Qr n e H) (hx:ev e x = .val (.bool false):=by exact rfl):wc P C (.cond x L u) Qn Qe Qr n e H:=by
 intro I G F W σ ι a w Q b s q E hk
 simp only [H7,Bool.and_eq_true] at b
 refine wp_cond_false (Ahm b.1.1 q hx) (k I G F W σ ι a w Q b.2 s q E ?_)
 intro x D J M y z a1 A hq c B j g i f l hu
 exact hk x D J M y z a1 A hq c B j g i f l (hu.mono (by simp [D1]; exact fun s h=>.inr h))
theorem Am {c:Operand} {a b:Code} {t:Bool} {m f:Option β} (h:(bif t then m else f)=some r) (h1:t=true->m=some r->wc P C a Qn Qe Qr n e H) (h2:t=false->f=some r->wc P C b Qn Qe Qr n e H) (hx:ev e c = .val (.bool t):=by exact rfl):wc P C (.cond c a b) Qn Qe Qr n e H:=by
 cases t with
 | true=>exact Xg (h1 rfl h) hx
 | false=>exact Xh (h2 rfl h) hx
theorem Ahn {X:List Nat} {l:List (Nat×AV)} {h:List (Nat×Bb)} {F σ z:Aw} {W w Y:World} {ι I:Bl} {a a1:Act} {G:Hp} {e1:Bh} (hb:I8 n l h=true) (hn:Dt H n) (s:St σ ι H F W w) (he:Dn σ ι H e a)
  (M:Fo e1 l) (R:Fp G (B2 H h) n n) (L:Le σ ι H z I G) (i:St z I G F W Y) (a8:Dn z I G e1 a1) (aa:a1.tmps.size=a.tmps.size) (a7:D0 X a a1) :
  ∃A,Le σ ι H z A (B2 H h)/\St z A (B2 H h) F W Y/\Dn z A (B2 H h) (Iq X e (fun s=>a1.tmps.getD s undef) l) a1/\Dt (B2 H h) n:=by
 have Z:∀x,n<=x->ι x = .none:=by
  intro x hx
  have:=s.obj x; unfold B5 at this; rw [hn x hx] at this; exact this
 have D:∀p∈h,p.1<n:=by
  intro p hp
  unfold I8 at hb
  rw [Bool.and_eq_true,List.all_eq_true,List.all_eq_true] at hb
  exact Fm (hb.2 p hp)
 have N:∀p∈l,p.2.under n=true:=by
  intro p hp
  unfold I8 at hb
  rw [Bool.and_eq_true,List.all_eq_true,List.all_eq_true] at hb
  exact hb.1 p hp
 have u:Dt (B2 H h) n:=by
  intro x hx
  rw [Qa (fun p hp e=>by have:=D p hp; omega)]; exact hn x hx
 let A:Bl:=fun x=>if x<n then I x else .none
 have c:∀x,x<n->A x=I x:=fun x hx=>if_pos hx
 have f:∀x,x<n->B2 H h x=G x:=fun x hx=>((R.spec) x hx).1.symm
 have J:Le σ ι H z A (B2 H h):=by
  refine ⟨L.sto,fun x=>?_⟩
  by_cases hx:x<n
  .rw [c x hx,f x hx]; exact L.obj x
  .rw [Z x (by omega),hn x (by omega)]; exact HLe.of_none
 have s2:St z A (B2 H h) F W Y:=by
  refine ⟨i.sto,i.fra,fun x=>?_,?_,i.os,i.tape,i.output,i.glo,i.drw⟩
  .by_cases hx:x<n
   .have k:=i.obj x
    have B:=((R.spec) x hx).2
    unfold B5 at k ⊢
    rw [f x hx] at B ⊢
    rw [c x hx]
    cases j:G x with
    | none=>rw [j] at k; exact k
    | dead=>trivial
    | cells E cs=>
     rw [j] at k B
     obtain ⟨b,Cc,g1,g2,g3,g4,g5,g6⟩:=k
     refine ⟨b,Cc,g1,g2,g3,g4,g5,fun q cq v hq a6=>(g6 q cq v hq a6).restrict c f ?_⟩
     have:=List.all_eq_true.1 B cq (List.mem_of_getElem? hq)
     exact Abb this
    | rows E sz xs=>rw [j] at k; exact k
    | map es=>rw [j] at k; exact k
   .unfold B5
    rw [u x (by omega)]
    exact if_neg hx
  .intro x y b V U bx S
   have hx:x<n:=by
    rcases Nat.lt_or_ge x n with hx | hx
    .exact hx
    .rw [u x hx] at V; cases V
   have hy:y<n:=by
    rcases Nat.lt_or_ge y n with hy | hy
    .exact hy
    .rw [u y hy] at U; cases U
   rw [f x hx] at V; rw [f y hy] at U
   rw [c x hx] at bx; rw [c y hy] at S
   exact i.inj x y b V U bx S
 refine ⟨A,J,s2,?_,u⟩
 intro q hq
 rcases Ags X e (fun s=>a1.tmps.getD s undef) l q with ⟨p,hp,rfl,g⟩ | ⟨hw,g⟩ | ⟨hw,g⟩
 .rw [g,<-M.spec p hp]
  refine (a8 p.1 hq).restrict c f ?_
  rw [M.spec p hp]; exact N p hp
 .rw [g]; exact .of_val _
 .rw [g,a7 q hw]; exact (he q (by omega)).mono J
theorem Aho {S E:Type} {step:S->Option (S⊕E)} {s0:S} {J:E->Option β} {b:Code} (h:(Aj step s0).bind J=some r)
  (I:S->List (Nat×AV)) (hv:S->List (Nat×Bb)) (j:S->Prop) (hb:∀s,I8 n (I s) (hv s)=true) (hs:Fo e (I s0)) (hh:Fp H (B2 H (hv s0)) n n) (h0:j s0)
  (a8:∀(s:S) (u:Nat->Value) (K:Nat->Bh->Hp->Prop) (o:S⊕E),step s=some o->(∀x,.inr x=o->J x=some r)->(∀s' n' e' H',.inl s'=o->Fo e' (I s')->Fp H' (B2 H (hv s')) n n->j s'->K n' e' H')->j s ->
   wc P C b K Qe Qr n (Iq (D1 b) e u (I s)) (B2 H (hv s))):wc P C (.loop b) Qn Qe Qr n e H:=by
 intro hT hm F W σ ι a w Q aa s he hn hk
 refine C5 h fun x hx h=>?_
 obtain ⟨N,hN⟩:=Abm hx
 let J':Nat->Act->World->Prop:=fun k a' w'=>∃i σ' ι',(G0 step k i=some x/\j i)/\Le σ ι H σ' ι' (B2 H (hv i))/\St σ' ι' (B2 H (hv i)) F W w' /\
   Dn σ' ι' (B2 H (hv i)) (Iq (D1 b) e (fun s=>a'.tmps.getD s undef) (I i)) a'/\a'.tmps.size=a.tmps.size/\a'.defers=a.defers/\D0 (D1 b) a a'
 have g:∀(k:Nat) (i:S) (D:Aw) (X:Bl) (H1:Hp) (e1:Bh) (a1:Act) (Z:World),(G0 step k i=some x/\j i)->Fo e1 (I i)->Fp H1 (B2 H (hv i)) n n->Le σ ι H D X H1->St D X H1 F W Z->Dn D X H1 e1 a1->a1.tmps.size=a.tmps.size ->
    a1.defers=a.defers->D0 (D1 b) a a1->J' k a1 Z:=by
  intro k i D X H1 e1 a1 Z hi ab ad q s1 U c f l
  obtain ⟨Y,g1,g2,g3,_⟩:=Ahn (hb i) hn s he ab ad q s1 U c l
  exact ⟨i,D,Y,hi,g1,g2,g3,c,f,l⟩
 refine Agr J' N (g N s0 σ ι H e a w ⟨hN,h0⟩ hs hh (Le.refl _ _ _) s he rfl rfl (D0.refl _ _)) ?_
 rintro k a1 Z ⟨i,D,X,⟨hi,a7⟩,q,s1,U,c,f,l⟩
 have af:Dt (B2 H (hv i)) n:=by
  intro y hy
  have V:=hb i
  unfold I8 at V
  rw [Bool.and_eq_true,List.all_eq_true,List.all_eq_true] at V
  rw [Qa (fun p hp e=>by have:=Fm (V.2 p hp); omega)]; exact hn y hy
 cases k with
 | zero=>cases hi
 | succ k=>
  simp only [G0] at hi
  cases ho:step i with
  | none=>rw [ho] at hi; cases hi
  | some o=>
   rw [ho] at hi
   refine a8 i (fun s=>a1.tmps.getD s undef) (fun _ e' H'=>∃s',(G0 step k s'=some x/\j s')/\Fo e' (I s')/\Fp H' (B2 H (hv s')) n n) o ho ?_ ?_ a7 hT hm F W D X a1 Z _ (by rw [c]; exact aa) s1 U af ?_
   .intro y hy; subst hy
    simp only [Option.some.injEq] at hi
    rw [hi]; exact h
   .intro s' n' e' H' M h1 h2 h3
    subst M
    exact ⟨s',⟨hi,h3⟩,h1,h2⟩
   .intro x n2 e2 H2 σ2 Y a2 w2 hq G s2 R a6 B z A L
    cases x with
    | normal=>
     obtain ⟨i',ac,M,ae⟩:=hq
     exact ⟨k,by omega,g k i' σ2 Y H2 e2 a2 w2 ac M ae (q.trans G) s2 R (z.trans c) (A.trans f) (l.trans L)⟩
    | exit id=>exact hk (.exit id) n2 e2 H2 σ2 Y a2 w2 hq (q.trans G) s2 R a6 B (z.trans c) (A.trans f) (l.trans L)
    | ret=>exact hk .ret n2 e2 H2 σ2 Y a2 w2 hq (q.trans G) s2 R a6 B (z.trans c) (A.trans f) (l.trans L)
theorem S5 {S:Type} {c:Code} (J:S->Prop) (l:S->List (Nat×AV)) (hv:S->List (Nat×Bb)) (hb:∀s,I8 n (l s) (hv s)=true)
  (X:∀(K:Nat->Bh->Hp->Prop),(∀s U e' H',J s->Fo e' (l s)->Fp H' (B2 H (hv s)) n n->K U e' H')->wc P C c K Qe Qr n e H)
  (V:∀(s:S) (u:Nat->Value),J s->Qn n (Iq (D1 c) e u (l s)) (B2 H (hv s))):wc P C c Qn Qe Qr n e H:=by
 intro Z Y F W σ ι a w Q A s L I hk
 refine X (fun _ e' H'=>∃s,J s/\Fo e' (l s)/\Fp H' (B2 H (hv s)) n n) (fun s _ _ _ h1 h2 h3=>⟨s,h1,h2,h3⟩) Z Y F W σ ι a w _ A s L I ?_
 intro x G M N q E a1 y hq f z g j k b h hu
 cases x with
 | normal=>
  obtain ⟨i,hi,B,D⟩:=hq
  obtain ⟨R,g1,g2,g3,g4⟩:=Ahn (hb i) I s L B D f z g b hu
  exact hk .normal n _ _ q R a1 y (V i (fun s=>a1.tmps.getD s undef) hi) g1 g2 g3 g4 (Nat.le_refl _) b h hu
 | exit id=>exact hk (.exit id) G M N q E a1 y hq f z g j k b h hu
 | ret=>exact hk .ret G M N q E a1 y hq f z g j k b h hu
theorem Arr (E:Cd P C.T) (J:P.follows .mixedOrders=true) {f:FuncId} {fn:Func} {c:Code} {args:List AV} {r:AV} (D:P.funcs[f]? = some fn) (hb:fn.body=some c) (g:(fn.name == "runtime.NumGoroutine")=false)
  (b:Ql fn c args.length=true) (h:r.free=true) (hv:wc P C c (fun _ e H=>Od C.T fn.results.toList (· = r) e H) (fun _ _ _ _=>False) (fun _ e H=>Od C.T fn.results.toList (· = r) e H) 0 (Qk args) H0):As P f args r:=by
 unfold Ql at b
 simp only [Bool.and_eq_true] at b
 obtain ⟨⟨u,y⟩,G⟩:=b
 have G:=Nat.le_of_ble_eq_true G
 refine ⟨⟨fn,D,g,by rw [hb]; rfl⟩,fun σ F W w vs s hc=>?_⟩
 have j:(vs++Array.replicate (fn.ntmps-vs.size) undef).size=fn.ntmps:=by
  have:=hc.1
  simp; omega
 refine calls_of_wp D hb (hv E J F W σ ι0 _ w _ (by rw [j]; exact u) s (Ag0 hc) (fun _ _=>rfl) ?_)
 intro x U e' H' N R B w' hq le s' z _ _ i A _
 have k:∀q∈fn.results.toList,Oe q<B.tmps.size:=by
  intro q hq'
  rw [i]
  have:=Fm (List.all_eq_true.1 y q hq')
  rw [j]; exact this
 have fin:Od C.T fn.results.toList (· = r) e' H'->B.defers = []/\∃v,(results fn B.tmps).run P w' = .ok v w'/\∃v0 l,Ending.returned v = .returned v0/\σ.le l/\St l ι0 H0 F W w'/\Conc l ι0 H0 r v0:=by
  intro hq
  obtain ⟨v,I,V,S,h1,h2,h3,M,L⟩:=Aq6 E s' z k hq
  subst h2
  exact ⟨A,v,h1,v,I,rfl,Aw.le_trans le.sto h3.sto,M.forget,L.to0 h⟩
 cases x with
 | normal=>exact fin hq
 | ret=>exact fin hq
 | exit id=>exact hq.elim
theorem Ars (fz:Bool) (X:Cd P C.T) (hm:P.follows .mixedOrders=true) {f:FuncId} {fn:Func} {c:Code} {args:List AV} {r:AV} {B b:List Bb} (V:P.funcs[f]? = some fn) (hb:fn.body=some c) (l:(fn.name == "runtime.NumGoroutine")=false)
  (j:Ql fn c args.length=true) (g:Abj B r b=true) (hv:wc P C c (fun _ e H=>Og C.T fz fn.results.toList r b e H) (fun _ _ _ _=>False) (fun _ e H=>Og C.T fz fn.results.toList r b e H) B.length (Qk args) (hp B)):Br P f args B r b:=by
 unfold Ql at j
 unfold Abj at g
 simp only [Bool.and_eq_true] at j g
 obtain ⟨⟨I,L⟩,Y⟩:=j
 obtain ⟨⟨E,J⟩,N⟩:=g
 have E:=Nat.le_of_ble_eq_true E
 have Y:=Nat.le_of_ble_eq_true Y
 refine ⟨⟨fn,V,l,by rw [hb]; rfl⟩,fun σ F W w ι vs s hc=>?_⟩
 have A:(vs++Array.replicate (fn.ntmps-vs.size) undef).size=fn.ntmps:=by
  have:=hc.1
  simp; omega
 refine calls_of_wp V hb (hv X hm F W σ ι _ w _ (by rw [A]; exact I) s (Ag0 hc) (fun _ h=>Mm h) ?_)
 intro x n' e' H' σ' ι' U w' hq le s' R _ _ z S _
 have D:∀q∈fn.results.toList,Oe q<U.tmps.size:=by
  intro q hq'
  rw [z]
  have:=Fm (List.all_eq_true.1 L q hq')
  rw [A]; exact this
 have fin:Og C.T fz fn.results.toList r b e' H'->U.defers = []/\∃v,(results fn U.tmps).run P w' = .ok v w'/\∃v0 G ι0,Ending.returned v = .returned v0/\Le σ ι (hp B) G ι0 (hp b)/\St G ι0 (hp b) F W w'/\Conc G ι0 (hp b) r v0:=by
  intro hq
  obtain ⟨v,Z,H2,h1,h2,h3,h4,h5⟩:=Aq7 X s' R D hq
  have u:∀i,i<b.length->H2 i=hp b i:=fun i hi=>by simpa using h2.spec i hi
  refine ⟨S,v,h1,v,Z,(fun k=>if k<b.length then ι' k else .none),rfl,?_,h4.first b u N,?_⟩
  .have y:=le.trans h3
   refine ⟨y.sto,fun k=>?_⟩
   by_cases hk:k<b.length
   .rw [if_pos hk,<-u k hk]; exact y.obj k
   .rw [if_neg hk,Mm (by omega),Mm (by omega)]
    have:ι k = .none:=by have:=s.obj k; unfold B5 at this; rw [Mm (by omega)] at this; exact this
    rw [this]; exact HLe.refl _ _
  .exact h5.restrict (n:=b.length) (fun h M=>if_pos M) (fun h M=>(u h M).symm) J
 cases x with
 | normal=>exact fin hq
 | ret=>exact fin hq
 | exit id=>exact hq.elim
end
end Go.Ab
namespace Go.Ab
theorem Ahp {id:Nat}:∀{k b:List Item},exitTo id k=some b->b.length<k.length
 | [],b,h=>by cases h
 | x::k,b,h=>by
  have ih:exitTo id k=some b->b.length<(x::k).length:=fun h=>Nat.lt_succ_of_lt (Ahp h)
  unfold exitTo at h
  split at h
  .rename_i c k0 heq
   cases heq
   split at h
   .cases h; simp
   .exact ih h
  .rename_i f k0 _ heq
   cases heq; exact ih h
  .rename_i heq; cases heq
theorem Abx {P:Program} {m f c:Machine} (h:step P m = .next f) (h':Steps P m c):c=m\/Steps P f c:=by
 obtain ⟨n,b⟩:=h'
 cases n with
 | zero=>left; simp only [runN,Stepped.next.injEq] at b; exact b.symm
 | succ n=>right; simp only [runN,h] at b; exact ⟨n,b⟩
theorem Ahq {b:Frame} {a f:Act} {k c:List Item} {cs:List Frame} {w w':World} (h:lone (b.at a k) cs w=lone (b.at f c) cs w'):k=c:=by
 simp only [lone,Machine.mk.injEq,Array.mk.injEq,List.cons.injEq,Goroutine.mk.injEq,Frame.at,Frame.mk.injEq] at h
 exact h.2.1.1.1.2.2.1
def Art:Exit->Bool
 | .normal | .exit _ | .ret=>true
 | _=>false
theorem Aru {P:Program} {Q:Exit->Act->World->Prop} {a:Act} {w:World} {c:Code} (h:c.wp P (Exit.then (fun D w'=>(Code.loop c).wp P (fun e a w=>Art e=true/\Q e a w) D w') Q) a w):(Code.loop c).wp P Q a w:=by
 intro b k cs
 obtain ⟨e,a1,i,hq,f⟩:=h b (.inLoop c::k) cs
 have first:Steps P (lone (b.at a (.code (.loop c)::k)) cs w) (lone (b.at a (.code c :: .inLoop c::k)) cs w):=.one step_loop
 cases e with
 | normal=>
  obtain ⟨u,a2,y,⟨s,q⟩,g⟩:=hq b k cs
  have j:Steps P (lone (b.at a (.code (.loop c)::k)) cs w) (lone (b.at a1 (.code c :: .inLoop c::k)) cs i):=first.trans (Steps.trans f (.one step_inLoop))
  refine ⟨u,a2,y,q,.of_steps j ?_⟩
  cases u with
  | normal=>
   rcases Abx step_loop g with e | e
   .have:=congrArg List.length (Ahq e); simp at this
   .exact e
  | exit id=>
   intro z hk
   rcases Abx step_loop (g z hk) with e | e
   .have h1:=Ahp hk
    have h2:=congrArg List.length (Ahq e); simp at h2; omega
   .exact e
  | ret=>
   obtain ⟨todo,A⟩:=g
   rcases Abx step_loop A with e | e
   .simp only [lone,Machine.mk.injEq,Array.mk.injEq,List.cons.injEq,Goroutine.mk.injEq,Frame.at,Frame.mk.injEq] at e
    simp at e
   .exact ⟨todo,e⟩
  | goto l=>cases s
  | panic B=>cases s
  | outgrown=>cases s
 | exit id=>exact ⟨_,a1,i,hq,.of_steps first (.pass (x:=.inLoop c) rfl (fun _ _=>.inl (by simp)) f)⟩
 | goto l=>exact ⟨_,a1,i,hq,.of_steps first (.pass (x:=.inLoop c) rfl (fun _ _=>.inl (by simp)) f)⟩
 | ret=>exact ⟨_,a1,i,hq,.of_steps first (.pass (x:=.inLoop c) rfl (fun _ _=>.inl (by simp)) f)⟩
 | panic B=>exact ⟨_,a1,i,hq,.of_steps first (.pass (x:=.inLoop c) rfl (fun _ _=>.inl (by simp)) f)⟩
 | outgrown=>exact ⟨_,a1,i,hq,.of_steps (b:=b) (k:=k) (cs:=cs) (e:=.outgrown) first (.pass (x:=.inLoop c) rfl (fun _ _=>.inl (by simp)) f)⟩
section
variable {P:Program} {C:Cfg} {Qn:Nat->Bh->Hp->Prop} {Qe:Nat->Nat->Bh->Hp->Prop} {Qr:Nat->Bh->Hp->Prop} {n:Nat} {e:Bh} {H:Hp}
theorem Xi {c:Code} (k:wc P C c (fun n e H=>wc P C (.loop c) Qn Qe Qr n e H) Qe Qr n e H):wc P C (.loop c) Qn Qe Qr n e H:=by
 intro R M F W σ ι a w Q l s he hn hk
 refine Aru (k R M F W σ ι a w _ l s he hn ?_)
 intro x L S U y z a1 A hq f B h g q b i hu
 cases x with
 | normal=>
  refine hq R M F W y z a1 A _ (by rw [b]; exact l) B h g ?_
  intro x n2 e2 H2 V X a2 Y G D Z J I N j u E
  exact ⟨by cases x <;> rfl,hk x n2 e2 H2 V X a2 Y G (f.trans D) Z J I (by omega) (j.trans b) (u.trans i) (hu.trans E)⟩
 | exit id=>exact hk (.exit id) L S U y z a1 A hq f B h g q b i hu
 | ret=>exact hk .ret L S U y z a1 A hq f B h g q b i hu
def Vw (x:AV) (v:Value):Prop:=∀sz xs,x = .sl sz xs->∃p c,v = .slice p xs.length c/\(p=none->xs = [])
theorem Aby {c:Code} (s:Nat) (k:∀v,Vw (e s) v->wc P C c Qn Qe Qr n (A3 e s (.val v)) H):wc P C c Qn Qe Qr n e H:=by
 intro z y F W σ ι a w Q f u l x hk
 by_cases A:s<a.tmps.size
 .have hc:=l s A
  refine k (a.tmps.getD s undef) ?_ z y F W σ ι a w Q f u ?_ x hk
  .intro sz xs hx
   rw [hx] at hc
   rcases hc.sl_inv.sl_inv with ⟨rfl,p,cap,e⟩ | ⟨b,off,cap,C,E,fr,g,e,_⟩
   .exact ⟨p,cap,e,fun _=>rfl⟩
   .exact ⟨_,cap,e,fun h=>by cases h⟩
  .intro q hq
   by_cases h:q=s
   .subst h; rw [B4]; exact .of_val _
   .rw [Ct _ _ h]; exact l q hq
 .have hv:∃v,Vw (e s) v:=by
   cases hx:e s with
   | sl sz xs=>exact ⟨.slice (some ⟨0,0,none⟩) xs.length 0,fun j i h=>by cases h; exact ⟨_,_,rfl,fun h=>by cases h⟩⟩
   | _=>exact ⟨undef,fun j i h=>by cases h⟩
  obtain ⟨v,hv⟩:=hv
  refine k v hv z y F W σ ι a w Q f u ?_ x hk
  intro q hq
  rw [Ct _ _ (by omega)]; exact l q hq
end
end Go.Ab
namespace Go.Ab
structure Arv {α:Type} (cf:α->α->Int):Prop where
 irr:∀x,¬cf x x<0
 trs:∀x y z,cf x y<0->cf y z<0->cf x z<0
 ntr:∀x y z,¬cf x y<0->¬cf y z<0->¬cf x z<0
def Ahr {α:Type} (cmp:α->α->Option Int) (l r:List α):Prop :=
 ∃cf:α->α->Int,Arv cf/\(∀x∈l,∀y∈l,cmp x y=some (cf x y))/\r.Perm l/\r.Pairwise (fun x y=>cf x y<0)
open Classical in
noncomputable def S6 {α:Type} (cmp:α->α->Option Int) (l:List α):Option (List α) :=
 if h:∃r,Ahr cmp l r then some (Classical.choose h) else none
theorem Arw {α:Type} {cmp:α->α->Option Int} {l r:List α} (h:S6 cmp l=some r):Ahr cmp l r:=by
 unfold S6 at h
 split at h
 .rename_i k
  cases h; exact Classical.choose_spec k
 .cases h
end Go.Ab
