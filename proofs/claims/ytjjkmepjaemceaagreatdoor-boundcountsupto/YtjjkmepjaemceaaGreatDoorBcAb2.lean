/- Plain laws: what the plain functions answer. -/
import Derived.Test.YtjjkmepjaemceaaGreatDoorBcAb
namespace Go.Ab
def H0:Hp:=fun _=>.none
def ι0:Ci:=fun _=>.none
def Ad5 (P:Program) (f:FuncId):Prop:=∃fn,P.funcs[f]? = some fn/\(fn.name == "runtime.NumGoroutine")=false/\fn.body.isNone=false
def Ld (σ:Bk) (ι:Ci) (H:Hp) (args:List AV) (vs:Array Value):Prop :=
 vs.size=args.length/\∀(i:Nat) (a:AV) (v:Value),args[i]? = some a->vs[i]? = some v->Conc σ ι H a v
def Bb (P:Program) (f:FuncId) (args:List AV) (r:AV):Prop :=
 Ad5 P f/\∀(σ F:Bk) (W w:World) (vs:Array Value),St σ ι0 H0 F W w->Ld σ ι0 H0 args vs ->
  Calls P f vs w fun e w'=>∃v b,e = .returned v/\σ.le b/\St b ι0 H0 F W w'/\Conc b ι0 H0 r v
def AV.under0 (n:Nat):AV->Bool
 | .loc h _ | .mp h=>Nat.blt h n
 | .arr h _ _ _ | .el h _ _ _=>Nat.blt h n
 | .val _ | .sl _ _ | .ref _=>true
 | _=>false
def AV.under1 (n:Nat):AV->Bool
 | .loc h _ | .mp h=>Nat.blt h n
 | .arr h _ _ _ | .el h _ _ _=>Nat.blt h n
 | .val _ | .sl _ _ | .ref _=>true
 | .fn _ cs=>cs.all (AV.under0 n)
 | _=>false
def AV.under2 (n:Nat):AV->Bool
 | .agg cs=>cs.all (AV.under1 n)
 | x=>x.under1 n
def AV.under (n:Nat):AV->Bool
 | .agg cs | .fn _ cs=>cs.all (AV.under1 n)
 | .tup cs=>cs.all (AV.under2 n)
 | x=>x.under1 n
def Cf.under (n:Nat):Cf->Bool
 | .cells _ cs=>cs.all (AV.under1 n)
 | .map _=>true
 | .rows _ _ _=>true
 | .none=>true
 | .dead=>true
def Z1 (es:Nat->Nat):AV->AV
 | .loc h off=>.loc (es h) off
 | .mp h=>.mp (es h)
 | .arr h k off len=>.arr (es h) k off len
 | .el h k i j=>.el (es h) k i j
 | x=>x
def Lf (es:Nat->Nat):AV->AV
 | .loc h off=>.loc (es h) off
 | .mp h=>.mp (es h)
 | .arr h k off len=>.arr (es h) k off len
 | .el h k i j=>.el (es h) k i j
 | .fn f cs=>.fn f (cs.map (Z1 es))
 | x=>x
def Z2 (es:Nat->Nat):AV->AV
 | .agg cs=>.agg (cs.map (Lf es))
 | x=>Lf es x
def ren (es:Nat->Nat):AV->AV
 | .agg cs=>.agg (cs.map (Lf es))
 | .tup cs=>.tup (cs.map (Z2 es))
 | .fn f cs=>.fn f (cs.map (Lf es))
 | x=>Lf es x
def G1 (es:Nat->Nat):Cf->Cf
 | .cells E cs=>.cells E (cs.map (Lf es))
 | o=>o
def hp (b:List Cf):Hp:=fun k=>b.getD k .none
def Cm (P:Program) (f:FuncId) (args:List AV) (h:List Cf) (r:AV) (b:List Cf):Prop :=
 Ad5 P f/\∀(σ F:Bk) (W w:World) (ι:Ci) (vs:Array Value),St σ ι (hp h) F W w->Ld σ ι (hp h) args vs ->
  Calls P f vs w fun e w'=>∃v c g,e = .returned v/\Le σ ι (hp h) c g (hp b)/\St c g (hp b) F W w'/\Conc c g (hp b) r v
def emb (n:Nat):List Nat->Nat->Nat
 | [],k=>n+k
 | h::_,0=>h
 | _::l,k+1=>emb n l k
def Mi (n:Nat):List Nat->Bool
 | []=>true
 | h::l=>Nat.blt h n && !(l.elem h)&&Mi n l
def wrs (es:Nat->Nat):Nat->List Cf->List (Nat×Cf)
 | _,[]=>[]
 | k,o::os=>(es k,G1 es o)::wrs es (k+1) os
def Dj (es:Nat->Nat):Nat->Nat->List (Nat×Cf)
 | _,0=>[]
 | k,c+1=>(es k,.none)::Dj es (k+1) c
def Rm (H:Hp):List (Nat×Cf)->Prop
 | []=>True
 | p::l=>H p.1=p.2/\Rm H l
def T6 (n:Nat) (l:List Nat) (c:List AV) (f:List Cf) (r:AV) (b:List Cf):Bool :=
 Mi n l&&Nat.beq f.length l.length&&Nat.ble l.length b.length&&c.all (AV.under l.length)&&f.all (Cf.under l.length)&&r.under b.length&&b.all (Cf.under b.length)
inductive Ad6 (xs:List AV) (i:Int) (K:Nat->AV->Prop):Prop where
 | mk (n:Nat) (x:AV) (hi:i=n) (hx:xs[n]? = some x) (k:K n x)
inductive Z3 (len:Nat) (kk:Nat) (xs:List AV) (i:Int) (K:Nat->Prop):Prop where
 | mk (n:Nat) (hk:xs.length=kk) (hi:i=n) (hn:n<len) (k:K n)
inductive Aw (k:IntKind) (n:Int) (K:Int->Prop):Prop where
 | mk (c:Int) (h:k.wrap n=c) (k:K c)
inductive Ad7 (k:IntKind) (m n:Int) (K:Int->Prop):Prop where
 | mk (c:Int) (hn:n≠0) (h:k.wrap (m.tdiv n)=c) (k:K c)
inductive Ad8 (m n:Int) (K:Int->Prop):Prop where
 | mk (c:Int) (hn:n≠0) (h:m.tmod n=c) (k:K c)
inductive Am4 (k:IntKind) (m n:Int) (K:Int->Prop):Prop where
 | mk (c:Int) (hn:0<=n) (h:m.fdiv (2 ^ (min n.toNat k.bits))=c) (k:K c)
inductive Am5 (k:IntKind) (m n:Int) (K:Int->Prop):Prop where
 | mk (c:Int) (hn:0<=n) (h:k.wrap (m*2 ^ (min n.toNat k.bits))=c) (k:K c)
inductive Ad9 (n:Nat) (lo hi:Int) (K:Nat->Nat->Prop):Prop where
 | mk (l h:Nat) (el:lo=l) (eh:hi=h) (h1:l<=h) (h2:h<=n) (k:K l h)
inductive Z4 (xs:List AV) (lo hi:Int) (K:List AV->Prop):Prop where
 | mk (l h:Nat) (ys:List AV) (el:lo=l) (eh:hi=h) (h1:l<=h) (h2:h<=xs.length) (hy:(xs.take h).drop l=ys) (k:K ys)
inductive Aea (kk:Nat) (xs:List AV) (n:Nat) (lo hi:Int) (K:Nat->Nat->Prop):Prop where
 | mk (l h:Nat) (hk:xs.length=kk) (el:lo=l) (eh:hi=h) (h1:l<=h) (h2:h<=n) (h3:l=0\/l<h) (k:K l h)
inductive Aeb (s:ByteArray) (i:Int) (K:UInt8->Prop):Prop where
 | mk (n:Nat) (c:UInt8) (hi:i=n) (hc:s[n]? = some c) (k:K c)
inductive Aec (n:Nat) (K:Prop):Prop where
 | mk (h:n<=9223372036854775807) (k:K)
inductive Aed (len cap:Int) (bytes:Nat) (z:AV) (K:Nat->List AV->Prop):Prop where
 | mk (l c:Nat) (zs:List AV) (el:len=l) (ec:cap=c) (h1:l<=c) (h2:bytes*c<=281474976710656) (h3:c<=140737488355328) (hz:List.replicate l z=zs) (k:K l zs)
inductive T7 (xs ys:List AV) (kk len bytes:Nat) (K:List AV->Nat->Prop):Prop where
 | mk (zs:List AV) (m:Nat) (hk:xs.length=kk) (hl:len=kk) (hb:(xs.length+ys.length)*bytes<=140737488355328) (hz:xs++ys=zs) (hm:kk+ys.length=m) (k:K zs m)
inductive Z5 (ys:List AV) (bytes:Nat) (K:List AV->Nat->Prop):Prop where
 | mk (zs:List AV) (m:Nat) (hb:ys.length*bytes<=140737488355328) (hz:ys=zs) (hm:ys.length=m) (k:K zs m)
inductive Z6 (xs:List AV) (q:Nat) (p:AV) (K:List AV->Prop):Prop where
 | mk (zs:List AV) (hz:xs.set q p=zs) (k:K zs)
inductive Aee (xs:List AV) (K:Int->Prop):Prop where
 | mk (c:Int) (hc:(xs.length:Int)=c) (k:K c)
inductive Z7 (kk i:Nat) (xs:List AV) (K:AV->Prop):Prop where
 | mk (x:AV) (hk:xs.length=kk) (hx:xs[i]? = some x) (k:K x)
inductive I0 (kk:Nat) (xs:List AV) (K:Prop):Prop where
 | mk (hk:xs.length=kk) (k:K)
inductive As (P:Program) (n:Nat) (H:Hp) (f:FuncId) (args:List AV) (K:Eff->Nat->Prop):Prop where
 | mk (r:AV) (h:Bb P f args r) (hf:args.all AV.free=true) (k:K ⟨r,[],[]⟩ n)
 | act (l:List Nat) (largs:List AV) (hs:List Cf) (r:AV) (hs':List Cf) (h:Cm P f largs hs r hs') (ha:largs.map (ren (emb n l))=args) (ok:T6 n l largs hs r hs'=true) (hh:Rm H (wrs (emb n l) 0 hs))
   (k:K ⟨ren (emb n l) r,wrs (emb n l) 0 hs++Dj (emb n l) l.length (hs'.length-l.length),wrs (emb n l) 0 hs'⟩ (n+(hs'.length-l.length)))
inductive Aef (s:ByteArray) (es:List (AV×AV)) (K:Option (Nat×AV)->Prop):Prop where
 | mk (r:Option (Nat×AV)) (h:G8 s es 0=some r) (k:K r)
inductive Aeg (op:BinOp) (k:FloatKind) (a b:Nat) (K:Nat->Prop):Prop where
 | mk (c:Nat) (h:floatBits op k a b=some c) (k:K c)
inductive Aeh (k:FloatKind) (a:Nat) (q:IntKind) (K:Int->Prop):Prop where
 | mk (c:Int) (h:floatToIntVal k a q=some c) (k:K c)
inductive Aei (P:Program) (kt:TypeId) (us:List Value) (es:List (AV×AV)) (K:Option (Nat×AV)->Prop):Prop where
 | mk (r:Option (Nat×AV)) (hc:Pc P kt us) (h:Ji P kt us es 0 r) (k:K r)
inductive Aej (P:Program) (kt:TypeId) (ks:List AV) (us:List Value) (v:AV) (es:List (AV×AV)) (K:List (AV×AV)->Prop):Prop where
 | mk (es':List (AV×AV)) (hc:Pc P kt us) (h:Ji P kt us es 0 none) (he:es++[(.agg ks,v)]=es') (k:K es')
inductive Aek (s:ByteArray) (v:AV) (es:List (AV×AV)) (K:List (AV×AV)->Prop):Prop where
 | mk (es':List (AV×AV)) (h:Wf s v es=some es') (k:K es')
inductive Z8 (P:Program) (t:TypeId) (us vs:List Value) (K:Bool->Prop):Prop where
 | mk (b:Bool) (h:Lc P t us vs b) (k:K b)
inductive Ael (P:Program) (t:TypeId) (f:Nat) (K:TypeId->Prop):Prop where
 | mk (ft:TypeId) (h:Zv P t f=some ft) (k:K ft)
inductive Aem (P:Program) (f:FuncId) (args:List AV) (K:AV->Prop):Prop where
 | mk (r:AV) (h:Bb P f args r) (hf:args.all AV.free=true) (k:K r)
inductive Ann where
 | frz (j:Nat)
 | std
 | own
 | ask
def Jj:AV->Bool
 | .val (.slice none 0 0)=>true
 | _=>false
def Wi:AV->Bool
 | .val (.agg _)=>false
 | _=>true
def Z9 (x:AV) (K:AV->Prop):Prop :=
 match x with
 | .val v=>K (.val v)
 | .loc h off=>K (.loc h off)
 | .arr h k off len=>K (.arr h k off len)
 | .el h k i j=>K (.el h k i j)
 | .mp h=>K (.mp h)
 | .ref cs=>K (.ref cs)
 | .sl sz xs=>K (.sl sz xs)
 | .agg cs=>K (.agg cs)
 | .tup cs=>K (.tup cs)
 | .fn f cs=>K (.fn f cs)
def Nd:List AV->(List AV->Prop)->Prop
 | [],K=>K []
 | x::xs,K=>Z9 x fun x=>Nd xs fun xs=>K (x::xs)
def I1 (x:AV) (K:AV->Prop):Prop :=
 match x with
 | .agg cs=>Nd cs fun cs=>K (.agg cs)
 | .tup cs=>Nd cs fun cs=>K (.tup cs)
 | .fn f cs=>Nd cs fun cs=>K (.fn f cs)
 | x=>Z9 x K
def Rn:List AV->(List AV->Prop)->Prop
 | [],K=>K []
 | x::xs,K=>I1 x fun x=>Rn xs fun xs=>K (x::xs)
def Aaa (o:Cf) (K:Cf->Prop):Prop :=
 match o with
 | .cells E cs=>Nd cs fun cs=>K (.cells E cs)
 | .rows E sz xs=>K (.rows E sz xs)
 | .map es=>K (.map es)
 | .none=>K .none
 | .dead=>K .dead
def Lg:List (Nat×Cf)->(List (Nat×Cf)->Prop)->Prop
 | [],K=>K []
 | p::l,K=>Aaa p.2 fun o=>Lg l fun l=>K ((p.1,o)::l)
def G9:List (Nat×Cf)->(List Nat->Prop)->Prop
 | [],K=>K []
 | p::l,K=>G9 l fun l=>K (p.1::l)
theorem Aen (x:AV) (K:AV->Prop):Z9 x K=K x:=by cases x <;> rfl
theorem Wj:∀(l:List AV) (K:List AV->Prop),Nd l K=K l
 | [],_=>rfl
 | x::xs,K=>by simp only [Nd,Aen,Wj xs]
theorem Ro (x:AV) (K:AV->Prop):I1 x K=K x:=by cases x <;> simp only [I1,Wj,Aen]
theorem Wk:∀(l:List AV) (K:List AV->Prop),Rn l K=K l
 | [],_=>rfl
 | x::xs,K=>by simp only [Rn,Ro,Wk xs]
theorem Am6 (o:Cf) (K:Cf->Prop):Aaa o K=K o:=by cases o <;> simp only [Aaa,Wj]
theorem Aab:∀(l:List (Nat×Cf)) (K:List (Nat×Cf)->Prop),Lg l K=K l
 | [],_=>rfl
 | p::l,K=>by simp only [Lg,Am6,Aab l]
theorem Aac:∀(l:List (Nat×Cf)) (K:List Nat->Prop),G9 l K=K (l.map (·.1))
 | [],_=>rfl
 | p::l,K=>by simp only [G9,Aac l,List.map_cons]
def D5 (P:Program) (T:De) (an:Nat->Ann) (n:Nat) (o:Oper) (ρ:Operand->AV) (H:Hp) (K:Eff->Nat->Prop):Prop :=
 match o.op with
 | .move x=>K ⟨ρ x,[],[]⟩ n
 | .assign x=>
  match o.dst with
  | none=>K ⟨ρ x,[],[]⟩ n
  | some d=>
   match an d with
   | .frz _=>K ⟨ρ x,[],[]⟩ n
   | .std=>K ⟨ρ x,[],[]⟩ n
   | .ask=>K ⟨ρ x,[],[]⟩ n
   | .own=>bif Jj (ρ x) then
     match T o.type with
     | some ⟨.slice e,_,_,_⟩=>
      match T e with
      | some g=>bif Nat.blt 0 g.size then K ⟨.arr n 0 0 0,[(n,.none)],[(n,.rows e g.size [])]⟩ (n+1) else False
      | none=>False
     | _=>False
    else K ⟨ρ x,[],[]⟩ n
 | .pick c a b=>
  match ρ c with
  | .val (.bool t)=>K ⟨bif t then ρ a else ρ b,[],[]⟩ n
  | _=>False
 | .alloc t=>
  match T t with
  | some i=>K ⟨.loc n 0,[(n,.none)],[(n,.cells t (i.zero.map .val))]⟩ (n+1)
  | none=>False
 | .box t x=>K ⟨.loc n 0,[(n,.none)],[(n,.cells t (ρ x).cells)]⟩ (n+1)
 | .build t parts=>
  match T t with
  | some ⟨.struct fs,_,_,z⟩=>
   match Ri fs (z.map .val) (parts.toList.map fun p=>(p.1,ρ p.2)) with
   | some cs=>K ⟨.agg cs,[],[]⟩ n
   | none=>False
  | _=>False
 | .buildSlice t len parts=>
  match T t with
  | some ⟨.slice e,_,_,_⟩=>
   match T e with
   | some g=>
    bif Nat.blt 0 g.size&&(parts.toList.map (·.1)==List.range' 0 len)&&Nat.ble (len*g.size) 16777216&&parts.toList.all (fun p=>Lb g.size (ρ p.2)) then
     match an (o.dst.getD 0) with
     | .frz _=>False
     | .std=>Rn (parts.toList.map fun p=>ρ p.2) fun xs=>K ⟨.sl g.size xs,[],[]⟩ n
     | .ask=>Rn (parts.toList.map fun p=>ρ p.2) fun xs=>K ⟨.sl g.size xs,[],[]⟩ n
     | .own=>Rn (parts.toList.map fun p=>ρ p.2) fun xs=>K ⟨.arr n len 0 len,[(n,.none)],[(n,.rows e g.size xs)]⟩ (n+1)
    else False
   | none=>False
  | _=>False
 | .load t x=>
  match T t with
  | some i=>
   match ρ x with
   | .ref cs=>bif i.isAgg then (bif Nat.ble i.size cs.length then K ⟨.agg (cs.take i.size),[],[]⟩ n else False) else
     match cs with
     | c::_=>K ⟨c,[],[]⟩ n
     | []=>False
   | .loc h off=>
    match H h with
    | .cells E cs=>bif i.isAgg then (bif Nat.ble (off+i.size) cs.length then K ⟨.agg ((cs.drop off).take i.size),[(h,.cells E cs)],[]⟩ n else False) else
      match cs[off]? with
      | some c=>K ⟨c,[(h,.cells E cs)],[]⟩ n
      | none=>False
    | _=>False
   | .el h k q j=>
    match H h with
    | .rows E sz xs=>Z7 k q xs fun y=>bif i.isAgg then (bif Nat.ble (j+i.size) y.cells.length then K ⟨.agg ((y.cells.drop j).take i.size),[(h,.rows E sz xs)],[]⟩ n else False) else
      match y.cells[j]? with
      | some c=>K ⟨c,[(h,.rows E sz xs)],[]⟩ n
      | none=>False
    | _=>False
   | _=>False
  | none=>False
 | .store t x y=>
  match T t with
  | some i=>
   match ρ x with
   | .loc h off=>
    match H h with
    | .cells E cs=>bif Nat.beq (ρ y).cells.length i.size&&Nat.ble (off+i.size) cs.length&&(ρ y).cells.all AV.one then K ⟨.val undef,[(h,.cells E cs)],[(h,.cells E (J3 cs off (ρ y).cells))]⟩ n else False
    | _=>False
   | .el h k q j=>
    match H h with
    | .rows E sz xs=>Z7 k q xs fun z=>bif Nat.beq (ρ y).cells.length i.size&&Nat.blt 0 i.size&&Nat.ble (j+i.size) z.cells.length&&(ρ y).cells.all AV.cl1&&Wi z then
      Nd (ρ y).cells fun ys=>I1 (T1 z j ys) fun p=>Z6 xs q p fun A=>K ⟨.val undef,[(h,.rows E sz xs)],[(h,.rows E sz A)]⟩ n else False
    | _=>False
   | _=>False
  | none=>False
 | .nilCheck x=>bif (ρ x).isPtr then K ⟨ρ x,[],[]⟩ n else False
 | .binOp op t x y _=>
  match ρ x,ρ y with
  | .val (.int k a),.val (.int M b)=>
   match op with
   | .shl=>Am5 k a b fun c=>K ⟨.val (.int k c),[],[]⟩ n
   | .shr=>Am4 k a b fun c=>K ⟨.val (.int k c),[],[]⟩ n
   | op=>bif decide (k=M) then
     match op with
     | .add=>Aw k (a+b) fun c=>K ⟨.val (.int k c),[],[]⟩ n
     | .sub=>Aw k (a-b) fun c=>K ⟨.val (.int k c),[],[]⟩ n
     | .mul=>Aw k (a*b) fun c=>K ⟨.val (.int k c),[],[]⟩ n
     | .quo=>Ad7 k a b fun c=>K ⟨.val (.int k c),[],[]⟩ n
     | .rem=>Ad8 a b fun c=>K ⟨.val (.int k c),[],[]⟩ n
     | op=>
      match Zb op a b with
      | some t=>K ⟨.val (.bool t),[],[]⟩ n
      | none=>
       match Zg op k a b with
       | some c=>K ⟨.val (.int k c),[],[]⟩ n
       | none=>False
    else False
  | .val (.bool a),.val (.bool b)=>
   match T t with
   | some ⟨.bool,_,_,_⟩=>
    match Zh op a b with
    | some t=>K ⟨.val (.bool t),[],[]⟩ n
    | none=>False
   | _=>False
  | .agg xs,.agg ys=>
   match Gl xs with
   | some I=>
    match Gl ys with
    | some vs=>
     match op with
     | .eql=>Z8 P t I vs fun b=>K ⟨.val (.bool b),[],[]⟩ n
     | .neq=>Z8 P t I vs fun b=>K ⟨.val (.bool !b),[],[]⟩ n
     | _=>False
    | none=>False
   | none=>False
  | .val (.float k a),.val (.float M b)=>bif decide (k=M) then Aeg op k a b fun c=>K ⟨.val (.float k c),[],[]⟩ n else False
  | .val (.string a),.val (.string b)=>
   match op with
   | .add=>Aec (a.size+b.size) (K ⟨.val (.string (a++b)),[],[]⟩ n)
   | op=>
    match Zi op a b with
    | some t=>K ⟨.val (.bool t),[],[]⟩ n
    | none=>False
  | _,_=>False
 | .unOp op _ x=>
  match op,ρ x with
  | .not,.val (.bool b)=>K ⟨.val (.bool !b),[],[]⟩ n
  | .neg,.val (.int k m)=>Aw k (0-m) fun c=>K ⟨.val (.int k c),[],[]⟩ n
  | _,_=>False
 | .convert s d x=>
  match T s,T d,ρ x with
  | some _,some ⟨.int k,_,_,_⟩,.val (.int _ m)=>Aw k m fun c=>K ⟨.val (.int k c),[],[]⟩ n
  | some _,some ⟨.float k,_,_,_⟩,.val (.int _ m)=>K ⟨.val (.float k (floatOfInt k m)),[],[]⟩ n
  | some _,some ⟨.int k,_,_,_⟩,.val (.float q m)=>Aeh q m k fun c=>K ⟨.val (.int k c),[],[]⟩ n
  | _,_,_=>False
 | .makeFunc (.func f) first u=>bif first.isEmpty then K ⟨.fn f (u.toList.map ρ),[],[]⟩ n else False
 | .makeSlice t x y=>
  match T t with
  | some ⟨.slice e,_,_,_⟩=>
   match T e with
   | some g=>
    match ρ x,ρ y with
    | .val (.int _ l),.val (.int _ c)=>
     bif Nat.blt 0 g.size&&Lb g.size (Gf g)&&Nat.beq (Gf g).cells.length g.zero.length&&Wi (Gf g) then
      Aed l c g.bytes (Gf g) fun l A=>K ⟨.arr n l 0 l,[(n,.none)],[(n,.rows e g.size A)]⟩ (n+1)
     else False
    | _,_=>False
   | none=>False
  | _=>False
 | .slice t x lo hi none=>
  match T t with
  | some ⟨.slice e,_,_,_⟩=>
   match T e with
   | some g=>
    match ρ x with
    | .sl sz xs=>
     match Gu ρ 0 lo,Gu ρ xs.length hi with
     | some l,some h=>bif Nat.beq sz g.size then Z4 xs l h fun ys=>K ⟨.sl sz ys,[],[]⟩ n else False
     | _,_=>False
    | .arr hd k off len=>
     match H hd with
     | .rows E sz xs=>
      match Gu ρ 0 lo,Gu ρ len hi with
      | some l,some h=>bif Nat.beq sz g.size then Aea k xs len l h fun l h=>K ⟨.arr hd k (off+l) (h-l),[(hd,.rows E sz xs)],[]⟩ n else False
      | _,_=>False
     | _=>False
    | _=>False
   | none=>False
  | some ⟨.string,_,_,_⟩=>
   match ρ x with
   | .val (.string s)=>
    match Gu ρ 0 lo,Gu ρ s.size hi with
    | some l,some h=>Ad9 s.size l h fun l h=>K ⟨.val (.string (s.extract l h)),[],[]⟩ n
    | _,_=>False
   | _=>False
  | _=>False
 | .fieldAddr s x f=>
  match T s with
  | some ⟨.struct fs,_,_,_⟩=>
   match fs[f]? with
   | some q=>
    match ρ x with
    | .loc h off=>K ⟨.loc h (off+q.1),[],[]⟩ n
    | .ref cs=>K ⟨.ref (cs.drop q.1),[],[]⟩ n
    | .el h k m j=>
     match H h with
     | .rows E sz xs=>I0 k xs (K ⟨.el h k m (j+q.1),[(h,.rows E sz xs)],[]⟩ n)
     | _=>False
    | _=>False
   | none=>False
  | _=>False
 | .indexAddr t x y=>
  match T t with
  | some ⟨.slice e,_,_,_⟩=>
   match T e with
   | some g=>
    match ρ x,ρ y with
    | .sl sz xs,.val (.int _ i)=>bif Nat.beq sz g.size then Ad6 xs i fun _ z=>K ⟨.ref z.cells,[],[]⟩ n else False
    | .arr h k off len,.val (.int _ i)=>
     match H h with
     | .rows E sz xs=>bif Nat.beq sz g.size then Z3 len k xs i fun m=>K ⟨.el h k (off+m) 0,[(h,.rows E sz xs)],[]⟩ n else False
     | _=>False
    | _,_=>False
   | none=>False
  | _=>False
 | .index t x y=>
  match T t with
  | some ⟨.string,_,_,_⟩=>
   match ρ x,ρ y with
   | .val (.string s),.val (.int _ i)=>Aeb s i fun c=>K ⟨.val (.int .u8 c.toNat),[],[]⟩ n
   | _,_=>False
  | _=>False
 | .field s x f=>
  match T s with
  | some ⟨.struct fs,_,_,_⟩=>
   match fs[f]? with
   | some q=>
    match ρ x with
    | .agg cs=>Ael P s f fun S=>
     match T S with
     | some D=>bif D.isAgg then (bif Nat.ble (q.1+D.size) cs.length then K ⟨.agg ((cs.drop q.1).take D.size),[],[]⟩ n else False) else
       match cs[q.1]? with
       | some c=>K ⟨c,[],[]⟩ n
       | none=>False
     | none=>False
    | _=>False
   | none=>False
  | _=>False
 | .makeMap _ none=>K ⟨.mp n,[(n,.none)],[(n,.map [])]⟩ (n+1)
 | .lookup t x y ok=>
  match T t with
  | some ⟨.map J N,_,_,_⟩=>
   match T J with
   | some ⟨.string,_,_,_⟩=>
    match T N with
    | some D=>
     match ρ x with
     | .mp h=>
      match ρ y with
      | .val (.string s)=>
       match H h with
       | .map es=>Aef s es fun r=>K ⟨Rj ok D r,[(h,.map es)],[]⟩ n
       | _=>False
      | _=>False
     | _=>False
    | none=>False
   | some ⟨.struct _,_,_,_⟩=>
    match T N with
    | some D=>
     match ρ x with
     | .mp h=>
      match ρ y with
      | .agg L=>
       match Gl L with
       | some I=>
        match H h with
        | .map es=>Aei P J I es fun r=>K ⟨Rj ok D r,[(h,.map es)],[]⟩ n
        | _=>False
       | none=>False
      | _=>False
     | _=>False
    | none=>False
   | _=>False
  | _=>False
 | .mapUpdate t x y z=>
  match T t with
  | some ⟨.map J _,_,_,_⟩=>
   match T J with
   | some ⟨.string,_,_,_⟩=>
    match ρ x with
    | .mp h=>
     match ρ y with
     | .val (.string s)=>
      match H h with
      | .map es=>bif (ρ z).free1 then I1 (ρ z) fun v=>Aek s v es fun G=>K ⟨.val undef,[(h,.map es)],[(h,.map G)]⟩ n else False
      | _=>False
     | _=>False
    | _=>False
   | some ⟨.struct _,_,_,_⟩=>
    match ρ x with
    | .mp h=>
     match ρ y with
     | .agg L=>
      match Gl L with
      | some I=>
       match H h with
       | .map es=>bif (ρ z).free1 then I1 (ρ z) fun v=>Aej P J L I v es fun G=>K ⟨.val undef,[(h,.map es)],[(h,.map G)]⟩ n else False
       | _=>False
      | none=>False
     | _=>False
    | _=>False
   | _=>False
  | _=>False
 | .extract x i=>
  match ρ x with
  | .tup cs=>
   match cs[i]? with
   | some c=>K ⟨c,[],[]⟩ n
   | none=>False
  | _=>False
 | .call c=>
  match c.callee with
  | .value x=>
   match ρ x with
   | .fn f u=>
    match an (o.dst.getD 0) with
    | .frz j=>
     (match (c.args.toList.map ρ ++ u)[j]? with
     | some (.arr h k 0 len)=>
      (match H h with
      | .rows E sz xs=>I0 k xs (I0 len xs (Aem P f ((c.args.toList.map ρ ++ u).set j (.sl sz xs)) fun r=>K ⟨r,[(h,.rows E sz xs)],[(h,.dead)]⟩ n))
      | _=>False)
     | _=>False)
    | _=>As P n H f (c.args.toList.map ρ ++ u) K
   | _=>False
  | .invoke _ _=>False
  | .builtin .len=>
   match c.args.toList,c.argTypes.toList with
   | [x],[t]=>
    match T t with
    | some ⟨.slice _,_,_,_⟩=>
     match ρ x with
     | .sl _ xs=>
      match an (o.dst.getD 0) with
      | .ask=>Aee xs fun c=>K ⟨.val (.int .i64 c),[],[]⟩ n
      | _=>K ⟨.val (.int .i64 xs.length),[],[]⟩ n
     | .val (.slice _ m _)=>K ⟨.val (.int .i64 m),[],[]⟩ n
     | .arr h k _ len=>
      match H h with
      | .rows E sz xs=>I0 k xs (K ⟨.val (.int .i64 len),[(h,.rows E sz xs)],[]⟩ n)
      | _=>False
     | _=>False
    | some ⟨.string,_,_,_⟩=>
     match ρ x with
     | .val (.string s)=>K ⟨.val (.int .i64 s.size),[],[]⟩ n
     | _=>False
    | _=>False
   | _,_=>False
  | .builtin .append=>
   match c.args.toList,c.argTypes.toList with
   | [x,y],[t,R]=>
    match T t,T R with
    | some ⟨.slice e,_,_,_⟩,some ⟨.slice _,_,_,_⟩=>
     match T e with
     | some g=>
      bif Nat.blt 0 g.size&&Nat.beq g.zero.length g.size&&Nat.ble 1 g.bytes then
       match ρ y with
       | .sl sz ys=>
        bif Nat.beq sz g.size then
         match ρ x with
         | .arr h k 0 len=>
          match H h with
          | .rows E B xs=>bif Nat.beq E e&&Nat.beq B g.size then
            T7 xs ys k len g.bytes (fun A m=>K ⟨.arr h m 0 m,[(h,.rows e g.size xs)],[(h,.rows e g.size A)]⟩ n) else False
          | _=>False
         | .val (.slice none 0 0)=>Z5 ys g.bytes fun A m=>K ⟨.arr n m 0 m,[(n,.none)],[(n,.rows e g.size A)]⟩ (n+1)
         | _=>False
        else False
       | _=>False
      else False
     | none=>False
    | some ⟨.slice e,_,_,_⟩,some ⟨.string,_,_,_⟩=>
     match T e with
     | some g=>
      bif Nat.beq g.size 1&&Nat.beq g.zero.length g.size&&Nat.ble 1 g.bytes then
       match ρ y with
       | .val (.string s)=>
        match ρ x with
        | .arr h k 0 len=>
         match H h with
         | .rows E B xs=>bif Nat.beq E e&&Nat.beq B g.size then
           T7 xs (Hh s) k len g.bytes (fun A m=>K ⟨.arr h m 0 m,[(h,.rows e g.size xs)],[(h,.rows e g.size A)]⟩ n) else False
         | _=>False
        | _=>False
       | _=>False
      else False
     | none=>False
    | _,_=>False
   | _,_=>False
  | .builtin .max=>
   match c.args.toList,c.argTypes.toList with
   | [x,y],[_,_]=>
    match ρ x,ρ y with
    | .val (.int k a),.val (.int _ b)=>K ⟨.val (.int k (if b>a then b else a)),[],[]⟩ n
    | _,_=>False
   | _,_=>False
  | .builtin .min=>
   match c.args.toList,c.argTypes.toList with
   | [x,y],[_,_]=>
    match ρ x,ρ y with
    | .val (.int k a),.val (.int _ b)=>K ⟨.val (.int k (if b<a then b else a)),[],[]⟩ n
    | _,_=>False
   | _,_=>False
  | _=>False
 | _=>False
end Go.Ab
namespace Go.Ab
section
variable {P:Program} {o:Oper} {ρ:Operand->AV} {a:Act} {w w':World} {next:Act->World->Prop} {Q:Exit->Act->World->Prop}
def Rp (σ:Bk) (w:World):Bk:=fun b=>match σ b with | none=>w.heap[b]? | some _=>none
theorem St.lend {σ:Bk} {ι:Ci} {H:Hp} {F:Bk} {W:World} (s:St σ ι H F W w):St σ ι0 H0 (Rp σ w) W w:=by
 refine ⟨s.sto,fun b o hb=>?_,fun h=>rfl,(fun h h' b c=>by cases c),s.os,s.tape,s.output,s.glo⟩
 unfold Rp at hb
 cases e:σ b with
 | none=>rw [e] at hb; exact ⟨hb,rfl⟩
 | some _=>rw [e] at hb; cases hb
theorem St.unlend {σ k:Bk} {ι:Ci} {H:Hp} {F:Bk} {W:World} (s:St σ ι H F W w) (g:σ.le k) (s':St k ι0 H0 (Rp σ w) W w'):St k ι H F W w':=by
 have key:∀b,σ b=none->∀o,w.heap[b]? = some o->w'.heap[b]? = some o/\k b=none:=by
  intro b hb o f
  exact s'.fra b o (by unfold Rp; rw [hb]; exact f)
 have le:Le σ ι H k ι H:=⟨g,fun _=>HLe.refl _ _⟩
 refine ⟨s'.sto,fun b o hb=>?_,fun h=>?_,s.inj,s'.os,s'.tape,s'.output,s'.glo⟩
 .obtain ⟨h1,h2⟩:=s.fra b o hb
  exact key b h2 o h1
 .have f:=s.obj h
  unfold C5 at f ⊢
  cases A:H h with
  | none=>rw [A] at f; exact f
  | dead=>trivial
  | cells E cs=>
   rw [A] at f
   obtain ⟨b,C,j,h1,h2,h3,z,D⟩:=f
   obtain ⟨u,l⟩:=key b h1 _ h3
   exact ⟨b,C,j,l,h2,u,z,fun i c v x y=>(D i c v x y).mono le⟩
  | rows E sz xs=>
   rw [A] at f
   obtain ⟨G,z2,⟨j,J⟩ | ⟨b,B,C,j,h1,h2,h3,z,D,I⟩⟩:=f
   .exact ⟨G,z2,.inl ⟨j,J⟩⟩
   .obtain ⟨u,l⟩:=key b h1 _ h3
    exact ⟨G,z2,.inr ⟨b,B,C,j,l,h2,u,z,D,I.mono g⟩⟩
  | map es=>
   rw [A] at f
   obtain ⟨b,M,q,j,h1,h2,h3,z⟩:=f
   obtain ⟨u,l⟩:=key b h1 _ h3
   exact ⟨b,M,q,j,l,h2,u,z.mono g⟩
theorem Conc.of0 {σ:Bk} {ι:Ci} {H:Hp} {x:AV} {v:Value} (h:Conc σ ι0 H0 x v):Conc σ ι H x v:=by
 induction h with
 | cc h=>exact .cc h
 | loc h off b hb=>cases hb
 | mp h b hb=>cases hb
 | arr h k off len v s y c=>exact (s rfl).elim
 | el h k i j v s y c=>exact (s rfl).elim
 | ref cs b off C E fr g u hc h1 z=>exact .ref cs b off C E fr g u hc h1 z
 | agg cs vs l _ ih=>exact .agg cs vs l ih
 | tup cs vs l _ ih=>exact .tup cs vs l ih
 | fn f q vs l _ ih=>exact .fn f q vs l ih
theorem Am7 {x:AV} (h:x.free1=true) (hx:∀cs,x≠.agg cs):x.cl1=true:=by
 cases x <;> first | exact h | exact (hx _ rfl).elim
theorem Conc.to0 {σ:Bk} {ι:Ci} {H:Hp} {x:AV} {v:Value} (hx:x.free=true) (h:Conc σ ι H x v):Conc σ ι0 H0 x v:=by
 have key:∀(cs:List AV),cs.all AV.cl1=true->∀(i:Nat) (c:AV) (u:Value),cs[i]? = some c->Conc σ ι H c u->Conc σ ι0 H0 c u:=by
  intro cs s i c u hc h
  exact .cc (h.cc_of (List.all_eq_true.1 s c (List.mem_of_getElem? hc))).1
 cases h with
 | cc h=>exact .cc h
 | loc=>cases hx
 | mp=>cases hx
 | arr=>cases hx
 | el=>cases hx
 | ref cs b off C E fr g A hc h1 D=>exact .ref cs b off C E fr g A hc h1 D
 | agg cs vs l h=>exact .agg cs vs l fun i c u h1 h2=>key cs hx i c u h1 (h i c u h1 h2)
 | tup cs vs l h=>
  refine .tup cs vs l fun i c u h1 h2=>?_
  have y:=List.all_eq_true.1 hx c (List.mem_of_getElem? h1)
  have hc:=h i c u h1 h2
  cases c with
  | agg ds=>
   obtain ⟨z,rfl,q,B⟩:=hc.agg_inv
   exact .agg ds z q fun j d v g1 g2=>key ds y j d v g1 (B j d v g1 g2)
  | _=>exact .cc (hc.cc_of (Am7 y (by intro cs e; cases e))).1
 | fn f k vs l h=>exact .fn f k vs l fun i c u h1 h2=>key k hx i c u h1 (h i c u h1 h2)
theorem Conc.fn_inv {σ:Bk} {ι:Ci} {H:Hp} {f:FuncId} {b:List AV} {v:Value} (h:Conc σ ι H (.fn f b) v) :
  ∃vs:Array Value,v = .func (.func f) #[] vs/\vs.size=b.length/\∀(i:Nat) (c:AV) (u:Value),b[i]? = some c->vs[i]? = some u->Conc σ ι H c u:=by
 cases h with
 | cc h=>cases h
 | fn _ _ vs g h=>exact ⟨vs,rfl,g,h⟩
theorem Aad {σ:Bk} {ι:Ci} {H:Hp} {xs:Array Operand} {b:List AV} {vs:Array Value} (hx:∀x∈xs.toList,Conc σ ι H (ρ x) (a.eval x)) (h:vs.size=b.length)
  (g:∀(i:Nat) (c:AV) (u:Value),b[i]? = some c->vs[i]? = some u->Conc σ ι H c u):Ld σ ι H (xs.toList.map ρ ++ b) (xs.map a.eval++vs):=by
 refine ⟨by simp [h],fun i c u h1 h2=>?_⟩
 by_cases f:i<xs.size
 .rw [List.getElem?_append_left (by simpa using f),List.getElem?_map,Array.getElem?_toList] at h1
  rw [Array.getElem?_append_left (by simpa using f),Array.getElem?_map] at h2
  simp [f] at h1 h2
  subst h1; subst h2
  exact hx _ (by simp)
 .rw [List.getElem?_append_right (by simp; omega)] at h1
  rw [Array.getElem?_append_right (by simp; omega)] at h2
  simp at h1 h2
  exact g _ c u h1 h2
theorem Am8 {c:Call} {x:Operand} {f:FuncId} {g:List AV} {r:AV} (G:o.op = .call c) (h:c.callee = .value x) (hx:ρ x = .fn f g) (hp:Bb P f (c.args.toList.map ρ ++ g) r)
  (l:(c.args.toList.map ρ ++ g).all AV.free=true):Cn P o ρ ⟨r,[],[]⟩:=by
 intro σ ι H F W w a next Q s B _ hk
 obtain ⟨⟨fn,N,k,q⟩,hp⟩:=hp
 have z:=B x (by simp [G,Op.operands,Call.operands,h])
 rw [hx] at z
 obtain ⟨vs,L,M,E⟩:=z.fn_inv
 have j:Ld σ ι H (c.args.toList.map ρ ++ g) (c.args.map a.eval++vs) :=
  Aad (fun y hy=>B y (by simp only [G,Op.operands,Call.operands,h]; simp at hy ⊢; exact .inr hy)) M E
 have A:(execOp a.eval o).run P w = .ok (.enter f (c.args.map a.eval++vs)) w:=by
  have I:(callFunc f (c.args.map a.eval++vs)).run P w = .ok (.enter f (c.args.map a.eval++vs)) w:=by
   unfold callFunc
   simp only [Sem.run_bind,program,Sem.run,Result.andThen_ok,N,k,q,Bool.false_eq_true,if_false,Sem.run_pure]
  simp only [execOp,G,resolve,h,L,Deferred.ofValue,invoke,Sem.run_bind,Sem.run_pure,Result.andThen_ok,Array.empty_append,I]
 unfold Oper.wp
 rw [A]
 simp only [Oper.upon]
 refine (hp σ (Rp σ w) W w (c.args.map a.eval++vs) s.lend ⟨j.1,fun i b u h1 h2=>(j.2 i b u h1 h2).to0 (List.all_eq_true.1 l b (List.mem_of_getElem? h1))⟩).mono ?_
 rintro e w' ⟨v,J,rfl,D,s',hc⟩
 exact hk J ι v w' ⟨D,fun _=>HLe.refl _ _⟩ (s.unlend D s') hc.of0
theorem Am9 {c:Call} {x:Operand} {f:FuncId} {g:List AV} {r:AV} {j h sz:Nat} {E:TypeId} {xs:List AV} (S:o.op = .call c) (k:c.callee = .value x) (hx:ρ x = .fn f g)
  (hj:(c.args.toList.map ρ ++ g)[j]? = some (.arr h xs.length 0 xs.length)) (hp:Bb P f ((c.args.toList.map ρ ++ g).set j (.sl sz xs)) r)
  (A:((c.args.toList.map ρ ++ g).set j (.sl sz xs)).all AV.free=true):Cn P o ρ ⟨r,[(h,.rows E sz xs)],[(h,.dead)]⟩:=by
 intro σ ι H F W w a next Q s J R hk
 have Y:H h = .rows E sz xs:=R (h,.rows E sz xs) (by simp)
 obtain ⟨⟨fn,hf,z,B⟩,hp⟩:=hp
 have G:=J x (by simp [S,Op.operands,Call.operands,k])
 rw [hx] at G
 obtain ⟨vs,hv,hl,M⟩:=G.fn_inv
 have q:Ld σ ι H (c.args.toList.map ρ ++ g) (c.args.map a.eval++vs) :=
  Aad (fun y hy=>J y (by simp only [S,Op.operands,Call.operands,k]; simp at hy ⊢; exact .inr hy)) hl M
 obtain ⟨N,D,s1,V⟩:=s.freeze Y
 have l:Ld N ι (Bs H h .dead) ((c.args.toList.map ρ ++ g).set j (.sl sz xs)) (c.args.map a.eval++vs):=by
  refine ⟨by rw [List.length_set]; exact q.1,fun i b u h1 h2=>?_⟩
  rw [List.getElem?_set] at h1
  split at h1
  .rename_i U
   split at h1
   .cases h1
    subst U
    have hc:=q.2 j _ u hj h2
    have:=V 0 xs.length _ (by omega) (hc.arr_inv Y rfl)
    rw [List.drop_zero,List.take_of_length_le (by omega)] at this
    exact .cc this
   .cases h1
  .exact (q.2 i b u h1 h2).mono D
 have I:(execOp a.eval o).run P w = .ok (.enter f (c.args.map a.eval++vs)) w:=by
  have X:(callFunc f (c.args.map a.eval++vs)).run P w = .ok (.enter f (c.args.map a.eval++vs)) w:=by
   unfold callFunc
   simp only [Sem.run_bind,program,Sem.run,Result.andThen_ok,hf,z,B,Bool.false_eq_true,if_false,Sem.run_pure]
  simp only [execOp,S,resolve,k,hv,Deferred.ofValue,invoke,Sem.run_bind,Sem.run_pure,Result.andThen_ok,Array.empty_append,X]
 unfold Oper.wp
 rw [I]
 simp only [Oper.upon]
 refine (hp N (Rp N w) W w (c.args.map a.eval++vs) s1.lend ⟨l.1,fun i b u h1 h2=>(l.2 i b u h1 h2).to0 (List.all_eq_true.1 A b (List.mem_of_getElem? h1))⟩).mono ?_
 rintro e w' ⟨v,σ',rfl,L,s',hc⟩
 exact hk σ' ι v w' (D.trans ⟨L,fun _=>HLe.refl _ _⟩) (s1.unlend L s') hc.of0
end
end Go.Ab
namespace Go.Ab
theorem F3 {a b:Nat} (h:Nat.blt a b=true):a<b:=Nat.le_of_ble_eq_true h
theorem Aae {es:Nat->Nat} {o:Cf}:G1 es o = .none↔o = .none:=by cases o <;> simp [G1]
theorem Wl {es:Nat->Nat} {o:Cf}:(G1 es o).live=o.live:=by cases o <;> rfl
theorem Aaf {es:Nat->Nat} {o:Cf} {E:TypeId} {sz:Nat} {xs:List AV}:G1 es o = .rows E sz xs↔o = .rows E sz xs:=by cases o <;> simp [G1]
section
variable {es:Nat->Nat} {m:Nat} {σ:Bk} {ι ιl:Ci} {H Hl:Hp}
theorem Nf (f:∀k,k<m->ιl k=ι (es k)) (A:∀k,k<m->H (es k)=G1 es (Hl k)) {x:AV} {v:Value} (hx:x.under0 m=true):Conc σ ι H (Z1 es x) v↔Conc σ ιl Hl x v:=by
 have rows:∀k,k<m->∀E sz xs,H (es k) = .rows E sz xs↔Hl k = .rows E sz xs:=fun k hk E sz xs=>by rw [A k hk]; exact Aaf
 have some:∀k,k<m->(H (es k)≠.none↔Hl k≠.none):=fun k hk=>by rw [A k hk]; exact not_congr Aae
 constructor
 .intro h
  cases x with
  | val u=>cases h with | cc h=>exact .cc h
  | sl sz xs=>cases h with | cc h=>exact .cc h
  | ref cs=>
   cases h with
   | cc h=>exact .cc h
   | ref cs b off C E fr g y hc h1 z=>exact .ref cs b off C E fr g y hc h1 z
  | loc k off=>
   have hk:=F3 hx
   cases h with
   | cc h=>cases h
   | loc _ _ b hb=>exact .loc k off b (by rw [f k hk]; exact hb)
  | mp k=>
   have hk:=F3 hx
   cases h with
   | cc h=>cases h
   | mp _ b hb=>exact .mp k b (by rw [f k hk]; exact hb)
  | arr k q off len=>
   have hk:=F3 hx
   cases h with
   | cc h=>cases h
   | arr _ _ _ _ _ s l c=>
    exact .arr k q off len v ((some k hk).1 s) (fun E sz xs e=>by rw [f k hk]; exact l E sz xs ((rows k hk E sz xs).2 e)) c
  | el k q i j=>
   have hk:=F3 hx
   cases h with
   | cc h=>cases h
   | el _ _ _ _ _ s l c=>
    exact .el k q i j v ((some k hk).1 s) (fun E sz xs e=>by rw [f k hk]; exact l E sz xs ((rows k hk E sz xs).2 e)) c
  | agg=>cases hx
  | tup=>cases hx
  | fn=>cases hx
 .intro h
  cases x with
  | val u=>cases h with | cc h=>exact .cc h
  | sl sz xs=>cases h with | cc h=>exact .cc h
  | ref cs=>
   cases h with
   | cc h=>exact .cc h
   | ref cs b off C E fr g y hc h1 z=>exact .ref cs b off C E fr g y hc h1 z
  | loc k off=>
   have hk:=F3 hx
   cases h with
   | cc h=>cases h
   | loc _ _ b hb=>exact .loc (es k) off b (by rw [<-f k hk]; exact hb)
  | mp k=>
   have hk:=F3 hx
   cases h with
   | cc h=>cases h
   | mp _ b hb=>exact .mp (es k) b (by rw [<-f k hk]; exact hb)
  | arr k q off len=>
   have hk:=F3 hx
   cases h with
   | cc h=>cases h
   | arr _ _ _ _ _ s l c=>
    exact .arr (es k) q off len v ((some k hk).2 s) (fun E sz xs e=>by rw [<-f k hk]; exact l E sz xs ((rows k hk E sz xs).1 e)) c
  | el k q i j=>
   have hk:=F3 hx
   cases h with
   | cc h=>cases h
   | el _ _ _ _ _ s l c=>
    exact .el (es k) q i j v ((some k hk).2 s) (fun E sz xs e=>by rw [<-f k hk]; exact l E sz xs ((rows k hk E sz xs).1 e)) c
  | agg=>cases hx
  | tup=>cases hx
  | fn=>cases hx
theorem G2 (b:∀k,k<m->ιl k=ι (es k)) (g:∀k,k<m->H (es k)=G1 es (Hl k)) {x:AV} {v:Value} (hx:x.under1 m=true):Conc σ ι H (Lf es x) v↔Conc σ ιl Hl x v:=by
 have cells:∀{cs:List AV},cs.all (AV.under0 m)=true->∀(i:Nat) (c:AV),cs[i]? = some c->∀u,(Conc σ ι H (Z1 es c) u↔Conc σ ιl Hl c u) :=
  fun q i c hc u=>Nf b g (List.all_eq_true.1 q c (List.mem_of_getElem? hc))
 cases x with
 | fn f cs=>
  constructor
  .intro h
   obtain ⟨vs,rfl,l,h⟩:=h.fn_inv
   exact .fn f cs vs (by simpa using l) fun i c u h1 h2=>(cells hx i c h1 u).1 (h i _ u (by simp [h1]) h2)
  .intro h
   obtain ⟨vs,rfl,l,h⟩:=h.fn_inv
   refine .fn f _ vs (by simpa using l) fun i c u h1 h2=>?_
   rw [List.getElem?_map] at h1
   cases hc:cs[i]? with
   | none=>rw [hc] at h1; cases h1
   | some s=>rw [hc] at h1; cases h1; exact (cells hx i s hc u).2 (h i s u hc h2)
 | agg cs=>cases hx
 | tup cs=>cases hx
 | val u=>exact Nf (x:=(.val u)) b g hx
 | loc h off=>exact Nf (x:=(.loc h off)) b g hx
 | arr h k off len=>exact Nf (x:=(.arr h k off len)) b g hx
 | el h k i j=>exact Nf (x:=(.el h k i j)) b g hx
 | mp h=>exact Nf (x:=(.mp h)) b g hx
 | ref cs=>exact Nf (x:=(.ref cs)) b g hx
 | sl sz xs=>exact Nf (x:=(.sl sz xs)) b g hx
theorem Ana {n:Nat} {x:AV} (h:x.under0 n=true):x.under1 n=true:=by
 cases x <;> first | exact h | cases h
theorem Aag {n:Nat} {x:AV} (h:x.under1 n=true):x.under n=true:=by
 cases x with
 | fn f cs=>exact List.all_eq_true.2 fun c hc=>Ana (List.all_eq_true.1 h c hc)
 | agg cs=>cases h
 | tup cs=>cases h
 | _=>exact h
theorem Anb (b:∀k,k<m->ιl k=ι (es k)) (g:∀k,k<m->H (es k)=G1 es (Hl k)) {x:AV} {v:Value} (hx:x.under2 m=true):Conc σ ι H (Z2 es x) v↔Conc σ ιl Hl x v:=by
 have cells:∀{cs:List AV},cs.all (AV.under1 m)=true->∀(i:Nat) (c:AV),cs[i]? = some c->∀u,(Conc σ ι H (Lf es c) u↔Conc σ ιl Hl c u) :=
  fun q i c hc u=>G2 b g (List.all_eq_true.1 q c (List.mem_of_getElem? hc))
 cases x with
 | agg cs=>
  constructor
  .intro h
   obtain ⟨vs,rfl,l,h⟩:=h.agg_inv
   exact .agg cs vs (by simpa using l) fun i c u h1 h2=>(cells hx i c h1 u).1 (h i _ u (by simp [h1]) h2)
  .intro h
   obtain ⟨vs,rfl,l,h⟩:=h.agg_inv
   refine .agg _ vs (by simpa using l) fun i c u h1 h2=>?_
   rw [List.getElem?_map] at h1
   cases hc:cs[i]? with
   | none=>rw [hc] at h1; cases h1
   | some s=>rw [hc] at h1; cases h1; exact (cells hx i s hc u).2 (h i s u hc h2)
 | tup cs=>cases hx
 | fn f cs=>exact G2 (x:=(.fn f cs)) b g hx
 | val u=>exact G2 (x:=(.val u)) b g hx
 | loc h off=>exact G2 (x:=(.loc h off)) b g hx
 | arr h k off len=>exact G2 (x:=(.arr h k off len)) b g hx
 | el h k i j=>exact G2 (x:=(.el h k i j)) b g hx
 | mp h=>exact G2 (x:=(.mp h)) b g hx
 | ref cs=>exact G2 (x:=(.ref cs)) b g hx
 | sl sz xs=>exact G2 (x:=(.sl sz xs)) b g hx
theorem Aeo (l:∀k,k<m->ιl k=ι (es k)) (q:∀k,k<m->H (es k)=G1 es (Hl k)) {x:AV} {v:Value} (hx:x.under m=true):Conc σ ι H (ren es x) v↔Conc σ ιl Hl x v:=by
 have cells:∀{cs:List AV},cs.all (AV.under1 m)=true->∀(i:Nat) (c:AV),cs[i]? = some c->∀u,(Conc σ ι H (Lf es c) u↔Conc σ ιl Hl c u) :=
  fun y i c hc u=>G2 l q (List.all_eq_true.1 y c (List.mem_of_getElem? hc))
 have b:∀{cs:List AV},cs.all (AV.under2 m)=true->∀(i:Nat) (c:AV),cs[i]? = some c->∀u,(Conc σ ι H (Z2 es c) u↔Conc σ ιl Hl c u) :=
  fun y i c hc u=>Anb l q (List.all_eq_true.1 y c (List.mem_of_getElem? hc))
 cases x with
 | agg cs=>
  constructor
  .intro h
   obtain ⟨vs,rfl,g,h⟩:=h.agg_inv
   exact .agg cs vs (by simpa using g) fun i c u h1 h2=>(cells hx i c h1 u).1 (h i _ u (by simp [h1]) h2)
  .intro h
   obtain ⟨vs,rfl,g,h⟩:=h.agg_inv
   refine .agg _ vs (by simpa using g) fun i c u h1 h2=>?_
   rw [List.getElem?_map] at h1
   cases hc:cs[i]? with
   | none=>rw [hc] at h1; cases h1
   | some s=>rw [hc] at h1; cases h1; exact (cells hx i s hc u).2 (h i s u hc h2)
 | tup cs=>
  constructor
  .intro h
   obtain ⟨vs,rfl,g,h⟩:=h.tup_inv
   exact .tup cs vs (by simpa using g) fun i c u h1 h2=>(b hx i c h1 u).1 (h i _ u (by simp [h1]) h2)
  .intro h
   obtain ⟨vs,rfl,g,h⟩:=h.tup_inv
   refine .tup _ vs (by simpa using g) fun i c u h1 h2=>?_
   rw [List.getElem?_map] at h1
   cases hc:cs[i]? with
   | none=>rw [hc] at h1; cases h1
   | some s=>rw [hc] at h1; cases h1; exact (b hx i s hc u).2 (h i s u hc h2)
 | fn f cs=>
  constructor
  .intro h
   obtain ⟨vs,rfl,g,h⟩:=h.fn_inv
   exact .fn f cs vs (by simpa using g) fun i c u h1 h2=>(cells hx i c h1 u).1 (h i _ u (by simp [h1]) h2)
  .intro h
   obtain ⟨vs,rfl,g,h⟩:=h.fn_inv
   refine .fn f _ vs (by simpa using g) fun i c u h1 h2=>?_
   rw [List.getElem?_map] at h1
   cases hc:cs[i]? with
   | none=>rw [hc] at h1; cases h1
   | some s=>rw [hc] at h1; cases h1; exact (cells hx i s hc u).2 (h i s u hc h2)
 | val u=>exact G2 (x:=(.val u)) l q hx
 | loc h off=>exact G2 (x:=(.loc h off)) l q hx
 | arr h k off len=>exact G2 (x:=(.arr h k off len)) l q hx
 | el h k i j=>exact G2 (x:=(.el h k i j)) l q hx
 | mp h=>exact G2 (x:=(.mp h)) l q hx
 | ref cs=>exact G2 (x:=(.ref cs)) l q hx
 | sl sz xs=>exact G2 (x:=(.sl sz xs)) l q hx
theorem Aep (B:∀k,k<m->ιl k=ι (es k)) (D:∀k,k<m->H (es k)=G1 es (Hl k)) {F I:Bk} {w:World} {k:Nat} (hk:k<m) (x:(Hl k).under m=true)
  (h:∀b,(Hl k).live=true->(ιl k).block? = some b->(F b=none↔I b=none)):C5 σ ι H F w (es k)↔C5 σ ιl Hl I w k:=by
 have cells:∀{cs:List AV},cs.all (AV.under1 m)=true->∀(i:Nat) (c:AV),cs[i]? = some c->∀u,(Conc σ ι H (Lf es c) u↔Conc σ ιl Hl c u) :=
  fun y i c hc u=>G2 B D (List.all_eq_true.1 y c (List.mem_of_getElem? hc))
 unfold C5
 rw [D k hk,<-B k hk]
 cases hx:Hl k with
 | none=>exact Iff.rfl
 | dead=>exact Iff.rfl
 | map l=>
  simp only [G1]
  rw [hx] at h
  constructor
  .rintro ⟨b,M,q,f,h1,h2,h3⟩
   exact ⟨b,M,q,f,h1,(h b rfl (by rw [f]; rfl)).1 h2,h3⟩
  .rintro ⟨b,M,q,f,h1,h2,h3⟩
   exact ⟨b,M,q,f,h1,(h b rfl (by rw [f]; rfl)).2 h2,h3⟩
 | rows E sz xs=>
  simp only [G1]
  rw [hx] at h
  refine and_congr Iff.rfl (and_congr Iff.rfl (or_congr Iff.rfl ?_))
  constructor
  .rintro ⟨b,j,C,f,h1,h2,h3⟩
   exact ⟨b,j,C,f,h1,(h b rfl (by rw [f]; rfl)).1 h2,h3⟩
  .rintro ⟨b,j,C,f,h1,h2,h3⟩
   exact ⟨b,j,C,f,h1,(h b rfl (by rw [f]; rfl)).2 h2,h3⟩
 | cells E cs=>
  simp only [G1]
  rw [hx] at h x
  constructor
  .rintro ⟨b,C,f,h1,h2,h3,A,z⟩
   refine ⟨b,C,f,h1,(h b rfl (by rw [f]; rfl)).1 h2,h3,by simpa using A,fun i c v hc s=>(cells x i c hc v).1 (z i _ v (by simp [hc]) s)⟩
  .rintro ⟨b,C,f,h1,h2,h3,A,z⟩
   refine ⟨b,C,f,h1,(h b rfl (by rw [f]; rfl)).2 h2,h3,by simpa using A,fun i c v hc s=>?_⟩
   rw [List.getElem?_map] at hc
   cases g:cs[i]? with
   | none=>rw [g] at hc; cases hc
   | some G=>rw [g] at hc; cases hc; exact (cells x i G g v).2 (z i G v g s)
end
theorem Aeq {n:Nat}:∀{l:List Nat} {k:Nat},Mi n l=true->k<l.length->emb n l k<n
 | [],k,_,h=>by simp at h
 | h::l,0,b,_=>by simp only [Mi,Bool.and_eq_true] at b; exact F3 b.1.1
 | h::l,k+1,b,hk=>by simp only [Mi,Bool.and_eq_true] at b; exact Aeq (l:=l) b.2 (by simpa using hk)
theorem T8 {n:Nat}:∀{l:List Nat} {k:Nat},l.length<=k->emb n l k=n+(k-l.length)
 | [],k,_=>by simp [emb]
 | h::l,0,hk=>by simp at hk
 | h::l,k+1,hk=>by simp only [emb,List.length_cons]; rw [T8 (l:=l) (by simpa using hk)]; omega
theorem Aah {n:Nat}:∀{l:List Nat} {k:Nat},k<l.length->emb n l k∈l
 | [],k,h=>by simp at h
 | h::l,0,_=>by simp [emb]
 | h::l,k+1,hk=>by simp only [emb]; exact List.mem_cons_of_mem _ (Aah (by simpa using hk))
theorem Aer {n:Nat}:∀{l:List Nat} {j k:Nat},Mi n l=true->emb n l j=emb n l k->j=k
 | [],j,k,_,h=>by simp only [emb] at h; omega
 | h::l,0,0,_,_=>rfl
 | h::l,j+1,k+1,b,e=>by simp only [Mi,Bool.and_eq_true] at b; simp only [emb] at e; rw [Aer (l:=l) b.2 e]
 | h::l,0,k+1,b,e=>by
  simp only [Mi,Bool.and_eq_true] at b
  simp only [emb] at e
  rcases Nat.lt_or_ge k l.length with hk | hk
  .have:=Aah (n:=n) hk
   rw [<-e] at this
   simp [this] at b
  .have h1:=T8 (n:=n) hk
   have h2:=F3 b.1.1
   omega
 | h::l,j+1,0,b,e=>by
  simp only [Mi,Bool.and_eq_true] at b
  simp only [emb] at e
  rcases Nat.lt_or_ge j l.length with hk | hk
  .have:=Aah (n:=n) hk
   rw [e] at this
   simp [this] at b
  .have h1:=T8 (n:=n) hk
   have h2:=F3 b.1.1
   omega
theorem Aes {es:Nat->Nat}:∀{os:List Cf} {k i:Nat} {o:Cf},os[i]? = some o->(es (k+i),G1 es o)∈wrs es k os
 | [],k,i,o,h=>by simp at h
 | p::os,k,0,o,h=>by simp at h; subst h; simp [wrs]
 | p::os,k,i+1,o,h=>by
  simp only [wrs]
  refine List.mem_cons_of_mem _ ?_
  have:=Aes (es:=es) (k:=k+1) (i:=i) (by simpa using h)
  rwa [show k+(i+1)=k+1+i by omega]
theorem Wm {es:Nat->Nat}:∀{os:List Cf} {k x:Nat} {H:Hp},(∀i,i<os.length->es (k+i)≠x)->C1 H (wrs es k os) x=H x
 | [],k,x,H,h=>rfl
 | q::os,k,x,H,h=>by
  simp only [wrs,C1]
  rw [Wm (fun i hi=>by rw [show k+1+i=k+(i+1) by omega]; exact h (i+1) (by simpa using hi)),Dm _ _ (Ne.symm (by simpa using h 0 (by simp)))]
theorem Aet {es:Nat->Nat} (b:∀i j,es i=es j->i=j):∀{os:List Cf} {k i:Nat} {o:Cf} {H:Hp},os[i]? = some o->C1 H (wrs es k os) (es (k+i))=G1 es o
 | [],k,i,o,H,h=>by simp at h
 | q::os,k,0,o,H,h=>by
  simp at h; subst h
  simp only [wrs,C1]
  rw [Wm (fun i hi e=>by have:=b _ _ e; omega)]
  exact Cy _ _ _
 | q::os,k,i+1,o,H,h=>by
  simp only [wrs,C1]
  rw [show k+(i+1)=k+1+i by omega]
  exact Aet b (by simpa using h)
theorem Aeu {es:Nat->Nat}:∀{c k i:Nat},i<c->(es (k+i),Cf.none)∈Dj es k c
 | 0,k,i,h=>by omega
 | c+1,k,0,h=>by simp [Dj]
 | c+1,k,i+1,h=>by
  simp only [Dj]
  refine List.mem_cons_of_mem _ ?_
  have:=Aeu (es:=es) (c:=c) (k:=k+1) (i:=i) (by omega)
  rwa [show k+(i+1)=k+1+i by omega]
theorem Aev {es:Nat->Nat}:∀{c k:Nat} {p:Nat×Cf},p∈Dj es k c->∃i,i<c/\p=(es (k+i),Cf.none)
 | 0,k,p,h=>by simp [Dj] at h
 | c+1,k,p,h=>by
  simp only [Dj,List.mem_cons] at h
  rcases h with rfl | h
  .exact ⟨0,by omega,rfl⟩
  .obtain ⟨i,h1,h2⟩:=Aev h
   exact ⟨i+1,by omega,by rw [h2,show k+(i+1)=k+1+i by omega]⟩
theorem Rm.spec {H:Hp}:∀{l:List (Nat×Cf)},Rm H l->∀p∈l,H p.1=p.2
 | [],_,p,hp=>by cases hp
 | q::l,h,p,hp=>by
  rcases List.mem_cons.1 hp with rfl | hp
  .exact h.1
  .exact Rm.spec h.2 p hp
theorem T9 {b:List Cf} {k:Nat} (h:k<b.length):b[k]? = some (hp b k):=by simp [hp,h]
theorem Ng {b:List Cf} {k:Nat} (h:b.length<=k):hp b k = .none:=by simp [hp,List.getElem?_eq_none h]
section
variable {P:Program} {o:Oper} {ρ:Operand->AV} {a:Act} {w w':World}
open Classical in
theorem Anc {n:Nat} {c:Call} {x:Operand} {f:FuncId} {ah:List AV} {l:List Nat} {N:List AV} {B:List Cf} {r:AV} {g:List Cf} (ho:o.op = .call c) (ae:c.callee = .value x) (hx:ρ x = .fn f ah)
  (ba:Cm P f N B r g) (ha:N.map (ren (emb n l))=c.args.toList.map ρ ++ ah) (ok:T6 n l N B r g=true) :
  Cn P o ρ ⟨ren (emb n l) r,wrs (emb n l) 0 B++Dj (emb n l) l.length (g.length-l.length),wrs (emb n l) 0 g⟩:=by
 intro σ ι H F W w a next Q s az ay hk
 simp only [T6,Bool.and_eq_true] at ok
 obtain ⟨⟨⟨⟨⟨⟨o1,o2⟩,o3⟩,o4⟩,o5⟩,o6⟩,o7⟩:=ok
 have o2:=Nat.eq_of_beq_eq_true o2
 have o3:=Nat.le_of_ble_eq_true o3
 generalize bb:emb n l=es at *
 have inj:∀i j,es i=es j->i=j:=fun i j e=>by rw [<-bb] at e; exact Aer o1 e
 obtain ⟨⟨fn,hf,ap,aq⟩,b9⟩:=ba
 have aw:=az x (by simp [ho,Op.operands,Call.operands,ae])
 rw [hx] at aw
 obtain ⟨vs,hv,hl,b4⟩:=aw.fn_inv
 have af:Ld σ ι H (c.args.toList.map ρ ++ ah) (c.args.map a.eval++vs) :=
  Aad (fun y hy=>az y (by simp only [ho,Op.operands,Call.operands,ae]; simp at hy ⊢; exact .inr hy)) hl b4
 have ax:(execOp a.eval o).run P w = .ok (.enter f (c.args.map a.eval++vs)) w:=by
  have bc:(callFunc f (c.args.map a.eval++vs)).run P w = .ok (.enter f (c.args.map a.eval++vs)) w:=by
   unfold callFunc
   simp only [Sem.run_bind,program,Sem.run,Result.andThen_ok,hf,ap,aq,Bool.false_eq_true,if_false,Sem.run_pure]
  simp only [execOp,ho,resolve,ae,hv,Deferred.ofValue,invoke,Sem.run_bind,Sem.run_pure,Result.andThen_ok,Array.empty_append,bc]
 unfold Oper.wp
 rw [ax]
 simp only [Oper.upon]
 have D:∀k,k<B.length->H (es k)=G1 es (hp B k):=by
  intro k A
  have:=ay _ (List.mem_append_left _ (Aes (es:=es) (k:=0) (T9 A)))
  simpa using this
 have b0:∀k,B.length<=k->k<g.length->H (es k) = .none:=by
  intro k h1 h2
  have:=ay _ (List.mem_append_right _ (Aeu (es:=es) (k:=l.length) (c:=g.length-l.length) (i:=k-l.length) (by omega)))
  rwa [show l.length+(k-l.length)=k by omega] at this
 let ιl:Ci:=fun k=>if k<B.length then ι (es k) else .none
 let V:Nat->Prop:=fun b=>∃k,k<B.length/\(hp B k).live=true/\(ι (es k)).block? = some b
 let Fl:Bk:=fun b=>if σ b=none/\¬V b then w.heap[b]? else none
 have a6:∀k,k<B.length->ιl k=ι (es k):=fun k h=>if_pos h
 have G:∀k,k<B.length->(H (es k)).live=(hp B k).live:=fun k h=>by rw [D k h,Wl]
 have aj:∀k,k<B.length->(hp B k).under B.length=true:=by
  intro k h
  have:=List.all_eq_true.1 o5 _ (List.mem_of_getElem? (T9 h))
  rw [o2]; exact this
 have am:∀k,k<B.length->∀b,(hp B k).live=true->(ιl k).block? = some b->F b=none/\Fl b=none:=by
  intro k h b h1 h2
  rw [a6 k h] at h2
  exact ⟨(s.block (by rw [G k h]; exact h1) h2).2.2,if_neg (fun hn=>hn.2 ⟨k,h,h1,h2⟩)⟩
 have sl:St σ ιl (hp B) Fl W w:=by
  refine ⟨s.sto,fun b L hb=>?_,fun k=>?_,fun k k' b h1 h2 h3 S=>?_,s.os,s.tape,s.output,s.glo⟩
  .by_cases hc:σ b=none/\¬V b
   .simp only [Fl,if_pos hc] at hb; exact ⟨hb,hc.1⟩
   .simp only [Fl,if_neg hc] at hb; cases hb
  .by_cases A:k<B.length
   .refine (Aep (es:=es) a6 D A (aj k A) (fun b h1 h2=>?_)).1 (s.obj (es k))
    obtain ⟨h3,S⟩:=am k A b h1 h2
    rw [h3,S]
   .unfold C5
    rw [Ng (by omega)]
    exact if_neg A
  .have lt:∀k,(hp B k).live=true->k<B.length:=by
    intro k h
    rcases Nat.lt_or_ge k B.length with h' | h'
    .exact h'
    .rw [Ng h'] at h; cases h
   have Y:=lt k h1
   have X:=lt k' h2
   rw [a6 k Y] at h3
   rw [a6 k' X] at S
   exact inj _ _ (s.inj _ _ b (by rw [G k Y]; exact h1) (by rw [G k' X]; exact h2) h3 S)
 have ar:Ld σ ιl (hp B) N (c.args.map a.eval++vs):=by
  rw [<-ha] at af
  refine ⟨by simpa using af.1,fun i b u h1 h2=>?_⟩
  have:=af.2 i (ren es b) u (by simp [h1]) h2
  refine (Aeo (es:=es) a6 D ?_).1 this
  rw [o2]; exact List.all_eq_true.1 o4 b (List.mem_of_getElem? h1)
 refine (b9 σ Fl W w ιl (c.args.map a.eval++vs) sl ar).mono ?_
 rintro e w' ⟨v,σ',au,rfl,ai,s',bd⟩
 let ι':Ci:=fun h=>if hh:∃k,k<g.length/\es k=h then au hh.choose else ι h
 have a7:∀k,k<g.length->au k=ι' (es k):=by
  intro k h
  have hh:∃k',k' < g.length/\es k'=es k:=⟨k,h,rfl⟩
  have:hh.choose=k:=inj _ _ hh.choose_spec.2
  simp only [ι',dif_pos hh,this]
 have ab:∀h,(∀k,k<g.length->es k≠h)->ι' h=ι h:=by
  intro h z
  exact dif_neg (fun ⟨k,Y,X⟩=>z k Y X)
 have aa:∀k,k<g.length->C1 H (wrs es 0 g) (es k)=G1 es (hp g k):=by
  intro k h
  have:=Aet (es:=es) inj (k:=0) (H:=H) (T9 h)
  simpa using this
 have ag:∀h,(∀k,k<g.length->es k≠h)->C1 H (wrs es 0 g) h=H h:=by
  intro h z
  exact Wm (fun i hi=>by simpa using z i hi)
 have be:B.length<=g.length:=by omega
 have av:Le σ ι H σ' ι' (C1 H (wrs es 0 g)):=by
  refine ⟨ai.sto,fun h=>?_⟩
  by_cases hh:∃k,k<g.length/\es k=h
  .obtain ⟨k,A,rfl⟩:=hh
   rw [<-a7 k A,aa k A]
   by_cases a1:k<B.length
   .have q:=ai.obj k
    rw [a6 k a1] at q
    rw [D k a1]
    refine ⟨q.box,fun h=>?_,fun h1 E sz xs h2=>?_⟩
    .rw [Ne,Aae] at h ⊢; exact q.some h
    .rw [Ne,Aae] at h1
     rw [Aaf] at h2
     obtain ⟨E0,b7,b5,e0,r0⟩:=q.rows h1 E sz xs h2
     exact ⟨E0,b7,b5,Aaf.2 e0,r0⟩
   .have h0:=b0 k (by omega) A
    have:ι (es k) = .none:=by have:=s.obj (es k); unfold C5 at this; rw [h0] at this; exact this
    rw [h0,this]
    exact HLe.of_none
  .have z:∀k,k<g.length->es k≠h:=fun k h1 h2=>hh ⟨k,h1,h2⟩
   rw [ab h z,ag h z]
   exact HLe.refl _ _
 have J:∀b,σ b=none->¬V b->∀L,w.heap[b]? = some L->w'.heap[b]? = some L/\σ' b=none/\Fl b=some L:=by
  intro b h1 h2 L h3
  have:Fl b=some L:=by simp only [Fl]; rw [if_pos ⟨h1,h2⟩]; exact h3
  exact ⟨(s'.fra b L this).1,(s'.fra b L this).2,this⟩
 have U:∀h b,(∀k,k<g.length->es k≠h)->(H h).live=true->(ι h).block? = some b->¬V b:=by
  rintro h b z h1 h2 ⟨k,Y,X,k3⟩
  exact z k (by omega) (s.inj _ _ b (by rw [G k Y]; exact X) h1 k3 h2)
 have I:∀b L,F b=some L->¬V b:=by
  rintro b L hb ⟨k,Y,X,k3⟩
  have:=(s.block (by rw [G k Y]; exact X) k3).2.2
  rw [this] at hb; cases hb
 have ac:∀k,k<g.length->(hp g k).under g.length=true:=fun k h=>List.all_eq_true.1 o7 _ (List.mem_of_getElem? (T9 h))
 have b8:St σ' ι' (C1 H (wrs es 0 g)) F W w':=by
  refine ⟨s'.sto,fun b L hb=>?_,fun h=>?_,fun h h' b h1 h2 h3 S=>?_,s'.os,s'.tape,s'.output,s'.glo⟩
  .obtain ⟨h1,h2⟩:=s.fra b L hb
   obtain ⟨Y,X,_⟩:=J b h2 (I b L hb) L h1
   exact ⟨Y,X⟩
  .by_cases hh:∃k,k<g.length/\es k=h
   .obtain ⟨k,A,rfl⟩:=hh
    refine (Aep (es:=es) a7 aa A (ac k A) (fun b h1 h2=>?_)).2 (s'.obj k)
    have ak:=(s'.block h1 h2).2.2
    refine ⟨fun _=>ak,fun _=>?_⟩
    cases am:F b with
    | none=>rfl
    | some L=>
     obtain ⟨h3,S⟩:=s.fra b L am
     have:=(J b S (I b L am) L h3).2.2
     rw [ak] at this; cases this
   .have z:∀k,k<g.length->es k≠h:=fun k h1 h2=>hh ⟨k,h1,h2⟩
    have R:=s.obj h
    have a8:=fun b h1 h2=>U h b z h1 h2
    unfold C5 at R ⊢
    rw [ag h z,ab h z]
    cases hx:H h with
    | none=>rw [hx] at R; exact R
    | dead=>trivial
    | cells E cs=>
     rw [hx] at R a8
     obtain ⟨b,C,e1,h1,h2,h3,S,h5⟩:=R
     obtain ⟨Y,X,_⟩:=J b h1 (a8 b rfl (by rw [e1]; rfl)) _ h3
     exact ⟨b,C,e1,X,h2,Y,S,fun i c v x y=>(h5 i c v x y).mono av⟩
    | rows E sz xs=>
     rw [hx] at R a8
     obtain ⟨z1,z2,⟨e1,e2⟩ | ⟨b,b6,C,e1,h1,h2,h3,S,h5,h6⟩⟩:=R
     .exact ⟨z1,z2,.inl ⟨e1,e2⟩⟩
     .obtain ⟨Y,X,_⟩:=J b h1 (a8 b rfl (by rw [e1]; rfl)) _ h3
      exact ⟨z1,z2,.inr ⟨b,b6,C,e1,X,h2,Y,S,h5,h6.mono ai.sto⟩⟩
    | map l=>
     rw [hx] at R a8
     obtain ⟨b,M,q,e1,h1,h2,h3,S⟩:=R
     obtain ⟨Y,X,_⟩:=J b h1 (a8 b rfl (by rw [e1]; rfl)) _ h3
     exact ⟨b,M,q,e1,X,h2,Y,S.mono ai.sto⟩
  .have B5:∀k,k<g.length->∀h,(∀k,k<g.length->es k≠h)->(C1 H (wrs es 0 g) (es k)).live=true->(C1 H (wrs es 0 g) h).live=true->(ι' (es k)).block? = some b->(ι' h).block? = some b->False:=by
    intro k A h z g1 g2 g3 g4
    rw [aa k A,Wl] at g1
    rw [ag h z] at g2
    rw [<-a7 k A] at g3
    rw [ab h z] at g4
    have ak:=(s'.block g1 g3).2.2
    have hb:=s.block g2 g4
    have b3:w.heap[b]? = some w.heap[b]:=by simp [hb.1]
    have:=(J b hb.2.1 (U h b z g2 g4) _ b3).2.2
    rw [ak] at this; cases this
   by_cases hh:∃k,k<g.length/\es k=h
   .obtain ⟨k,A,rfl⟩:=hh
    by_cases ad:∃k,k<g.length/\es k=h'
    .obtain ⟨k',a1,rfl⟩:=ad
     rw [aa k A,Wl] at h1
     rw [aa k' a1,Wl] at h2
     rw [<-a7 k A] at h3
     rw [<-a7 k' a1] at S
     rw [s'.inj k k' b h1 h2 h3 S]
    .exact (B5 k A h' (fun k h1 h2=>ad ⟨k,h1,h2⟩) h1 h2 h3 S).elim
   .have z:∀k,k<g.length->es k≠h:=fun k h1 h2=>hh ⟨k,h1,h2⟩
    by_cases ad:∃k,k<g.length/\es k=h'
    .obtain ⟨k',a1,rfl⟩:=ad
     exact (B5 k' a1 h z h2 h1 S h3).elim
    .have ao:∀k,k<g.length->es k≠h':=fun k h1 h2=>ad ⟨k,h1,h2⟩
     rw [ag h z] at h1
     rw [ag h' ao] at h2
     rw [ab h z] at h3
     rw [ab h' ao] at S
     exact s.inj h h' b h1 h2 h3 S
 exact hk σ' ι' v w' av b8 ((Aeo (es:=es) a7 aa o6).2 bd)
end
end Go.Ab
namespace Go.Ab
section
variable {P:Program} {T:De} {an:Nat->Ann} {n:Nat} {o:Oper} {ρ:Operand->AV} {H:Hp} {K:Eff->Nat->Prop}
theorem Fu {b:Bool} {X:Prop} (h:bif b then X else False):b=true/\X:=by
 cases b with
 | false=>exact h.elim
 | true=>exact ⟨rfl,h⟩
theorem Wn {x:AV} (h:Jj x=true):x = .val (.slice none 0 0):=by
 unfold Jj at h
 split at h
 .rfl
 .cases h
theorem Ane {x:AV} (h:Wi x=true):∀vs,x≠.val (.agg vs):=by
 intro vs e; subst e; cases h
theorem Anf {i:TI} (h1:Nat.beq (Gf i).cells.length i.zero.length=true) (h2:Wi (Gf i)=true) (h3:Lb i.size (Gf i)=true):(Gf i).cells=i.zero.map .val:=by
 have _:=h1; have _:=h3
 unfold Gf at h2 ⊢
 cases hd:i.d with
 | struct fs=>rfl
 | _=>
  rw [hd] at h2
  cases b:i.zero with
  | nil=>rfl
  | cons v l=>
   cases l with
   | cons _ _=>rfl
   | nil=>
    rw [b] at h2
    cases v <;> first | rfl | cases h2
theorem Rq {α:Type} {c:Array α} {x y:α} (h:c.toList = [x,y]):c = #[x,y]:=by
 apply Array.ext'; simpa using h
theorem Aew {α:Type} {c:Array α} {x:α} (h:c.toList = [x]):c = #[x]:=by
 apply Array.ext'; simpa using h
theorem Wo {c:Call} {b:Builtin} {xs:Array Operand} {f:Array TypeId} (h1:c.callee = .builtin b) (h2:c.args=xs) (h3:c.argTypes=f):c = {callee:=.builtin b,args:=xs,argTypes:=f}:=by
 cases c; simp_all
def Eh (H:Hp) (n:Nat):Prop:=∀m,n<=m->H m = .none
def J5 (P:Program) (o:Oper) (ρ:Operand->AV) (H:Hp) (n:Nat) (K:Eff->Nat->Prop):Prop :=
 ∃b m,Cn P o ρ b/\(∀p∈b.rd,H p.1=p.2)/\K b m/\n<=m/\Eh (C1 H b.wr) m
theorem Dp (b:Eh H n) {r:AV} (h:Cn P o ρ ⟨r,[],[]⟩) (k:K ⟨r,[],[]⟩ n):J5 P o ρ H n K:=⟨_,n,h,by simp,k,Nat.le_refl _,b⟩
theorem Lh (c:Eh H n) {r:AV} {x:Nat} {b:Cf} (h:Cn P o ρ ⟨r,[(x,b)],[]⟩) (hx:H x=b) (k:K ⟨r,[(x,b)],[]⟩ n):J5 P o ρ H n K :=
 ⟨_,n,h,by simpa using hx,k,Nat.le_refl _,c⟩
theorem Pe (g:Eh H n) {r:AV} {x:Nat} {c b:Cf} (h:Cn P o ρ ⟨r,[(x,c)],[(x,b)]⟩) (hx:H x=c) (f:c≠.none) (k:K ⟨r,[(x,c)],[(x,b)]⟩ n):J5 P o ρ H n K:=by
 refine ⟨_,n,h,by simpa using hx,k,Nat.le_refl _,fun m i=>?_⟩
 have j:x<n:=by
  rcases Nat.lt_or_ge x n with h | h
  .exact h
  .exact (f (hx ▸ g x h)).elim
 show Bs H x b m=_
 rw [Dm _ _ (by omega)]; exact g m i
theorem Pf (c:Eh H n) {r:AV} {b:Cf} (h:Cn P o ρ ⟨r,[(n,.none)],[(n,b)]⟩) (k:K ⟨r,[(n,.none)],[(n,b)]⟩ (n+1)):J5 P o ρ H n K:=by
 refine ⟨_,n+1,h,by simpa using c n (Nat.le_refl _),k,by omega,fun m f=>?_⟩
 show Bs H n b m=_
 rw [Dm _ _ (by omega)]; exact c m (by omega)
theorem Ang (j:Eh H n) {l:List Nat} {c:List AV} {f b:List Cf} {r:AV} (g:T6 n l c f r b=true) (u:Rm H (wrs (emb n l) 0 f))
  (h:Cn P o ρ ⟨ren (emb n l) r,wrs (emb n l) 0 f++Dj (emb n l) l.length (b.length-l.length),wrs (emb n l) 0 b⟩)
  (k:K ⟨ren (emb n l) r,wrs (emb n l) 0 f++Dj (emb n l) l.length (b.length-l.length),wrs (emb n l) 0 b⟩ (n+(b.length-l.length))):J5 P o ρ H n K:=by
 simp only [T6,Bool.and_eq_true] at g
 have s:=g.1.1.1.1.1.1
 have x:=Nat.le_of_ble_eq_true g.1.1.1.1.2
 refine ⟨_,n+(b.length-l.length),h,fun p hp=>?_,k,by omega,fun q y=>?_⟩
 .rcases List.mem_append.1 hp with hp | hp
  .exact u.spec p hp
  .obtain ⟨i,hi,rfl⟩:=Aev hp
   refine j _ ?_
   show n<=emb n l (l.length+i)
   rw [T8 (by omega)]; omega
 .show C1 H (wrs (emb n l) 0 b) q = .none
  rw [Wm (fun i hi e=>?_)]
  .exact j q (by omega)
  .rcases Nat.lt_or_ge (0+i) l.length with h1 | h1
   .have:=Aeq s h1
    omega
   .have:=T8 (n:=n) h1
    omega
theorem Anh (s:Dc P T) (l:Eh H n) {t:TypeId} {x:Operand} (f:o.op = .load t x) (h:D5 P T an n o ρ H K):J5 P o ρ H n K:=by
 unfold D5 at h
 rw [f] at h
 dsimp only at h
 split at h
 .rename_i i g
  split at h
  .rename_i cs hx
   cases b:i.isAgg with
   | true=>
    rw [b] at h
    simp only [cond_true] at h
    obtain ⟨h1,h2⟩:=Fu h
    exact Dp l (Ak9 s f g b hx (Nat.le_of_ble_eq_true h1)) h2
   | false=>
    rw [b] at h
    simp only [cond_false] at h
    split at h
    .exact Dp l (Ak8 s f g b hx) h
    .exact h.elim
  .rename_i hd off hx
   split at h
   .rename_i E cs u
    cases b:i.isAgg with
    | true=>
     rw [b] at h
     simp only [cond_true] at h
     obtain ⟨h1,h2⟩:=Fu h
     exact Lh l (Alb s f g b hx (Nat.le_of_ble_eq_true h1)) u h2
    | false=>
     rw [b] at h
     simp only [cond_false] at h
     split at h
     .rename_i c hc
      exact Lh l (Ala s f g b hx hc) u h
     .exact h.elim
   .exact h.elim
  .rename_i hd k q j hx
   split at h
   .rename_i E sz xs u
    obtain ⟨y,hk,hy,h⟩:=h
    cases b:i.isAgg with
    | true=>
     rw [b] at h
     simp only [cond_true] at h
     obtain ⟨h1,h2⟩:=Fu h
     exact Lh l (Ald s f g b hx hk hy (Nat.le_of_ble_eq_true h1)) u h2
    | false=>
     rw [b] at h
     simp only [cond_false] at h
     split at h
     .rename_i c hc
      exact Lh l (Alc s f g b hx hk hy hc) u h
     .exact h.elim
   .exact h.elim
  .exact h.elim
 .exact h.elim
theorem Ani (s:Dc P T) (l:Eh H n) {t:TypeId} {x y:Operand} (c:o.op = .store t x y) (h:D5 P T an n o ρ H K):J5 P o ρ H n K:=by
 unfold D5 at h
 rw [c] at h
 dsimp only at h
 split at h
 .rename_i i g
  split at h
  .rename_i hd off hx
   split at h
   .rename_i E cs f
    obtain ⟨h1,h2⟩:=Fu h
    simp only [Bool.and_eq_true] at h1
    exact Pe l (Alf s c g hx (Nat.eq_of_beq_eq_true h1.1.1) (Nat.le_of_ble_eq_true h1.1.2) h1.2) f (by intro e; cases e) h2
   .exact h.elim
  .rename_i hd k q j hx
   split at h
   .rename_i E sz xs f
    obtain ⟨z,hk,u,h⟩:=h
    obtain ⟨h1,h2⟩:=Fu h
    simp only [Bool.and_eq_true] at h1
    obtain ⟨⟨⟨⟨g1,g2⟩,g3⟩,g4⟩,g5⟩:=h1
    rw [Wj,Ro] at h2
    obtain ⟨A,b,h2⟩:=h2
    subst b
    exact Pe l (Alh s c g hx hk u (Nat.eq_of_beq_eq_true g1) (Nat.le_of_ble_eq_true g2) (Nat.le_of_ble_eq_true g3) g4 (Ane g5)) f (by intro e; cases e) h2
   .exact h.elim
  .exact h.elim
 .exact h.elim
theorem Anj (u:Dc P T) (g:Eh H n) {op:BinOp} {t q:TypeId} {x y:Operand} (f:o.op = .binOp op t x y q) (h:D5 P T an n o ρ H K):J5 P o ρ H n K:=by
 unfold D5 at h
 rw [f] at h
 dsimp only at h
 split at h
 .rename_i k a j b hx hy
  split at h
  .obtain ⟨c,h1,h2,h3⟩:=h
   exact Dp g (Alr f hx hy h1 h2) h3
  .obtain ⟨c,h1,h2,h3⟩:=h
   exact Dp g (Alq f hx hy h1 h2) h3
  .replace h:=Fu h; obtain ⟨hk,h⟩:=h
   have hk:k=j:=by simpa using hk
   subst hk
   split at h
   .obtain ⟨c,h1,h2⟩:=h; exact Dp g (Alj f hx hy h1) h2
   .obtain ⟨c,h1,h2⟩:=h; exact Dp g (Alk f hx hy h1) h2
   .obtain ⟨c,h1,h2⟩:=h; exact Dp g (All f hx hy h1) h2
   .obtain ⟨c,h1,h2,h3⟩:=h; exact Dp g (Alm f hx hy h1 h2) h3
   .obtain ⟨c,h1,h2,h3⟩:=h; exact Dp g (Aln f hx hy h1 h2) h3
   .split at h
    .rename_i l i; exact Dp g (Alo f hx hy i) h
    .split at h
     .rename_i c hc; exact Dp g (Alp f hx hy hc) h
     .exact h.elim
 .rename_i a b hx hy
  split at h
  .rename_i s1 s2 A s
   split at h
   .rename_i l i; exact Dp g (Alu u f s rfl hx hy i) h
   .exact h.elim
  .exact h.elim
 .rename_i xs ys hx hy
  split at h
  .rename_i z h1
   split at h
   .rename_i vs h2
    split at h
    .obtain ⟨b,hb,h⟩:=h
     exact Dp g (Adu f hx hy h1 h2 hb (.inl ⟨rfl,rfl⟩)) h
    .obtain ⟨b,hb,h⟩:=h
     exact Dp g (Adu f hx hy h1 h2 hb (.inr ⟨rfl,rfl⟩)) h
    .exact h.elim
   .exact h.elim
  .exact h.elim
 .rename_i k a j b hx hy
  replace h:=Fu h; obtain ⟨hk,h⟩:=h
  have hk:k=j:=by simpa using hk
  subst hk
  obtain ⟨c,h1,h2⟩:=h
  exact Dp g (Al0 f hx hy h1) h2
 .rename_i a b hx hy
  split at h
  .obtain ⟨h1,h2⟩:=h; exact Dp g (Alw f hx hy h1) h2
  .split at h
   .rename_i l i; exact Dp g (Alv f hx hy i) h
   .exact h.elim
 .exact h.elim
theorem Ank (y:Dc P T) (u:Eh H n) {t:TypeId} {x:Operand} {lo hi:Option Operand} (j:o.op = .slice t x lo hi none) (h:D5 P T an n o ρ H K):J5 P o ρ H n K:=by
 unfold D5 at h
 rw [j] at h
 dsimp only at h
 split at h
 .rename_i e s1 s2 D i
  split at h
  .rename_i G A
   split at h
   .rename_i sz xs hx
    split at h
    .rename_i z B b f
     replace h:=Fu h; obtain ⟨g1,h⟩:=h
     obtain ⟨l,c,ys,el,g,h1,h2,hy,k⟩:=h
     subst el; subst g; subst hy
     exact Dp u (Ame y j i rfl A (Nat.eq_of_beq_eq_true g1) hx b f h1 h2) k
    .exact h.elim
   .rename_i hd k off len hx
    split at h
    .rename_i E sz xs q
     split at h
     .rename_i z B b f
      replace h:=Fu h; obtain ⟨g1,h⟩:=h
      obtain ⟨l,c,hk,el,g,h1,h2,h3,k⟩:=h
      subst el; subst g
      exact Lh u (Amg y j i rfl A (Nat.eq_of_beq_eq_true g1) hx hk b f h1 h2 h3) q k
     .exact h.elim
    .exact h.elim
   .exact h.elim
  .exact h.elim
 .rename_i s1 s2 D i
  split at h
  .rename_i s hx
   split at h
   .rename_i z B b f
    obtain ⟨l,c,el,g,h1,h2,k⟩:=h
    subst el; subst g
    exact Dp u (Amf y j i rfl hx b f h1 h2) k
   .exact h.elim
  .exact h.elim
 .exact h.elim
theorem Anl (G:Dc P T) (z:Eh H n) {c:Call} (q:o.op = .call c) (h:D5 P T an n o ρ H K):J5 P o ρ H n K:=by
 unfold D5 at h
 rw [q] at h
 dsimp only at h
 split at h
 .rename_i x i
  split at h
  .rename_i f a1 hx
   split at h
   .rename_i j a7
    split at h
    .rename_i hd k len hj
     split at h
     .rename_i E sz xs D
      obtain ⟨hk,L,r,hp,Y,h⟩:=h
      subst hk
      rw [<-L] at hj
      exact Pe z (Am9 q i hx hj hp Y) D (by intro e; cases e) h
     .exact h.elim
    .exact h.elim
   .cases h with
    | mk r hp Y k=>exact Dp z (Am8 q i hx hp Y) k
    | act l X hs r a6 hp ha ok D k=>exact Ang z ok D (Anc q i hx hp ha ok) k
  .exact h.elim
 .exact h.elim
 .rename_i i
  split at h
  .rename_i x t ha u
   rw [Wo i (Aew ha) (Aew u)] at q
   split at h
   .rename_i e s1 s2 S A
    split at h
    .rename_i sz xs hx
     split at h
     .obtain ⟨c,hc,h⟩:=h
      subst hc
      exact Dp z (Adl G q A rfl hx) h
     .exact Dp z (Adl G q A rfl hx) h
    .rename_i p m cap hx; exact Dp z (Al7 G q A rfl hx) h
    .rename_i hd k off len hx
     split at h
     .rename_i E sz xs D
      obtain ⟨hk,h⟩:=h
      exact Lh z (Al9 G q A rfl hx hk) D h
     .exact h.elim
    .exact h.elim
   .rename_i s1 s2 S A
    split at h
    .rename_i s hx; exact Dp z (Al8 G q A rfl hx) h
    .exact h.elim
   .exact h.elim
  .exact h.elim
 .rename_i i
  split at h
  .rename_i x y t t' ha u
   rw [Wo i (Rq ha) (Rq u)] at q
   split at h
   .rename_i e s1 s2 S e' V U R A B
    split at h
    .rename_i i' M
     replace h:=Fu h; obtain ⟨g,h⟩:=h
     simp only [Bool.and_eq_true] at g
     obtain ⟨⟨g1,g2⟩,g3⟩:=g
     have g1:0<i'.size:=Nat.le_of_ble_eq_true g1
     have g2:=Nat.eq_of_beq_eq_true g2
     have g3:=Nat.le_of_ble_eq_true g3
     split at h
     .rename_i sz ys hy
      replace h:=Fu h; obtain ⟨g4,h⟩:=h
      have g4:=Nat.eq_of_beq_eq_true g4
      subst g4
      split at h
      .rename_i hd k len hx
       split at h
       .rename_i E N xs D
        replace h:=Fu h; obtain ⟨g5,h⟩:=h
        simp only [Bool.and_eq_true] at g5
        have e1:=Nat.eq_of_beq_eq_true g5.1
        have e2:=Nat.eq_of_beq_eq_true g5.2
        subst e1; subst e2
        obtain ⟨zs,m,hk,L,hb,I,J,k⟩:=h
        subst L; subst I; subst J
        exact Pe z (Amn G q A rfl B rfl M g1 g2 g3 hx hk hy hb) D (by intro e; cases e) k
       .exact h.elim
      .rename_i hx
       obtain ⟨zs,m,hb,I,J,k⟩:=h
       subst I; subst J
       exact Pf z (Amr G n q A rfl B rfl M g1 g2 g3 hx hy hb) k
      .exact h.elim
     .exact h.elim
    .exact h.elim
   .rename_i e s1 s2 S V U R A B
    split at h
    .rename_i i' M
     replace h:=Fu h; obtain ⟨g,h⟩:=h
     simp only [Bool.and_eq_true] at g
     obtain ⟨⟨g1,g2⟩,g3⟩:=g
     have g1:=Nat.eq_of_beq_eq_true g1
     have g2:=Nat.eq_of_beq_eq_true g2
     have g3:=Nat.le_of_ble_eq_true g3
     split at h
     .rename_i s hy
      split at h
      .rename_i hd k len hx
       split at h
       .rename_i E N xs D
        replace h:=Fu h; obtain ⟨g5,h⟩:=h
        simp only [Bool.and_eq_true] at g5
        have e1:=Nat.eq_of_beq_eq_true g5.1
        have e2:=Nat.eq_of_beq_eq_true g5.2
        subst e1; subst e2
        obtain ⟨zs,m,hk,L,hb,I,J,k⟩:=h
        subst L; subst I; subst J
        exact Pe z (Amq G q A rfl B rfl M g1 g2 g3 hx hk hy hb) D (by intro e; cases e) k
       .exact h.elim
      .exact h.elim
     .exact h.elim
    .exact h.elim
   .exact h.elim
  .exact h.elim
 .rename_i i
  split at h
  .rename_i x y t t' ha u
   rw [Wo i (Rq ha) (Rq u)] at q
   split at h
   .rename_i k a k' b hx hy
    exact Dp z (Amt q hx hy) h
   .exact h.elim
  .exact h.elim
 .rename_i i
  split at h
  .rename_i x y t t' ha u
   rw [Wo i (Rq ha) (Rq u)] at q
   split at h
   .rename_i k a k' b hx hy
    exact Dp z (Amu q hx hy) h
   .exact h.elim
  .exact h.elim
 .exact h.elim
theorem Aex (D:Dc P T) (A:Eh H n) (h:D5 P T an n o ρ H K):J5 P o ρ H n K:=by
 cases u:o.op with
 | load t x=>exact Anh D A u h
 | store t x y=>exact Ani D A u h
 | binOp op t x y yt=>exact Anj D A u h
 | call c=>exact Anl D A u h
 | slice t x lo hi mx=>
  cases mx with
  | none=>exact Ank D A u h
  | some m=>unfold D5 at h; rw [u] at h; exact h.elim
 | move x=>unfold D5 at h; rw [u] at h; exact Dp A (Ak4 u) h
 | assign x=>
  unfold D5 at h; rw [u] at h; dsimp only at h
  split at h
  .exact Dp A (T0 u) h
  .split at h
   .exact Dp A (T0 u) h
   .exact Dp A (T0 u) h
   .exact Dp A (T0 u) h
   .cases hb:Jj (ρ x) with
    | false=>rw [hb] at h; exact Dp A (T0 u) h
    | true=>
     rw [hb] at h
     simp only [cond_true] at h
     split at h
     .rename_i e s1 s2 I B
      split at h
      .rename_i S G
       replace h:=Fu h; obtain ⟨g1,h⟩:=h
       exact Pf A (Ams D n u (Wn hb) B rfl G (Nat.le_of_ble_eq_true g1)) h
      .exact h.elim
     .exact h.elim
 | pick c a b=>
  unfold D5 at h; rw [u] at h; dsimp only at h
  split at h
  .rename_i t hc; exact Dp A (Ak5 u hc) h
  .exact h.elim
 | alloc t=>
  unfold D5 at h; rw [u] at h; dsimp only at h
  split at h
  .rename_i i B; exact Pf A (Ak6 D n u B) h
  .exact h.elim
 | box t x=>unfold D5 at h; rw [u] at h; exact Pf A (Ak7 n u) h
 | build t parts=>
  unfold D5 at h; rw [u] at h; dsimp only at h
  split at h
  .rename_i fs s1 s2 z B
   split at h
   .rename_i cs hc; exact Dp A (Amh D u B rfl hc) h
   .exact h.elim
  .exact h.elim
 | buildSlice t len parts=>
  unfold D5 at h; rw [u] at h; dsimp only at h
  split at h
  .rename_i e s1 s2 I B
   split at h
   .rename_i S G
    replace h:=Fu h; obtain ⟨g,h⟩:=h
    simp only [Bool.and_eq_true] at g
    obtain ⟨⟨⟨g1,g2⟩,g3⟩,g4⟩:=g
    have g2:parts.toList.map (·.1)=List.range' 0 len:=by simpa using g2
    have g4:∀p∈parts.toList,Lb S.size (ρ p.2)=true:=List.all_eq_true.1 g4
    split at h
    .exact h.elim
    .rw [Wk] at h
     exact Dp A (Adq D u B rfl G (Nat.le_of_ble_eq_true g1) g2 (Nat.le_of_ble_eq_true g3) g4) h
    .rw [Wk] at h
     exact Dp A (Adq D u B rfl G (Nat.le_of_ble_eq_true g1) g2 (Nat.le_of_ble_eq_true g3) g4) h
    .rw [Wk] at h
     exact Pf A (Amj D n u B rfl G (Nat.le_of_ble_eq_true g1) g2 (Nat.le_of_ble_eq_true g3) g4) h
   .exact h.elim
  .exact h.elim
 | nilCheck x=>
  unfold D5 at h; rw [u] at h; dsimp only at h
  replace h:=Fu h; obtain ⟨g1,h⟩:=h
  exact Dp A (Ali u g1) h
 | unOp op t x=>
  unfold D5 at h; rw [u] at h; dsimp only at h
  split at h
  .rename_i b hx; exact Dp A (Alx u hx) h
  .rename_i k m hx
   obtain ⟨c,h1,h2⟩:=h
   exact Dp A (Aly u hx h1) h2
  .exact h.elim
 | convert s d x=>
  unfold D5 at h; rw [u] at h; dsimp only at h
  split at h
  .rename_i i k s1 s2 I M m hs hd hx
   obtain ⟨c,h1,h2⟩:=h
   exact Dp A (Alz D u hs hd rfl hx h1) h2
  .rename_i v0 k0 s1 s2 I k1 m h1 h2 hx
   exact Dp A (Al1 D u h1 h2 rfl hx) h
  .rename_i v0 k0 s1 s2 I q m h1 h2 hx
   obtain ⟨c,g1,g2⟩:=h
   exact Dp A (Al2 D u h1 h2 rfl hx g1) g2
  .exact h.elim
 | makeFunc fn first a1=>
  cases fn with
  | func f=>
   unfold D5 at h; rw [u] at h; dsimp only at h
   replace h:=Fu h; obtain ⟨g1,h⟩:=h
   have:first = #[]:=by simpa using g1
   subst this
   exact Dp A (Amd u) h
  | _=>unfold D5 at h; rw [u] at h; exact h.elim
 | makeSlice t x y=>
  unfold D5 at h; rw [u] at h; dsimp only at h
  split at h
  .rename_i e s1 s2 I B
   split at h
   .rename_i S G
    split at h
    .rename_i k l M c hx hy
     replace h:=Fu h; obtain ⟨g,h⟩:=h
     simp only [Bool.and_eq_true] at g
     obtain ⟨⟨⟨g1,g2⟩,g3⟩,g4⟩:=g
     obtain ⟨l',c',zs,el,ec,h1,h2,h3,V,k⟩:=h
     subst el; subst ec; subst V
     exact Pf A (Amk D n u B rfl G (Nat.le_of_ble_eq_true g1) hx hy h1 h2 h3 g2 (Anf g3 g4 g2)) k
    .exact h.elim
   .exact h.elim
  .exact h.elim
 | fieldAddr s x f=>
  unfold D5 at h; rw [u] at h; dsimp only at h
  split at h
  .rename_i fs s1 s2 I B
   split at h
   .rename_i q R
    split at h
    .rename_i hd off hx; exact Dp A (Al4 D u B rfl R hx) h
    .rename_i cs hx; exact Dp A (Al5 D u B rfl R hx) h
    .rename_i hd k m j hx
     split at h
     .rename_i E sz xs J
      obtain ⟨hk,h⟩:=h
      exact Lh A (Al6 D u B rfl R hx hk) J h
     .exact h.elim
    .exact h.elim
   .exact h.elim
  .exact h.elim
 | indexAddr t x y=>
  unfold D5 at h; rw [u] at h; dsimp only at h
  split at h
  .rename_i e s1 s2 I B
   split at h
   .rename_i S G
    split at h
    .rename_i sz xs k i hx hy
     replace h:=Fu h; obtain ⟨g1,h⟩:=h
     obtain ⟨m,z,hi,V,M⟩:=h
     subst hi
     exact Dp A (Ama D u B rfl G (Nat.eq_of_beq_eq_true g1) hx hy V) M
    .rename_i hd k off len kk i hx hy
     split at h
     .rename_i E sz xs J
      replace h:=Fu h; obtain ⟨g1,h⟩:=h
      obtain ⟨m,hk,hi,hm,M⟩:=h
      subst hi
      exact Lh A (Amb D u B rfl G hx hk hy hm (Nat.eq_of_beq_eq_true g1)) J M
     .exact h.elim
    .exact h.elim
   .exact h.elim
  .exact h.elim
 | index t x y=>
  unfold D5 at h; rw [u] at h; dsimp only at h
  split at h
  .rename_i s1 s2 I B
   split at h
   .rename_i s k i hx hy
    obtain ⟨m,c,hi,hc,M⟩:=h
    subst hi
    exact Dp A (Amc D u B rfl hx hy hc) M
   .exact h.elim
  .exact h.elim
 | field t x f=>
  unfold D5 at h; rw [u] at h; dsimp only at h
  split at h
  .rename_i fs s1 s2 I B
   split at h
   .rename_i q Y
    split at h
    .rename_i cs hx
     obtain ⟨ft,R,h⟩:=h
     split at h
     .rename_i U G
      cases L:U.isAgg with
      | true=>
       rw [L] at h
       simp only [cond_true] at h
       obtain ⟨h1,h2⟩:=Fu h
       exact Dp A (Adv D u B rfl Y R G hx (.inl ⟨L,Nat.le_of_ble_eq_true h1,rfl⟩)) h2
      | false=>
       rw [L] at h
       simp only [cond_false] at h
       split at h
       .rename_i c hc
        exact Dp A (Adv D u B rfl Y R G hx (.inr ⟨L,hc⟩)) h
       .exact h.elim
     .exact h.elim
    .exact h.elim
   .exact h.elim
  .exact h.elim
 | makeMap t r=>
  cases r with
  | none=>unfold D5 at h; rw [u] at h; exact Pf A (Amv n u) h
  | some q=>unfold D5 at h; rw [u] at h; exact h.elim
 | lookup t x y ok=>
  unfold D5 at h; rw [u] at h; dsimp only at h
  split at h
  .rename_i kt et s1 s2 I B
   split at h
   .rename_i q1 q2 q3 hk
    split at h
    .rename_i U G
     split at h
     .rename_i hd hx
      split at h
      .rename_i s hy
       split at h
       .rename_i es J
        obtain ⟨r,N,h⟩:=h
        exact Lh A (Amw D u B rfl hk rfl G hx hy N) J h
       .exact h.elim
      .exact h.elim
     .exact h.elim
    .exact h.elim
   .split at h
    .rename_i U G
     split at h
     .rename_i hd hx
      split at h
      .rename_i ks hy
       split at h
       .rename_i us hu
        split at h
        .rename_i es J
         obtain ⟨r,hc,N,h⟩:=h
         exact Lh A (Amy D u B rfl G hx hy hu hc N) J h
        .exact h.elim
       .exact h.elim
      .exact h.elim
     .exact h.elim
    .exact h.elim
   .exact h.elim
  .exact h.elim
 | mapUpdate t x y z=>
  unfold D5 at h; rw [u] at h; dsimp only at h
  split at h
  .rename_i kt et s1 s2 I B
   split at h
   .rename_i q1 q2 q3 hk
    split at h
    .rename_i hd hx
     split at h
     .rename_i s hy
      split at h
      .rename_i es J
       obtain ⟨g1,h⟩:=Fu h
       rw [Ro] at h
       obtain ⟨X,N,h⟩:=h
       exact Pe A (Amx D u B rfl hk rfl hx hy g1 N) J (by intro e; cases e) h
      .exact h.elim
     .exact h.elim
    .exact h.elim
   .split at h
    .rename_i hd hx
     split at h
     .rename_i ks hy
      split at h
      .rename_i us hu
       split at h
       .rename_i es J
        obtain ⟨g1,h⟩:=Fu h
        rw [Ro] at h
        obtain ⟨X,hc,N,rfl,h⟩:=h
        exact Pe A (Amz D u B rfl hx hy hu g1 hc N) J (by intro e; cases e) h
       .exact h.elim
      .exact h.elim
     .exact h.elim
    .exact h.elim
   .exact h.elim
  .exact h.elim
 | extract x i=>
  unfold D5 at h; rw [u] at h; dsimp only at h
  split at h
  .rename_i cs hx
   split at h
   .rename_i c hc; exact Dp A (Al3 u hx hc) h
   .exact h.elim
  .exact h.elim
 | _=>unfold D5 at h; rw [u] at h; exact h.elim
end
end Go.Ab
namespace Go.Ab
theorem Bg {t:Bool} {A B:Prop} (h:t=true) (k:A):bif t then A else B:=by rw [h]; exact k
theorem Wp {t:Bool} {A B:Prop} (h:t=false) (k:B):bif t then A else B:=by rw [h]; exact k
abbrev Hx:=List (List Nat×List Nat)
def Jk (l:List (Nat×Nat)):Nat->List AV->List AV
 | _,[]=>[]
 | i,x::xs=>(bif Jj x then (match l.lookup i with | some sz=>.sl sz [] | none=>x) else x)::Jk l (i+1) xs
def elN (l:List (Nat×Nat)) (x:AV):AV :=
 match x with
 | .val (.agg vs)=>.agg (Jk l 1000 (vs.toList.map .val))
 | .agg cs=>.agg (Jk l 1000 cs)
 | x=>x
def Jl (l:List (Nat×Nat)) (x:AV):AV :=
 match l with
 | []=>x
 | p::l=>
  match x with
  | .sl sz xs=>bif Nat.ble 1000 p.1 then .sl sz (xs.map (elN (p::l))) else .sl sz xs
  | .agg cs=>.agg (Jk (p::l) 0 cs)
  | x=>bif Jj x then .sl p.2 [] else x
def J6 (nl:Nat->List (Nat×Nat)):Option Nat->List (Nat×Nat)
 | none=>[]
 | some d=>nl d
theorem Wq {σ:Bk} {ι:Ci} {H:Hp} {x:AV} {v:Value} {sz:Nat} (hx:Jj x=true) (h:Conc σ ι H x v):Conc σ ι H (.sl sz []) v:=by
 rw [Wn hx] at h
 rw [h.val_inv]
 exact .cc (.nil sz none 0)
theorem Aai {l:List (Nat×Nat)}:∀{cs:List AV} {i k:Nat} {c:AV},(Jk l k cs)[i]? = some c->∃b,cs[i]? = some b/\(c=b\/(Jj b=true/\∃sz,c = .sl sz []))
 | [],i,k,c,h=>by simp [Jk] at h
 | x::xs,0,k,c,h=>by
  simp only [Jk,List.getElem?_cons_zero,Option.some.injEq] at h
  refine ⟨x,rfl,?_⟩
  cases hx:Jj x with
  | false=>rw [hx] at h; exact .inl h.symm
  | true=>
   rw [hx] at h
   simp only [cond_true] at h
   split at h
   .rename_i sz _; exact .inr ⟨rfl,sz,h.symm⟩
   .exact .inl h.symm
 | x::xs,i+1,k,c,h=>by
  simp only [Jk,List.getElem?_cons_succ] at h
  obtain ⟨b,h1,h2⟩:=Aai h
  exact ⟨b,by simpa using h1,h2⟩
theorem Aaj {l:List (Nat×Nat)}:∀{cs:List AV} {k:Nat},(Jk l k cs).length=cs.length
 | [],_=>rfl
 | x::xs,k=>by simp only [Jk,List.length_cons,Aaj]
theorem Anm {l:List (Nat×Nat)} {σ:Bk} {x:AV}:(elN l x).cells.length=x.cells.length/\∀(j:Nat) (c b:AV) (u:Value),x.cells[j]? = some c->(elN l x).cells[j]? = some b->CC σ c u->CC σ b u:=by
 have key:∀cs:List AV,(Jk l 1000 cs).length=cs.length/\∀(j:Nat) (c b:AV) (u:Value),cs[j]? = some c->(Jk l 1000 cs)[j]? = some b->CC σ c u->CC σ b u:=by
  intro cs
  refine ⟨Aaj,fun j c b u h1 h2 h3=>?_⟩
  obtain ⟨f,g1,rfl | ⟨g2,sz,rfl⟩⟩:=Aai h2
  .rw [h1] at g1; cases g1; exact h3
  .rw [h1] at g1; cases g1
   rw [Wn g2] at h3
   cases h3
   exact .nil sz none 0
 unfold elN
 split
 .exact key _
 .exact key _
 .exact ⟨rfl,fun j c b u h1 h2 h3=>by rw [h1] at h2; cases h2; exact h3⟩
theorem CC.mapEl {σ:Bk} {sz:Nat} {xs:List AV} {v:Value} (f:AV->AV) (B:∀x,(f x).cells.length=x.cells.length/\∀(j:Nat) (c k:AV) (u:Value),x.cells[j]? = some c->(f x).cells[j]? = some k->CC σ c u->CC σ k u) (h:CC σ (.sl sz xs) v):CC σ (.sl sz (xs.map f)) v:=by
 cases h with
 | nil sz a cap=>exact .nil sz a cap
 | sl _ b off cap _ C E fr g D G hc h1 J I s=>
  have q:(xs.map f).length=xs.length:=by simp
  have l:∀(i:Nat) (y:AV) (j:Nat) (k:AV),(xs.map f)[i]? = some y->y.cells[j]? = some k->∃x c,xs[i]? = some x/\x.cells[j]? = some c/\y=f x:=by
   intro i y j k g1 g2
   rw [List.getElem?_map] at g1
   cases hx:xs[i]? with
   | none=>rw [hx] at g1; cases g1
   | some x=>
    rw [hx] at g1; cases g1
    have hj:j<x.cells.length:=by rw [<-(B x).1]; exact (List.getElem?_eq_some_iff.1 g2).1
    exact ⟨x,x.cells[j],rfl,List.getElem?_eq_getElem hj,rfl⟩
  rw [<-q]
  refine .sl (xs.map f) b off cap sz C E fr g D ?_ ?_ ?_ (fun i j hi hj=>J i j (by simpa using hi) hj) (by simpa using I) (by simpa using s)
  .intro i y hy
   rw [List.getElem?_map] at hy
   cases hx:xs[i]? with
   | none=>rw [hx] at hy; cases hy
   | some x=>rw [hx] at hy; cases hy; rw [(B x).1]; exact G i x hx
  .intro i y j k g1 g2
   obtain ⟨x,c,A,z,rfl⟩:=l i y j k g1 g2
   exact (B x).2 j c k _ z g2 (hc i x j c A z)
  .intro i y j k g1 g2
   obtain ⟨x,c,A,z,rfl⟩:=l i y j k g1 g2
   exact h1 i x j c A z
theorem Ano {l:List (Nat×Nat)} {σ:Bk} {ι:Ci} {H:Hp} {x:AV} {v:Value} (h:Conc σ ι H x v):Conc σ ι H (Jl l x) v:=by
 unfold Jl
 split
 .exact h
 .split
  .rename_i _ p l _ sz xs
   cases hb:Nat.ble 1000 p.1 with
   | false=>exact h
   | true=>exact .cc (h.sl_inv.mapEl _ fun x=>Anm)
  .rename_i cs
   obtain ⟨vs,rfl,f,b⟩:=h.agg_inv
   refine .agg _ vs (by rw [Aaj]; exact f) fun i c u h1 h2=>?_
   obtain ⟨j,h3,rfl | ⟨g,sz,rfl⟩⟩:=Aai h1
   .exact b i _ u h3 h2
   .exact Wq g (b i _ u h3 h2)
  .cases hx:Jj x with
   | false=>exact h
   | true=>exact Wq hx h
theorem Cn.nils {P:Program} {o:Oper} {ρ:Operand->AV} {b:Eff} (l:List (Nat×Nat)) (h:Cn P o ρ b):Cn P o ρ ⟨Jl l b.r,b.rd,b.wr⟩ :=
 fun σ ι H F W w a next Q s hx g hk=>h σ ι H F W w a next Q s hx g fun c f v w' le s' hc=>hk c f v w' le s' (Ano hc)
def Hy (e:Ch) (d:Option Nat) (r:AV) (H:Hp) (b:List (Nat×Cf)) (K:Ch->Hp->Prop):Prop :=
 match d with
 | none=>
  (match b with
  | []=>K e H
  | [p]=>K e (Bs H p.1 p.2)
  | p::q::l=>K e (C1 H (p::q::l)))
 | some t=>
  (match b with
  | []=>K (Bs e t r) H
  | [p]=>K (Bs e t r) (Bs H p.1 p.2)
  | p::q::l=>K (Bs e t r) (C1 H (p::q::l)))
theorem Wr (e:Ch) (d:Option Nat) (r:AV) (H:Hp) (b:List (Nat×Cf)) (K:Ch->Hp->Prop):Hy e d r H b K=K (put e d r) (C1 H b):=by
 cases d <;> cases b with
 | nil=>rfl
 | cons p l=>cases l <;> rfl
def Hz (P:Program) (T:De) (an:Nat->Ann) (nl:Nat->List (Nat×Nat)) (ops:Array Oper):List Oper->List Nat->Nat->Ch->Hp->Hx->(Nat->Ch->Hp->Hx->Prop)->Prop
 | [],_,n,e,H,acc,K=>K n e H acc
 | o::os,f,n,e,H,acc,K=>
  match o.guard with
  | none=>D5 P T an n o (ev e) H fun c m=>I1 (Jl (J6 nl o.dst) c.r) fun r=>Lg c.wr fun wr=>G9 c.rd fun h=>G9 wr fun g=>Hy e o.dst r H wr fun e H=>Hz P T an nl ops os f m e H (acc++[(h,g)]) K
  | some p=>
   match (ops[p.1]?).bind (·.dst) with
   | none=>False
   | some s=>
    match e s with
    | .val (.bool b)=>
     match f.elem s with
     | true=>
      (match b with
      | true=>
       (match p.2 with
       | true=>D5 P T an n o (ev e) H fun c m=>I1 (Jl (J6 nl o.dst) c.r) fun r=>Lg c.wr fun wr=>G9 c.rd fun h=>G9 wr fun g=>Hy e o.dst r H wr fun e H=>Hz P T an nl ops os f m e H (acc++[(h,g)]) K
       | false=>Hy e o.dst (.val undef) H [] fun e H=>Hz P T an nl ops os f n e H (acc++[([],[])]) K)
      | false=>
       (match p.2 with
       | true=>Hy e o.dst (.val undef) H [] fun e H=>Hz P T an nl ops os f n e H (acc++[([],[])]) K
       | false=>D5 P T an n o (ev e) H fun c m=>I1 (Jl (J6 nl o.dst) c.r) fun r=>Lg c.wr fun wr=>G9 c.rd fun h=>G9 wr fun g=>Hy e o.dst r H wr fun e H=>Hz P T an nl ops os f m e H (acc++[(h,g)]) K))
     | false=>
      bif b then
       (match p.2 with
       | true=>D5 P T an n o (ev (Bs e s (.val (.bool true)))) H fun c m=>I1 (Jl (J6 nl o.dst) c.r) fun r=>Lg c.wr fun wr=>G9 c.rd fun h=>G9 wr fun g=>Hy (Bs e s (.val (.bool true))) o.dst r H wr fun e H=>Hz P T an nl ops os (s::f) m e H (acc++[(h,g)]) K
       | false=>Hy (Bs e s (.val (.bool true))) o.dst (.val undef) H [] fun e H=>Hz P T an nl ops os (s::f) n e H (acc++[([],[])]) K)
      else
       (match p.2 with
       | true=>Hy (Bs e s (.val (.bool false))) o.dst (.val undef) H [] fun e H=>Hz P T an nl ops os (s::f) n e H (acc++[([],[])]) K
       | false=>D5 P T an n o (ev (Bs e s (.val (.bool false)))) H fun c m=>I1 (Jl (J6 nl o.dst) c.r) fun r=>Lg c.wr fun wr=>G9 c.rd fun h=>G9 wr fun g=>Hy (Bs e s (.val (.bool false))) o.dst r H wr fun e H=>Hz P T an nl ops os (s::f) m e H (acc++[(h,g)]) K)
    | .val (.tuple _)=>Hy e o.dst (.val undef) H [] fun e H=>Hz P T an nl ops os f n e H (acc++[([],[])]) K
    | _=>False
inductive Bj (ops:List Oper) (acc:Hx) (K:Prop):Prop where
 | mk (h:Zy ops acc=true) (k:K)
inductive Ex where
 | normal
 | exit (id:Nat)
 | ret
def Ig (e:Ch):List (Nat×AV)->Prop
 | []=>True
 | p::l=>e p.1=p.2/\Ig e l
def Ih (H H':Hp):Nat->Nat->Prop
 | 0,_=>True
 | k+1,n=>(H k=H' k/\(H' k).under n=true)/\Ih H H' k n
def Li (b:List Nat) (e:Ch) (u:Nat->Value) (l:List (Nat×AV)):Ch:=l.foldr (fun p e=>Bs e p.1 p.2) (b.foldr (fun s e=>Bs e s (.val (u s))) e)
def Mj (n:Nat) (b:List (Nat×AV)) (c:List (Nat×Cf)):Bool:=(b.all fun p=>p.2.under n)&&c.all fun p=>Nat.blt p.1 n
inductive Anp (n:Nat) (ws:List Nat) (e:Ch) (H:Hp) (body:(Nat->Ch->Hp->Prop)->Nat->Ch->Hp->Prop):Prop where
 | mk (I:Type) (inv:I->Prop) (iv:I->List (Nat×AV)) (hv:I->List (Nat×Cf)) (m:I->Nat) (i0:I) (hb:∀i,Mj n (iv i) (hv i)=true)
   (h0:inv i0) (hs:Ig e (iv i0)) (hh:Ih H (C1 H (hv i0)) n n)
   (step:∀(i:I) (u:Nat->Value),inv i->body (fun _ e' H'=>∃i',inv i'/\Ig e' (iv i')/\Ih H' (C1 H (hv i')) n n/\m i' < m i) n (Li ws e u (iv i)) (C1 H (hv i)))
def E8:Code->List Nat
 | .region _ ops _=>ops.toList.filterMap (·.dst)
 | .seq a b=>E8 a++E8 b
 | .cond _ a b=>E8 a++E8 b
 | .block _ b=>E8 b
 | .loop b=>E8 b
 | .scope b=>E8 b
 | _=>[]
def Ws:List Nat->Ch->Hp->(Ch->Hp->Prop)->Prop
 | [],e,H,K=>K e H
 | s::b,e,H,K=>
  match e s with
  | .arr h k 0 len=>
   match H h with
   | .rows _ sz xs=>I0 k xs (I0 len xs (Ws b (Bs e s (.sl sz xs)) (Bs H h .dead) K))
   | _=>False
  | _=>False
structure Cfg where
 T:De
 an:Nat->Ann:=fun _=>.std
 gh:Nat->List Nat:=fun _=>[]
 nl:Nat->List (Nat×Nat):=fun _=>[]
def Aey (x:AV) (A B:Prop):Prop :=
 match x with
 | .val (.bool t)=>bif t then A else B
 | _=>False
def vc (P:Program) (C:Cfg):Code->(Ex->Nat->Ch->Hp->Prop)->Nat->Ch->Hp->Prop
 | .skip,Q,n,e,H=>Q .normal n e H
 | .region id ops draw,Q,n,e,H=>Ws (C.gh id) e H fun e H=>
   Hz P C.T C.an C.nl ops ops.toList [] n e H [] fun n e H acc=>bif draw then Bj ops.toList acc (Q .normal n e H) else Q .normal n e H
 | .seq a b,Q,n,e,H=>vc P C a (fun x n e H=>match x with
   | .normal=>vc P C b Q n e H
   | .exit id=>Q (.exit id) n e H
   | .ret=>Q .ret n e H) n e H
 | .cond c a b,Q,n,e,H=>Aey (ev e c) (vc P C a Q n e H) (vc P C b Q n e H)
 | .block id b,Q,n,e,H=>vc P C b (fun x n e H=>match x with
   | .normal=>Q .normal n e H
   | .exit i=>bif Nat.beq i id then Q .normal n e H else Q (.exit i) n e H
   | .ret=>Q .ret n e H) n e H
 | .loop b,Q,n,e,H=>Anp n (E8 b) e H fun K n e H=>vc P C b (fun x n e H=>match x with
   | .normal=>K n e H
   | .exit id=>Q (.exit id) n e H
   | .ret=>Q .ret n e H) n e H
 | .exit id,Q,n,e,H=>Q (.exit id) n e H
 | .ret,Q,n,e,H=>Q .ret n e H
 | _,_,_,_,_=>False
def Aez (N:Nat) (x:Operand):Bool :=
 match x with
 | .tmp t=>Nat.blt t N
 | _=>true
def H3 (N:Nat):Code->Bool
 | .region _ ops _=>ops.toList.all fun o=>(Iz ops o).all fun s=>Nat.blt s N
 | .seq a b=>H3 N a&&H3 N b
 | .cond c a b=>Aez N c&&H3 N a&&H3 N b
 | .block _ b=>H3 N b
 | .loop b=>H3 N b
 | .scope b=>H3 N b
 | _=>true
def Ex.out:Ex->Exit
 | .normal=>.normal
 | .exit id=>.exit id
 | .ret=>.ret
section
variable {P:Program} {T:De} {an:Nat->Ann} {nl:Nat->List (Nat×Nat)} {ops:Array Oper} {F:Bk} {W:World} {Q:Exit->Act->World->Prop}
theorem Wt {α:Type} {e:Nat->α} {s:Nat} {v:α} (h:e s=v):Bs e s v=e:=by subst h; exact J0 e s
theorem Aak (M:Dc P T):∀(os:List Oper) (g:List Nat) (i n:Nat) (e:Ch) (H:Hp) (acc:Hx) (K:Nat->Ch->Hp->Hx->Prop),ops.toList.drop i=os->acc.length=i->Eh H n->Hz P T an nl ops os g n e H acc K ->
  ∃f e' H' accs,K f e' H' accs/\accs.take i=acc/\accs.length=i+os.length/\n<=f/\Eh H' f/\Run P ops (fun k=>accs.getD k ([],[])) (List.range' i os.length) e H e' H'
 | [],g,i,n,e,H,acc,K,hd,y,D,h=>⟨n,e,H,acc,h,by rw [<-y]; simp,by simpa using y,Nat.le_refl _,D,.nil e H⟩
 | o::os,g,i,n,e,H,acc,K,hd,y,D,h=>by
  have N:ops[i]? = some o:=by
   have:=congrArg (fun l=>l[0]?) hd
   simpa using this
  have A:ops.toList.drop (i+1)=os:=by
   have:=congrArg (List.drop 1) hd
   simpa [List.drop_drop] using this
  have run:∀(u:Ch) (g:List Nat),Gv ops o u true->(D5 P T an n o (ev u) H fun c m=>I1 (Jl (J6 nl o.dst) c.r) fun r=>Lg c.wr fun wr=>G9 c.rd fun S=>G9 wr fun R=>Hy u o.dst r H wr fun e H=>Hz P T an nl ops os g m e H (acc++[(S,R)]) K) ->
    ∃f e' H' accs,K f e' H' accs/\accs.take i=acc/\accs.length=i+(o::os).length/\n<=f/\Eh H' f/\Run P ops (fun k=>accs.getD k ([],[])) (List.range' i (o::os).length) u H e' H':=by
   intro u g j x
   obtain ⟨c,m,h1,h2,h3,h4,Y⟩:=Aex M D x
   simp only [Ro,Aab,Aac,Wr] at h3
   obtain ⟨f,e',H',accs,I,B,V,U,G,E⟩:=Aak M os g (i+1) m _ _ _ K A (by simp [y]) Y h3
   have L:accs[i]? = some (c.rd.map (·.1),c.wr.map (·.1)):=by
    have e1:(accs.take (i+1))[i]? = accs[i]?:=List.getElem?_take_of_lt (by omega)
    rw [<-e1,B,List.getElem?_append_right (by omega)]
    simp [y]
   have z:accs.getD i ([],[])=(c.rd.map (·.1),c.wr.map (·.1)):=by simp [List.getD,L]
   refine ⟨f,e',H',accs,I,?_,by simp only [List.length_cons]; omega,by omega,G,?_⟩
   .have:=congrArg (List.take i) B
    rw [List.take_take] at this
    simpa [y] using this
   .rw [List.length_cons,List.range'_succ]
    refine .cons o (Jl (J6 nl o.dst) c.r) c.wr ⟨N,.inl ⟨j,_,h1.nils (J6 nl o.dst),h2,?_,?_,rfl,rfl⟩⟩ E
    .intro p hp; show p.1∈(accs.getD i ([],[])).1; rw [z]; exact List.mem_map_of_mem hp
    .intro p hp; show p.1∈(accs.getD i ([],[])).2; rw [z]; exact List.mem_map_of_mem hp
  have skip:∀(u:Ch) (g:List Nat),Gv ops o u false->(Hy u o.dst (.val undef) H [] fun e H=>Hz P T an nl ops os g n e H (acc++[([],[])]) K) ->
    ∃f e' H' accs,K f e' H' accs/\accs.take i=acc/\accs.length=i+(o::os).length/\n<=f/\Eh H' f/\Run P ops (fun k=>accs.getD k ([],[])) (List.range' i (o::os).length) u H e' H':=by
   intro u g j x
   rw [Wr] at x
   obtain ⟨f,e',H',accs,I,B,V,U,G,E⟩:=Aak M os g (i+1) n _ _ _ K A (by simp [y]) D x
   refine ⟨f,e',H',accs,I,?_,by simp only [List.length_cons]; omega,by omega,G,?_⟩
   .have:=congrArg (List.take i) B
    rw [List.take_take] at this
    simpa [y] using this
   .rw [List.length_cons,List.range'_succ]
    exact .cons o (.val undef) [] ⟨N,.inr ⟨j,rfl,rfl⟩⟩ E
  simp only [Hz] at h
  cases q:o.guard with
  | none=>
   rw [q] at h
   exact run e g (by unfold Gv; rw [q]) h
  | some p=>
   rw [q] at h
   simp only [] at h
   cases x:(ops[p.1]?).bind (·.dst) with
   | none=>rw [x] at h; exact h.elim
   | some s=>
    rw [x] at h
    simp only [] at h
    split at h
    .rename_i b hb
     have j:∀on,on=(b==p.2)->Gv ops o e on:=by
      intro on J
      unfold Gv; rw [q]
      exact ⟨s,.bool b,x,hb,by rw [J]; cases b <;> cases p.2 <;> rfl⟩
     cases hk:g.elem s with
     | true=>
      rw [hk] at h
      simp only [] at h
      cases b with
      | true=>
       cases hp:p.2 with
       | true=>rw [hp] at h; exact run e _ (j true (by rw [hp]; rfl)) h
       | false=>rw [hp] at h; exact skip e _ (j false (by rw [hp]; rfl)) h
      | false=>
       cases hp:p.2 with
       | true=>rw [hp] at h; exact skip e _ (j false (by rw [hp]; rfl)) h
       | false=>rw [hp] at h; exact run e _ (j true (by rw [hp]; rfl)) h
     | false=>
      rw [hk] at h
      simp only [] at h
      cases b with
      | true=>
       rw [Wt hb] at h
       simp only [cond_true] at h
       cases hp:p.2 with
       | true=>rw [hp] at h; exact run e _ (j true (by rw [hp]; rfl)) h
       | false=>rw [hp] at h; exact skip e _ (j false (by rw [hp]; rfl)) h
      | false=>
       rw [Wt hb] at h
       simp only [cond_false] at h
       cases hp:p.2 with
       | true=>rw [hp] at h; exact skip e _ (j false (by rw [hp]; rfl)) h
       | false=>rw [hp] at h; exact run e _ (j true (by rw [hp]; rfl)) h
    .rename_i vs X
     exact skip e _ (by unfold Gv; rw [q]; exact ⟨s,_,x,X,rfl⟩) h
    .exact h.elim
end
end Go.Ab
namespace Go.Ab
section
variable {P:Program} {C:Cfg} {F:Bk} {W:World}
theorem Ae0 {c:Code} {Q:Exit->Act->World->Prop} {a:Act} {w:World} (J:Nat->Act->World->Prop) (D:Nat) (I:J D a w)
  (h:∀k a w,J k a w->c.wp P (Exit.then (fun s w'=>∃u,u<k/\J u s w') Q) a w):(Code.loop c).wp P Q a w:=by
 intro b y cs
 have key:∀k a w,J k a w->∃e s w',Q e s w'/\Arrives P (lone (b.at a (.code c :: .inLoop c::y)) cs w) b y cs e s w':=by
  intro k
  induction k using Nat.strongRecOn with
  | _ k ih=>
   intro a w G
   obtain ⟨e,q,j,g,f⟩:=h k a w G b (.inLoop c::y) cs
   cases e with
   | normal=>
    obtain ⟨u,A,B⟩:=g
    obtain ⟨L,M,E,z,i⟩:=ih u A q j B
    exact ⟨L,M,E,z,.of_steps (Steps.trans f (.one step_inLoop)) i⟩
   | exit id=>exact ⟨_,q,j,g,.pass (x:=.inLoop c) rfl (fun _ _=>.inl (by simp)) f⟩
   | goto l=>exact ⟨_,q,j,g,.pass (x:=.inLoop c) rfl (fun _ _=>.inl (by simp)) f⟩
   | ret=>exact ⟨_,q,j,g,.pass (x:=.inLoop c) rfl (fun _ _=>.inl (by simp)) f⟩
   | panic N=>exact ⟨_,q,j,g,.pass (x:=.inLoop c) rfl (fun _ _=>.inl (by simp)) f⟩
   | outgrown=>exact ⟨_,q,j,g,.pass (x:=.inLoop c) rfl (fun _ _=>.inl (by simp)) f⟩
 obtain ⟨e,s,w',g,f⟩:=key D a w I
 exact ⟨e,s,w',g,.of_steps (.one step_loop) f⟩
theorem Anq {n:Nat} {x:AV} (h:x.under2 n=true) (hx:∀cs,x≠.agg cs):x.under1 n=true:=by
 cases x <;> first | exact h | exact (hx _ rfl).elim
theorem Conc.restrict {σ:Bk} {ι A:Ci} {H H':Hp} {n:Nat} (D:∀h,h<n->A h=ι h) (G:∀h,h<n->H' h=H h) {x:AV} {v:Value} (hx:x.under n=true) (h:Conc σ ι H x v):Conc σ A H' x v:=by
 have l:∀{x:AV} {v:Value},x.under0 n=true->Conc σ ι H x v->Conc σ A H' x v:=by
  intro x v hx h
  cases h with
  | cc h=>exact .cc h
  | loc h off b hb=>exact .loc h off b (by rw [D h (F3 hx)]; exact hb)
  | mp h b hb=>exact .mp h b (by rw [D h (F3 hx)]; exact hb)
  | arr h k off len v I B y=>
   have s:=F3 hx
   exact .arr h k off len v (by rw [G h s]; exact I) (by rw [D h s,G h s]; exact B) y
  | el h k i j v I B y=>
   have s:=F3 hx
   exact .el h k i j v (by rw [G h s]; exact I) (by rw [D h s,G h s]; exact B) y
  | ref cs b off C E fr g R hc h1 S=>exact .ref cs b off C E fr g R hc h1 S
  | agg=>cases hx
  | tup=>cases hx
  | fn=>cases hx
 have key:∀{x:AV} {v:Value},x.under1 n=true->Conc σ ι H x v->Conc σ A H' x v:=by
  intro x v hx h
  cases x with
  | fn f cs=>
   obtain ⟨vs,rfl,z,h⟩:=h.fn_inv
   exact .fn f cs vs z fun i c u h1 h2=>l (List.all_eq_true.1 hx c (List.mem_of_getElem? h1)) (h i c u h1 h2)
  | agg cs=>cases hx
  | tup cs=>cases hx
  | val u=>exact l (x:=(.val u)) hx h
  | loc q off=>exact l (x:=(.loc q off)) hx h
  | arr q k off len=>exact l (x:=(.arr q k off len)) hx h
  | el q k i j=>exact l (x:=(.el q k i j)) hx h
  | mp q=>exact l (x:=(.mp q)) hx h
  | ref cs=>exact l (x:=(.ref cs)) hx h
  | sl sz xs=>exact l (x:=(.sl sz xs)) hx h
 have cells:∀{cs:List AV},cs.all (AV.under1 n)=true->∀(i:Nat) (c:AV) (u:Value),cs[i]? = some c->Conc σ ι H c u->Conc σ A H' c u :=
  fun L i c u hc h=>key (List.all_eq_true.1 L c (List.mem_of_getElem? hc)) h
 cases x with
 | agg cs=>
  cases h with
  | cc h=>exact .cc h
  | agg _ vs z h=>exact .agg cs vs z fun i c u h1 h2=>cells hx i c u h1 (h i c u h1 h2)
 | tup cs=>
  cases h with
  | cc h=>exact .cc h
  | tup _ vs z h=>
   refine .tup cs vs z fun i c u h1 h2=>?_
   have M:=List.all_eq_true.1 hx c (List.mem_of_getElem? h1)
   have hc:=h i c u h1 h2
   cases c with
   | agg ds=>
    obtain ⟨N,rfl,J,B⟩:=hc.agg_inv
    exact .agg ds N J fun j d v g1 g2=>cells M j d v g1 (B j d v g1 g2)
   | _=>exact key (Anq M (by intro cs e; cases e)) hc
 | fn f cs=>
  cases h with
  | cc h=>exact .cc h
  | fn _ _ vs z h=>exact .fn f cs vs z fun i c u h1 h2=>cells hx i c u h1 (h i c u h1 h2)
 | val v=>exact key rfl h
 | loc h off=>exact key hx h
 | arr h k off len=>exact key hx h
 | el h k i j=>exact key hx h
 | mp h=>exact key hx h
 | ref cs=>exact key rfl h
 | sl sz xs=>exact key rfl h
theorem Ih.spec {H H':Hp} {n:Nat}:∀{k:Nat},Ih H H' k n->∀h,h<k->H h=H' h/\(H' h).under n=true
 | 0,_,h,b=>by omega
 | k+1,c,h,b=>by
  by_cases e:h=k
  .subst e; exact c.1
  .exact Ih.spec c.2 h (by omega)
theorem Ig.spec {e:Ch}:∀{l:List (Nat×AV)},Ig e l->∀p∈l,e p.1=p.2
 | [],_,p,hp=>by cases hp
 | q::l,h,p,hp=>by
  rcases List.mem_cons.1 hp with rfl | hp
  .exact h.1
  .exact Ig.spec h.2 p hp
theorem Ae1 (c:List Nat) (e:Ch) (u:Nat->Value) (l:List (Nat×AV)) (s:Nat):(∃p∈l,p.1=s/\Li c e u l s=p.2)\/(s∈c/\Li c e u l s = .val (u s))\/(s ∉ c/\Li c e u l s=e s):=by
 have base:(s∈c/\(c.foldr (fun s e=>Bs e s (.val (u s))) e) s = .val (u s))\/(s ∉ c/\(c.foldr (fun s e=>Bs e s (.val (u s))) e) s=e s):=by
  induction c with
  | nil=>exact .inr ⟨by simp,rfl⟩
  | cons t c ih=>
   simp only [List.foldr_cons]
   by_cases b:s=t
   .subst b; exact .inl ⟨by simp,Cy _ _ _⟩
   .rw [Dm _ _ b]
    rcases ih with ⟨h1,h2⟩ | ⟨h1,h2⟩
    .exact .inl ⟨by simp [h1],h2⟩
    .exact .inr ⟨by simp [h1,b],h2⟩
 unfold Li
 induction l with
 | nil=>exact .inr base
 | cons p l ih=>
  simp only [List.foldr_cons]
  by_cases b:s=p.1
  .exact .inl ⟨p,by simp,b.symm,by rw [b]; exact Cy _ _ _⟩
  .rw [Dm _ _ b]
   rcases ih with ⟨q,f,h1,h2⟩ | h | h
   .exact .inl ⟨q,by simp [f],h1,h2⟩
   .exact .inr (.inl h)
   .exact .inr (.inr h)
theorem Ae2:∀(i:List Nat) {e:Ch} {H:Hp} {K:Ch->Hp->Prop} {n:Nat} {σ:Bk} {ι:Ci} {a:Act} {w:World},Ws i e H K->St σ ι H F W w->Ef σ ι H e a->Eh H n ->
  ∃g e' H',K e' H'/\Le σ ι H g ι H'/\St g ι H' F W w/\Ef g ι H' e' a/\Eh H' n
 | [],e,H,K,n,σ,ι,a,w,h,s,f,c=>⟨σ,e,H,h,Le.refl _ _ _,s,f,c⟩
 | t::i,e,H,K,n,σ,ι,a,w,h,s,f,c=>by
  simp only [Ws] at h
  split at h
  .rename_i hd k len hx
   split at h
   .rename_i E sz xs l
    obtain ⟨hk,S,h⟩:=h
    obtain ⟨G,b,s1,u⟩:=s.freeze l
    have x:Ef G ι (Bs H hd .dead) (Bs e t (.sl sz xs)) a:=by
     intro q z
     by_cases B:q=t
     .subst B
      rw [Cy]
      have hc:=f q z
      rw [hx] at hc
      have:=u 0 len _ (by omega) (hc.arr_inv l hk)
      rw [List.drop_zero,List.take_of_length_le (by omega)] at this
      exact .cc this
     .rw [Dm _ _ B]; exact (f q z).mono b
    have hn1:Eh (Bs H hd .dead) n:=by
     intro m A
     have j:hd≠m:=by
      intro y; subst y
      have:=c hd A; rw [l] at this; cases this
     rw [Dm _ _ (Ne.symm j)]; exact c m A
    obtain ⟨D,y,R,N,M,L,J,I⟩:=Ae2 i h s1 x hn1
    exact ⟨D,y,R,N,b.trans M,L,J,I⟩
   .exact h.elim
  .exact h.elim
theorem Ae3 {N:Nat} {ops:Array Oper} (h:(ops.toList.all fun o=>(Iz ops o).all fun s=>Nat.blt s N)=true):Wh ops N:=by
 intro i o c s b
 rw [List.all_eq_true] at h
 have:=h o (by simpa using Array.mem_of_getElem? c)
 rw [List.all_eq_true] at this
 exact F3 (this s b)
theorem Pg (hT:Dc P C.T) (hm:P.follows .mixedOrders=true):∀(c:Code) (Q':Ex->Nat->Ch->Hp->Prop) (n:Nat) (e:Ch) (H:Hp) (σ:Bk) (ι:Ci) (a:Act) (w:World) (Q:Exit->Act->World->Prop),
  H3 a.tmps.size c=true->vc P C c Q' n e H->St σ ι H F W w->Ef σ ι H e a->Eh H n ->
  (∀x n' e' H' σ' ι' a' w',Q' x n' e' H'->Le σ ι H σ' ι' H'->St σ' ι' H' F W w'->Ef σ' ι' H' e' a'->Eh H' n'->n<=n'->a'.tmps.size=a.tmps.size->a'.defers=a.defers->Es (E8 c) a a'->Q x.out a' w')->c.wp P Q a w
 | .skip,Q',n,e,H,σ,ι,a,w,Q,_,h,s,S,R,hk=>wp_skip (hk .normal n e H σ ι a w h (Le.refl _ _ _) s S R (Nat.le_refl _) rfl rfl (Es.refl _ _))
 | .exit id,Q',n,e,H,σ,ι,a,w,Q,_,h,s,S,R,hk=>wp_exit (hk (.exit id) n e H σ ι a w h (Le.refl _ _ _) s S R (Nat.le_refl _) rfl rfl (Es.refl _ _))
 | .ret,Q',n,e,H,σ,ι,a,w,Q,_,h,s,S,R,hk=>wp_ret (hk .ret n e H σ ι a w h (Le.refl _ _ _) s S R (Nat.le_refl _) rfl rfl (Es.refl _ _))
 | .region id ops draw,Q',n,e,H,σ,ι,a,w,Q,u,h,s,S,R,hk=>by
  simp only [vc] at h
  obtain ⟨σ0,e0,az,h,ao,s0,ax,b8⟩:=Ae2 _ h s S R
  obtain ⟨n',e',H',accs,hK,_,bd,au,hf,ai⟩:=Aak hT ops.toList [] 0 n e0 az [] _ (by simp) rfl b8 h
  have aq:=Ae3 u
  cases draw with
  | false=>
   simp only [cond_false] at hK
   refine wp_region ?_
   have:List.range ops.size=List.range' 0 ops.toList.length:=by rw [List.range_eq_range']; simp
   rw [this]
   refine ai.wpOps s0 ax aq ?_
   intro σ' ι' a' w' le s' am g l hu
   exact hk .normal n' e' H' σ' ι' a' w' hK (ao.trans le) s' am hf au g l hu
  | true=>
   simp only [cond_true] at hK
   obtain ⟨b7,hK⟩:=hK
   refine wp_region_any hm ?_
   have G:ops=ops.toList.toArray:=by simp
   rw [G]
   simp only [List.size_toArray]
   refine Z0 (accs:=accs) (e':=e') (H':=H') b7 ops.toList.length _ (List.range' 0 ops.toList.length) e0 az σ0 ι a _ (by rw [<-G]; exact ai) (List.pairwise_lt_range' ..) ?_ (by simp) ?_ (by simp) (s0.drew _) ax (by rw [<-G]; exact aq) ?_
   .intro i
    simp only [List.mem_range'_1,Array.getD_eq_getD_getElem?]
    constructor
    .rintro ⟨_,h2⟩
     refine ⟨by omega,?_⟩
     have:i<ops.size:=by simpa using h2
     simp [this]
    .rintro ⟨h1,_⟩; omega
   .intro k o bc hl
    exfalso
    simp only [Array.getD_eq_getD_getElem?] at hl
    by_cases ag:k<ops.size
    .simp [ag] at hl
    .simp [ag] at hl
   .intro σ' ι' a' w' le s' am g l hu
    exact hk .normal n' e' H' σ' ι' a' w' hK (ao.trans le) s' am hf au g l (by rw [<-G] at hu; exact hu)
 | .seq c1 c2,Q',n,e,H,σ,ι,a,w,Q,u,h,s,S,R,hk=>by
  simp only [H3,Bool.and_eq_true] at u
  simp only [vc] at h
  refine wp_seq (Pg hT hm c1 _ n e H σ ι a w _ u.1 h s S R ?_)
  intro x n1 G M B D a1 N z f s1 j hn1 A g l hu
  cases x with
  | normal=>
   refine Pg hT hm c2 Q' n1 G M B D a1 N Q (by rw [g]; exact u.2) z s1 j hn1 ?_
   intro x n2 e2 H2 σ2 ι2 a2 w2 b6 U s2 ae hn2 ac V X ab
   exact hk x n2 e2 H2 σ2 ι2 a2 w2 b6 (f.trans U) s2 ae hn2 (by omega) (V.trans g) (X.trans l) ((hu.mono (by simp [E8]; exact fun s h=>.inl h)).trans (ab.mono (by simp [E8]; exact fun s h=>.inr h)))
  | exit id=>exact hk (.exit id) n1 G M B D a1 N z f s1 j hn1 A g l (hu.mono (by simp [E8]; exact fun s h=>.inl h))
  | ret=>exact hk .ret n1 G M B D a1 N z f s1 j hn1 A g l (hu.mono (by simp [E8]; exact fun s h=>.inl h))
 | .cond x c1 c2,Q',n,e,H,σ,ι,a,w,Q,u,h,s,S,R,hk=>by
  simp only [H3,Bool.and_eq_true] at u
  simp only [vc,Aey] at h
  split at h
  .rename_i t hx
   have hc:=S.eval (x:=x) (fun t ht=>by
    cases x with
    | tmp q=>cases ht; exact F3 u.1.1
    | _=>cases ht)
   rw [hx] at hc
   have hv:=hc.val_inv
   cases t with
   | true=>
    refine wp_cond_true hv (Pg hT hm c1 Q' n e H σ ι a w Q u.1.2 h s S R ?_)
    intro x n1 G M B D a1 N z f s1 j hn1 A g l hu
    exact hk x n1 G M B D a1 N z f s1 j hn1 A g l (hu.mono (by simp [E8]; exact fun s h=>.inl h))
   | false=>
    refine wp_cond_false hv (Pg hT hm c2 Q' n e H σ ι a w Q u.2 h s S R ?_)
    intro x n1 G M B D a1 N z f s1 j hn1 A g l hu
    exact hk x n1 G M B D a1 N z f s1 j hn1 A g l (hu.mono (by simp [E8]; exact fun s h=>.inr h))
  .exact h.elim
 | .block id c,Q',n,e,H,σ,ι,a,w,Q,u,h,s,S,R,hk=>by
  simp only [vc] at h
  refine wp_block (Pg hT hm c _ n e H σ ι a w _ u h s S R ?_)
  intro x n1 G M B D a1 N z f s1 j hn1 A g l hu
  cases x with
  | normal=>exact hk .normal n1 G M B D a1 N z f s1 j hn1 A g l hu
  | exit i=>
   simp only [Ex.out,Exit.inBlock]
   by_cases hi:i=id
   .subst hi
    rw [if_pos rfl]
    have:Nat.beq i i=true:=Nat.beq_refl i
    simp only [this,cond_true] at z
    exact hk .normal n1 G M B D a1 N z f s1 j hn1 A g l hu
   .rw [if_neg hi]
    have:Nat.beq i id=false:=by
     cases hb:Nat.beq i id
     .rfl
     .exact (hi (Nat.eq_of_beq_eq_true hb)).elim
    simp only [this,cond_false] at z
    exact hk (.exit i) n1 G M B D a1 N z f s1 j hn1 A g l hu
  | ret=>exact hk .ret n1 G M B D a1 N z f s1 j hn1 A g l hu
 | .loop c,Q',n,e,H,σ,ι,a,w,Q,u,h,s,S,R,hk=>by
  simp only [vc] at h
  obtain ⟨I,ap,iv,hv,m,i0,hb,h0,b4,ba,step⟩:=h
  have b0:∀x,n<=x->ι x = .none:=by
   intro x hx
   have:=s.obj x; unfold C5 at this; rw [R x hx] at this; exact this
  have ak:∀i,∀p∈hv i,p.1<n:=by
   intro i p hp
   have:=hb i
   unfold Mj at this
   rw [Bool.and_eq_true,List.all_eq_true,List.all_eq_true] at this
   exact F3 (this.2 p hp)
  have av:∀i,∀p∈iv i,p.2.under n=true:=by
   intro i p hp
   have:=hb i
   unfold Mj at this
   rw [Bool.and_eq_true,List.all_eq_true,List.all_eq_true] at this
   exact this.1 p hp
  have ah:∀i,Eh (C1 H (hv i)) n:=by
   intro i x hx
   rw [Rl (fun p hp e=>by have:=ak i p hp; omega)]; exact R x hx
  let J:Nat->Act->World->Prop:=fun k a' w'=>∃i σ' ι',m i=k/\ap i/\Le σ ι H σ' ι' (C1 H (hv i))/\St σ' ι' (C1 H (hv i)) F W w' /\
   Ef σ' ι' (C1 H (hv i)) (Li (E8 c) e (fun s=>a'.tmps.getD s undef) (iv i)) a'/\a'.tmps.size=a.tmps.size/\a'.defers=a.defers/\Es (E8 c) a a'
  have a6:∀(i:I) (B:Bk) (D:Ci) (M:Hp) (G:Ch) (a1:Act) (N:World),ap i->Ig G (iv i)->Ih M (C1 H (hv i)) n n->Le σ ι H B D M->St B D M F W N->Ef B D M G a1->a1.tmps.size=a.tmps.size ->
    a1.defers=a.defers->Es (E8 c) a a1->J (m i) a1 N:=by
   intro i B D M G a1 N hi ar aw f s1 j L Y a8
   let ι2:Ci:=fun x=>if x<n then D x else .none
   have a7:∀x,x<n->ι2 x=D x:=fun x hx=>if_pos hx
   have aa:∀x,x<n->C1 H (hv i) x=M x:=fun x hx=>((aw.spec) x hx).1.symm
   have U:Le σ ι H B ι2 (C1 H (hv i)):=by
    refine ⟨f.sto,fun x=>?_⟩
    by_cases hx:x<n
    .rw [a7 x hx,aa x hx]; exact f.obj x
    .rw [b0 x (by omega),R x (by omega)]; exact HLe.of_none
   have s2:St B ι2 (C1 H (hv i)) F W N:=by
    refine ⟨s1.sto,s1.fra,fun x=>?_,?_,s1.os,s1.tape,s1.output,s1.glo⟩
    .by_cases hx:x<n
     .have ho:=s1.obj x
      have aj:=((aw.spec) x hx).2
      unfold C5 at ho ⊢
      rw [aa x hx] at aj ⊢
      rw [a7 x hx]
      cases af:M x with
      | none=>rw [af] at ho; exact ho
      | dead=>trivial
      | cells E cs=>
       rw [af] at ho aj
       obtain ⟨b,Cc,g1,g2,g3,g4,g5,g6⟩:=ho
       refine ⟨b,Cc,g1,g2,g3,g4,g5,fun q cq v z b3=>(g6 q cq v z b3).restrict a7 aa ?_⟩
       have:=List.all_eq_true.1 aj cq (List.mem_of_getElem? z)
       exact Aag this
      | rows E sz xs=>rw [af] at ho; exact ho
      | map es=>rw [af] at ho; exact ho
     .unfold C5
      rw [ah i x (by omega)]
      exact if_neg hx
    .intro x y b lx ly bx ay
     have hx:x<n:=by
      rcases Nat.lt_or_ge x n with hx | hx
      .exact hx
      .rw [ah i x hx] at lx; cases lx
     have hy:y<n:=by
      rcases Nat.lt_or_ge y n with hy | hy
      .exact hy
      .rw [ah i y hy] at ly; cases ly
     rw [aa x hx] at lx; rw [aa y hy] at ly
     rw [a7 x hx] at bx; rw [a7 y hy] at ay
     exact s1.inj x y b lx ly bx ay
   refine ⟨i,B,ι2,rfl,hi,U,s2,?_,L,Y,a8⟩
   intro q z
   rcases Ae1 (E8 c) e (fun s=>a1.tmps.getD s undef) (iv i) q with ⟨p,hp,rfl,ad⟩ | ⟨hw,ad⟩ | ⟨hw,ad⟩
   .rw [ad,<-ar.spec p hp]
    refine (j p.1 z).restrict a7 aa ?_
    rw [ar.spec p hp]; exact av i p hp
   .rw [ad]; exact .of_val _
   .rw [ad,a8 q hw]; exact (S q (by omega)).mono U
  refine Ae0 J (m i0) (a6 i0 σ ι H e a w h0 b4 ba (Le.refl _ _ _) s S rfl rfl (Es.refl _ _)) ?_
  rintro k a1 N ⟨i,B,D,rfl,hi,f,s1,j,L,Y,a8⟩
  refine Pg hT hm c _ n _ _ B D a1 N _ (by rw [L]; exact u) (step i (fun s=>a1.tmps.getD s undef) hi) s1 j (ah i) ?_
  intro x n2 e2 H2 σ2 ι2 a2 w2 z U s2 ae hn2 ac V X ab
  cases x with
  | normal=>
   obtain ⟨i',b9,b5,bb,ag⟩:=z
   exact ⟨m i',ag,a6 i' σ2 ι2 H2 e2 a2 w2 b9 b5 bb (f.trans U) s2 ae (V.trans L) (X.trans Y) (a8.trans ab)⟩
  | exit id=>exact hk (.exit id) n2 e2 H2 σ2 ι2 a2 w2 z (f.trans U) s2 ae hn2 ac (V.trans L) (X.trans Y) (a8.trans ab)
  | ret=>exact hk .ret n2 e2 H2 σ2 ι2 a2 w2 z (f.trans U) s2 ae hn2 ac (V.trans L) (X.trans Y) (a8.trans ab)
 | .rangeFunc ..,_,_,_,_,_,_,_,_,_,_,h,_,_,_,_=>by simp only [vc] at h
 | .scope _,_,_,_,_,_,_,_,_,_,_,h,_,_,_,_=>by simp only [vc] at h
 | .label _,_,_,_,_,_,_,_,_,_,_,h,_,_,_,_=>by simp only [vc] at h
 | .goto _,_,_,_,_,_,_,_,_,_,_,h,_,_,_,_=>by simp only [vc] at h
 | .refuse _,_,_,_,_,_,_,_,_,_,_,h,_,_,_,_=>by simp only [vc] at h
end
end Go.Ab
namespace Go.Ab
def Wu (T:De) (e:Ch) (H:Hp):ResultVar->Option AV
 | .tmp t=>some (e t)
 | .cell a t=>
  match e a with
  | .loc h off=>
   match H h with
   | .cells _ cs=>
    match T t with
    | some i=>bif i.isAgg then (bif Nat.ble (off+i.size) cs.length then some (.agg ((cs.drop off).take i.size)) else none) else cs[off]?
    | none=>none
   | _=>none
  | _=>none
def Wv (x:AV) (H:Hp) (K:AV->Hp->Prop):Prop :=
 match x with
 | .arr h k 0 len=>
  match H h with
  | .rows _ sz xs=>I0 k xs (I0 len xs (K (.sl sz xs) (Bs H h .dead)))
  | _=>False
 | x=>K x H
def Ww:List AV->Hp->(List AV->Hp->Prop)->Prop
 | [],H,K=>K [] H
 | x::xs,H,K=>Wv x H fun y H=>Ww xs H fun ys H=>K (y::ys) H
def fin (x:AV) (H:Hp) (K:AV->Hp->Prop):Prop :=
 match x with
 | .agg cs=>Ww cs H fun cs H=>K (.agg cs) H
 | x=>Wv x H K
def Wx:List AV->Hp->(List AV->Prop)->Prop
 | [],_,K=>K []
 | x::xs,H,K=>fin x H fun y H=>Wx xs H fun ys=>K (y::ys)
def Rr (T:De) (e:Ch) (H:Hp):List ResultVar->Option (List AV)
 | []=>some []
 | r::rs=>
  match Wu T e H r with
  | none=>none
  | some x=>
   match Rr T e H rs with
   | none=>none
   | some xs=>some (x::xs)
def Ua:List AV->AV
 | [x]=>x
 | xs=>.tup xs
def Ph (T:De) (b:List ResultVar) (K:AV->Prop) (e:Ch) (H:Hp):Prop :=
 match Rr T e H b with
 | none=>False
 | some xs=>Wx xs H fun ys=>K (Ua ys)
def Ub (args:List AV):Ch:=fun n=>args.getD n (.val undef)
def Pi:ResultVar->Nat
 | .tmp t=>t
 | .cell a _=>a
def Uc (fn:Func) (c:Code) (k:Nat):Bool:=H3 fn.ntmps c&&(fn.results.toList.all fun r=>Nat.blt (Pi r) fn.ntmps)&&Nat.ble k fn.ntmps
section
variable {P:Program} {T:De} {F:Bk} {W w:World}
theorem Ae4 {x:AV} {H:Hp} {K:AV->Hp->Prop} {σ:Bk} {ι:Ci} {v:Value} (h:Wv x H K) (s:St σ ι H F W w) (hc:Conc σ ι H x v) :
  ∃b y H',K y H'/\Le σ ι H b ι H'/\St b ι H' F W w/\Conc b ι H' y v:=by
 unfold Wv at h
 split at h
 .rename_i hd k len
  split at h
  .rename_i E sz xs g
   obtain ⟨hk,j,h⟩:=h
   obtain ⟨i,c,s1,f⟩:=s.freeze g
   refine ⟨i,.sl sz xs,Bs H hd .dead,h,c,s1,.cc ?_⟩
   have:=f 0 len _ (by omega) (hc.arr_inv g hk)
   rwa [List.drop_zero,List.take_of_length_le (by omega)] at this
  .exact h.elim
 .exact ⟨σ,_,H,h,Le.refl _ _ _,s,hc⟩
theorem Ae5:∀{cs:List AV} {vs:List Value} {H:Hp} {K:List AV->Hp->Prop} {σ:Bk} {ι:Ci},Ww cs H K->St σ ι H F W w->vs.length=cs.length->(∀(i:Nat) (c:AV) (v:Value),cs[i]? = some c->vs[i]? = some v->Conc σ ι H c v) ->
  ∃j ys H',K ys H'/\Le σ ι H j ι H'/\St j ι H' F W w/\vs.length=ys.length/\∀(i:Nat) (c:AV) (v:Value),ys[i]? = some c->vs[i]? = some v->Conc j ι H' c v
 | [],vs,H,K,σ,ι,h,s,g,hc=>⟨σ,[],H,h,Le.refl _ _ _,s,g,hc⟩
 | x::cs,[],H,K,σ,ι,h,s,g,hc=>by simp at g
 | x::cs,v::vs,H,K,σ,ι,h,s,g,hc=>by
  simp only [Ww] at h
  obtain ⟨B,y,D,h1,f,s1,z⟩:=Ae4 h s (hc 0 x v (by simp) (by simp))
  obtain ⟨l,ys,A,h2,b,s2,k,q⟩:=Ae5 (vs:=vs) h1 s1 (by simpa using g) (fun i c u hi hu=>(hc (i+1) c u (by simpa using hi) (by simpa using hu)).mono f)
  refine ⟨l,y::ys,A,h2,f.trans b,s2,by simp [k],fun i c u hi hu=>?_⟩
  cases i with
  | zero=>simp at hi hu; subst hi; subst hu; exact z.mono b
  | succ i=>exact q i c u (by simpa using hi) (by simpa using hu)
theorem Ae6 {x:AV} {H:Hp} {K:AV->Hp->Prop} {σ:Bk} {ι:Ci} {v:Value} (h:fin x H K) (s:St σ ι H F W w) (hc:Conc σ ι H x v) :
  ∃b y H',K y H'/\Le σ ι H b ι H'/\St b ι H' F W w/\Conc b ι H' y v:=by
 unfold fin at h
 split at h
 .rename_i cs
  obtain ⟨vs,rfl,l,k⟩:=hc.agg_inv
  obtain ⟨j,ys,z,h1,f,s1,g,q⟩:=Ae5 (vs:=vs.toList) h s (by simpa using l) (fun i c u hi hu=>k i c u hi (by simpa using hu))
  exact ⟨j,.agg ys,z,h1,f,s1,.agg ys vs (by simpa using g) (fun i c u hi hu=>q i c u hi (by simpa using hu))⟩
 .exact Ae4 h s hc
theorem Ae7:∀{xs:List AV} {vs:List Value} {H:Hp} {K:List AV->Prop} {σ:Bk} {ι:Ci},Wx xs H K->St σ ι H F W w->vs.length=xs.length->(∀(i:Nat) (c:AV) (v:Value),xs[i]? = some c->vs[i]? = some v->Conc σ ι H c v) ->
  ∃j ys H',K ys/\Le σ ι H j ι H'/\St j ι H' F W w/\vs.length=ys.length/\∀(i:Nat) (c:AV) (v:Value),ys[i]? = some c->vs[i]? = some v->Conc j ι H' c v
 | [],vs,H,K,σ,ι,h,s,g,hc=>⟨σ,[],H,h,Le.refl _ _ _,s,g,hc⟩
 | x::cs,[],H,K,σ,ι,h,s,g,hc=>by simp at g
 | x::cs,v::vs,H,K,σ,ι,h,s,g,hc=>by
  simp only [Wx] at h
  obtain ⟨B,y,D,h1,f,s1,z⟩:=Ae6 h s (hc 0 x v (by simp) (by simp))
  obtain ⟨l,ys,A,h2,b,s2,k,q⟩:=Ae7 (vs:=vs) h1 s1 (by simpa using g) (fun i c u hi hu=>(hc (i+1) c u (by simpa using hi) (by simpa using hu)).mono f)
  refine ⟨l,y::ys,A,h2,f.trans b,s2,by simp [k],fun i c u hi hu=>?_⟩
  cases i with
  | zero=>simp at hi hu; subst hi; subst hu; exact z.mono b
  | succ i=>exact q i c u (by simpa using hi) (by simpa using hu)
def Pj (b:Array Value):ResultVar->Sem Value
 | .tmp t=>pure (b.getD t undef)
 | .cell a t=>do loadVar t (<-asAddr (b.getD a undef))
theorem Anr (G:Dc P T) {e:Ch} {H:Hp} {σ:Bk} {ι:Ci} {a:Act} (s:St σ ι H F W w) (D:Ef σ ι H e a) {r:ResultVar} {x:AV} (B:Pi r<a.tmps.size) (h:Wu T e H r=some x) :
  ∃v,(Pj a.tmps r).run P w = .ok v w/\Conc σ ι H x v:=by
 cases r with
 | tmp t=>
  simp only [Wu] at h; cases h
  exact ⟨_,rfl,D t B⟩
 | cell p t=>
  simp only [Wu] at h
  split at h
  .rename_i hd off hx
   split at h
   .rename_i E cs M
    split at h
    .rename_i i A
     have hc:=D p B
     rw [hx] at hc
     obtain ⟨b,hb,z⟩:=hc.loc_inv
     have k:=s.obj hd
     unfold C5 at k; rw [M] at k
     obtain ⟨R,C,L,_,_,h3,N,J⟩:=k
     rw [hb] at L; cases L
     have h1:=Wb (G t i A) w
     cases y:i.isAgg with
     | true=>
      rw [y] at h h1
      simp only [cond_true] at h
      cases g:Nat.ble (off+i.size) cs.length with
      | false=>rw [g] at h; cases h
      | true=>
       rw [g] at h; cases h
       have g:=Nat.le_of_ble_eq_true g
       have h2:=M9 (G t i A) w
       have I:=run_loadCells_list (P:=P) w ⟨b,off,none⟩ ((C.toList.drop off).take i.size) (by
        intro j v hj
        have f:j<i.size:=by
         have:=(List.getElem?_eq_some_iff.1 hj).1; simp at this; omega
        rw [List.getElem?_take_of_lt f,List.getElem?_drop,Array.getElem?_toList] at hj
        rw [J4,Jh h3]; exact hj)
       have q:((C.toList.drop off).take i.size).length=i.size:=by simp; omega
       rw [q] at I
       refine ⟨_,by simp only [Pj,z,asAddr,Sem.run_bind,Sem.run_pure,Result.andThen_ok,loadVar,h1,if_true,h2,I]; rfl,?_⟩
       refine .agg _ _ (by simp; omega) (fun j c u g1 g2=>?_)
       have f:j<i.size:=by
        have:=(List.getElem?_eq_some_iff.1 g1).1; simp at this; omega
       rw [List.getElem?_take_of_lt f,List.getElem?_drop] at g1
       rw [List.getElem?_toArray,List.getElem?_take_of_lt f,List.getElem?_drop,Array.getElem?_toList] at g2
       exact J _ c u g1 g2
     | false=>
      rw [y] at h h1
      simp only [cond_false] at h
      have f:off<C.size:=by rw [N]; exact (List.getElem?_eq_some_iff.1 h).1
      have l:w.cell? ⟨b,off,none⟩=some C[off]:=by rw [Jh h3]; simp [f]
      exact ⟨C[off],by simp [Pj,z,asAddr,loadVar,h1,l],J off x _ h (by simp [f])⟩
    .cases h
   .cases h
  .cases h
theorem Aal (k:Dc P T) {e:Ch} {H:Hp} {σ:Bk} {ι:Ci} {a:Act} (s:St σ ι H F W w) (j:Ef σ ι H e a):∀{b:List ResultVar} {xs:List AV},(∀r∈b,Pi r<a.tmps.size)->Rr T e H b=some xs ->
  ∃vs:List Value,(b.mapM (Pj a.tmps)).run P w = .ok vs w/\vs.length=xs.length/\∀(i:Nat) (c:AV) (v:Value),xs[i]? = some c->vs[i]? = some v->Conc σ ι H c v
 | [],xs,_,h=>by
  simp only [Rr] at h; cases h
  exact ⟨[],by simp,rfl,by simp⟩
 | r::b,xs,g,h=>by
  simp only [Rr] at h
  split at h
  .cases h
  .rename_i x hx
   split at h
   .cases h
   .rename_i ys hy
    cases h
    obtain ⟨v,h1,z⟩:=Anr k s j (g r (by simp)) hx
    obtain ⟨vs,h2,q,y⟩:=Aal k s j (fun l f=>g l (by simp [f])) hy
    refine ⟨v::vs,by simp [List.mapM_cons,h1,h2],by simp [q],fun i c u hi hu=>?_⟩
    cases i with
    | zero=>simp at hi hu; subst hi; subst hu; exact z
    | succ i=>exact y i c u (by simpa using hi) (by simpa using hu)
theorem Ae8 (fn:Func) (b:Array Value):results fn b=(fn.results.mapM (Pj b) >>= fun vs=>pure (if h:vs.size=1 then vs[0] else .tuple vs)):=by
 unfold results
 congr 1
theorem Ans (A:Dc P T) {fn:Func} {K:AV->Prop} {e:Ch} {H:Hp} {σ:Bk} {ι:Ci} {a:Act} (s:St σ ι H F W w) (z:Ef σ ι H e a) (q:∀r∈fn.results.toList,Pi r<a.tmps.size) (h:Ph T fn.results.toList K e H) :
  ∃v f H' r,(results fn a.tmps).run P w = .ok v w/\K r/\Le σ ι H f ι H'/\St f ι H' F W w/\Conc f ι H' r v:=by
 unfold Ph at h
 split at h
 .exact h.elim
 .rename_i xs hx
  obtain ⟨vs,h1,x,B⟩:=Aal A s z q hx
  obtain ⟨f,ys,H',k,le,s',b,j⟩:=Ae7 h s x B
  have g:(fn.results.mapM (Pj a.tmps)).run P w = .ok vs.toArray w:=by
   rw [Array.mapM_eq_mapM_toList]
   simp [h1]
  refine ⟨if h:vs.toArray.size=1 then vs.toArray[0] else .tuple vs.toArray,f,H',Ua ys,?_,k,le,s',?_⟩
  .rw [Ae8,Sem.run_bind,g]; rfl
  .match ys,vs,b,j with
   | [y],[v],_,j=>exact j 0 y v rfl rfl
   | [],[],_,_=>exact .tup [] #[] rfl (by simp)
   | y::D::ys,v::l::vs,b,j=>
    have:¬(v::l::vs).toArray.size=1:=by simp
    rw [dif_neg this]
    exact .tup _ _ (by simpa using b) (fun i c u hi hu=>j i c u hi (by simpa using hu))
   | [],_::_,b,_=>simp at b
   | _::_,[],b,_=>simp at b
   | [_],_::_::_,b,_=>simp at b
   | _::_::_,[_],b,_=>simp at b
theorem St.forget {σ:Bk} {ι:Ci} {H:Hp} (s:St σ ι H F W w):St σ ι0 H0 F W w :=
 ⟨s.sto,s.fra,fun _=>rfl,(fun _ _ _ b=>by cases b),s.os,s.tape,s.output,s.glo⟩
theorem Ae9 {σ:Bk} {ι:Ci} {H:Hp} {args:List AV} {vs:Array Value} {N:Nat} (h:Ld σ ι H args vs):Ef σ ι H (Ub args) ⟨vs++Array.replicate (N-vs.size) undef,[]⟩:=by
 intro q c
 simp only [Ub,Array.getD_eq_getD_getElem?]
 by_cases b:q<args.length
 .have hq':q<vs.size:=by rw [h.1]; exact b
  rw [Array.getElem?_append_left hq']
  have h1:args[q]? = some args[q]:=List.getElem?_eq_getElem b
  have h2:vs[q]? = some vs[q]:=Array.getElem?_eq_getElem hq'
  have:=h.2 q _ _ h1 h2
  simpa [List.getD,h1,h2] using this
 .rw [Array.getElem?_append_right (by rw [h.1]; omega)]
  have h1:args[q]? = none:=List.getElem?_eq_none (by omega)
  have hq':q-vs.size<N-vs.size:=by
   simp at c
   have:=h.1
   omega
  simp only [List.getD,h1,Option.getD_none]
  simp [hq']
  exact .of_val undef
end
end Go.Ab
namespace Go.Ab
inductive Tr where
 | leaf
 | node (l:Tr) (k:Nat) (v:TI) (r:Tr)
def Tr.find:Tr->Nat->Option TI
 | .leaf,_=>none
 | .node l k v r,t=>bif Nat.beq t k then some v else bif Nat.blt t k then l.find t else r.find t
def Tr.toList:Tr->List (Nat×TI)
 | .leaf=>[]
 | .node l k v r=>l.toList++(k,v)::r.toList
theorem Tr.find_mem:∀(t:Tr) (k:Nat) (v:TI),t.find k=some v->(k,v)∈t.toList
 | .leaf,k,v,h=>by cases h
 | .node l b f r,k,v,h=>by
  simp only [Tr.find] at h
  simp only [Tr.toList,List.mem_append,List.mem_cons]
  cases hb:Nat.beq k b with
  | true=>
   rw [hb] at h; simp only [cond_true] at h; cases h
   rw [Nat.eq_of_beq_eq_true hb]
   exact .inr (.inl rfl)
  | false=>
   rw [hb] at h; simp only [cond_false] at h
   cases c:Nat.blt k b with
   | true=>rw [c] at h; exact .inl (Tr.find_mem l k v h)
   | false=>rw [c] at h; exact .inr (.inr (Tr.find_mem r k v h))
theorem Tr.ok {P:Program} {t:Tr} (h:t.toList.map (fun p=>Gq P p.1)=t.toList.map (fun p=>some p.2)):Dc P t.find:=by
 intro k v hk
 have b:=t.find_mem k v hk
 obtain ⟨i,hi⟩:=List.getElem?_of_mem b
 have:=congrArg (fun l=>l[i]?) h
 simpa [hi] using this
end Go.Ab
namespace Go.Ab
def Wy:List AV->Hp->(List AV->Hp->Prop)->Prop
 | [],H,K=>K [] H
 | x::xs,H,K=>fin x H fun y H=>Wy xs H fun ys H=>K (y::ys) H
def Nh (H:Hp):Nat->List Cf->Prop
 | _,[]=>True
 | k,o::os=>H k=o/\Nh H (k+1) os
def Ud (T:De) (fz:Bool) (c:List ResultVar) (r:AV) (b:List Cf) (e:Ch) (H:Hp):Prop :=
 match Rr T e H c with
 | none=>False
 | some xs=>bif fz then Wy xs H fun ys H=>Ua ys=r/\Nh H 0 b else Ua xs=r/\Nh H 0 b
section
variable {P:Program} {T:De} {F:Bk} {W w:World}
theorem Nh.spec {H:Hp}:∀{os:List Cf} {k:Nat},Nh H k os->∀i,i<os.length->H (k+i)=hp os i
 | [],k,_,i,hi=>by simp at hi
 | o::os,k,h,0,_=>by simpa [hp] using h.1
 | o::os,k,h,i+1,hi=>by
  have:=Nh.spec h.2 i (by simpa using hi)
  rw [show k+(i+1)=k+1+i by omega,this]
  simp [hp]
theorem Afa:∀{xs:List AV} {vs:List Value} {H:Hp} {K:List AV->Hp->Prop} {σ:Bk} {ι:Ci},Wy xs H K->St σ ι H F W w->vs.length=xs.length->(∀(i:Nat) (c:AV) (v:Value),xs[i]? = some c->vs[i]? = some v->Conc σ ι H c v) ->
  ∃j ys H',K ys H'/\Le σ ι H j ι H'/\St j ι H' F W w/\vs.length=ys.length/\∀(i:Nat) (c:AV) (v:Value),ys[i]? = some c->vs[i]? = some v->Conc j ι H' c v
 | [],vs,H,K,σ,ι,h,s,g,hc=>⟨σ,[],H,h,Le.refl _ _ _,s,g,hc⟩
 | x::cs,[],H,K,σ,ι,h,s,g,hc=>by simp at g
 | x::cs,v::vs,H,K,σ,ι,h,s,g,hc=>by
  simp only [Wy] at h
  obtain ⟨B,y,D,h1,f,s1,z⟩:=Ae6 h s (hc 0 x v (by simp) (by simp))
  obtain ⟨l,ys,A,h2,b,s2,k,q⟩:=Afa (vs:=vs) h1 s1 (by simpa using g) (fun i c u hi hu=>(hc (i+1) c u (by simpa using hi) (by simpa using hu)).mono f)
  refine ⟨l,y::ys,A,h2,f.trans b,s2,by simp [k],fun i c u hi hu=>?_⟩
  cases i with
  | zero=>simp at hi hu; subst hi; subst hu; exact z.mono b
  | succ i=>exact q i c u (by simpa using hi) (by simpa using hu)
theorem Ant (D:Dc P T) {fn:Func} {fz:Bool} {r:AV} {q:List Cf} {e:Ch} {H:Hp} {σ:Bk} {ι:Ci} {a:Act} (s:St σ ι H F W w) (B:Ef σ ι H e a) (l:∀r∈fn.results.toList,Pi r<a.tmps.size)
  (h:Ud T fz fn.results.toList r q e H):∃v f H',(results fn a.tmps).run P w = .ok v w/\Nh H' 0 q/\Le σ ι H f ι H'/\St f ι H' F W w/\Conc f ι H' r v:=by
 unfold Ud at h
 split at h
 .exact h.elim
 .rename_i xs hx
  obtain ⟨vs,h1,x,z⟩:=Aal D s B l hx
  have key:∃f ys H',(Ua ys=r/\Nh H' 0 q)/\Le σ ι H f ι H'/\St f ι H' F W w/\vs.length=ys.length/\∀(i:Nat) (c:AV) (v:Value),ys[i]? = some c->vs[i]? = some v->Conc f ι H' c v:=by
   cases fz with
   | true=>exact Afa h s x z
   | false=>exact ⟨σ,xs,H,h,Le.refl _ _ _,s,x,z⟩
  obtain ⟨f,ys,H',⟨rfl,k⟩,le,s',b,j⟩:=key
  have g:(fn.results.mapM (Pj a.tmps)).run P w = .ok vs.toArray w:=by
   rw [Array.mapM_eq_mapM_toList]
   simp [h1]
  refine ⟨if h:vs.toArray.size=1 then vs.toArray[0] else .tuple vs.toArray,f,H',?_,k,le,s',?_⟩
  .rw [Ae8,Sem.run_bind,g]; rfl
  .match ys,vs,b,j with
   | [y],[v],_,j=>exact j 0 y v rfl rfl
   | [],[],_,_=>exact .tup [] #[] rfl (by simp)
   | y::E::ys,v::A::vs,b,j=>
    have:¬(v::A::vs).toArray.size=1:=by simp
    rw [dif_neg this]
    exact .tup _ _ (by simpa using b) (fun i c u hi hu=>j i c u hi (by simpa using hu))
   | [],_::_,b,_=>simp at b
   | _::_,[],b,_=>simp at b
   | [_],_::_::_,b,_=>simp at b
   | _::_::_,[_],b,_=>simp at b
theorem St.first {σ:Bk} {ι:Ci} {H:Hp} (s:St σ ι H F W w) (f:List Cf) (hk:∀i,i<f.length->H i=hp f i) (G:f.all (Cf.under f.length)=true) :
  St σ (fun k=>if k<f.length then ι k else .none) (hp f) F W w:=by
 have D:∀h,h<f.length->(fun k=>if k<f.length then ι k else Loc.none) h=ι h:=fun h j=>if_pos j
 have z:∀h,h<f.length->hp f h=H h:=fun h j=>(hk h j).symm
 have lt:∀k,(hp f k).live=true->k<f.length:=by
  intro k h
  rcases Nat.lt_or_ge k f.length with h' | h'
  .exact h'
  .rw [Ng h'] at h; cases h
 refine ⟨s.sto,s.fra,fun k=>?_,fun k u b h1 h2 h3 q=>?_,s.os,s.tape,s.output,s.glo⟩
 .by_cases j:k<f.length
  .have g:=s.obj k
   have l:=List.all_eq_true.1 G _ (List.mem_of_getElem? (T9 j))
   unfold C5 at g ⊢
   rw [hk k j] at g
   dsimp only
   rw [if_pos j]
   cases hx:hp f k with
   | none=>rw [hx] at g; exact g
   | dead=>trivial
   | rows E sz xs=>rw [hx] at g; exact g
   | map es=>rw [hx] at g; exact g
   | cells E cs=>
    rw [hx] at g l
    obtain ⟨b,C,J,h1,h2,h3,q,I⟩:=g
    refine ⟨b,C,J,h1,h2,h3,q,fun i c v x y=>?_⟩
    have hc:=List.all_eq_true.1 l c (List.mem_of_getElem? x)
    refine (I i c v x y).restrict (n:=f.length) D z ?_
    exact Aag hc
  .unfold C5
   rw [Ng (by omega)]
   exact if_neg j
 .have B:=lt k h1
  have A:=lt u h2
  rw [if_pos B] at h3
  rw [if_pos A] at q
  rw [z k B] at h1
  rw [z u A] at h2
  exact s.inj k u b h1 h2 h3 q
def Afb (c:List Cf) (r:AV) (b:List Cf):Bool:=Nat.ble c.length b.length&&r.under b.length&&b.all (Cf.under b.length)
def Sub (x y:AV):Prop:=∀(σ:Bk) (ι:Ci) (H:Hp) (v:Value),Conc σ ι H x v->Conc σ ι H y v
theorem Sub.refl (x:AV):Sub x x:=fun _ _ _ _ h=>h
theorem Sub.of_eq {x y:AV} (h:x=y):Sub x y:=by subst h; exact Sub.refl x
theorem Sub.nil (sz:Nat):Sub (.val (.slice none 0 0)) (.sl sz []):=fun _ _ _ _ h=>Wq rfl h
def Rs:List AV->List AV->Prop
 | [],[]=>True
 | x::xs,y::ys=>Sub x y/\Rs xs ys
 | _,_=>False
theorem Rs.spec:∀{xs ys:List AV},Rs xs ys->xs.length=ys.length/\∀(i:Nat) (y:AV),ys[i]? = some y->∃x,xs[i]? = some x/\Sub x y
 | [],[],_=>⟨rfl,by simp⟩
 | [],_::_,h=>h.elim
 | _::_,[],h=>h.elim
 | x::xs,y::ys,h=>by
  obtain ⟨h1,h2⟩:=Rs.spec h.2
  refine ⟨by simp [h1],fun i z b=>?_⟩
  cases i with
  | zero=>simp at b; subst b; exact ⟨x,rfl,h.1⟩
  | succ i=>simpa using h2 i z (by simpa using b)
theorem Sub.agg {xs ys:List AV} (h:Rs xs ys):Sub (.agg xs) (.agg ys):=by
 intro σ ι H v hc
 obtain ⟨vs,rfl,f,b⟩:=hc.agg_inv
 obtain ⟨h1,h2⟩:=h.spec
 refine .agg _ vs (by rw [<-h1]; exact f) fun i c u h3 k=>?_
 obtain ⟨x,j,g⟩:=h2 i c h3
 exact g _ _ _ _ (b i x u j k)
theorem Bb.sub {f:FuncId} {args b:List AV} {r k:AV} (h:Bb P f b r) (ha:Rs args b) (q:Sub r k):Bb P f args k:=by
 refine ⟨h.1,fun σ F W w vs s hc=>?_⟩
 obtain ⟨h1,h2⟩:=ha.spec
 refine (h.2 σ F W w vs s ⟨by rw [<-h1]; exact hc.1,fun i a v h3 j=>?_⟩).mono ?_
 .obtain ⟨x,g,c⟩:=h2 i a h3
  exact c _ _ _ _ (hc.2 i x v g j)
 .rintro e w' ⟨v,l,h3,j,g,c⟩
  exact ⟨v,l,h3,j,g,q _ _ _ _ c⟩
end
end Go.Ab
namespace Go.Ab
inductive Dx (K:Prop):Prop where
 | mk (k:K)
def opK (P:Program) (T:De) (an:Nat->Ann) (nl:Nat->List (Nat×Nat)) (o:Oper) (n:Nat) (e:Ch) (H:Hp) (acc:Hx) (K:Nat->Ch->Hp->Hx->Prop):Prop :=
 D5 P T an n o (ev e) H fun b m=>I1 (Jl (J6 nl o.dst) b.r) fun r=>Lg b.wr fun wr=>G9 b.rd fun f=>G9 wr fun c=>Hy e o.dst r H wr fun e H=>Dx (K m e H (acc++[(f,c)]))
def Ue (o:Oper) (n:Nat) (e:Ch) (H:Hp) (acc:Hx) (K:Nat->Ch->Hp->Hx->Prop):Prop :=
 Hy e o.dst (.val undef) H [] fun e H=>Dx (K n e H (acc++[([],[])]))
def Fm (P:Program) (T:De) (an:Nat->Ann) (nl:Nat->List (Nat×Nat)) (ops:Array Oper):List Oper->Nat->Ch->Hp->Hx->(Nat->Ch->Hp->Hx->Prop)->Prop
 | [],n,e,H,acc,K=>K n e H acc
 | o::os,n,e,H,acc,K=>
  match o.guard with
  | none=>opK P T an nl o n e H acc fun n e H acc=>Fm P T an nl ops os n e H acc K
  | some p=>
   match (ops[p.1]?).bind (·.dst) with
   | none=>False
   | some s=>
    match e s with
    | .val v=>bif Pd v==some p.2 then opK P T an nl o n e H acc fun n e H acc=>Fm P T an nl ops os n e H acc K
     else Ue o n e H acc fun n e H acc=>Fm P T an nl ops os n e H acc K
    | _=>False
section
variable {P:Program} {T:De} {an:Nat->Ann} {nl:Nat->List (Nat×Nat)} {ops:Array Oper}
theorem Aam (G:Dc P T):∀(os:List Oper) (i n:Nat) (e:Ch) (H:Hp) (acc:Hx) (K:Nat->Ch->Hp->Hx->Prop),ops.toList.drop i=os->acc.length=i->Eh H n->Fm P T an nl ops os n e H acc K ->
  ∃b e' H' accs,K b e' H' accs/\accs.take i=acc/\accs.length=i+os.length/\n<=b/\Eh H' b/\Run P ops (fun k=>accs.getD k ([],[])) (List.range' i os.length) e H e' H'
 | [],i,n,e,H,acc,K,hd,j,y,h=>⟨n,e,H,acc,h,by rw [<-j]; simp,by simpa using j,Nat.le_refl _,y,.nil e H⟩
 | o::os,i,n,e,H,acc,K,hd,j,y,h=>by
  have J:ops[i]? = some o:=by
   have:=congrArg (fun l=>l[0]?) hd
   simpa using this
  have u:ops.toList.drop (i+1)=os:=by
   have:=congrArg (List.drop 1) hd
   simpa [List.drop_drop] using this
  have run:Gv ops o e true->(opK P T an nl o n e H acc fun n e H acc=>Fm P T an nl ops os n e H acc K) ->
    ∃b e' H' accs,K b e' H' accs/\accs.take i=acc/\accs.length=i+(o::os).length/\n<=b/\Eh H' b/\Run P ops (fun k=>accs.getD k ([],[])) (List.range' i (o::os).length) e H e' H':=by
   intro D g
   obtain ⟨c,m,h1,h2,h3,S,N⟩:=Aex G y g
   simp only [Ro,Aab,Aac,Wr] at h3
   obtain ⟨b,e',H',accs,B,x,M,L,A,z⟩:=Aam G os (i+1) m _ _ _ K u (by simp [j]) N h3.1
   have E:accs[i]? = some (c.rd.map (·.1),c.wr.map (·.1)):=by
    have R:(accs.take (i+1))[i]? = accs[i]?:=List.getElem?_take_of_lt (by omega)
    rw [<-R,x,List.getElem?_append_right (by omega)]
    simp [j]
   have q:accs.getD i ([],[])=(c.rd.map (·.1),c.wr.map (·.1)):=by simp [List.getD,E]
   refine ⟨b,e',H',accs,B,?_,by simp only [List.length_cons]; omega,by omega,A,?_⟩
   .have:=congrArg (List.take i) x
    rw [List.take_take] at this
    simpa [j] using this
   .rw [List.length_cons,List.range'_succ]
    refine .cons o (Jl (J6 nl o.dst) c.r) c.wr ⟨J,.inl ⟨D,_,h1.nils (J6 nl o.dst),h2,?_,?_,rfl,rfl⟩⟩ z
    .intro p hp; show p.1∈(accs.getD i ([],[])).1; rw [q]; exact List.mem_map_of_mem hp
    .intro p hp; show p.1∈(accs.getD i ([],[])).2; rw [q]; exact List.mem_map_of_mem hp
  have skip:Gv ops o e false->(Ue o n e H acc fun n e H acc=>Fm P T an nl ops os n e H acc K) ->
    ∃b e' H' accs,K b e' H' accs/\accs.take i=acc/\accs.length=i+(o::os).length/\n<=b/\Eh H' b/\Run P ops (fun k=>accs.getD k ([],[])) (List.range' i (o::os).length) e H e' H':=by
   intro D g
   unfold Ue at g
   rw [Wr] at g
   obtain ⟨b,e',H',accs,B,x,M,L,A,z⟩:=Aam G os (i+1) n _ _ _ K u (by simp [j]) y g.1
   refine ⟨b,e',H',accs,B,?_,by simp only [List.length_cons]; omega,by omega,A,?_⟩
   .have:=congrArg (List.take i) x
    rw [List.take_take] at this
    simpa [j] using this
   .rw [List.length_cons,List.range'_succ]
    exact .cons o (.val undef) [] ⟨J,.inr ⟨D,rfl,rfl⟩⟩ z
  simp only [Fm] at h
  cases f:o.guard with
  | none=>
   rw [f] at h
   exact run (by unfold Gv; rw [f]) h
  | some p=>
   rw [f] at h
   simp only [] at h
   cases g:(ops[p.1]?).bind (·.dst) with
   | none=>rw [g] at h; exact h.elim
   | some s=>
    rw [g] at h
    simp only [] at h
    split at h
    .rename_i v I
     cases hb:Pd v==some p.2 with
     | true=>rw [hb] at h; exact run (by unfold Gv; rw [f]; exact ⟨s,v,g,I,hb.symm⟩) h
     | false=>rw [hb] at h; exact skip (by unfold Gv; rw [f]; exact ⟨s,v,g,I,hb.symm⟩) h
    .exact h.elim
variable {o:Oper} {os:List Oper} {n:Nat} {e:Ch} {H:Hp} {acc:Hx} {K:Nat->Ch->Hp->Hx->Prop} {β:Type} {r:β}
theorem O (k:opK P T an nl o n e H acc fun n e H acc=>Fm P T an nl ops os n e H acc K) (b:o.guard=none:=by exact rfl):Dx (Fm P T an nl ops (o::os) n e H acc K):=.mk (by simp only [Fm,b]; exact k)
theorem Aa (k:K n e H acc):Dx (Fm P T an nl ops [] n e H acc K):=.mk k
theorem Anu (p:Nat×Bool) (s:Nat) (k:opK P T an nl o n e H acc fun n e H acc=>Fm P T an nl ops os n e H acc K) (c:o.guard=some p:=by exact rfl) (b:(ops[p.1]?).bind (·.dst)=some s:=by exact rfl) (hb:e s = .val (.bool p.2):=by exact rfl):Dx (Fm P T an nl ops (o::os) n e H acc K) :=
 .mk (by simp only [Fm,c,b,hb,Pd,BEq.rfl,cond_true]; exact k)
theorem A9 (p:Nat×Bool) (s:Nat) (v:Value) (k:Ue o n e H acc fun n e H acc=>Fm P T an nl ops os n e H acc K) (f:o.guard=some p:=by exact rfl) (c:(ops[p.1]?).bind (·.dst)=some s:=by exact rfl) (hb:e s = .val v:=by exact rfl) (b:(Pd v==some p.2)=false:=by exact rfl):Dx (Fm P T an nl ops (o::os) n e H acc K) :=
 .mk (by simp only [Fm,f,c,hb,b,cond_false]; exact k)
theorem Ag {p:Nat×Bool} {s:Nat} (k:opK P T an nl o n e H acc fun n e H acc=>Fm P T an nl ops os n e H acc K) (c:o.guard=some p:=by exact rfl) (b:(ops[p.1]?).bind (·.dst)=some s:=by exact rfl) (hb:e s = .val (.bool p.2):=by exact rfl):Dx (Fm P T an nl ops (o::os) n e H acc K):=Anu p s k c b hb
theorem Ad {p:Nat×Bool} {s:Nat} {v:Value} (k:Ue o n e H acc fun n e H acc=>Fm P T an nl ops os n e H acc K) (f:o.guard=some p:=by exact rfl) (c:(ops[p.1]?).bind (·.dst)=some s:=by exact rfl) (hb:e s = .val v:=by exact rfl) (b:(Pd v==some p.2)=false:=by exact rfl):Dx (Fm P T an nl ops (o::os) n e H acc K):=A9 p s v k f c hb b
theorem A6 {s:Nat} {b:Bool} {m c:Option β} {X:List Oper} (h:(bif b then m else c)=some r) (h1:b=true->m=some r->Dx (Fm P T an nl ops X n (Bs e s (.val (.bool true))) H acc K))
  (h2:b=false->c=some r->Dx (Fm P T an nl ops X n (Bs e s (.val (.bool false))) H acc K)) (hb:e s = .val (.bool b):=by exact rfl):Dx (Fm P T an nl ops X n e H acc K):=by
 cases b with
 | true=>have:=h1 rfl h; rwa [Wt hb] at this
 | false=>have:=h2 rfl h; rwa [Wt hb] at this
end
end Go.Ab
namespace Go.Ab
theorem St.recell {σ:Bk} {ι:Ci} {H:Hp} {F:Bk} {W w:World} (s:St σ ι H F W w) (h:Nat) (E:TypeId) (cs f:List AV) (j:H h = .cells E cs) (q:f.length=cs.length)
  (hc:∀(i:Nat) (c k:AV) (v:Value),cs[i]? = some c->f[i]? = some k->Conc σ ι H c v->Conc σ ι H k v) :
  St σ ι (Bs H h (.cells E f)) F W w/\Le σ ι H σ ι (Bs H h (.cells E f)):=by
 have l:=s.obj h
 unfold C5 at l
 rw [j] at l
 obtain ⟨b,C,hb,h1,h2,h3,B,A⟩:=l
 have le:Le σ ι H σ ι (Bs H h (.cells E f)):=by
  have:=Le.upd (ι:=ι) (H:=H) (Bk.le_refl σ) h (ι h) (.cells E f) (by rw [j]; exact ⟨fun _ e=>e,(fun _ e=>by cases e),(fun _ _ _ _ e=>by cases e)⟩)
  rwa [J0] at this
 refine ⟨s.touch h b (fun _ _=>rfl) (fun x e=>Dm _ _ e) le (fun x e=>rfl) (fun _ _=>rfl) (fun o e=>by rw [h1] at e; cases e) ?_ h2 ?_ ?_ rfl rfl rfl,le⟩
 .intro x e q u
  exact e (s.inj x h b q (by rw [j]; rfl) u (by rw [hb]; rfl))
 .intro b0 _ z
  exact .inr ⟨by rw [j]; rfl,z⟩
 .unfold C5
  rw [Cy]
  refine ⟨b,C,hb,h1,h2,h3,by omega,fun i k v x y=>?_⟩
  have hi:i<cs.length:=by rw [<-q]; exact (List.getElem?_eq_some_iff.1 x).1
  have g:cs[i]? = some cs[i]:=List.getElem?_eq_getElem hi
  exact (hc i _ k v g x (A i _ v g y)).mono le
inductive Gh where
 | fz (s:Nat)
 | own (s j:Nat) (e:TypeId) (sz:Nat)
 | nil (s j sz:Nat)
 | fzc (s j:Nat)
def gxs:List Gh->Nat->Ch->Hp->(Nat->Ch->Hp->Prop)->Prop
 | [],n,e,H,K=>K n e H
 | .fz s::gs,n,e,H,K=>
  match e s with
  | .arr h k 0 len=>
   match H h with
   | .rows _ sz xs=>I0 k xs (I0 len xs (gxs gs n (Bs e s (.sl sz xs)) (Bs H h .dead) K))
   | _=>False
  | _=>False
 | .own s j E sz::gs,n,e,H,K=>
  match e s with
  | .loc h _=>
   match H h with
   | .cells T cs=>
    match cs[j]? with
    | some x=>bif Jj x&&Nat.blt 0 sz then gxs gs (n+1) e (Bs (Bs H n (.rows E sz [])) h (.cells T (cs.set j (.arr n 0 0 0)))) K else False
    | none=>False
   | _=>False
  | _=>False
 | .nil s j sz::gs,n,e,H,K=>
  match e s with
  | .loc h _=>
   match H h with
   | .cells T cs=>
    match cs[j]? with
    | some x=>bif Jj x then gxs gs n e (Bs H h (.cells T (cs.set j (.sl sz [])))) K else False
    | none=>False
   | _=>False
  | _=>False
 | .fzc s j::gs,n,e,H,K=>
  match e s with
  | .loc h _=>
   match H h with
   | .cells T cs=>
    match cs[j]? with
    | some (.arr h' k 0 len)=>
     match H h' with
     | .rows _ sz xs=>I0 k xs (I0 len xs (gxs gs n e (Bs (Bs H h' .dead) h (.cells T (cs.set j (.sl sz xs)))) K))
     | _=>False
    | _=>False
   | _=>False
  | _=>False
section
variable {F:Bk} {W:World}
theorem Afc {cs:List AV} {j i:Nat} {y c b:AV} {P:AV->AV->Prop} (h1:cs[i]? = some c) (h2:(cs.set j y)[i]? = some b) (f:P c c) (hy:i=j->P c y):P c b:=by
 rw [List.getElem?_set] at h2
 split at h2
 .rename_i e
  split at h2
  .cases h2; exact hy e.symm
  .cases h2
 .rw [h1] at h2; cases h2; exact f
theorem Uf {H:Hp} {n h:Nat} {o:Cf} (b:Eh H n) (f:H h≠.none):Eh (Bs H h o) n:=by
 intro m c
 rw [Dm _ _ (fun e=>f (by rw [<-e]; exact b m c))]; exact b m c
theorem Ug:∀(I:List Gh) {n:Nat} {e:Ch} {H:Hp} {K:Nat->Ch->Hp->Prop} {σ:Bk} {ι:Ci} {a:Act} {w:World},gxs I n e H K->St σ ι H F W w->Ef σ ι H e a->Eh H n ->
  ∃σ' ι' n' e' H',K n' e' H'/\Le σ ι H σ' ι' H'/\St σ' ι' H' F W w/\Ef σ' ι' H' e' a/\Eh H' n'/\n<=n'
 | [],n,e,H,K,σ,ι,a,w,h,s,B,u=>⟨σ,ι,n,e,H,h,Le.refl _ _ _,s,B,u,Nat.le_refl _⟩
 | .fz t::I,n,e,H,K,σ,ι,a,w,h,s,B,u=>by
  simp only [gxs] at h
  split at h
  .rename_i hd k len hx
   split at h
   .rename_i E sz xs l
    obtain ⟨hk,hl,h⟩:=h
    obtain ⟨G,f,s1,a1⟩:=s.freeze l
    have ad:Ef G ι (Bs H hd .dead) (Bs e t (.sl sz xs)) a:=by
     intro q hq
     by_cases D:q=t
     .subst D
      rw [Cy]
      have hc:=B q hq
      rw [hx] at hc
      have:=a1 0 len _ (by omega) (hc.arr_inv l hk)
      rw [List.drop_zero,List.take_of_length_le (by omega)] at this
      exact .cc this
     .rw [Dm _ _ D]; exact (B q hq).mono f
    obtain ⟨J,L,M,e2,H2,V,U,S,R,N,k6⟩:=Ug I h s1 ad (Uf u (by rw [l]; intro e; cases e))
    exact ⟨J,L,M,e2,H2,V,f.trans U,S,R,N,k6⟩
   .exact h.elim
  .exact h.elim
 | .own t j E sz::I,n,e,H,K,σ,ι,a,w,h,s,B,u=>by
  simp only [gxs] at h
  split at h
  .rename_i hd off hx
   split at h
   .rename_i T cs l
    split at h
    .rename_i x hj
     obtain ⟨hb,h⟩:=Fu h
     rw [Bool.and_eq_true] at hb
     have Y:hd≠n:=by
      intro D; subst D
      have:=u hd (Nat.le_refl _); rw [l] at this; cases this
     obtain ⟨s0,a7⟩:=s.newNil n (u n (Nat.le_refl _)) E sz (F3 hb.2)
     have g:Bs H n (.rows E sz []) hd = .cells T cs:=by rw [Dm _ _ Y]; exact l
     obtain ⟨s1,f⟩:=s0.recell hd T cs (cs.set j (.arr n 0 0 0)) g (by simp) (by
      intro i c c' v h1 h2 h3
      refine Afc (P:=fun a b=>Conc σ _ _ a v->Conc σ _ _ b v) h1 h2 (fun h=>h) (fun z h=>?_) h3
      subst z
      rw [hj] at h1; cases h1
      rw [Wn hb.1] at h
      rw [h.val_inv]
      refine .arr _ _ _ _ _ (by rw [Cy]; intro e; cases e) (fun E' ai ah e'=>?_) rfl
      rw [Cy] at e'; cases e'
      exact ⟨by simp,fun _=>by rw [Cy]; exact ⟨rfl,rfl,rfl⟩⟩)
     have hn1:Eh (Bs (Bs H n (.rows E sz [])) hd (.cells T (cs.set j (.arr n 0 0 0)))) (n+1):=by
      refine Uf ?_ (by rw [g]; intro e; cases e)
      intro m hm
      rw [Dm _ _ (by omega)]; exact u m (by omega)
     obtain ⟨J,L,M,e2,H2,V,U,S,R,N,k6⟩:=Ug I h s1 (B.mono (a7.trans f)) hn1
     exact ⟨J,L,M,e2,H2,V,(a7.trans f).trans U,S,R,N,by omega⟩
    .exact h.elim
   .exact h.elim
  .exact h.elim
 | .nil t j sz::I,n,e,H,K,σ,ι,a,w,h,s,B,u=>by
  simp only [gxs] at h
  split at h
  .rename_i hd off hx
   split at h
   .rename_i T cs l
    split at h
    .rename_i x hj
     obtain ⟨hb,h⟩:=Fu h
     obtain ⟨s1,f⟩:=s.recell hd T cs (cs.set j (.sl sz [])) l (by simp) (by
      intro i c c' v h1 h2 h3
      refine Afc (P:=fun a b=>Conc σ _ _ a v->Conc σ _ _ b v) h1 h2 (fun h=>h) (fun z h=>?_) h3
      subst z
      rw [hj] at h1; cases h1
      exact Wq hb h)
     obtain ⟨J,L,M,e2,H2,V,U,S,R,N,k6⟩:=Ug I h s1 (B.mono f) (Uf u (by rw [l]; intro e; cases e))
     exact ⟨J,L,M,e2,H2,V,f.trans U,S,R,N,k6⟩
    .exact h.elim
   .exact h.elim
  .exact h.elim
 | .fzc t j::I,n,e,H,K,σ,ι,a,w,h,s,B,u=>by
  simp only [gxs] at h
  split at h
  .rename_i hd off hx
   split at h
   .rename_i T cs l
    split at h
    .rename_i h' k len hj
     split at h
     .rename_i E sz xs A
      obtain ⟨hk,hl,h⟩:=h
      obtain ⟨G,f,s1,a1⟩:=s.freeze A
      have Y:hd≠h':=by intro D; subst D; rw [l] at A; cases A
      have g:Bs H h' .dead hd = .cells T cs:=by rw [Dm _ _ Y]; exact l
      have X:=s.obj hd
      unfold C5 at X; rw [l] at X
      obtain ⟨b,C,D,g1,g2,g3,g4,g5⟩:=X
      have a6:∀v,C[j]? = some v->Conc G ι (Bs H h' .dead) (.sl sz xs) v:=by
       intro v hv
       have hc:=g5 j _ v hj hv
       have:=a1 0 len _ (by omega) (hc.arr_inv A hk)
       rw [List.drop_zero,List.take_of_length_le (by omega)] at this
       exact .cc this
      have s2:St G ι (Bs (Bs H h' .dead) hd (.cells T (cs.set j (.sl sz xs)))) F W w/\Le G ι (Bs H h' .dead) G ι (Bs (Bs H h' .dead) hd (.cells T (cs.set j (.sl sz xs)))):=by
       have ho:=s1.obj hd
       unfold C5 at ho; rw [g] at ho
       obtain ⟨b',C',ac,ab,aa,a8,aj,ag⟩:=ho
       rw [D] at ac; cases ac
       rw [g3] at a8; cases a8
       have le:Le G ι (Bs H h' .dead) G ι (Bs (Bs H h' .dead) hd (.cells T (cs.set j (.sl sz xs)))):=by
        have:=Le.upd (ι:=ι) (H:=Bs H h' .dead) (Bk.le_refl G) hd (ι hd) (.cells T (cs.set j (.sl sz xs))) (by rw [g]; exact ⟨fun _ e=>e,(fun _ e=>by cases e),(fun _ _ _ _ e=>by cases e)⟩)
        rwa [J0] at this
       refine ⟨s1.touch hd b (fun _ _=>rfl) (fun x e=>Dm _ _ e) le (fun x e=>rfl) (fun _ _=>rfl) (fun o e=>by rw [ab] at e; cases e) ?_ aa ?_ ?_ rfl rfl rfl,le⟩
       .intro x e hl ae
        exact e (s1.inj x hd b hl (by rw [g]; rfl) ae (by rw [D]; rfl))
       .intro b0 _ af
        exact .inr ⟨by rw [g]; rfl,af⟩
       .unfold C5
        rw [Cy]
        refine ⟨b,C,D,ab,aa,g3,by simpa using g4,fun i c' v x y=>?_⟩
        rw [List.getElem?_set] at x
        split at x
        .rename_i z
         split at x
         .cases x; subst z; exact (a6 v y).mono le
         .cases x
        .exact (ag i c' v x y).mono le
      obtain ⟨J,L,M,e2,H2,V,U,S,R,N,k6⟩:=Ug I h s2.1 (B.mono (f.trans s2.2)) (Uf (Uf u (by rw [A]; intro e; cases e)) (by rw [g]; intro e; cases e))
      exact ⟨J,L,M,e2,H2,V,(f.trans s2.2).trans U,S,R,N,k6⟩
     .exact h.elim
    .exact h.elim
   .exact h.elim
  .exact h.elim
end
end Go.Ab
namespace Go.Ab
def G3 {S E:Type} (step:S->Option (S⊕E)):Nat->S->Option E
 | 0,_=>none
 | n+1,s=>
  match step s with
  | none=>none
  | some (.inl s')=>G3 step n s'
  | some (.inr e)=>some e
theorem Aan {S E:Type} {step:S->Option (S⊕E)}:∀{n:Nat} {s:S} {e:E},G3 step n s=some e->∀m,n<=m->G3 step m s=some e
 | 0,s,e,h,_,_=>by cases h
 | n+1,s,e,h,0,c=>by omega
 | n+1,s,e,h,m+1,c=>by
  simp only [G3] at h ⊢
  cases b:step s with
  | none=>rw [b] at h; cases h
  | some o=>
   rw [b] at h
   cases o with
   | inl s'=>exact Aan (n:=n) h m (by omega)
   | inr e'=>exact h
theorem Afd {S E:Type} {step:S->Option (S⊕E)} {n m:Nat} {s:S} {e e':E} (h:G3 step n s=some e) (h':G3 step m s=some e'):e=e':=by
 have h1:=Aan h (max n m) (by omega)
 have h2:=Aan h' (max n m) (by omega)
 rw [h1] at h2; exact Option.some.inj h2
open Classical in
noncomputable def Bc {S E:Type} (step:S->Option (S⊕E)) (s:S):Option E :=
 match G3 step 4096 s with
 | some e=>some e
 | none=>if h:∃n e,G3 step n s=some e then some (Classical.choose (Classical.choose_spec h)) else none
theorem Aao {S E:Type} {step:S->Option (S⊕E)} {s:S} {e:E} (h:Bc step s=some e):∃n,G3 step n s=some e:=by
 unfold Bc at h
 split at h
 .rename_i e' b
  cases h
  exact ⟨_,b⟩
 .split at h
  .rename_i hx
   cases h
   exact ⟨_,Classical.choose_spec (Classical.choose_spec hx)⟩
  .cases h
theorem Aap {S E:Type} {step:S->Option (S⊕E)} {s:S} {e:E} {n:Nat} (h:G3 step n s=some e):Bc step s=some e:=by
 have hx:∃n e,G3 step n s=some e:=⟨n,e,h⟩
 unfold Bc
 split
 .rename_i e' b
  exact congrArg some (Afd b h)
 rw [dif_pos hx]
 exact congrArg some (Afd (Classical.choose_spec (Classical.choose_spec hx)) h)
theorem E9 {S E:Type} {step:S->Option (S⊕E)} {s:S} {e:E} (h:step s=some (.inr e)):Bc step s=some e :=
 Aap (n:=1) (by simp only [G3,h])
theorem I2 {S E:Type} {step:S->Option (S⊕E)} {s s':S} (h:step s=some (.inl s')):Bc step s=Bc step s':=by
 cases h':Bc step s' with
 | some e=>
  obtain ⟨n,b⟩:=Aao h'
  exact Aap (n:=n+1) (by simp only [G3,h]; exact b)
 | none=>
  cases c:Bc step s with
  | none=>rfl
  | some e=>
   obtain ⟨n,b⟩:=Aao c
   cases n with
   | zero=>cases b
   | succ n=>
    simp only [G3,h] at b
    rw [Aap b] at h'; cases h'
theorem Rt {S E:Type} {step:S->Option (S⊕E)} (c:S->Prop) (m:S->Nat) (b:E->Prop)
  (f:∀s,c s->(∃s',step s=some (.inl s')/\c s'/\m s' < m s)\/(∃e,step s=some (.inr e)/\b e)) (s:S) (i:c s):∃e,Bc step s=some e/\b e:=by
 generalize hk:m s=k
 induction k using Nat.strongRecOn generalizing s with
 | _ k ih=>
  rcases f s i with ⟨s',h1,h2,h3⟩ | ⟨e,h1,h2⟩
  .obtain ⟨e,h,g⟩:=ih (m s') (by omega) s' h2 rfl
   exact ⟨e,by rw [I2 h1]; exact h,g⟩
  .exact ⟨e,E9 h1,h2⟩
def Au {α:Type} (l:List α) (i:Int):Option α:=if 0<=i then l[i.toNat]? else none
def Gw {α:Type} (l:List α) (lo hi:Int):Option (List α):=if 0<=lo/\lo<=hi/\hi<=l.length then some ((l.take hi.toNat).drop lo.toNat) else none
def Cr {α:Type} (b:Nat) (xs ys:List α):Option (List α):=if (xs.length+ys.length)*b<=140737488355328 then some (xs++ys) else none
def Fy {α:Type} (c:Nat) (len b:Int) (z:α):Option (List α):=if 0<=len/\len<=b/\c*b.toNat<=281474976710656/\b<=140737488355328 then some (List.replicate len.toNat z) else none
def Ii {α:Type} (l:List α) (off n:Nat) (i:Int):Option α:=if 0<=i/\i<n then l[off+i.toNat]? else none
def Uh (n:Nat) (lo hi:Int):Option (Nat×Nat):=if 0<=lo/\lo<=hi/\hi<=n/\(lo=0\/lo<hi) then some (lo.toNat,hi.toNat) else none
def Ui {α:Type} (n:Nat) (l:List α):Option Unit:=if n=l.length then some () else none
theorem Anv {α:Type} {n:Nat} {l:List α} {u:Unit} (h:Ui n l=some u):n=l.length:=by
 unfold Ui at h
 split at h
 .assumption
 .cases h
theorem Wz (off:Nat) {i:Int} {n:Nat} (h:i=n):((off:Nat):Int)+i=((off+n:Nat):Int):=by omega
def Uj (n:Int):Option ByteArray:=if -9223372036854775808<=n/\n<=9223372036854775807 then some ⟨(Lib.itoa n).toArray⟩ else none
def Gr (l:List Int):List UInt8:=l.map fun n=>UInt8.ofNat n.toNat
def W0 (l:List Int):Option ByteArray:=if l≠[]/\(∀x∈l,0<=x/\x<256) then some ⟨(Gr l).toArray⟩ else none
def Ni (s:ByteArray):List Int:=s.data.toList.map fun b=>(b.toNat:Int)
def Dy {α:Type} (l:List α) (i:Int) (x:α):List α:=l.set i.toNat x
def Fi (k:IntKind) (a b:Int):Option Int:=if b=0 then none else some (k.wrap (a.tdiv b))
def F4 (a b:Int):Option Int:=if b=0 then none else some (a.tmod b)
def E2 (s:ByteArray) (i:Int):Option UInt8:=if 0<=i then s[i.toNat]? else none
def Nj (a b:ByteArray):Option ByteArray:=if a.size+b.size<=9223372036854775807 then some (a++b) else none
def D4 (s:ByteArray) (lo hi:Int):Option ByteArray:=if 0<=lo/\lo<=hi/\hi<=s.size then some (s.extract lo.toNat hi.toNat) else none
abbrev Al (n:Int):Int:=IntKind.i64.wrap n
abbrev Bd (n:Int):Int:=IntKind.u64.wrap n
abbrev Bt (n:Int):Int:=IntKind.u32.wrap n
abbrev wu8 (n:Int):Int:=IntKind.u8.wrap n
theorem Afe {α:Type} {l:List α} {i:Int} {x:α} (h:Au l i=some x):∃n:Nat,i=n/\l[n]? = some x:=by
 unfold Au at h
 split at h
 .exact ⟨i.toNat,by omega,h⟩
 .cases h
section
variable {β:Type} {r:β}
theorem Aq {α:Type} {o:Option α} {m:α->Option β} {G:Prop} (h:o.bind m=some r) (k:∀x,o=some x->m x=some r->G):G:=by
 cases o with
 | none=>cases h
 | some x=>exact k x rfl h
theorem Cd {α:Type} {o:Option α} {m:α->Option β} {G:Prop} (h:o.bind m=some r) (k:∀x,o=some x->(∀y,y=x->m y=some r)->G):G:=by
 cases o with
 | none=>cases h
 | some x=>exact k x rfl (fun y hy=>by subst hy; exact h)
theorem A7 {α:Type} {l:List α} {f:α->AV} {ys:List AV} (g:ys=l.map f) {i:Int} {m:α->Option β} {K:Nat->AV->Prop} (h:(Au l i).bind m=some r) (k:∀(n:Nat) (x:α),i=n->l[n]? = some x->m x=some r->K n (f x)):Ad6 ys i K:=by
 subst g
 refine Aq h fun x hx h=>?_
 obtain ⟨n,b,c⟩:=Afe hx
 exact .mk n (f x) b (by simp [c]) (k n x b c h)
theorem Fo {α:Type} {l:List α} {f:α->AV} {ys:List AV} (q:ys=l.map f) {i:Int} {m:α->Option β} {K:Nat->Prop} {len b:Nat} (j:len=l.length) (hk:b=l.length) (h:(Au l i).bind m=some r) (k:∀(n:Nat) (x:α),i=n->l[n]? = some x->m x=some r->K n):Z3 len b ys i K:=by
 subst q
 refine Aq h fun x hx h=>?_
 obtain ⟨n,c,g⟩:=Afe hx
 exact .mk n (by rw [hk]; simp) c (by rw [j]; exact (List.getElem?_eq_some_iff.1 g).1) (k n x c g h)
theorem Lj {α:Type} {l:List α} {f:α->AV} {ys:List AV} (c:ys=l.map f) {i:Int} {m:α->Option β} {K:Nat->Prop} {off len b:Nat} (hk:b=l.length) (h:(Ii l off len i).bind m=some r) (k:∀(n:Nat) (x:α),i=n->l[off+n]? = some x->m x=some r->K n):Z3 len b ys i K:=by
 subst c
 refine Aq h fun x hx h=>?_
 unfold Ii at hx
 split at hx
 .rename_i hc
  exact .mk i.toNat (by rw [hk]; simp) (by omega) (by omega) (k _ x (by omega) hx h)
 .cases hx
theorem Anw {α:Type} {l:List α} {f:α->AV} {ys:List AV} (c:ys=l.map f) {b n:Nat} (hk:b=l.length) {lo hi:Int} {m:Nat×Nat->Option β} {K:Nat->Nat->Prop} (h:(Uh n lo hi).bind m=some r) (k:∀v:Nat×Nat,m v=some r->K v.1 v.2):Aea b ys n lo hi K:=by
 subst c
 refine Aq h fun x hx h=>?_
 unfold Uh at hx
 split at hx
 .rename_i hc
  cases hx
  exact .mk lo.toNat hi.toNat (by rw [hk]; simp) (by omega) (by omega) (by omega) (by omega) (by omega) (k _ h)
 .cases hx
theorem Aaq {op:BinOp} {q:FloatKind} {a b:Nat} {m:Nat->Option β} {K:Nat->Prop} (h:(floatBits op q a b).bind m=some r) (k:∀c,m c=some r->K c):Aeg op q a b K :=
 Aq h fun x hx h=>.mk x hx (k x h)
theorem Anx {q:FloatKind} {a:Nat} {z:IntKind} {m:Int->Option β} {K:Int->Prop} (h:(floatToIntVal q a z).bind m=some r) (k:∀c,m c=some r->K c):Aeh q a z K :=
 Aq h fun x hx h=>.mk x hx (k x h)
theorem Ei {α:Type} {l:List α} {f:α->AV} {ys:List AV} (c:ys=l.map f) {n i b:Nat} {x:α} {K:AV->Prop} (hk:b=l.length) (hi:i=n) (hx:l[n]? = some x) (k:K (f x)):Z7 b i ys K:=by
 subst c; subst hi
 exact .mk (f x) (by rw [hk]; simp) (by simp [hx]) k
theorem Fj {α:Type} {l:List α} {f:α->AV} {ys:List AV} (b:ys=l.map f) {n i:Nat} {j:Int} {x:α} {p:AV} {K:List AV->Prop} (hp:p=f x) (hi:i=n) (hj:j=(n:Int)) (k:K ((Dy l j x).map f)):Z6 ys i p K:=by
 subst b; subst hi; subst hp; subst hj
 exact .mk _ (by simp [Dy,List.map_set]) k
theorem Anz {α:Type} {g:List α->List AV} {f:α->AV} (b:∀l,g l=l.map f) {l:List α} {ys:List AV} (c:ys=l.map f) {n i:Nat} {j:Int} {x:α} {p:AV} {K:List AV->Prop} (hp:p=f x) (hi:i=n) (hj:j=(n:Int)) (k:K (g (Dy l j x))):Z6 ys i p K :=
 Fj c hp hi hj (by rw [<-b]; exact k)
theorem Fp {α:Type} {l:List α} {k:Nat} (h:k=l.length) (j:Int) (x:α):k=(Dy l j x).length:=by simp [Dy,h]
theorem Mk {α:Type} {l:List α} {f:α->AV} {ys:List AV} (c:ys=l.map f) {lo hi:Int} {m:List α->Option β} {K:List AV->Prop} (h:(Gw l lo hi).bind m=some r) (k:∀b:List α,m b=some r->K (b.map f)):Z4 ys lo hi K:=by
 subst c
 refine Aq h fun x hx h=>?_
 unfold Gw at hx
 split at hx
 .rename_i hc
  cases hx
  exact .mk lo.toNat hi.toNat _ (by omega) (by omega) (by omega) (by simp; omega) (by rw [<-List.map_take,<-List.map_drop]) (k _ h)
 .cases hx
theorem W1 {α:Type} {l:List α} {f:α->AV} {ys:List AV} (c:ys=l.map f) {lo:Int} {m:List α->Option β} {K:List AV->Prop} (h:(Gw l lo l.length).bind m=some r) (k:∀b:List α,m b=some r->K (b.map f)):Z4 ys lo ys.length K:=by
 have e:((ys.length:Nat):Int)=(l.length:Int):=by rw [c]; simp
 rw [e]
 exact Mk c h k
theorem D9 {α:Type} {l ys:List α} {f:α->AV} {xs c:List AV} (q:xs=l.map f) (i:c=ys.map f) {b g len:Nat} {m:List α->Option β} {K:List AV->Nat->Prop} (hk:g=l.length) (j:len=l.length) (h:(Cr b l ys).bind m=some r)
  (k:∀o:List α,m o=some r->K (o.map f) o.length):T7 xs c g len b K:=by
 subst q; subst i; subst hk; subst j
 refine Aq h fun x hx h=>?_
 unfold Cr at hx
 split at hx
 .rename_i hc
  cases hx
  exact .mk _ _ (by simp) rfl (by simpa using hc) (by simp) (by simp) (k _ h)
 .cases hx
theorem Aff {l:List Int} {s:ByteArray} {xs:List AV} (i:xs=l.map fun n=>.val (.int .u8 n)) {b c len:Nat} {m:List Int->Option β} {K:List AV->Nat->Prop} (hk:c=l.length) (g:len=l.length) (h:(Cr b l (Ni s)).bind m=some r)
  (k:∀o:List Int,m o=some r->K (o.map fun n=>.val (.int .u8 n)) o.length):T7 xs (Hh s) c len b K:=by
 refine D9 (f:=fun n=>.val (.int .u8 n)) i ?_ hk g h k
 simp [Hh,Ni]
theorem W2 {α:Type} {ys:List α} {f:α->AV} {c:List AV} (g:c=ys.map f) {b:Nat} {m:List α->Option β} {K:List AV->Nat->Prop} (h:(Cr b [] ys).bind m=some r)
  (k:∀o:List α,m o=some r->K (o.map f) o.length):Z5 c b K:=by
 subst g
 refine Aq h fun x hx h=>?_
 unfold Cr at hx
 split at hx
 .rename_i hc
  cases hx
  exact .mk _ _ (by simpa using hc) (by simp) (by simp) (k _ h)
 .cases hx
theorem H4 {α:Type} {g:List α->List AV} {f:α->AV} (s:∀l,g l=l.map f) {l ys:List α} {xs c:List AV} (u:xs=l.map f) (j:c=ys.map f) {b i len:Nat} {m:List α->Option β} {K:List AV->Nat->Prop} (hk:i=l.length) (q:len=l.length) (h:(Cr b l ys).bind m=some r)
  (k:∀o:List α,m o=some r->K (g o) o.length):T7 xs c i len b K :=
 D9 u j hk q h fun o h=>by rw [<-s]; exact k o h
theorem An0 {α:Type} {g:List α->List AV} {f:α->AV} (j:∀l,g l=l.map f) {ys:List α} {c:List AV} (i:c=ys.map f) {b:Nat} {m:List α->Option β} {K:List AV->Nat->Prop} (h:(Cr b [] ys).bind m=some r)
  (k:∀o:List α,m o=some r->K (g o) o.length):Z5 c b K :=
 W2 i h fun o h=>by rw [<-j]; exact k o h
theorem Gx {α:Type} {z:α} {f:α->AV} {g:AV} (i:g=f z) {len c:Int} {b:Nat} {m:List α->Option β} {K:Nat->List AV->Prop} (h:(Fy b len c z).bind m=some r) (k:∀o:List α,m o=some r->K o.length (o.map f)):Aed len c b g K:=by
 subst i
 refine Aq h fun x hx h=>?_
 unfold Fy at hx
 split at hx
 .rename_i hc
  cases hx
  exact .mk _ c.toNat _ (by simp; omega) (by omega) (by simp; omega) hc.2.2.1 (by omega) (by simp) (k _ h)
 .cases hx
theorem Ax {α:Type} {l:List α} {f:α->AV} {ys:List AV} (b:ys=l.map f) {K:Int->Prop} (k:K (l.length:Int)):Aee ys K:=by
 subst b; exact .mk _ (by simp) k
theorem Bz {α:Type} {l:List α} {f:α->AV} {ys:List AV} (c:ys=l.map f) {b:Nat} (hk:b=l.length) {K:Prop} (k:K):I0 b ys K:=by
 subst c; exact .mk (by rw [hk]; simp) k
def Fq {α:Type} (l:List (ByteArray×α)) (s:ByteArray):Bool:=l.any fun p=>s==p.1
def H5 {α:Type} (l:List (ByteArray×α)) (s:ByteArray) (z:α):α:=((l.find? fun p=>s==p.1).map (·.2)).getD z
def Fr {α:Type}:List (ByteArray×α)->ByteArray->α->List (ByteArray×α)
 | [],s,v=>[(s,v)]
 | p::l,s,v=>bif s==p.1 then (s,v)::l else p::Fr l s v
def Ca {α:Type} (f:α->AV) (l:List (ByteArray×α)):List (AV×AV):=l.map fun p=>(.val (.string p.1),f p.2)
theorem Aar {α:Type} (f:α->AV) (s:ByteArray) (z:α):∀(l:List (ByteArray×α)) (i:Nat),
  (Fq l s=false/\G8 s (Ca f l) i=some none)\/(Fq l s=true/\∃j,G8 s (Ca f l) i=some (some (i+j,f (H5 l s z)))/\∀v,Ca f (Fr l s v)=(Ca f l).set j (.val (.string s),f v))
 | [],i=>.inl ⟨rfl,rfl⟩
 | p::l,i=>by
  cases hp:s==p.1 with
  | true=>
   refine .inr ⟨by simp [Fq,hp],0,?_,fun v=>?_⟩
   .simp [Ca,G8,H5,hp]
   .simp [Ca,Fr,hp]
  | false=>
   rcases Aar f s z l (i+1) with ⟨h1,h2⟩ | ⟨h1,j,h2,h3⟩
   .refine .inl ⟨by simp only [Fq,List.any_cons,hp,Bool.false_or]; exact h1,?_⟩
    have:G8 s (Ca f (p::l)) i=G8 s (Ca f l) (i+1):=by simp [Ca,G8,hp]
    rw [this,h2]
   .refine .inr ⟨by simp only [Fq,List.any_cons,hp,Bool.false_or]; exact h1,j+1,?_,fun v=>?_⟩
    .have:G8 s (Ca f (p::l)) i=G8 s (Ca f l) (i+1):=by simp [Ca,G8,hp]
     have b:H5 (p::l) s z=H5 l s z:=by simp [H5,hp]
     rw [this,h2,b]; congr 3; omega
    .have c:Ca f (Fr (p::l) s v)=(.val (.string p.1),f p.2)::Ca f (Fr l s v):=by simp [Ca,Fr,hp]
     rw [c,h3 v]; rfl
theorem Afg {α:Type} (f:α->AV) {s:ByteArray} {v:α}:∀{l:List (ByteArray×α)},Fq l s=false->Ca f (Fr l s v)=Ca f l++[(.val (.string s),f v)]
 | [],_=>rfl
 | p::l,h=>by
  simp only [Fq,List.any_cons,Bool.or_eq_false_iff] at h
  have:=Afg f (v:=v) (l:=l) h.2
  simp only [Fr,h.1,cond_false]
  simp only [Ca,List.map_cons,List.cons_append] at this ⊢
  rw [this]
theorem Aas {α:Type} {f:α->AV} {l:List (ByteArray×α)} {es:List (AV×AV)} (i:es=Ca f l) (z:α) {s:ByteArray} {m b:Option β} {K:Option (Nat×AV)->Prop} (h:(bif Fq l s then m else b)=some r)
  (g:∀j,Fq l s=true->m=some r->K (some (j,f (H5 l s z)))) (c:Fq l s=false->b=some r->K none):Aef s es K:=by
 subst i
 rcases Aar f s z l 0 with ⟨h1,h2⟩ | ⟨h1,j,h2,_⟩
 .rw [h1] at h; exact .mk _ h2 (c h1 h)
 .rw [h1] at h; exact .mk _ h2 (g _ h1 h)
theorem W3 {α:Type} {f:α->AV} {l:List (ByteArray×α)} {es:List (AV×AV)} (c:es=Ca f l) {s:ByteArray} {x:α} {v:AV} (b:v=f x) {K:List (AV×AV)->Prop} (k:K (Ca f (Fr l s x))):Aek s v es K:=by
 subst c; subst b
 refine .mk _ ?_ k
 unfold Wf
 rcases Aar f s x l 0 with ⟨h1,h2⟩ | ⟨h1,j,h2,h3⟩
 .rw [h2,Afg f h1]
 .rw [h2,h3 x]; simp
theorem G4 {k:IntKind} {a b:Int} {m:Int->Option β} {K:Int->Prop} (h:(Fi k a b).bind m=some r) (f:∀c:Int,m c=some r->K c):Ad7 k a b K:=by
 refine Aq h fun x hx h=>?_
 unfold Fi at hx
 split at hx
 .cases hx
 .rename_i hb; cases hx; exact .mk _ hb rfl (f _ h)
theorem Hj {a b:Int} {m:Int->Option β} {K:Int->Prop} (h:(F4 a b).bind m=some r) (f:∀c:Int,m c=some r->K c):Ad8 a b K:=by
 refine Aq h fun x hx h=>?_
 unfold F4 at hx
 split at hx
 .cases hx
 .rename_i hb; cases hx; exact .mk _ hb rfl (f _ h)
theorem Ha {s:ByteArray} {i:Int} {m:UInt8->Option β} {K:UInt8->Prop} (h:(E2 s i).bind m=some r) (b:∀c:UInt8,m c=some r->K c):Aeb s i K:=by
 refine Aq h fun x hx h=>?_
 unfold E2 at hx
 split at hx
 .exact .mk i.toNat x (by omega) hx (b _ h)
 .cases hx
theorem Afh {a b:ByteArray} {m:ByteArray->Option β} {K:Prop} (h:(Nj a b).bind m=some r) (k:m (a++b)=some r->K):Aec (a.size+b.size) K:=by
 refine Aq h fun x hx h=>?_
 unfold Nj at hx
 split at hx
 .rename_i hc; cases hx; exact .mk hc (k h)
 .cases hx
def Hb {κ α:Type} (eq:κ->κ->Bool) (l:List (κ×α)) (k:κ):Bool:=l.any fun p=>eq k p.1
def Ij {κ α:Type} (eq:κ->κ->Bool) (l:List (κ×α)) (k:κ) (z:α):α:=((l.find? fun p=>eq k p.1).map (·.2)).getD z
def Uk {κ α:Type} (eq:κ->κ->Bool) (l:List (κ×α)) (k:κ) (v:α):Option (List (κ×α)):=bif Hb eq l k then none else some (l++[(k,v)])
def Pk {κ α:Type} (g:κ->List Value) (f:α->AV) (l:List (κ×α)):List (AV×AV):=l.map fun p=>(.agg ((g p.1).map .val),f p.2)
theorem W4:∀b:List Value,Gl (b.map .val)=some b
 | []=>rfl
 | u::b=>by simp only [List.map_cons,Gl,W4 b,Option.map_some]
theorem Aat {κ α:Type} {P:Program} {h:TypeId} {g:κ->List Value} {eq:κ->κ->Bool} (q:∀a b,Lc P h (g a) (g b) (eq a b)) (f:α->AV) (k:κ) (z:α):∀(l:List (κ×α)) (i:Nat),
  (Hb eq l k=false/\Ji P h (g k) (Pk g f l) i none)\/(Hb eq l k=true/\∃j,Ji P h (g k) (Pk g f l) i (some (j,f (Ij eq l k z))))
 | [],i=>.inl ⟨rfl,.nil i⟩
 | p::l,i=>by
  have c:=q k p.1
  cases hb:eq k p.1 with
  | true=>
   rw [hb] at c
   refine .inr ⟨by simp [Hb,hb],i,?_⟩
   have x:Ij eq (p::l) k z=p.2:=by simp [Ij,hb]
   rw [x]
   exact .hit (W4 _) c
  | false=>
   rw [hb] at c
   have u:Hb eq (p::l) k=Hb eq l k:=by simp [Hb,hb]
   have s:Ij eq (p::l) k z=Ij eq l k z:=by simp [Ij,hb]
   rw [u,s]
   rcases Aat q f k z l (i+1) with ⟨h1,h2⟩ | ⟨h1,j,h2⟩
   .exact .inl ⟨h1,.miss (W4 _) c h2⟩
   .exact .inr ⟨h1,j,.miss (W4 _) c h2⟩
theorem Afi {κ α:Type} {P:Program} {c:TypeId} {g:κ->List Value} {eq:κ->κ->Bool} {k:κ} (B:∀a b,Lc P c (g a) (g b) (eq a b)) (s:∀a,Pc P c (g a)) {f:α->AV} {l:List (κ×α)} {es:List (AV×AV)} (A:es=Pk g f l) (z:α) {i:List Value} (y:i=g k)
  {m q:Option β} {K:Option (Nat×AV)->Prop} (h:(bif Hb eq l k then m else q)=some r)
  (x:∀j,Hb eq l k=true->m=some r->K (some (j,f (Ij eq l k z)))) (u:Hb eq l k=false->q=some r->K none):Aei P c i es K:=by
 subst A; subst y
 rcases Aat B f k z l 0 with ⟨h1,h2⟩ | ⟨h1,j,h2⟩
 .rw [h1] at h; exact .mk _ (s k) h2 (u h1 h)
 .rw [h1] at h; exact .mk _ (s k) h2 (x j h1 h)
theorem An1 {κ α:Type} {P:Program} {i:TypeId} {g:κ->List Value} {eq:κ->κ->Bool} {k:κ} (E:∀a b,Lc P i (g a) (g b) (eq a b)) (D:∀a,Pc P i (g a)) {f:α->AV} {l:List (κ×α)} {x:α} {es:List (AV×AV)} (B:es=Pk g f l) {s:List Value} (A:s=g k) {u:List AV} (q:u=(g k).map .val) {v:AV} (z:v=f x)
  {m:List (κ×α)->Option β} {K:List (AV×AV)->Prop} (h:(Uk eq l k x).bind m=some r) (y:∀o,m o=some r->K (Pk g f o)):Aej P i u s v es K:=by
 subst B; subst A; subst q; subst z
 refine Aq h fun o c h=>?_
 unfold Uk at c
 rcases Aat E f k x l 0 with ⟨h1,h2⟩ | ⟨h1,j,h2⟩
 .rw [h1] at c; cases c
  exact .mk _ (D k) h2 (by simp [Pk]) (y _ h)
 .rw [h1] at c; cases c
theorem An2 {P:Program} {t:TypeId} {k b:IntKind} (c:P.underlying t=some (.int k)) (w:World) (e:Bool) (n:Int):(Instr.checkKey e 9999 t (.int b n)).run P w = .ok () w:=by
 show (Instr.checkKey e (9998+1) t _).run P w=_
 unfold Instr.checkKey
 simp [run_underlying c]
theorem Eg {s:ByteArray} {lo hi:Int} {m:ByteArray->Option β} {K:Nat->Nat->Prop} (h:(D4 s lo hi).bind m=some r) (k:∀l h',lo=((l:Nat):Int)->hi=((h':Nat):Int)->m (s.extract l h')=some r->K l h'):Ad9 s.size lo hi K:=by
 refine Aq h fun x hx h=>?_
 unfold D4 at hx
 split at hx
 .rename_i hc
  cases hx
  exact .mk lo.toNat hi.toNat (by omega) (by omega) (by omega) (by omega) (k _ _ (by omega) (by omega) h)
 .cases hx
end
def W5 (Qn:Nat->Ch->Hp->Prop) (Qe:Nat->Nat->Ch->Hp->Prop) (Qr:Nat->Ch->Hp->Prop) (x:Ex) (n:Nat) (e:Ch) (H:Hp):Prop :=
 match x with
 | .normal=>Qn n e H
 | .exit i=>Qe i n e H
 | .ret=>Qr n e H
def wc (P:Program) (C:Cfg) (c:Code) (Qn:Nat->Ch->Hp->Prop) (Qe:Nat->Nat->Ch->Hp->Prop) (Qr:Nat->Ch->Hp->Prop) (n:Nat) (e:Ch) (H:Hp):Prop :=
 Dc P C.T->P.follows .mixedOrders=true->∀(F:Bk) (W:World) (σ:Bk) (ι:Ci) (a:Act) (w:World) (Q:Exit->Act->World->Prop),
  H3 a.tmps.size c=true->St σ ι H F W w->Ef σ ι H e a->Eh H n ->
  (∀x h e' H' f g b w',W5 Qn Qe Qr x h e' H'->Le σ ι H f g H'->St f g H' F W w'->Ef f g H' e' b->Eh H' h->n<=h->b.tmps.size=a.tmps.size->b.defers=a.defers->Es (E8 c) a b->Q x.out b w')->c.wp P Q a w
section
variable {P:Program} {C:Cfg} {Qn:Nat->Ch->Hp->Prop} {Qe:Nat->Nat->Ch->Hp->Prop} {Qr:Nat->Ch->Hp->Prop} {n:Nat} {e:Ch} {H:Hp} {β:Type} {r:β}
theorem Aau {c:Code} (h:vc P C c (W5 Qn Qe Qr) n e H):wc P C c Qn Qe Qr n e H :=
 fun j g _ _ σ ι a w Q b s i f hk=>Pg j g c _ n e H σ ι a w Q b h s i f hk
theorem An (k:Qn n e H):wc P C .skip Qn Qe Qr n e H:=Aau k
theorem Ak (k:Qr n e H):wc P C .ret Qn Qe Qr n e H:=Aau k
theorem Bh {id:Nat} (k:Qe id n e H):wc P C (.exit id) Qn Qe Qr n e H:=Aau k
theorem Afj {id:Nat} {ops:Array Oper} {b:Bool} (h:Dx (Fm P C.T C.an C.nl ops ops.toList n e H [] fun n e H acc=>bif b then Bj ops.toList acc (Qn n e H) else Qn n e H)):wc P C (.region id ops b) Qn Qe Qr n e H:=by
 intro Y S F W σ ι a w Q E s V M hk
 have q:=Le.refl σ ι H
 have s0:=s
 have z:=V
 have R:=M
 obtain ⟨L,e',H',accs,l,_,X,x,N,c⟩:=Aam Y ops.toList 0 n e H [] _ (by simp) rfl M h.1
 have u:=Ae3 E
 cases b with
 | false=>
  simp only [cond_false] at l
  refine wp_region ?_
  have:List.range ops.size=List.range' 0 ops.toList.length:=by rw [List.range_eq_range']; simp
  rw [this]
  refine c.wpOps s0 z u ?_
  intro B D J w' le s' g f j hu
  exact hk .normal L e' H' B D J w' l (q.trans le) s' g N x f j hu
 | true=>
  simp only [cond_true] at l
  obtain ⟨G,l⟩:=l
  refine wp_region_any S ?_
  have A:ops=ops.toList.toArray:=by simp
  rw [A]
  simp only [List.size_toArray]
  refine Z0 (accs:=accs) (e':=e') (H':=H') G ops.toList.length _ (List.range' 0 ops.toList.length) e H σ ι a _ (by rw [<-A]; exact c) (List.pairwise_lt_range' ..) ?_ (by simp) ?_ (by simp) (s0.drew _) z (by rw [<-A]; exact u) ?_
  .intro i
   simp only [List.mem_range'_1,Array.getD_eq_getD_getElem?]
   constructor
   .rintro ⟨_,h2⟩
    refine ⟨by omega,?_⟩
    have:i<ops.size:=by simpa using h2
    simp [this]
   .rintro ⟨h1,_⟩; omega
  .intro k o U I
   exfalso
   simp only [Array.getD_eq_getD_getElem?] at I
   by_cases y:k<ops.size
   .simp [y] at I
   .simp [y] at I
  .intro B D J w' le s' g f j hu
   exact hk .normal L e' H' B D J w' l (q.trans le) s' g N x f j (by rw [<-A] at hu; exact hu)
theorem B0 {id:Nat} {os:List Oper} (k:Dx (Fm P C.T C.an C.nl os.toArray os n e H [] fun n e H acc=>Bj os acc (Qn n e H))):wc P C (.region id os.toArray true) Qn Qe Qr n e H:=Afj k
theorem Ac {id:Nat} {os:List Oper} (k:Dx (Fm P C.T C.an C.nl os.toArray os n e H [] fun n e H _=>Qn n e H)):wc P C (.region id os.toArray false) Qn Qe Qr n e H:=Afj k
theorem Fd {c:Code} (y:List Gh) (k:gxs y n e H fun n e H=>Dx (wc P C c Qn Qe Qr n e H)):wc P C c Qn Qe Qr n e H:=by
 intro R L F W σ ι a w Q h s N J hk
 obtain ⟨z,B,U,V,X,G,b,s1,j,hn1,M⟩:=Ug y k s N J
 exact G.1 R L F W z B a w Q h s1 j hn1 fun x E e' H' A D S w' I f s' l i u g q hu=>
  hk x E e' H' A D S w' I (b.trans f) s' l i (by omega) g q hu
theorem Z {S R:Code} (k:wc P C S (fun n e H=>wc P C R Qn Qe Qr n e H) Qe Qr n e H):wc P C (.seq S R) Qn Qe Qr n e H:=by
 intro M J F W σ ι a w Q f s he hn hk
 simp only [H3,Bool.and_eq_true] at f
 refine wp_seq (k M J F W σ ι a w _ f.1 s he hn ?_)
 intro x I N U u y a1 z E c s1 g hn1 l b i hu
 cases x with
 | normal=>
  refine E M J F W u y a1 z Q (by rw [b]; exact f.2) s1 g hn1 ?_
  intro x n2 e2 H2 V X a2 Y D A s2 G hn2 L j q B
  exact hk x n2 e2 H2 V X a2 Y D (c.trans A) s2 G hn2 (by omega) (j.trans b) (q.trans i) ((hu.mono (by simp [E8]; exact fun s h=>.inl h)).trans (B.mono (by simp [E8]; exact fun s h=>.inr h)))
 | exit id=>exact hk (.exit id) I N U u y a1 z E c s1 g hn1 l b i (hu.mono (by simp [E8]; exact fun s h=>.inl h))
 | ret=>exact hk .ret I N U u y a1 z E c s1 g hn1 l b i (hu.mono (by simp [E8]; exact fun s h=>.inl h))
theorem An3 {l:Nat} (k:Qn n e H):wc P C (.label l) Qn Qe Qr n e H:=by
 intro h g F W σ ι a w Q b s f c hk
 exact wp_label (hk .normal n e H σ ι a w k (Le.refl _ _ _) s f c (Nat.le_refl _) rfl rfl (Es.refl _ _))
theorem An4 {c:Code} (k:wc P C c Qn Qe Qr n e H):wc P C (.scope c) Qn Qe Qr n e H:=by
 intro E B F W σ ι a w Q g s D A hk
 refine wp_scope_straight (k E B F W σ ι a w _ g s D A ?_)
 intro x y G I l q a1 u z b s1 i hn1 h f j hu
 have:=hk x y G I l q a1 u z b s1 i hn1 h f j hu
 cases x <;> exact this
theorem Ay {id:Nat} {c:Code} (k:wc P C c Qn (fun i n e H=>bif Nat.beq i id then Qn n e H else Qe i n e H) Qr n e H):wc P C (.block id c) Qn Qe Qr n e H:=by
 intro J G F W σ ι a w Q D s I E hk
 refine wp_block (k J G F W σ ι a w _ D s I E ?_)
 intro x z A B q u a1 y l b s1 h hn1 g f j hu
 cases x with
 | normal=>exact hk .normal z A B q u a1 y l b s1 h hn1 g f j hu
 | exit i=>
  simp only [Ex.out,Exit.inBlock]
  by_cases hi:i=id
  .subst hi
   rw [if_pos rfl]
   have:Nat.beq i i=true:=Nat.beq_refl i
   simp only [W5,this,cond_true] at l
   exact hk .normal z A B q u a1 y l b s1 h hn1 g f j hu
  .rw [if_neg hi]
   have:Nat.beq i id=false:=by
    cases hb:Nat.beq i id
    .rfl
    .exact (hi (Nat.eq_of_beq_eq_true hb)).elim
   simp only [W5,this,cond_false] at l
   exact hk (.exit i) z A B q u a1 y l b s1 h hn1 g f j hu
 | ret=>exact hk .ret z A B q u a1 y l b s1 h hn1 g f j hu
theorem Afk {x:Operand} {σ:Bk} {ι:Ci} {a:Act} {t:Bool} (b:Aez a.tmps.size x=true) (f:Ef σ ι H e a) (hx:ev e x = .val (.bool t)):a.eval x = .bool t:=by
 have hc:=f.eval (x:=x) (fun t c=>by
  cases x with
  | tmp q=>cases c; exact F3 b
  | _=>cases c)
 rw [hx] at hc
 exact hc.val_inv
theorem Dd {x:Operand} {q J:Code} (k:wc P C q Qn Qe Qr n e H) (hx:ev e x = .val (.bool true):=by exact rfl):wc P C (.cond x q J) Qn Qe Qr n e H:=by
 intro G E F W σ ι a w Q b s l D hk
 simp only [H3,Bool.and_eq_true] at b
 refine wp_cond_true (Afk b.1.1 l hx) (k G E F W σ ι a w Q b.1.2 s l D ?_)
 intro x A I L u y a1 z B c s1 i hn1 g f j hu
 exact hk x A I L u y a1 z B c s1 i hn1 g f j (hu.mono (by simp [E8]; exact fun s h=>.inl h))
theorem Fg {x:Operand} {J q:Code} (k:wc P C q Qn Qe Qr n e H) (hx:ev e x = .val (.bool false):=by exact rfl):wc P C (.cond x J q) Qn Qe Qr n e H:=by
 intro G E F W σ ι a w Q b s l D hk
 simp only [H3,Bool.and_eq_true] at b
 refine wp_cond_false (Afk b.1.1 l hx) (k G E F W σ ι a w Q b.2 s l D ?_)
 intro x A I L u y a1 z B c s1 i hn1 g f j hu
 exact hk x A I L u y a1 z B c s1 i hn1 g f j (hu.mono (by simp [E8]; exact fun s h=>.inr h))
theorem Am {c:Operand} {a b:Code} {t:Bool} {m f:Option β} (h:(bif t then m else f)=some r) (h1:t=true->m=some r->wc P C a Qn Qe Qr n e H) (h2:t=false->f=some r->wc P C b Qn Qe Qr n e H) (hx:ev e c = .val (.bool t):=by exact rfl):wc P C (.cond c a b) Qn Qe Qr n e H:=by
 cases t with
 | true=>exact Dd (h1 rfl h) hx
 | false=>exact Fg (h2 rfl h) hx
theorem Afl {X:List Nat} {l:List (Nat×AV)} {h:List (Nat×Cf)} {F σ u:Bk} {W w Y:World} {ι G:Ci} {a a1:Act} {D:Hp} {e1:Ch} (hb:Mj n l h=true) (hn:Eh H n) (s:St σ ι H F W w) (he:Ef σ ι H e a)
  (L:Ig e1 l) (N:Ih D (C1 H h) n n) (J:Le σ ι H u G D) (s1:St u G D F W Y) (aa:Ef u G D e1 a1) (ab:a1.tmps.size=a.tmps.size) (a8:Es X a a1) :
  ∃z,Le σ ι H u z (C1 H h)/\St u z (C1 H h) F W Y/\Ef u z (C1 H h) (Li X e (fun s=>a1.tmps.getD s undef) l) a1/\Eh (C1 H h) n:=by
 have a6:∀x,n<=x->ι x = .none:=by
  intro x hx
  have:=s.obj x; unfold C5 at this; rw [hn x hx] at this; exact this
 have B:∀p∈h,p.1<n:=by
  intro p hp
  unfold Mj at hb
  rw [Bool.and_eq_true,List.all_eq_true,List.all_eq_true] at hb
  exact F3 (hb.2 p hp)
 have M:∀p∈l,p.2.under n=true:=by
  intro p hp
  unfold Mj at hb
  rw [Bool.and_eq_true,List.all_eq_true,List.all_eq_true] at hb
  exact hb.1 p hp
 have k:Eh (C1 H h) n:=by
  intro x hx
  rw [Rl (fun p hp e=>by have:=B p hp; omega)]; exact hn x hx
 let z:Ci:=fun x=>if x<n then G x else .none
 have c:∀x,x<n->z x=G x:=fun x hx=>if_pos hx
 have f:∀x,x<n->C1 H h x=D x:=fun x hx=>((N.spec) x hx).1.symm
 have I:Le σ ι H u z (C1 H h):=by
  refine ⟨J.sto,fun x=>?_⟩
  by_cases hx:x<n
  .rw [c x hx,f x hx]; exact J.obj x
  .rw [a6 x (by omega),hn x (by omega)]; exact HLe.of_none
 have s2:St u z (C1 H h) F W Y:=by
  refine ⟨s1.sto,s1.fra,fun x=>?_,?_,s1.os,s1.tape,s1.output,s1.glo⟩
  .by_cases hx:x<n
   .have j:=s1.obj x
    have A:=((N.spec) x hx).2
    unfold C5 at j ⊢
    rw [f x hx] at A ⊢
    rw [c x hx]
    cases i:D x with
    | none=>rw [i] at j; exact j
    | dead=>trivial
    | cells E cs=>
     rw [i] at j A
     obtain ⟨b,Cc,g1,g2,g3,g4,g5,g6⟩:=j
     refine ⟨b,Cc,g1,g2,g3,g4,g5,fun q cq v V a7=>(g6 q cq v V a7).restrict c f ?_⟩
     have:=List.all_eq_true.1 A cq (List.mem_of_getElem? V)
     exact Aag this
    | rows E sz xs=>rw [i] at j; exact j
    | map es=>rw [i] at j; exact j
   .unfold C5
    rw [k x (by omega)]
    exact if_neg hx
  .intro x y b U S bx R
   have hx:x<n:=by
    rcases Nat.lt_or_ge x n with hx | hx
    .exact hx
    .rw [k x hx] at U; cases U
   have hy:y<n:=by
    rcases Nat.lt_or_ge y n with hy | hy
    .exact hy
    .rw [k y hy] at S; cases S
   rw [f x hx] at U; rw [f y hy] at S
   rw [c x hx] at bx; rw [c y hy] at R
   exact s1.inj x y b U S bx R
 refine ⟨z,I,s2,?_,k⟩
 intro q V
 rcases Ae1 X e (fun s=>a1.tmps.getD s undef) l q with ⟨p,hp,rfl,g⟩ | ⟨hw,g⟩ | ⟨hw,g⟩
 .rw [g,<-L.spec p hp]
  refine (aa p.1 V).restrict c f ?_
  rw [L.spec p hp]; exact M p hp
 .rw [g]; exact .of_val _
 .rw [g,a8 q hw]; exact (he q (by omega)).mono I
theorem Bn {S E:Type} {step:S->Option (S⊕E)} {s0:S} {J:E->Option β} {b:Code} (h:(Bc step s0).bind J=some r)
  (L:S->List (Nat×AV)) (B:S->List (Nat×Cf)) (j:S->Prop) (hb:∀s,Mj n (L s) (B s)=true) (hs:Ig e (L s0)) (hh:Ih H (C1 H (B s0)) n n) (h0:j s0)
  (a7:∀(s:S) (u:Nat->Value) (K:Nat->Ch->Hp->Prop) (o:S⊕E),step s=some o->(∀x,.inr x=o->J x=some r)->(∀s' n' e' H',.inl s'=o->Ig e' (L s')->Ih H' (C1 H (B s')) n n->j s'->K n' e' H')->j s ->
   wc P C b K Qe Qr n (Li (E8 b) e u (L s)) (C1 H (B s))):wc P C (.loop b) Qn Qe Qr n e H:=by
 intro hT hm F W σ ι a w Q a8 s he hn hk
 refine Aq h fun x hx h=>?_
 obtain ⟨N,hN⟩:=Aao hx
 let J':Nat->Act->World->Prop:=fun k a' w'=>∃i σ' ι',(G3 step k i=some x/\j i)/\Le σ ι H σ' ι' (C1 H (B i))/\St σ' ι' (C1 H (B i)) F W w' /\
   Ef σ' ι' (C1 H (B i)) (Li (E8 b) e (fun s=>a'.tmps.getD s undef) (L i)) a'/\a'.tmps.size=a.tmps.size/\a'.defers=a.defers/\Es (E8 b) a a'
 have g:∀(k:Nat) (i:S) (G:Bk) (Y:Ci) (H1:Hp) (e1:Ch) (a1:Act) (w1:World),(G3 step k i=some x/\j i)->Ig e1 (L i)->Ih H1 (C1 H (B i)) n n->Le σ ι H G Y H1->St G Y H1 F W w1->Ef G Y H1 e1 a1->a1.tmps.size=a.tmps.size ->
    a1.defers=a.defers->Es (E8 b) a a1->J' k a1 w1:=by
  intro k i G Y H1 e1 a1 w1 hi aa ac q s1 V c f l
  obtain ⟨ι2,g1,g2,g3,_⟩:=Afl (hb i) hn s he aa ac q s1 V c l
  exact ⟨i,G,ι2,hi,g1,g2,g3,c,f,l⟩
 refine Ae0 J' N (g N s0 σ ι H e a w ⟨hN,h0⟩ hs hh (Le.refl _ _ _) s he rfl rfl (Es.refl _ _)) ?_
 rintro k a1 w1 ⟨i,G,Y,⟨hi,a6⟩,q,s1,V,c,f,l⟩
 have ae:Eh (C1 H (B i)) n:=by
  intro y hy
  have X:=hb i
  unfold Mj at X
  rw [Bool.and_eq_true,List.all_eq_true,List.all_eq_true] at X
  rw [Rl (fun p hp e=>by have:=F3 (X.2 p hp); omega)]; exact hn y hy
 cases k with
 | zero=>cases hi
 | succ k=>
  simp only [G3] at hi
  cases ho:step i with
  | none=>rw [ho] at hi; cases hi
  | some o=>
   rw [ho] at hi
   refine a7 i (fun s=>a1.tmps.getD s undef) (fun _ e' H'=>∃s',(G3 step k s'=some x/\j s')/\Ig e' (L s')/\Ih H' (C1 H (B s')) n n) o ho ?_ ?_ a6 hT hm F W G Y a1 w1 _ (by rw [c]; exact a8) s1 V ae ?_
   .intro y hy; subst hy
    simp only [Option.some.injEq] at hi
    rw [hi]; exact h
   .intro s' n' e' H' R h1 h2 h3
    subst R
    exact ⟨s',⟨hi,h3⟩,h1,h2⟩
   .intro x n2 e2 H2 σ2 ι2 a2 w2 hq I s2 U hn2 D z A M
    cases x with
    | normal=>
     obtain ⟨i',ab,R,ad⟩:=hq
     exact ⟨k,by omega,g k i' σ2 ι2 H2 e2 a2 w2 ab R ad (q.trans I) s2 U (z.trans c) (A.trans f) (l.trans M)⟩
    | exit id=>exact hk (.exit id) n2 e2 H2 σ2 ι2 a2 w2 hq (q.trans I) s2 U hn2 D (z.trans c) (A.trans f) (l.trans M)
    | ret=>exact hk .ret n2 e2 H2 σ2 ι2 a2 w2 hq (q.trans I) s2 U hn2 D (z.trans c) (A.trans f) (l.trans M)
theorem Ce {S:Type} {c:Code} (J:S->Prop) (k:S->List (Nat×AV)) (l:S->List (Nat×Cf)) (hb:∀s,Mj n (k s) (l s)=true)
  (X:∀(K:Nat->Ch->Hp->Prop),(∀s U e' H',J s->Ig e' (k s)->Ih H' (C1 H (l s)) n n->K U e' H')->wc P C c K Qe Qr n e H)
  (V:∀(s:S) (u:Nat->Value),J s->Qn n (Li (E8 c) e u (k s)) (C1 H (l s))):wc P C c Qn Qe Qr n e H:=by
 intro hT Y F W σ ι a w Q z s L I hk
 refine X (fun _ e' H'=>∃s,J s/\Ig e' (k s)/\Ih H' (C1 H (l s)) n n) (fun s _ _ _ h1 h2 h3=>⟨s,h1,h2,h3⟩) hT Y F W σ ι a w _ z s L I ?_
 intro x G M N q E a1 y B f s1 g hn1 j b h hu
 cases x with
 | normal=>
  obtain ⟨i,hi,A,D⟩:=B
  obtain ⟨R,g1,g2,g3,g4⟩:=Afl (hb i) I s L A D f s1 g b hu
  exact hk .normal n _ _ q R a1 y (V i (fun s=>a1.tmps.getD s undef) hi) g1 g2 g3 g4 (Nat.le_refl _) b h hu
 | exit id=>exact hk (.exit id) G M N q E a1 y B f s1 g hn1 j b h hu
 | ret=>exact hk .ret G M N q E a1 y B f s1 g hn1 j b h hu
theorem C2 (G:Dc P C.T) (M:P.follows .mixedOrders=true) {f:FuncId} {fn:Func} {c:Code} {args:List AV} {r:AV} (E:P.funcs[f]? = some fn) (hb:fn.body=some c) (g:(fn.name == "runtime.NumGoroutine")=false)
  (b:Uc fn c args.length=true) (h:r.free=true) (L:wc P C c (fun _ e H=>Ph C.T fn.results.toList (· = r) e H) (fun _ _ _ _=>False) (fun _ e H=>Ph C.T fn.results.toList (· = r) e H) 0 (Ub args) H0):Bb P f args r:=by
 unfold Uc at b
 simp only [Bool.and_eq_true] at b
 obtain ⟨⟨y,z⟩,I⟩:=b
 have I:=Nat.le_of_ble_eq_true I
 refine ⟨⟨fn,E,g,by rw [hb]; rfl⟩,fun σ F W w vs s hc=>?_⟩
 have j:(vs++Array.replicate (fn.ntmps-vs.size) undef).size=fn.ntmps:=by
  have:=hc.1
  simp; omega
 refine calls_of_wp E hb (L G M F W σ ι0 _ w _ (by rw [j]; exact y) s (Ae9 hc) (fun _ _=>rfl) ?_)
 intro x V e' H' S U D w' l le s' A _ _ i B _
 have k:∀q∈fn.results.toList,Pi q<D.tmps.size:=by
  intro q hq'
  rw [i]
  have:=F3 (List.all_eq_true.1 z q hq')
  rw [j]; exact this
 have fin:Ph C.T fn.results.toList (· = r) e' H'->D.defers = []/\∃v,(results fn D.tmps).run P w' = .ok v w'/\∃v0 u,Ending.returned v = .returned v0/\σ.le u/\St u ι0 H0 F W w'/\Conc u ι0 H0 r v0:=by
  intro l
  obtain ⟨v,J,X,r2,h1,h2,h3,R,N⟩:=Ans G s' A k l
  subst h2
  exact ⟨B,v,h1,v,J,rfl,Bk.le_trans le.sto h3.sto,R.forget,N.to0 h⟩
 cases x with
 | normal=>exact fin l
 | ret=>exact fin l
 | exit id=>exact l.elim
theorem D0 (fz:Bool) (Y:Dc P C.T) (hm:P.follows .mixedOrders=true) {f:FuncId} {fn:Func} {c:Code} {args:List AV} {r:AV} {B b:List Cf} (X:P.funcs[f]? = some fn) (hb:fn.body=some c) (l:(fn.name == "runtime.NumGoroutine")=false)
  (j:Uc fn c args.length=true) (g:Afb B r b=true) (hv:wc P C c (fun _ e H=>Ud C.T fz fn.results.toList r b e H) (fun _ _ _ _=>False) (fun _ e H=>Ud C.T fz fn.results.toList r b e H) B.length (Ub args) (hp B)):Cm P f args B r b:=by
 unfold Uc at j
 unfold Afb at g
 simp only [Bool.and_eq_true] at j g
 obtain ⟨⟨J,M⟩,hN⟩:=j
 obtain ⟨⟨G,L⟩,R⟩:=g
 have G:=Nat.le_of_ble_eq_true G
 have hN:=Nat.le_of_ble_eq_true hN
 refine ⟨⟨fn,X,l,by rw [hb]; rfl⟩,fun σ F W w ι vs s hc=>?_⟩
 have A:(vs++Array.replicate (fn.ntmps-vs.size) undef).size=fn.ntmps:=by
  have:=hc.1
  simp; omega
 refine calls_of_wp X hb (hv Y hm F W σ ι _ w _ (by rw [A]; exact J) s (Ae9 hc) (fun _ h=>Ng h) ?_)
 intro x n' e' H' σ' ι' V w' E le s' S _ _ z U _
 have D:∀q∈fn.results.toList,Pi q<V.tmps.size:=by
  intro q hq'
  rw [z]
  have:=F3 (List.all_eq_true.1 M q hq')
  rw [A]; exact this
 have fin:Ud C.T fz fn.results.toList r b e' H'->V.defers = []/\∃v,(results fn V.tmps).run P w' = .ok v w'/\∃v0 I ι0,Ending.returned v = .returned v0/\Le σ ι (hp B) I ι0 (hp b)/\St I ι0 (hp b) F W w'/\Conc I ι0 (hp b) r v0:=by
  intro E
  obtain ⟨v,σ2,H2,h1,h2,h3,h4,h5⟩:=Ant Y s' S D E
  have u:∀i,i<b.length->H2 i=hp b i:=fun i hi=>by simpa using h2.spec i hi
  refine ⟨U,v,h1,v,σ2,(fun k=>if k<b.length then ι' k else .none),rfl,?_,h4.first b u R,?_⟩
  .have y:=le.trans h3
   refine ⟨y.sto,fun k=>?_⟩
   by_cases hk:k<b.length
   .rw [if_pos hk,<-u k hk]; exact y.obj k
   .rw [if_neg hk,Ng (by omega),Ng (by omega)]
    have:ι k = .none:=by have:=s.obj k; unfold C5 at this; rw [Ng (by omega)] at this; exact this
    rw [this]; exact HLe.refl _ _
  .exact h5.restrict (n:=b.length) (fun h N=>if_pos N) (fun h N=>(u h N).symm) L
 cases x with
 | normal=>exact fin E
 | ret=>exact fin E
 | exit id=>exact E.elim
end
theorem Ai {α:Type} {a b:α} (h:some a=some b):a=b:=Option.some.inj h
theorem Ae:True:=trivial
theorem A3 {a b:Bool} (h:some a=some b):AV.val (.bool a) = .val (.bool b):=by cases h; rfl
theorem Bu {k:IntKind} {a b:Int} (h:some a=some b):AV.val (.int k a) = .val (.int k b):=by cases h; rfl
theorem Ah {α β:Type} {a:α} {b:β}:a=a/\b=b:=⟨rfl,rfl⟩
end Go.Ab
